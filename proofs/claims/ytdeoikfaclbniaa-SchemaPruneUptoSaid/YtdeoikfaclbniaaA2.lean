/-
  The interpreter over plain values, and that it is sound.
-/
import Derived.Test.YtdeoikfaclbniaaA1
import Derived.ChangeKeysEq
import Derived.MapKept
/-
  Equality of plain values, cell by cell; keys that can be hashed.
-/
namespace Go.Pv
variable {P : Program} {N M : Nat → Nat} {W : Nat → Prop} {L L' : Lx} {e e' : Emb} {h : Heap} {w w' : World} {g : Opd → V} {ρ : Operand → Value}

/-- The cell that a plain value stands for. -/
def litOf : PV → Value
  | .bool b => .bool b
  | .int k n => .int k n
  | .str s => .string s
  | _ => undef

def PV.lit : PV → Bool
  | .bool _ | .int _ _ | .str _ => true
  | _ => false

theorem PVR.litOf {p : PV} {v : Value} (hp : PVR N L w p v) (hl : p.lit = true) : v = litOf p := by
  cases hp <;> first | rfl | (simp [PV.lit] at hl)

theorem PVR.of_lit {p : PV} (hl : p.lit = true) : PVR N L w p (Pv.litOf p) := by
  cases p <;> first | (simp [PV.lit] at hl; done) | constructor

/-- A value of the cells. -/
def Shape (ag : Bool) (x : Value) (cs : List Value) : Prop := if ag then x = .agg cs.toArray else cs = [x]

theorem eqs_lit {k : Nat} {a b : PV} {r : Bool} (hh : PV.eqs k a b = some r) : a.lit = true ∧ b.lit = true := by
  unfold PV.eqs at hh
  split at hh <;> first | (cases hh; done) | exact ⟨rfl, rfl⟩

theorem eqsAll_lit : ∀ {ks : List Nat} {a b : List PV} {r : Bool}, eqsAll ks a b = some r → a.length = ks.length ∧ b.length = ks.length ∧ (∀ p ∈ a, p.lit = true) ∧ (∀ p ∈ b, p.lit = true)
  | [], [], [], r, _ => by simp
  | [], _ :: _, _, r, hh => by simp [eqsAll] at hh
  | [], [], _ :: _, r, hh => by simp [eqsAll] at hh
  | k :: ks, [], _, r, hh => by simp [eqsAll] at hh
  | k :: ks, _ :: _, [], r, hh => by simp [eqsAll] at hh
  | k :: ks, a :: x, b :: y, r, hh => by
    simp only [eqsAll] at hh
    split at hh
    · rename_i p q h1 h2
      obtain ⟨i1, i2, i3, i4⟩ := eqsAll_lit h2
      obtain ⟨l1, l2⟩ := eqs_lit h1
      refine ⟨by simp [i1], by simp [i2], fun z hz => ?_, fun z hz => ?_⟩
      · rcases List.mem_cons.1 hz with rfl | hz
        · exact l1
        · exact i3 z hz
      · rcases List.mem_cons.1 hz with rfl | hz
        · exact l2
        · exact i4 z hz
    · cases hh

theorem eqsAll_append : ∀ {k1 k2 : List Nat} {a b : List PV} {r : Bool}, eqsAll (k1 ++ k2) a b = some r →
    ∃ a1 a2 b1 b2 r1 r2, a = a1 ++ a2 ∧ b = b1 ++ b2 ∧ eqsAll k1 a1 b1 = some r1 ∧ eqsAll k2 a2 b2 = some r2 ∧ r = (r1 && r2)
  | [], k2, a, b, r, hh => ⟨[], a, [], b, true, r, rfl, rfl, rfl, hh, by simp⟩
  | k :: k1, k2, [], b, r, hh => by simp [eqsAll] at hh
  | k :: k1, k2, _ :: _, [], r, hh => by simp [eqsAll] at hh
  | k :: k1, k2, p :: a, q :: b, r, hh => by
    simp only [List.cons_append, eqsAll] at hh
    split at hh
    · rename_i x y h1 h2
      obtain ⟨a1, a2, b1, b2, r1, r2, rfl, rfl, e1, e2, rfl⟩ := eqsAll_append h2
      injection hh with hh
      subst hh
      exact ⟨p :: a1, a2, q :: b1, b2, x && r1, r2, rfl, rfl, by simp [eqsAll, h1, e1], e2, by simp [Bool.and_assoc]⟩
    · cases hh

theorem part_shape {t : TypeId} {n : Nat} {ag : Bool} (hl : loadT P t = some (n, ag)) {arr : Array Value} {off : Nat} {c1 c2 : List Value} (hd : arr.toList.drop off = c1 ++ c2) (hn : c1.length = n) :
    ∃ x, (part t arr off).run P w = .ok x w ∧ Shape ag x c1 := by
  obtain ⟨h1, h2, h3⟩ := loadT_spec (w := w) hl
  cases ag with
  | true =>
    refine ⟨.agg (arr.extract off (off + n)), by simp [part, h1, h2], ?_⟩
    have : (arr.extract off (off + n)).toList = c1 := by
      rw [Array.toList_extract]
      simp only [List.extract, Nat.add_sub_cancel_left]
      rw [hd, List.take_append_of_le_length (by omega), List.take_of_length_le (by omega)]
    simp only [Shape, if_true]
    rw [← this]
  | false =>
    have h1' := h3 rfl
    subst h1'
    match c1, hn with
    | [c], _ =>
      refine ⟨c, ?_, by simp [Shape]⟩
      have hge : arr[off]? = some c := by
        rw [← Array.getElem?_toList]
        have : (arr.toList.drop off)[0]? = some c := by rw [hd]; rfl
        rwa [List.getElem?_drop, Nat.add_zero] at this
      simp [part, h1, hge]

theorem loadT_size {t : TypeId} {k : Nat} {ag : Bool} (hl : loadT P t = some (k, ag)) : sizeT P t = some k ∧ isAggT P t = some ag := by
  unfold loadT at hl
  split at hl
  · rename_i h1 h2; injection hl with hl; injection hl with e1 e2; subst e1; subst e2; exact ⟨h2, h1⟩
  · rename_i h1 h2
    split at hl
    · rename_i hn; injection hl with hl; injection hl with e1 e2; subst e2; rw [e1] at hn; subst e1; subst hn; exact ⟨h2, h1⟩
    · cases hl
  · cases hl

/-- What plainT says of a struct's fields. -/
def plainFs (P : Program) (d : Nat) (fs : List Field) : Option (List Nat) :=
  fs.foldr (fun f (acc : Option (List Nat)) => match acc, plainT P d f.type, loadT P f.type with
    | some l, some ks, some (k, _) => if f.name ≠ "_" ∧ k = ks.length then some (ks ++ l) else none
    | _, _, _ => none) (some [])

theorem plainFs_cons {d : Nat} {f : Field} {fs : List Field} {ks : List Nat} (hh : plainFs P d (f :: fs) = some ks) :
    ∃ k1 k2 ag, plainT P d f.type = some k1 ∧ plainFs P d fs = some k2 ∧ loadT P f.type = some (k1.length, ag) ∧ f.name ≠ "_" ∧ ks = k1 ++ k2 := by
  unfold plainFs at hh ⊢
  rw [List.foldr_cons] at hh
  split at hh
  · rename_i l k1 k ag h1 h2 h3
    split at hh
    · rename_i hc
      injection hh with hh
      obtain ⟨c1, rfl⟩ := hc
      exact ⟨k1, l, ag, h2, h1, h3, c1, hh.symm⟩
    · cases hh
  · cases hh

theorem shape_nonagg {x : Value} {a : List PV} {_k : Nat} (hx : Shape false x (a.map litOf)) : ∃ p, a = [p] ∧ x = litOf p := by
  simp only [Shape, Bool.false_eq_true, if_false] at hx
  match a, hx with
  | [p], hx => simp at hx; exact ⟨p, rfl, hx.symm⟩

theorem eq_items {d dd : Nat} {el : TypeId} {k1 : List Nat} {ag : Bool} (hl : loadT P el = some (k1.length, ag))
    (ih : ∀ (a b : List PV) (r : Bool), eqsAll k1 a b = some r → ∀ x y : Value, Shape ag x (a.map litOf) → Shape ag y (b.map litOf) → ∀ w, (Op.equalIn dd el x y).run P w = .ok r w) :
    ∀ (m j : Nat) (xs ys : Array Value) (a b : List PV) (r : Bool) (w : World), eqsAll ((List.replicate m k1).flatten) a b = some r →
      xs.toList.drop (j * k1.length) = a.map litOf → ys.toList.drop (j * k1.length) = b.map litOf → (Op.eqItems dd el k1.length xs ys (List.range' j m)).run P w = .ok r w
  | 0, j, xs, ys, a, b, r, w, he, _, _ => by
    simp only [List.replicate_zero, List.flatten_nil] at he
    match a, b, he with
    | [], [], he => simp [eqsAll] at he; subst he; simp [Op.eqItems]
  | m + 1, j, xs, ys, a, b, r, w, he, hx, hy => by
    rw [List.replicate_succ, List.flatten_cons] at he
    obtain ⟨a1, a2, b1, b2, r1, r2, rfl, rfl, e1, e2, rfl⟩ := eqsAll_append he
    obtain ⟨l1, l2, _, _⟩ := eqsAll_lit e1
    rw [List.map_append] at hx hy
    obtain ⟨x, p1, p2⟩ := part_shape (w := w) hl hx (by simp [l1])
    obtain ⟨y, q1, q2⟩ := part_shape (w := w) hl hy (by simp [l2])
    have hr := ih a1 b1 r1 e1 x y p2 q2 w
    have hrec := eq_items (d := d) hl ih m (j + 1) xs ys a2 b2 r2 w e2 (by
        rw [Nat.succ_mul, ← List.drop_drop, hx, List.drop_append_of_le_length (by simp [l1]), List.drop_of_length_le (by simp [l1])]; rfl) (by
        rw [Nat.succ_mul, ← List.drop_drop, hy, List.drop_append_of_le_length (by simp [l2]), List.drop_of_length_le (by simp [l2])]; rfl)
    rw [List.range'_succ]
    simp only [Op.eqItems, Sem.run_bind, p1, q1, hr, Result.andThen_ok]
    cases r1
    · simp
    · simpa using hrec

theorem eq_fields {d dd : Nat}
    (ih : ∀ (t : TypeId) (ks : List Nat) (ag : Bool), plainT P d t = some ks → plainOk P d t = true → isAggT P t = some ag →
      ∀ (a b : List PV) (r : Bool), eqsAll ks a b = some r → ∀ x y : Value, Shape ag x (a.map litOf) → Shape ag y (b.map litOf) → ∀ w, (Op.equalIn dd t x y).run P w = .ok r w) :
    ∀ (fs : List Field) (ks : List Nat) (o : Nat) (xs ys : Array Value) (a b : List PV) (r : Bool) (w : World), plainFs P d fs = some ks → offsOk P o fs = true → (∀ f ∈ fs, plainOk P d f.type = true) →
      eqsAll ks a b = some r → xs.toList.drop o = a.map litOf → ys.toList.drop o = b.map litOf → (Op.eqFields dd xs ys fs).run P w = .ok r w
  | [], ks, o, xs, ys, a, b, r, w, hp, _, _, he, _, _ => by
    simp [plainFs] at hp
    subst hp
    match a, b, he with
    | [], [], he => simp [eqsAll] at he; subst he; simp [Op.eqFields]
  | f :: fs, ks, o, xs, ys, a, b, r, w, hp, ho, hall, he, hx, hy => by
    obtain ⟨k1, k2, ag, t1, t2, t3, t4, rfl⟩ := plainFs_cons hp
    obtain ⟨s1, s2⟩ := loadT_size t3
    obtain ⟨a1, a2, b1, b2, r1, r2, rfl, rfl, e1, e2, rfl⟩ := eqsAll_append he
    obtain ⟨l1, l2, _, _⟩ := eqsAll_lit e1
    simp only [offsOk, Bool.and_eq_true, beq_iff_eq, s1, Option.getD_some] at ho
    obtain ⟨o1, o2⟩ := ho
    subst o1
    rw [List.map_append] at hx hy
    obtain ⟨x, p1, p2⟩ := part_shape (w := w) t3 hx (by simp [l1])
    obtain ⟨y, q1, q2⟩ := part_shape (w := w) t3 hy (by simp [l2])
    have hr := ih f.type k1 ag t1 (hall f (by simp)) s2 a1 b1 r1 e1 x y p2 q2 w
    have hrec := eq_fields ih fs k2 (f.offset + k1.length) xs ys a2 b2 r2 w t2 o2 (fun q hq => hall q (by simp [hq])) e2 (by
        rw [← List.drop_drop, hx, List.drop_append_of_le_length (by simp [l1]), List.drop_of_length_le (by simp [l1])]; rfl) (by
        rw [← List.drop_drop, hy, List.drop_append_of_le_length (by simp [l2]), List.drop_of_length_le (by simp [l2])]; rfl)
    simp only [Op.eqFields, t4, ne_eq, not_false_eq_true, if_true, Sem.run_bind, p1, q1, hr, Result.andThen_ok]
    cases r1
    · simp
    · simpa using hrec

theorem plainT_struct {d : Nat} {t : TypeId} {fs : Array Field} {ks : List Nat} (hu : P.underlying t = some (.struct fs)) (hp : plainT P (d + 1) t = some ks) : P.stoodInHeld t = false ∧ plainFs P d fs.toList = some ks := by
  unfold plainT at hp
  simp only [hu] at hp
  split at hp
  · cases hp
  · rename_i hc
    exact ⟨by simpa using hc, hp⟩

theorem plainT_array {d n : Nat} {t el : TypeId} {ks : List Nat} (hu : P.underlying t = some (.array n el)) (hp : plainT P (d + 1) t = some ks) :
    ∃ k1 ag, plainT P d el = some k1 ∧ loadT P el = some (k1.length, ag) ∧ ks = (List.replicate n k1).flatten := by
  unfold plainT at hp
  simp only [hu] at hp
  split at hp
  · rename_i k1 k ag h1 h2
    split at hp
    · rename_i hk
      subst hk
      injection hp with hp
      exact ⟨k1, ag, h1, h2, hp.symm⟩
    · cases hp
  · cases hp

/-- '==' on plain values. -/
theorem eq_plain : ∀ (d : Nat) (t : TypeId) (ks : List Nat) (ag : Bool), plainT P d t = some ks → plainOk P d t = true → isAggT P t = some ag →
    ∀ dd, d ≤ dd → ∀ (a b : List PV) (r : Bool), eqsAll ks a b = some r → ∀ x y : Value, Shape ag x (a.map litOf) → Shape ag y (b.map litOf) → ∀ w, (Op.equalIn dd t x y).run P w = .ok r w
  | 0, t, ks, ag, hp, _, _, dd, _, a, b, r, _, x, y, _, _, w => by simp [plainT] at hp
  | d + 1, t, ks, ag, hp, hok, hag, dd, hdd, a, b, r, he, x, y, hx, hy, w => by
    obtain ⟨dd, rfl⟩ : ∃ k, dd = k + 1 := ⟨dd - 1, by omega⟩
    cases hu : P.underlying t with
    | none => simp [plainT, hu] at hp
    | some de =>
      have hone : ∀ k, ks = [k] → ag = false → ∃ p q, PV.eqs k p q = some r ∧ x = litOf p ∧ y = litOf q := by
        intro k hk hagf
        subst hk; subst hagf
        obtain ⟨p, rfl, rfl⟩ := shape_nonagg (_k := 0) hx
        obtain ⟨q, rfl, rfl⟩ := shape_nonagg (_k := 0) hy
        refine ⟨p, q, ?_, rfl, rfl⟩
        simp only [eqsAll] at he
        split at he
        · rename_i u v h1 h2
          rw [h1]; simp at h2; subst h2; simpa using he
        · cases he
      have hag' : ag = match de with | .struct _ => true | .array _ _ => true | _ => false := by
        unfold isAggT at hag
        simp only [hu] at hag
        cases de <;> simp at hag <;> simp [hag]
      cases de with
      | bool =>
        simp [plainT, hu] at hp
        obtain ⟨p, q, h1, rfl, rfl⟩ := hone 0 hp.symm hag'
        unfold PV.eqs at h1
        split at h1 <;> first | (cases h1; done) | skip
        all_goals (simp_all)
        rw [← h1]
        exact run_equalIn_bool' w dd t _ _ hu
      | int k =>
        simp [plainT, hu] at hp
        obtain ⟨p, q, h1, rfl, rfl⟩ := hone 1 hp.symm hag'
        unfold PV.eqs at h1
        split at h1 <;> first | (cases h1; done) | skip
        all_goals (simp_all)
        obtain ⟨rfl, rfl⟩ := h1
        exact run_equalIn_int w dd t _ _ _ _ hu
      | string =>
        simp [plainT, hu] at hp
        obtain ⟨p, q, h1, rfl, rfl⟩ := hone 2 hp.symm hag'
        unfold PV.eqs at h1
        split at h1 <;> first | (cases h1; done) | skip
        all_goals (simp_all)
        rw [← h1]
        exact run_equalIn_string w dd t _ _ hu
      | array n el =>
        obtain ⟨k1, ag1, p1, p2, rfl⟩ := plainT_array hu hp
        obtain ⟨s1, s2⟩ := loadT_size p2
        simp [plainOk, hu] at hok
        simp at hag'
        subst hag'
        simp only [Shape, if_true] at hx hy
        subst hx; subst hy
        obtain ⟨i, hi⟩ := info_of_underlying (t := el) (P := P) (d := (P.underlying el).getD .bool) (by
          cases d with
          | zero => simp [plainT] at p1
          | succ d => cases hq : P.underlying el with
            | none => simp [plainT, hq] at p1
            | some q => rfl)
        have hcells : P.cellsOf el = k1.length := by simp [Program.cellsOf, sizeT, hi] at s1 ⊢; exact s1
        rw [run_equalIn_array w dd _ _ hu hi, hcells, List.range_eq_range']
        exact eq_items (d := d) p2 (fun a b r he x y hx hy w => eq_plain d el k1 ag1 p1 hok s2 dd (by omega) a b r he x y hx hy w) n 0 _ _ a b r w he (by simp) (by simp)
      | struct fs =>
        obtain ⟨p1, p2⟩ := plainT_struct hu hp
        simp [plainOk, hu] at hok
        simp at hag'
        subst hag'
        simp only [Shape, if_true] at hx hy
        subst hx; subst hy
        have hf : P.fieldsOf t = fs := by simp [Program.fieldsOf, hu]
        rw [run_equalIn_struct w dd t _ _ (by rw [hf]; exact hu) p1, hf]
        exact eq_fields (d := d) (fun t ks ag h1 h2 h3 a b r he x y hx hy w => eq_plain d t ks ag h1 h2 h3 dd (by omega) a b r he x y hx hy w) fs.toList ks 0 _ _ a b r w p2 hok.1 (fun f hf => by
          obtain ⟨i, hi, rfl⟩ := List.getElem_of_mem hf
          simpa using hok.2 i (by simpa using hi)) he (by simp) (by simp)
      | _ => simp [plainT, hu] at hp

end Go.Pv

/-
  The operations, one by one: '==' on plain values, maps.
-/
namespace Go.Pv
variable {P : Program} {N M : Nat → Nat} {W : Nat → Prop} {L L' : Lx} {e e' : Emb} {h : Heap} {w w' : World} {g : Opd → V} {ρ : Operand → Value}

theorem cmpT_spec {t : TypeId} {ag : Bool} {ks : List Nat} (hc : cmpT P t = some (ag, ks)) :
    plainT P 40 t = some ks ∧ plainOk P 40 t = true ∧ isAggT P t = some ag ∧ P.eqGuardType P.depth t = false := by
  unfold cmpT at hc
  split at hc
  · rename_i h1 h2
    split at hc
    · rename_i h3
      simp only [Bool.and_eq_true, beq_iff_eq] at h3
      injection hc with hc
      injection hc with e1 e2
      subst e1; subst e2
      exact ⟨h1, h3.1, h2, h3.2⟩
    · cases hc
  · cases hc

theorem mapO_pvOf : ∀ {cs : List V} {l : List PV}, mapO pvOf cs = some l → cs = l.map V.pv
  | [], l, hm => by simp [mapO] at hm; subst hm; rfl
  | c :: cs, l, hm => by
    simp only [mapO] at hm
    split at hm
    · rename_i y r h1 h2
      injection hm with hm
      subst hm
      have := mapO_pvOf h2
      subst this
      cases c <;> simp [pvOf] at h1
      subst h1
      rfl
    · cases hm

theorem plain_shape {ag : Bool} {x : V} {v : Value} (hx : VR N L e w x v) {a : List PV} (hp : plainCells ag x = some a) (hl : ∀ p ∈ a, p.lit = true) : Shape ag v (a.map litOf) := by
  unfold plainCells at hp
  split at hp
  · rename_i cs
    split at hp
    · rename_i hag
      have := mapO_pvOf hp
      subst this
      subst hag
      cases hx with
      | agg _ arr h1 h2 =>
        simp only [Shape, if_true]
        congr 1
        apply Array.ext'
        apply List.ext_getElem?
        intro j
        rcases Nat.lt_or_ge j a.length with hj | hj
        · have hlt : j < arr.size := by rw [h1]; simpa using hj
          have := h2 j (.pv a[j]) (by simp [hj])
          cases this with
          | pv _ _ hq =>
            have hv := hq.litOf (hl _ (List.getElem_mem hj))
            rw [Array.getElem?_toList, getD_of_getElem? hlt, hv]
            simp [hj]
        · rw [Array.getElem?_toList, Array.getElem?_eq_none (by rw [h1]; simpa using hj)]
          simp [hj]
    · cases hp
  · rename_i p
    split at hp
    · cases hp
    · rename_i hag
      injection hp with hp
      subst hp
      have hag' : ag = false := by simpa using hag
      subst hag'
      cases hx with
      | pv _ _ hq =>
        simp only [Shape, Bool.false_eq_true, if_false, List.map_cons, List.map_nil]
        rw [hq.litOf (hl p (by simp))]
  · cases hp

theorem s_eqa {t : TypeId} {ag : Bool} {ks : List Nat} (hc : cmpT P t = some (ag, ks)) {x y : V} {xv yv : Value} (hx : VR N L e w x xv) (hy : VR N L e w y yv) {a b : List PV} (ha : plainCells ag x = some a) (hb : plainCells ag y = some b)
    {r : Bool} (hr : eqsAll ks a b = some r) (xo yo : Operand) :
    (eqGuard .eql t xo yo xv yv).run P w = .ok () w ∧ (eqGuard .neq t xo yo xv yv).run P w = .ok () w ∧
    ((∀ k, P.underlying t ≠ some (.int k)) → P.underlying t ≠ some .string → (binOp .eql t xv yv).run P w = .ok (.bool r) w ∧ (binOp .neq t xv yv).run P w = .ok (.bool !r) w) := by
  obtain ⟨c1, c2, c3, c4⟩ := cmpT_spec hc
  obtain ⟨_, _, l3, l4⟩ := eqsAll_lit hr
  have s1 := plain_shape hx ha l3
  have s2 := plain_shape hy hb l4
  have heq := eq_plain 40 t ks ag c1 c2 c3 10000 (by omega) a b r hr xv yv s1 s2 w
  cases ag with
  | true =>
    simp only [Shape, if_true] at s1 s2
    subst s1; subst s2
    refine ⟨run_eqGuard_agg w _ _ _ _ _ _ c4, run_eqGuard_agg w _ _ _ _ _ _ c4, fun _ _ => ?_⟩
    rw [run_eql_struct, run_neq_struct, heq]
    simp
  | false =>
    obtain ⟨p, rfl, rfl⟩ := shape_nonagg (_k := 0) s1
    obtain ⟨q, rfl, rfl⟩ := shape_nonagg (_k := 0) s2
    have hpl := l3 p (by simp)
    have hql := l4 q (by simp)
    cases p <;> simp [PV.lit] at hpl <;> cases q <;> simp [PV.lit] at hql
    all_goals (refine ⟨by simp [litOf, eqGuard], by simp [litOf, eqGuard], fun hni hns => ?_⟩)
    · simp [litOf] at heq ⊢
      simp [binOp, Op.equal, Op.maxDepth, heq]
    all_goals exfalso
    all_goals
      cases ks with
      | nil => simp [eqsAll] at hr
      | cons k ks =>
        simp only [eqsAll] at hr
        split at hr
        · rename_i u v h1 h2
          unfold PV.eqs at h1
          split at h1 <;> simp_all
          all_goals
            cases hu : P.underlying t with
            | none => simp [plainT, hu] at c1
            | some de => cases de <;> simp_all [plainT, isAggT]
        · cases hr

-- keys

def keyCells (ag : Bool) : PV → List PV
  | .agg a => if ag then a else [.agg a]
  | p => [p]

theorem keyEq_spec {ag : Bool} {ks : List Nat} {k q : PV} {r : Bool} (hh : keyEq ag ks k q = some r) :
    eqsAll ks (keyCells ag k) (keyCells ag q) = some r ∧ (ag = true → (∃ a, k = .agg a) ∧ ∃ b, q = .agg b) := by
  unfold keyEq at hh
  split at hh
  · rename_i a b
    split at hh
    · rename_i hag
      subst hag
      exact ⟨by simpa [keyCells] using hh, fun _ => ⟨⟨a, rfl⟩, b, rfl⟩⟩
    · cases hh
  · rename_i hne
    split at hh
    · cases hh
    · rename_i hag
      have hag' : ag = false := by simpa using hag
      subst hag'
      refine ⟨?_, fun hx => by cases hx⟩
      have hc : ∀ p : PV, keyCells false p = [p] := fun p => by cases p <;> simp [keyCells]
      rw [hc, hc]
      exact hh

theorem key_shape {ag : Bool} {k : PV} {v : Value} (hk : PVR N L w k v) (hag : ag = true → ∃ a, k = .agg a) (hl : ∀ p ∈ keyCells ag k, p.lit = true) : Shape ag v ((keyCells ag k).map litOf) := by
  have e0 : Emb := ⟨fun _ => False, fun _ => 0, 0, fun _ => 0, fun _ => 0, fun _ => 0, fun _ => 0, fun _ => 0, fun _ => 0, 0, fun _ => 0⟩
  cases ag with
  | true =>
    obtain ⟨a, rfl⟩ := hag rfl
    cases hk with
    | agg _ arr h1 h2 _ =>
      have hv : VR N L e0 w (.agg (a.map V.pv)) (.agg arr) := .agg _ _ (by simpa using h1) (fun j c hj => by
        obtain ⟨p, hp, rfl⟩ := map_pv_get hj
        exact .pv _ _ (h2 j p hp))
      have hm : ∀ l : List PV, mapO pvOf (l.map V.pv) = some l := fun l => by
        induction l with
        | nil => rfl
        | cons p l ih => simp [mapO, pvOf, ih]
      exact plain_shape hv (by simp [plainCells, hm, keyCells]) hl
  | false =>
    have hc : keyCells false k = [k] := by cases k <;> simp [keyCells]
    rw [hc] at hl ⊢
    simp only [Shape, Bool.false_eq_true, if_false, List.map_cons, List.map_nil]
    rw [hk.litOf (hl k (by simp))]

theorem key_like {ag : Bool} {k : PV} (hag : ag = true → ∃ a, k = .agg a) (hl : ∀ p ∈ keyCells ag k, p.lit = true) : keyLike k = true := by
  cases ag with
  | true =>
    obtain ⟨a, rfl⟩ := hag rfl
    simp only [keyCells, if_true] at hl
    simp only [keyLike, List.all_eq_true]
    intro p hp
    have := hl p hp
    cases p <;> simp [PV.lit] at this ⊢
  | false =>
    have hc : keyCells false k = [k] := by cases k <;> simp [keyCells]
    rw [hc] at hl
    have := hl k (by simp)
    cases k <;> simp [PV.lit] at this <;> rfl

theorem keyOf_rel {ag : Bool} {x : V} {v : Value} (hx : VR N L e w x v) {k : PV} (hk : keyOf ag x = some k) (hl : ∀ p ∈ keyCells ag k, p.lit = true) : PVR N L w k v ∧ (ag = true → ∃ a, k = .agg a) := by
  unfold keyOf at hk
  cases hp : plainCells ag x with
  | none => simp [hp] at hk
  | some l =>
    simp only [hp] at hk
    unfold plainCells at hp
    split at hp
    · rename_i cs
      split at hp
      · rename_i hag
        subst hag
        simp at hk
        subst hk
        have := mapO_pvOf hp
        subst this
        cases hx with
        | agg _ arr h1 h2 =>
          refine ⟨.agg l arr (by simpa using h1) (fun j c hj => ?_) (fun c hc => ?_), fun _ => ⟨l, rfl⟩⟩
          · have := h2 j (.pv c) (by simp [hj])
            cases this with
            | pv _ _ hq => exact hq
          · have := hl c (by simpa [keyCells] using hc)
            cases c <;> simp [PV.lit] at this <;> rfl
      · cases hp
    · split at hp
      · cases hp
      · rename_i hag
        have hag' : ag = false := by simpa using hag
        subst hag'
        injection hp with hp
        subst hp
        simp at hk
        subst hk
        cases hx with
        | pv _ _ hq => exact ⟨hq, fun hx => by cases hx⟩
    · cases hp

theorem check_items {dd : Nat} {em : Bool} {el : TypeId} {i : TypeInfo} {k : Nat} {ag : Bool} (hi : P.info? el = some i) (hl : loadT P el = some (k, ag))
    (ih : ∀ (cs : List Value), cs.length = k → ∀ x : Value, Shape ag x cs → (Instr.checkKey em dd el x).run P w = .ok () w) (xs : Array Value) : ∀ (m j : Nat), (j + m) * k ≤ xs.size →
      (forIn (List.range' j m) PUnit.unit (fun i (_ : PUnit) => do let a ← part el xs (i * (← sizeOf el)); Instr.checkKey em dd el a; pure (ForInStep.yield PUnit.unit)) : Sem PUnit).run P w = .ok PUnit.unit w
  | 0, j, _ => by simp
  | m + 1, j, hb => by
    have hsz : (sizeOf el).run P w = .ok k w := sizeT_spec (loadT_size hl).1
    have hle : j * k + k ≤ xs.size := by
      have : (j + 1) * k ≤ (j + (m + 1)) * k := Nat.mul_le_mul_right k (by omega)
      rw [Nat.succ_mul] at this
      omega
    obtain ⟨x, p1, p2⟩ := part_shape (w := w) (arr := xs) (off := j * k) (c1 := (xs.toList.drop (j * k)).take k) (c2 := (xs.toList.drop (j * k)).drop k) hl (by rw [List.take_append_drop]) (by simp; omega)
    have p3 := ih _ (by simp; omega) x p2
    rw [List.range'_succ, List.forIn_cons]
    simp only [Sem.run_bind, hsz, Result.andThen_ok, p1, p3, Sem.run_pure]
    exact check_items hi hl ih xs m (j + 1) (by rw [show j + 1 + m = j + (m + 1) by omega]; exact hb)

theorem check_fields {d dd : Nat} {em : Bool}
    (ih : ∀ (t : TypeId) (ks : List Nat) (ag : Bool), plainT P d t = some ks → plainOk P d t = true → isAggT P t = some ag → ∀ (cs : List Value), cs.length = ks.length → ∀ x : Value, Shape ag x cs → (Instr.checkKey em dd t x).run P w = .ok () w) (xs : Array Value) :
    ∀ (fs : List Field) (ks : List Nat) (o : Nat), plainFs P d fs = some ks → offsOk P o fs = true → (∀ f ∈ fs, plainOk P d f.type = true) → o + ks.length ≤ xs.size →
      (forIn fs PUnit.unit (fun f (_ : PUnit) => (if f.name ≠ "_" then (do let a ← part f.type xs f.offset; Instr.checkKey em dd f.type a; pure (ForInStep.yield PUnit.unit)) else pure (ForInStep.yield PUnit.unit) : Sem (ForInStep PUnit))) : Sem PUnit).run P w = .ok PUnit.unit w
  | [], ks, o, _, _, _, _ => by simp
  | f :: fs, ks, o, hp, ho, hall, hb => by
    obtain ⟨k1, k2, ag, t1, t2, t3, t4, rfl⟩ := plainFs_cons hp
    obtain ⟨s1, s2⟩ := loadT_size t3
    simp only [offsOk, Bool.and_eq_true, beq_iff_eq, s1, Option.getD_some] at ho
    obtain ⟨o1, o2⟩ := ho
    subst o1
    rw [List.length_append] at hb
    obtain ⟨x, p1, p2⟩ := part_shape (w := w) (arr := xs) (off := f.offset) (c1 := (xs.toList.drop f.offset).take k1.length) (c2 := (xs.toList.drop f.offset).drop k1.length) t3 (by rw [List.take_append_drop]) (by simp; omega)
    have p3 := ih f.type k1 ag t1 (hall f (by simp)) s2 _ (by simp; omega) x p2
    rw [List.forIn_cons]
    simp only [t4, ne_eq, not_false_eq_true, if_true, Sem.run_bind, p1, p3, Result.andThen_ok, Sem.run_pure]
    exact check_fields ih xs fs k2 (f.offset + k1.length) t2 o2 (fun q hq => hall q (by simp [hq])) (by omega)

theorem check_plain {em : Bool} : ∀ (d : Nat) (t : TypeId) (ks : List Nat) (ag : Bool), plainT P d t = some ks → plainOk P d t = true → isAggT P t = some ag →
    ∀ dd, d ≤ dd → ∀ (cs : List Value), cs.length = ks.length → ∀ x : Value, Shape ag x cs → (Instr.checkKey em dd t x).run P w = .ok () w
  | 0, t, ks, ag, hp, _, _, dd, _, cs, _, x, _ => by simp [plainT] at hp
  | d + 1, t, ks, ag, hp, hok, hag, dd, hdd, cs, hlen, x, hx => by
    obtain ⟨dd, rfl⟩ : ∃ k, dd = k + 1 := ⟨dd - 1, by omega⟩
    cases hu : P.underlying t with
    | none => simp [plainT, hu] at hp
    | some de =>
      have hag' : ag = match de with | .struct _ => true | .array _ _ => true | _ => false := by
        unfold isAggT at hag
        simp only [hu] at hag
        cases de <;> simp at hag <;> simp [hag]
      cases de with
      | bool => simp [Instr.checkKey, run_underlying hu]
      | int k => simp [Instr.checkKey, run_underlying hu]
      | string => simp [Instr.checkKey, run_underlying hu]
      | array n el =>
        obtain ⟨k1, ag1, p1, p2, rfl⟩ := plainT_array hu hp
        obtain ⟨s1, s2⟩ := loadT_size p2
        simp [plainOk, hu] at hok
        simp at hag'
        subst hag'
        simp only [Shape, if_true] at hx
        subst hx
        obtain ⟨i, hi⟩ := info_of_underlying (t := el) (P := P) (d := (P.underlying el).getD .bool) (by
          cases d with
          | zero => simp [plainT] at p1
          | succ d => cases hq : P.underlying el with
            | none => simp [plainT, hq] at p1
            | some q => rfl)
        rw [Instr.checkKey]
        simp only [Sem.run_bind, run_underlying hu, Result.andThen_ok]
        simp only [Std.Legacy.Range.forIn_eq_forIn_range', Std.Legacy.Range.size, Nat.sub_zero, Nat.add_one_sub_one, Nat.div_one]
        have := check_items (w := w) (em := em) hi p2 (fun cs hcs x hx => check_plain d el k1 ag1 p1 hok s2 dd (by omega) cs hcs x hx) cs.toArray n 0 (by simp [hlen])
        exact (congrArg (fun r => Result.andThen r _) this).trans (by simp)
      | struct fs =>
        obtain ⟨p1, p2⟩ := plainT_struct hu hp
        simp [plainOk, hu] at hok
        simp at hag'
        subst hag'
        simp only [Shape, if_true] at hx
        subst hx
        rw [Instr.checkKey]
        simp only [Sem.run_bind, run_underlying hu, Result.andThen_ok]
        rw [← Array.forIn_toList]
        have := check_fields (w := w) (d := d) (em := em) (dd := dd) (fun t ks ag h1 h2 h3 cs hcs x hx => check_plain d t ks ag h1 h2 h3 dd (by omega) cs hcs x hx) cs.toArray fs.toList ks 0 p2 hok.1 (fun f hf => by
          obtain ⟨i, hi, rfl⟩ := List.getElem_of_mem hf
          simpa using hok.2 i (by simpa using hi)) (by simp [hlen])
        exact (congrArg (fun r => Result.andThen r _) this).trans (by simp)
      | _ => simp [plainT, hu] at hp

end Go.Pv

/-
  The operations, one by one: maps; values that are moved.
-/
namespace Go.Pv
variable {P : Program} {N M : Nat → Nat} {W : Nat → Prop} {L L' : Lx} {e e' : Emb} {h : Heap} {w w' : World} {g : Opd → V} {ρ : Operand → Value}

theorem keyEq_lits {ag : Bool} {ks : List Nat} {k q : PV} {r : Bool} (hh : keyEq ag ks k q = some r) :
    (ag = true → ∃ a, k = .agg a) ∧ (ag = true → ∃ a, q = .agg a) ∧ (∀ p ∈ keyCells ag k, p.lit = true) ∧ (∀ p ∈ keyCells ag q, p.lit = true) := by
  obtain ⟨h1, h2⟩ := keyEq_spec hh
  obtain ⟨_, _, l1, l2⟩ := eqsAll_lit h1
  exact ⟨fun hx => (h2 hx).1, fun hx => (h2 hx).2, l1, l2⟩

theorem keyCells_one {k : PV} : keyCells false k = [k] := by cases k <;> simp [keyCells]

theorem eqsAll_one {ks : List Nat} {a b : PV} {r : Bool} (hh : eqsAll ks [a] [b] = some r) : ∃ k, ks = [k] ∧ PV.eqs k a b = some r := by
  match ks, hh with
  | [k], hh =>
    simp only [eqsAll] at hh
    split at hh
    · rename_i u v h1 h2
      simp at h2
      subst h2
      exact ⟨k, rfl, by simpa [h1] using hh⟩
    · cases hh
  | k :: k' :: ks, hh => simp [eqsAll] at hh

theorem same_now {ag : Bool} {ks : List Nat} {k q : PV} {kv qv : Value} {r b : Bool} (hh : keyEq ag ks k q = some r) (hk : PVR N L w k kv) (hq : PVR N L w q qv) {de : TypeDesc} (hs : Instr.sameNow de kv qv = some b) : b = r := by
  obtain ⟨a1, a2, l1, l2⟩ := keyEq_lits hh
  have s1 := key_shape hk a1 l1
  have s2 := key_shape hq a2 l2
  obtain ⟨h1, _⟩ := keyEq_spec hh
  cases ag with
  | true =>
    simp only [Shape, if_true] at s1
    subst s1
    simp [Instr.sameNow] at hs
  | false =>
    rw [keyCells_one, keyCells_one] at h1
    rw [keyCells_one] at s1 s2
    simp [Shape] at s1 s2
    subst s1; subst s2
    obtain ⟨kk, rfl, h2⟩ := eqsAll_one h1
    unfold PV.eqs at h2
    split at h2 <;> first | (cases h2; done) | skip
    · simp [litOf, Instr.sameNow] at hs
      cases de <;> simp at hs
      simp at h2; rw [← hs, ← h2]
    · split at h2
      · simp [litOf, Instr.sameNow] at hs
        cases de <;> simp at hs
        simp at h2; rw [← hs.2, ← h2]
      · cases h2
    · simp [litOf, Instr.sameNow] at hs
      cases de <;> simp at hs
      simp at h2; rw [← hs, ← h2, beq_toListBytes]

theorem key_equal {t : TypeId} {ag : Bool} {ks : List Nat} (hc : cmpT P t = some (ag, ks)) {k q : PV} {kv qv : Value} {r : Bool} (hh : keyEq ag ks k q = some r) (hk : PVR N L w k kv) (hq : PVR N L w q qv) :
    (Op.equal t kv qv).run P w = .ok r w := by
  obtain ⟨c1, c2, c3, c4⟩ := cmpT_spec hc
  obtain ⟨a1, a2, l1, l2⟩ := keyEq_lits hh
  exact eq_plain 40 t ks ag c1 c2 c3 10000 (by omega) _ _ r (keyEq_spec hh).1 kv qv (key_shape hk a1 l1) (key_shape hq a2 l2) w

theorem find_run {t : TypeId} {ag : Bool} {ks : List Nat} (hc : cmpT P t = some (ag, ks)) {k : PV} {kv : Value} (hk : PVR N L w k kv) (de : TypeDesc) :
    ∀ (m : List (PV × PV)) (es : List MapEntry) (i : Nat) (r : Option (Nat × PV)), es.length = m.length → (∀ (j : Nat) (p : PV × PV), m[j]? = some p → ∃ x, es[j]? = some x ∧ PVR N L w p.1 x.key) →
      Pv.findKey ag ks k m i = some r → ∃ r', (Instr.findAsking t kv es i).run P w = .ok r' w ∧ (∀ r'', Instr.findNow de kv es i = some r'' → r'' = r') ∧ (r = none → r' = none) ∧
        (∀ j p, r = some (j, p) → ∃ i0 q x, j = i + i0 ∧ m[i0]? = some (q, p) ∧ es[i0]? = some x ∧ r' = some (j, x.val) ∧ keyEq ag ks k q = some true)
  | [], es, i, r, hl, _, hf => by
    have : es = [] := List.eq_nil_of_length_eq_zero (by simpa using hl)
    subst this
    simp only [Pv.findKey] at hf
    split at hf
    · injection hf with hf
      subst hf
      exact ⟨none, by simp [Instr.findAsking], fun r'' h => by simp [Instr.findNow] at h; exact h.symm, fun _ => rfl, fun j p h => by cases h⟩
    · cases hf
  | (q, v) :: m, es, i, r, hl, hall, hf => by
    match es, hl with
    | x :: es, hl =>
      obtain ⟨x', hx', hq⟩ := hall 0 (q, v) rfl
      simp at hx'
      subst hx'
      simp only [Pv.findKey] at hf
      split at hf
      · rename_i hke
        injection hf with hf
        subst hf
        have heq := key_equal hc hke hk hq
        refine ⟨some (i, x.val), by simp [Instr.findAsking, heq], fun r'' hnow => ?_, ⟨fun hn => by simp at hn, fun j p h => ?_⟩⟩
        · simp only [Instr.findNow] at hnow
          split at hnow
          · injection hnow with hnow; exact hnow.symm
          · rename_i hs; have := same_now hke hk hq hs; cases this
          · cases hnow
        · injection h with h
          injection h with h1 h2
          subst h1; subst h2
          exact ⟨0, q, x, rfl, rfl, rfl, rfl, hke⟩
      · rename_i hke
        have heq := key_equal hc hke hk hq
        obtain ⟨r', g1, g2, g3, g4⟩ := find_run hc hk de m es (i + 1) r (by simpa using hl) (fun j p hj => by
          obtain ⟨y, hy, hp⟩ := hall (j + 1) p (by simpa using hj)
          exact ⟨y, by simpa using hy, hp⟩) hf
        refine ⟨r', by simp [Instr.findAsking, heq, g1], fun r'' h => ?_, g3, fun j p h => ?_⟩
        · simp only [Instr.findNow] at h
          split at h
          · rename_i hs; have := same_now hke hk hq hs; cases this
          · exact g2 r'' h
          · cases h
        · obtain ⟨i0, q', y, e1, e2, e3, e4, e5⟩ := g4 j p h
          exact ⟨i0 + 1, q', y, by omega, by simpa using e2, by simpa using e3, e4, e5⟩
      · cases hf

theorem findKey_lits {ag : Bool} {ks : List Nat} {k : PV} : ∀ {m : List (PV × PV)} {i : Nat} {r : Option (Nat × PV)}, Pv.findKey ag ks k m i = some r →
    eqsAll ks (keyCells ag k) (keyCells ag k) ≠ none ∨ ∃ q b, keyEq ag ks k q = some b
  | [], i, r, hf => by
    simp only [Pv.findKey] at hf
    split at hf
    · rename_i hs
      obtain ⟨b, hb⟩ := Option.isSome_iff_exists.1 hs
      exact .inr ⟨k, b, hb⟩
    · cases hf
  | (q, v) :: m, i, r, hf => by
    simp only [Pv.findKey] at hf
    split at hf
    · rename_i hke; exact .inr ⟨q, _, hke⟩
    · rename_i hke; exact .inr ⟨q, _, hke⟩
    · cases hf

theorem findKey_eq {ag : Bool} {ks : List Nat} {k : PV} {m : List (PV × PV)} {i : Nat} {r : Option (Nat × PV)} (hf : Pv.findKey ag ks k m i = some r) : ∃ q b, keyEq ag ks k q = some b := by
  cases m with
  | nil =>
    simp only [Pv.findKey] at hf
    split at hf
    · rename_i hs
      obtain ⟨b, hb⟩ := Option.isSome_iff_exists.1 hs
      exact ⟨k, b, hb⟩
    · cases hf
  | cons p m =>
    obtain ⟨q, v⟩ := p
    simp only [Pv.findKey] at hf
    split at hf
    · rename_i hke; exact ⟨q, _, hke⟩
    · rename_i hke; exact ⟨q, _, hke⟩
    · cases hf

theorem instr_find {t : TypeId} {de : TypeDesc} (hu : P.underlying t = some de) {kv : Value} {es : List MapEntry} {r' : Option (Nat × Value)} (h1 : (Instr.findAsking t kv es 0).run P w = .ok r' w)
    (h2 : ∀ r'', Instr.findNow de kv es 0 = some r'' → r'' = r') : (Instr.findKey t kv es).run P w = .ok r' w := by
  simp only [Instr.findKey, Sem.run_bind, run_underlying hu, Result.andThen_ok]
  cases hf : Instr.findNow de kv es 0 with
  | none => simpa using h1
  | some r'' => simp [h2 r'' hf]

theorem cmpT_und {t : TypeId} {ag : Bool} {ks : List Nat} (hc : cmpT P t = some (ag, ks)) : ∃ de, P.underlying t = some de := by
  obtain ⟨c1, _⟩ := cmpT_spec hc
  cases hu : P.underlying t with
  | none => simp [plainT, hu] at c1
  | some de => exact ⟨de, rfl⟩

theorem zeroV_spec {t : TypeId} {z : V} (hz : zeroV P t = some z) : ∃ zv, (∀ w, (zeroValue t).run P w = .ok zv w) ∧ cvc zv = some z := by
  unfold zeroV at hz
  cases hi : P.info? t with
  | none => simp [hi] at hz
  | some i =>
    cases hzv : i.zero with
    | none => simp [hi, hzv] at hz
    | some zv =>
      simp [hi, hzv] at hz
      exact ⟨zv, fun w => by simp [zeroValue, typeInfo, hi, hzv], hz⟩

def mapAt (h : Heap) : V → Option (List (PV × PV))
  | .nilm => some []
  | .map id => h.mp[id]?
  | _ => none

def lookVal (z : V) : Option (Nat × PV) → V
  | some (_, p) => .pv p
  | none => z

/-- A map that is looked at: its entries. -/
theorem map_rel (hr : HR N L e W h w) {x : V} {xv : Value} (hx : VR N L e w x xv) {m : List (PV × PV)} (hm : mapAt h x = some m) :
    ∃ es : Array MapEntry, es.size = m.length ∧ (∀ (i : Nat) (p : PV × PV), m[i]? = some p → keyLike p.1 = true ∧ ∃ y, es[i]? = some y ∧ EntryR N L w p y) ∧
      ((xv = .map none ∧ es = #[]) ∨ ∃ id cl, x = .map id ∧ xv = .map (some (e.mp id)) ∧ w.heap[e.mp id]? = some (.map es cl)) := by
  cases hx with
  | nilm =>
    simp [mapAt] at hm
    subst hm
    exact ⟨#[], rfl, fun i p h => by simp at h, .inl ⟨rfl, rfl⟩⟩
  | map id hid =>
    simp [mapAt] at hm
    obtain ⟨es, cl, h1, h2, h3⟩ := hr.mp id m hm
    exact ⟨es, h2, h3, .inr ⟨id, cl, rfl, rfl, h1⟩⟩
  | _ => simp [mapAt] at hm

theorem s_look (hr : HR N L e W h w) {t k el : TypeId} (hd : P.underlying t = some (.map k el)) {z : V} (hz : zeroV P el = some z) {ag : Bool} {ks : List Nat} (hc : cmpT P k = some (ag, ks)) {x i : V} {xv iv : Value} (hx : VR N L e w x xv) (hi : VR N L e w i iv)
    {q : PV} (hq : keyOf ag i = some q) {m : List (PV × PV)} (hm : mapAt h x = some m) {r : Option (Nat × PV)} (hf : Pv.findKey ag ks q m 0 = some r) (ok : Bool) :
    Plain P N L e w (Instr.lookup t xv iv ok) (if ok then .tup [lookVal z r, .pv (.bool r.isSome)] else lookVal z r) := by
  obtain ⟨es, e1, e2, e3⟩ := map_rel hr hx hm
  obtain ⟨de, hu⟩ := cmpT_und hc
  obtain ⟨c1, c2, c3, c4⟩ := cmpT_spec hc
  obtain ⟨q', b, hke⟩ := findKey_eq hf
  obtain ⟨a1, _, l1, _⟩ := keyEq_lits hke
  obtain ⟨hk, _⟩ := keyOf_rel hi hq l1
  have hck : ∀ em, (Instr.checkKey em 10000 k iv).run P w = .ok () w := fun em => check_plain 40 k ks ag c1 c2 c3 10000 (by omega) _ (by rw [List.length_map]; exact (eqsAll_lit (keyEq_spec hke).1).1) iv (key_shape hk a1 l1)
  obtain ⟨zv, z1, z2⟩ := zeroV_spec hz
  obtain ⟨r', g1, g2, g3, g4⟩ := find_run hc hk de m es.toList 0 r (by simpa using e1) (fun j p hj => by
    obtain ⟨_, y, hy, hp⟩ := e2 j p hj
    exact ⟨y, by simpa using hy, hp.1⟩) hf
  have hfind := instr_find hu g1 g2
  have hval : ∃ vv, VR N L e w (lookVal z r) vv ∧ ((r' = none ∧ r.isSome = false ∧ vv = zv) ∨ ∃ j, r' = some (j, vv) ∧ r.isSome = true) := by
    cases r with
    | none => exact ⟨zv, VR.cvc z2, .inl ⟨g3 rfl, rfl, rfl⟩⟩
    | some jp =>
      obtain ⟨j, p⟩ := jp
      obtain ⟨i0, q1, y, _, k2, k3, k4, _⟩ := g4 j p rfl
      obtain ⟨_, y', hy, hp⟩ := e2 i0 (q1, p) k2
      have : y = y' := by
        have : es.toList[i0]? = some y' := by simpa using hy
        rw [k3] at this; injection this
      subst this
      exact ⟨y.val, .pv _ _ hp.2.1, .inr ⟨j, k4, rfl⟩⟩
  obtain ⟨vv, hv2, hv1⟩ := hval
  have hrun : (Instr.lookup t xv iv ok).run P w = .ok (if ok then .tuple #[vv, .bool r.isSome] else vv) w := by
    rcases e3 with ⟨rfl, rfl⟩ | ⟨id, cl, _, rfl, hh⟩
    · simp only [Instr.lookup, Sem.run_bind, run_underlying hd, Result.andThen_ok, Sem.run_pure, hck]
      have hfind' : (Instr.findKey k iv (#[] : Array MapEntry).toList).run P w = .ok r' w := hfind
      rw [hfind']
      rcases hv1 with ⟨q1, q2, rfl⟩ | ⟨j, q1, q2⟩ <;> rw [q1, q2] <;> simp [z1 w]
    · simp only [Instr.lookup, Sem.run_bind, run_underlying hd, Result.andThen_ok, getObj_map hh, Sem.run_pure, hck, hfind]
      rcases hv1 with ⟨q1, q2, rfl⟩ | ⟨j, q1, q2⟩ <;> rw [q1, q2] <;> simp [z1 w]
  refine ⟨_, hrun, ?_⟩
  cases ok with
  | false => exact hv2
  | true =>
    refine .tup _ _ rfl (fun j c hj => ?_)
    match j, hj with
    | 0, hj => simp at hj; subst hj; exact hv2
    | 1, hj => simp at hj; subst hj; exact .pv _ _ (.bool _)
    | j + 2, hj => simp at hj

theorem eqs_same {k : Nat} {a b : PV} (hh : PV.eqs k a b = some true) : litOf a = litOf b := by
  unfold PV.eqs at hh
  split at hh <;> first | (cases hh; done) | skip
  · simp at hh; subst hh; rfl
  · split at hh
    · rename_i hk; subst hk; simp at hh; subst hh; rfl
    · cases hh
  · rename_i a b
    simp at hh
    have : a = b := (MapKept.bytes_beq a b).1 (by rw [beq_toListBytes]; simpa using hh)
    subst this; rfl

theorem eqsAll_same : ∀ {ks : List Nat} {a b : List PV}, eqsAll ks a b = some true → a.map litOf = b.map litOf
  | [], [], [], _ => rfl
  | [], _ :: _, _, hh => by simp [eqsAll] at hh
  | [], [], _ :: _, hh => by simp [eqsAll] at hh
  | k :: ks, [], _, hh => by simp [eqsAll] at hh
  | k :: ks, _ :: _, [], hh => by simp [eqsAll] at hh
  | k :: ks, a :: x, b :: y, hh => by
    simp only [eqsAll] at hh
    split at hh
    · rename_i p q h1 h2
      injection hh with hh
      simp only [Bool.and_eq_true] at hh
      obtain ⟨rfl, rfl⟩ := hh
      simp [eqs_same h1, eqsAll_same h2]
    · cases hh

theorem lit_bits {p : PV} (hl : p.lit = true) (n : Nat) : Instr.sameBits n (litOf p) (litOf p) = true := by
  cases p <;> simp [PV.lit] at hl <;> simp [litOf, Instr.sameBits, beq_toListBytes]

theorem shape_bits {ag : Bool} {a : List PV} {x : Value} (hx : Shape ag x (a.map litOf)) (hl : ∀ p ∈ a, p.lit = true) : Instr.sameBits 10000 x x = true := by
  cases ag with
  | true =>
    simp only [Shape, if_true] at hx
    subst hx
    show Instr.sameBits (9999 + 1) _ _ = true
    simp only [Instr.sameBits, beq_self_eq_true, Bool.true_and, List.all_eq_true]
    intro p hp
    obtain ⟨i, hi, e⟩ := List.getElem_of_mem hp
    rw [List.getElem_zip] at e
    rw [← e]
    simp only [List.getElem_map]
    exact lit_bits (hl _ (List.getElem_mem _)) 9999
  | false =>
    obtain ⟨p, rfl, rfl⟩ := shape_nonagg (_k := 0) hx
    exact lit_bits (hl p (by simp)) _

theorem key_same {ag : Bool} {ks : List Nat} {k q : PV} {kv qv : Value} (hh : keyEq ag ks k q = some true) (hk : PVR N L w k kv) (hq : PVR N L w q qv) : (Instr.keyThatStays qv kv).run P w = .ok kv w := by
  obtain ⟨a1, a2, l1, l2⟩ := keyEq_lits hh
  have s1 := key_shape hk a1 l1
  have s2 := key_shape hq a2 l2
  have hsame := eqsAll_same (keyEq_spec hh).1
  rw [← hsame] at s2
  have hb := shape_bits s1 l1
  have : qv = kv := by
    cases ag with
    | true =>
      simp only [Shape, if_true] at s1 s2
      rw [s1, s2]
    | false =>
      simp only [Shape, Bool.false_eq_true, if_false] at s1 s2
      rw [s1] at s2
      simpa using s2.symm
  subst this
  simp [Instr.keyThatStays, hb]

theorem Tn.apply_mp (h : Heap) (id : Nat) (m : List (PV × PV)) : ({ mp := some (id, m) } : Tn).apply h = { h with mp := h.mp.set id m } := by
  cases h; simp [Tn.apply]

theorem s_upd (hr : HR N L e W h w) {t k el : TypeId} (hd : P.underlying t = some (.map k el)) {ag : Bool} {ks : List Nat} (hc : cmpT P k = some (ag, ks)) {id : Nat} {i x : V} {mv iv xv : Value} (hm : VR N L e w (.map id) mv) (hi : VR N L e w i iv) (hx : VR N L e w x xv)
    {q p : PV} (hq : keyOf ag i = some q) (hp : x.purec = some p) {l : List (PV × PV)} (hl : h.mp[id]? = some l) {r : Option (Nat × PV)} (hf : Pv.findKey ag ks q l 0 = some r) :
    ∃ w', (Instr.mapUpdate t mv iv xv).run P w = .ok () w' ∧ Nx N W L e w L e (Tn.apply { mp := some (id, match r with | some (j, _) => l.set j (q, p) | none => l ++ [(q, p)]) } h) w' := by
  cases hm with
  | map _ hid =>
    obtain ⟨es, cl, h1, h2, h3⟩ := hr.mp id l hl
    obtain ⟨de, hu⟩ := cmpT_und hc
    obtain ⟨c1, c2, c3, c4⟩ := cmpT_spec hc
    obtain ⟨q', b, hke⟩ := findKey_eq hf
    obtain ⟨a1, _, l1, _⟩ := keyEq_lits hke
    obtain ⟨hk, _⟩ := keyOf_rel hi hq l1
    have hpp := V.purec_perm hp
    have hpv : PVR N L w p xv := by
      have := hx.purec hp
      cases this with
      | pv _ _ hh => exact hh
    have hck : ∀ em, (Instr.checkKey em 10000 k iv).run P w = .ok () w := fun em => check_plain 40 k ks ag c1 c2 c3 10000 (by omega) _ (by rw [List.length_map]; exact (eqsAll_lit (keyEq_spec hke).1).1) iv (key_shape hk a1 l1)
    obtain ⟨r', g1, g2, g3, g4⟩ := find_run hc hk de l es.toList 0 r (by simpa using h2) (fun j p hj => by
      obtain ⟨_, y, hy, hp⟩ := h3 j p hj
      exact ⟨y, by simpa using hy, hp.1⟩) hf
    have hfind := instr_find hu g1 g2
    have hset : ∀ o : Obj, (setObj (e.mp id) o).run P w = .ok () { w with heap := w.heap.setIfInBounds (e.mp id) o } := fun o => MapKept.run_setObj_map o h1
    rw [Tn.apply_mp]
    cases r with
    | none =>
      have hr' := g3 rfl
      subst hr'
      refine ⟨_, by simp only [Instr.mapUpdate, Sem.run_bind, run_underlying hd, Result.andThen_ok, getObj_map h1, hck, hfind]; exact hset _, ?_⟩
      refine Nx.setMap hr hl (by simp [h2]) (fun j y hj => ?_)
      rcases Nat.lt_trichotomy j l.length with hjl | hjl | hjl
      · rw [List.getElem?_append_left hjl] at hj
        obtain ⟨k1, z, k2, k3⟩ := h3 j y hj
        refine ⟨k1, z, ?_, k3⟩
        rw [Array.getElem?_push, if_neg (by omega)]
        exact k2
      · subst hjl
        simp at hj
        subst hj
        refine ⟨key_like a1 l1, _, by rw [Array.getElem?_push, if_pos (by rw [h2])], hk, hpv, hpp⟩
      · rw [List.getElem?_eq_none (by simp; omega)] at hj
        cases hj
    | some jp =>
      obtain ⟨j, p0⟩ := jp
      obtain ⟨i0, q1, y, k1, k2, k3, k4, k5⟩ := g4 j p0 rfl
      have hj0 : j = i0 := by omega
      subst hj0
      subst k4
      obtain ⟨_, y', hy, hyp⟩ := h3 j (q1, p0) k2
      have hyy : y = y' := by
        have : es.toList[j]? = some y' := by simpa using hy
        rw [k3] at this; injection this
      subst hyy
      have hst := key_same (P := P) k5 hk hyp.1
      refine ⟨_, by
        simp only [Instr.mapUpdate, Sem.run_bind, run_underlying hd, Result.andThen_ok, getObj_map h1, hck, hfind, hy, Option.map_some, Option.getD_some, hst]
        exact hset _, ?_⟩
      refine Nx.setMap hr hl (by simp [h2]) (fun i y2 hi2 => ?_)
      rcases set_get hi2 with ⟨rfl, rfl⟩ | ⟨hne, hi3⟩
      · refine ⟨key_like a1 l1, { y with key := iv, val := xv }, ?_, hk, hpv, hpp⟩
        rw [Array.getElem?_modify, if_pos rfl, hy]
        rfl
      · obtain ⟨k1, z, k2, k3⟩ := h3 i y2 hi3
        refine ⟨k1, z, ?_, k3⟩
        rw [Array.getElem?_modify, if_neg (Ne.symm hne)]
        exact k2

theorem s_mkmap (hr : HR N L e W h w) {t : TypeId} : Good P N W L e h w (Instr.makeMap t none) (.map h.mp.length) { pushm := true } := by
  refine ⟨.map (some w.heap.size), w.alloc (.map #[] 0), L, e.pushMp w.heap.size, by simp [Instr.makeMap, Result.andThen], ?_, ?_⟩
  · have := Nx.newMap hr
    simpa [Tn.apply] using this
  · have : VR N L (e.pushMp w.heap.size) (w.alloc (.map #[] 0)) (.map e.nm) (.map (some ((e.pushMp w.heap.size).mp e.nm))) := .map _ (by simp [Emb.pushMp])
    rw [← hr.nm]
    simpa [Emb.pushMp, upd1] using this

end Go.Pv

/-
  One operation that is no call of a function: what the interpreter says of it, the machine does.
-/
namespace Go.Pv
variable {P : Program} {N M : Nat → Nat} {W : Nat → Prop} {L L' : Lx} {e e' : Emb} {h : Heap} {w w' : World} {g : Opd → V} {ρ : Operand → Value} {Φ : Nat → List PV → Option (List PV)} {Pr : Prims} {Tk : Nat → Bool}

abbrev nxv (s : Sem Value) : Sem Next := do pure (Next.value (← s))

/-- As 'Good', for what an operation does next. -/
def OpGood (P : Program) (N : Nat → Nat) (W : Nat → Prop) (L : Lx) (e : Emb) (h : Heap) (w : World) (s : Sem Next) (v : V) (t : Tn) : Prop :=
  ∃ nx v' w' L' e', s.run P w = .ok nx w' ∧ (nx = .value v' ∨ (nx = .skip ∧ v' = undef)) ∧ Nx N W L e w L' e' (t.apply h) w' ∧ VR N L' e' w' v v'

theorem Good.op {s : Sem Value} {v : V} {t : Tn} (hg : Good P N W L e h w s v t) : OpGood P N W L e h w (nxv s) v t := by
  obtain ⟨v', w', L', e', h1, h2, h3⟩ := hg
  exact ⟨.value v', v', w', L', e', by simp [h1], .inl rfl, h2, h3⟩

theorem Plain.op (hr : HR N L e W h w) {s : Sem Value} {v : V} {t : Tn} (hp : Plain P N L e w s v) (ht : t.apply h = h) : OpGood P N W L e h w (nxv s) v t := (hp.good hr ht).op

theorem Plain.op0 (hr : HR N L e W h w) {s : Sem Value} {v : V} (hp : Plain P N L e w s v) : OpGood P N W L e h w (nxv s) v {} := hp.op hr (Tn.apply_plain h none none none false false)

theorem OpGood.value (hr : HR N L e W h w) {s : Sem Next} {v : V} {v' : Value} (hs : s.run P w = .ok (.value v') w) (hv : VR N L e w v v') : OpGood P N W L e h w s v {} := by
  refine ⟨.value v', v', w, L, e, hs, .inl rfl, ?_, hv⟩
  have h0 : Tn.apply {} h = h := Tn.apply_plain h none none none false false
  rw [h0]
  exact Nx.refl hr

theorem trOpd_args (hO : OR N M L e w g ρ) : ∀ {xs : List Operand} {ys : List Opd}, mapO (trOpd N M) xs = some ys → ys.length = xs.length ∧ ∀ (j : Nat) (y : Opd), ys[j]? = some y → ∃ x, xs[j]? = some x ∧ VR N L e w (g y) (ρ x) := by
  intro xs ys hm
  refine ⟨mapO_len hm, fun j y hj => ?_⟩
  obtain ⟨x, h1, h2⟩ := mapO_get hm j y hj
  exact ⟨x, h1, hO x y h2⟩

theorem len_args {at_ : Array TypeId} {t ty : TypeId} (ha : at_[0]? = some t) (args : Array Value) : Builtin.len_ at_ ty args = Builtin.len_ #[t] ty args := by
  simp [Builtin.len_, ha]

theorem clear_args {at_ : Array TypeId} {t ty : TypeId} (ha : at_[0]? = some t) (args : Array Value) : Builtin.clear_ at_ ty args = Builtin.clear_ #[t] 0 args := by
  simp [Builtin.clear_, ha]

def isCall : AOp → Bool
  | .call _ _ => true
  | _ => false

/-- What a builtin's operation does. -/
theorem builtin_run {c : Call} {b : Builtin} (hc : c.callee = .builtin b) {ty : TypeId} {s : Sem Value}
    (hb : ∀ consts, builtin b c.argTypes ty consts (c.args.map ρ) = nxv s) :
    (do let d ← resolve ρ c ty; invoke d.target d.args : Sem Next).run P w = (nxv s).run P w := by
  simp only [resolve, hc, Sem.run_bind, Sem.run_pure, Result.andThen_ok, invoke]
  exact (congrArg (fun q => Sem.run P q w) (hb _)).trans (by simp [nxv])

theorem OpGood.of_run {s s' : Sem Next} {v : V} {t : Tn} (hs : s.run P w = s'.run P w) (hg : OpGood P N W L e h w s' v t) : OpGood P N W L e h w s v t := by
  obtain ⟨nx, v', w', L', e', h1, h2⟩ := hg
  exact ⟨nx, v', w', L', e', hs.trans h1, h2⟩

theorem trOpd_some {x : Operand} {f : Opd → AOp} {q : AOp} (hh : (trOpd N M x).map f = some q) : ∃ y, trOpd N M x = some y ∧ q = f y := by
  cases hx : trOpd N M x with
  | none => simp [hx] at hh
  | some y => simp [hx] at hh; exact ⟨y, rfl, hh.symm⟩

theorem map_some {α β : Type} {x : Option α} {f : α → β} {q : β} (hh : x.map f = some q) : ∃ y, x = some y ∧ q = f y := by
  cases x with
  | none => simp at hh
  | some y => simp at hh; exact ⟨y, rfl, hh.symm⟩

theorem nilck_run (hO : OR N M L e w g ρ) (hr : HR N L e W h w) {o : Oper} {x : Operand} {y : Opd} (ho : o.op = .nilCheck x) (hx : trOpd N M x = some y) {v : V} {tn : Tn}
    (he : evalOp Φ Pr Tk g h (.nilck y) = some (v, tn)) : OpGood P N W L e h w (execOp ρ o) v tn := by
  have hv := hO x y hx
  simp only [evalOp] at he
  split at he <;> first | (cases he; done) | skip
  · rename_i f cap hg
    injection he with he; injection he with e1 e2; subst e1; subst e2
    rw [hg] at hv
    generalize hrho : ρ x = rv at hv
    cases hv with
    | func _ _ arr hs hvv => exact OpGood.value hr (by simp [execOp, ho, hrho]) (.func f cap arr hs hvv)
  · rename_i f cap hg
    injection he with he; injection he with e1 e2; subst e1; subst e2
    rw [hg] at hv
    generalize hrho : ρ x = rv at hv
    cases hv with
    | pv _ _ hp =>
      cases hp with
      | func _ _ arr hs hvv => exact OpGood.value hr (by simp [execOp, ho, hrho]) (.pv _ _ (.func f cap arr hs hvv))
  · rename_i s off hg
    injection he with he; injection he with e1 e2; subst e1; subst e2
    rw [hg] at hv
    generalize hrho : ρ x = rv at hv
    cases hv with
    | ptr _ _ hs => exact OpGood.value hr (by simp [execOp, ho, hrho]) (.ptr s off hs)
  · rename_i t cs hg
    injection he with he; injection he with e1 e2; subst e1; subst e2
    rw [hg] at hv
    generalize hrho : ρ x = rv at hv
    cases hv with
    | pv _ _ hp =>
      have hp' := hp
      cases hp with
      | ro _ _ b off vs ha hcell hvv h1 => exact OpGood.value hr (by simp [execOp, ho, hrho]) (.pv _ _ hp')
  · rename_i i vr r c hg
    injection he with he; injection he with e1 e2; subst e1; subst e2
    rw [hg] at hv
    generalize hrho : ρ x = rv at hv
    cases hv with
    | aptr _ _ _ _ a h1 h2 h3 => exact OpGood.value hr (by simp [execOp, ho, hrho]) (.aptr i vr r c a h1 h2 h3)

theorem minmax_sound (isMax : Bool) (hO : OR N M L e w g ρ) {xs : Array Operand} {ys : List Opd} (hm : mapO (trOpd N M) xs.toList = some ys) {v : V} {tn : Tn}
    (he : evalOp Φ Pr Tk g h (.minmax isMax ys) = some (v, tn)) : ∃ _v0 : V, tn = {} ∧ ∀ at_ ty, (isMax = false → Plain P N L e w (Builtin.min_ at_ ty (xs.map ρ)) v) ∧ (isMax = true → Plain P N L e w (Builtin.max_ at_ ty (xs.map ρ)) v) := by
  simp only [evalOp] at he
  split at he <;> first | (cases he; done) | skip
  rename_i k a r hg
  split at he <;> first | (cases he; done) | skip
  rename_i n hn
  injection he with he; injection he with e1 e2; subst e1; subst e2
  refine ⟨.any, rfl, fun at_ ty => ?_⟩
  obtain ⟨k1, k2⟩ := trOpd_args hO hm
  match ys, hg with
  | y0 :: ys, hg =>
    simp only [List.map_cons, List.cons.injEq] at hg
    obtain ⟨hg0, hgr⟩ := hg
    match hxs : xs.toList, k1 with
    | x0 :: xr, k1 =>
      obtain ⟨x, hx1, hx2⟩ := k2 0 y0 rfl
      rw [hxs] at hx1
      simp at hx1
      subst hx1
      rw [hg0] at hx2
      have hx0 := hx2.int
      have hl : (xs.map ρ).toList = .int k a :: xr.map ρ := by rw [Array.toList_map, hxs, List.map_cons, hx0]
      have hrest : ∀ (j : Nat) (c : V), r[j]? = some c → ∃ v, (xr.map ρ)[j]? = some v ∧ VR N L e w c v := by
        intro j c hj
        rw [← hgr, List.getElem?_map] at hj
        cases hyj : ys[j]? with
        | none => simp [hyj] at hj
        | some y =>
          simp [hyj] at hj
          subst hj
          obtain ⟨x, h1, h2⟩ := k2 (j + 1) y (by simpa using hyj)
          rw [hxs] at h1
          exact ⟨ρ x, by simp at h1 ⊢; exact ⟨x, h1, rfl⟩, h2⟩
      have hlen : (xr.map ρ).length = r.length := by
        rw [← hgr]
        simp at k1 ⊢
        exact k1.symm
      have := minmax_run (P := P) isMax k r (xr.map ρ) a n hrest hlen hn
      refine ⟨fun hm => ?_, fun hm => ?_⟩
      · subst hm
        exact plain_int _ _ (by simp only [Builtin.min_, hl]; simpa using this)
      · subst hm
        exact plain_int _ _ (by simp only [Builtin.max_, hl]; simpa using this)

/-- The dispatcher for what is no call. -/
theorem op_sound (hr : HR N L e W h w) (hO : OR N M L e w g ρ) {o : Oper} {q : AOp} (ht : trOp P N M o.dst o.op = some q) (hnc : isCall q = false) {v : V} {tn : Tn}
    (he : evalOp Φ Pr Tk g h q = some (v, tn)) : OpGood P N W L e h w (execOp ρ o) v tn := by
  cases hop : o.op with
  | move x =>
    rw [hop] at ht
    obtain ⟨y, h1, rfl⟩ := trOpd_some ht
    simp [evalOp] at he
    obtain ⟨rfl, rfl⟩ := he
    exact OpGood.value hr (by simp only [execOp, hop]; rfl) (hO x y h1)
  | assign x =>
    rw [hop] at ht
    obtain ⟨y, h1, rfl⟩ := trOpd_some ht
    simp [evalOp] at he
    obtain ⟨rfl, rfl⟩ := he
    exact OpGood.value hr (by simp only [execOp, hop]; rfl) (hO x y h1)
  | pick c a b =>
    rw [hop] at ht
    simp only [trOp] at ht
    split at ht <;> first | (cases ht; done) | skip
    rename_i c' a' b' h1 h2 h3
    injection ht with ht
    subst ht
    simp only [evalOp] at he
    have hc := hO c c' h1
    split at he <;> first | (cases he; done) | skip
    · rename_i hg
      rw [hg] at hc
      have hb := hc.bool
      simp at he
      obtain ⟨rfl, rfl⟩ := he
      exact OpGood.value hr (v' := ρ a) (by simp [execOp, hop, hb, asBool]) (hO a a' h2)
    · rename_i hg
      rw [hg] at hc
      have hb := hc.bool
      simp at he
      obtain ⟨rfl, rfl⟩ := he
      exact OpGood.value hr (v' := ρ b) (by simp [execOp, hop, hb, asBool]) (hO b b' h3)
  | alloc t =>
    rw [hop] at ht
    simp only [trOp] at ht
    split at ht <;> first | (cases ht; done) | skip
    rename_i z d hz hd
    split at ht <;> first | (cases ht; done) | skip
    rename_i hcalm
    injection ht with ht
    subst ht
    simp only [evalOp] at he
    split at he <;> first | (cases he; done) | skip
    rename_i hs
    injection he with he; injection he with e1 e2; subst e1; subst e2
    have := (s_alloc (P := P) hr hz hs hcalm).op
    simpa [execOp, hop] using this
  | box t x =>
    rw [hop] at ht
    simp only [trOp] at ht
    split at ht <;> first | (cases ht; done) | skip
    rename_i n _ y d hl hx hd
    injection ht with ht
    subst ht
    simp only [evalOp] at he
    split at he <;> first | (cases he; done) | skip
    rename_i hs
    split at he <;> first | (cases he; done) | skip
    rename_i hc
    injection he with he; injection he with e1 e2; subst e1; subst e2
    have := (s_box (P := P) (t := t) hr hs (hO x y hx) hc.1 hc.2).op
    simpa [execOp, hop] using this
  | build t parts =>
    rw [hop] at ht
    simp only [trOp] at ht
    split at ht
    · rename_i z fs hz hu
      split at ht <;> first | (cases ht; done) | skip
      rename_i l hl
      split at ht <;> first | (cases ht; done) | skip
      rename_i hall
      injection ht with ht
      subst ht
      simp only [evalOp] at he
      split at he <;> first | (cases he; done) | skip
      rename_i cs hf
      injection he with he; injection he with e1 e2; subst e1; subst e2
      have := (s_build1 (P := P) hO hz hu hall hl hf).op0 hr
      simpa [execOp, hop] using this
    · rename_i z len el hz hu
      split at ht <;> first | (cases ht; done) | skip
      rename_i k hk
      split at ht <;> first | (cases ht; done) | skip
      rename_i l hl
      injection ht with ht
      subst ht
      simp only [evalOp] at he
      split at he <;> first | (cases he; done) | skip
      rename_i cs hf
      injection he with he; injection he with e1 e2; subst e1; subst e2
      have := (s_build2 (P := P) hO hz hu hk hl hf).op0 hr
      simpa [execOp, hop] using this
    · cases ht
  | buildSlice t len parts =>
    rw [hop] at ht
    simp only [trOp] at ht
    split at ht <;> first | (cases ht; done) | skip
    rename_i el k hel
    split at ht <;> first | (cases ht; done) | skip
    rename_i z l hz hl
    split at ht <;> first | (cases ht; done) | skip
    rename_i hmost
    injection ht with ht
    subst ht
    simp only [evalOp] at he
    split at he <;> first | (cases he; done) | skip
    rename_i cs hf
    obtain ⟨k1, k2⟩ := s_lit (P := P) hr hO hel hz hmost hl hf
    split at he
    · rename_i rows hrows
      injection he with he; injection he with e1 e2; subst e1; subst e2
      have := (k1 rows hrows).op
      simpa [execOp, hop] using this
    · rename_i rows hrows
      split at he <;> first | (cases he; done) | skip
      rename_i hcalm
      injection he with he; injection he with e1 e2; subst e1; subst e2
      have := (k2 rows hrows hcalm).op
      simpa [execOp, hop] using this
  | load t x =>
    rw [hop] at ht
    simp only [trOp] at ht
    split at ht <;> first | (cases ht; done) | skip
    rename_i n a y hl hx
    injection ht with ht
    subst ht
    simp only [evalOp] at he
    split at he <;> first | (cases he; done) | skip
    rename_i cs t' hla
    split at he <;> first | (cases he; done) | skip
    rename_i v0 hcv
    injection he with he; injection he with e1 e2; subst e1; subst e2
    obtain ⟨a1, a2, b, off, a3, a4⟩ := loadAt_spec hr (hO x y hx) hla
    obtain ⟨v', r1, r2⟩ := load_run (P := P) hl a2 a4 hcv
    have hp : Plain P N L e w (Instr.loadAt t (ρ x)) v0 := ⟨v', by rw [a3]; simpa [Instr.loadAt, Instr.sureAddr] using r1, r2⟩
    have := hp.op hr a1
    simpa [execOp, hop] using this
  | store t x y =>
    rw [hop] at ht
    simp only [trOp] at ht
    split at ht <;> first | (cases ht; done) | skip
    rename_i n a x' y' hl hx hy
    injection ht with ht
    subst ht
    simp only [evalOp] at he
    split at he <;> first | (cases he; done) | skip
    rename_i hn
    split at he <;> first | (cases he; done) | skip
    rename_i t' hst
    injection he with he; injection he with e1 e2; subst e1; subst e2
    obtain ⟨w', L', e', r1, r2⟩ := s_store (P := P) hr (loadT_spec hl).2.1 (hO x x' hx) (hO y y' hy) hn hst
    exact ⟨.skip, undef, w', L', e', by simp [execOp, hop, r1], .inr ⟨rfl, rfl⟩, r2, .any _⟩
  | nilCheck x =>
    rw [hop] at ht
    obtain ⟨y, h1, rfl⟩ := trOpd_some ht
    exact nilck_run hO hr hop h1 he
  | binOp op t x y yt =>
    rw [hop] at ht
    simp only [trOp] at ht
    split at ht <;> first | (cases ht; done) | skip
    rename_i x' y' hx hy
    have hbin : ∀ {v0 : V}, binV op (g x') (g y') = some v0 → OpGood P N W L e h w (execOp ρ o) v0 {} := by
      intro v0 hb
      have hgd := eqGuard_bin (P := P) (t := t) (x := x) (y := y) (hO x x' hx) (hO y y' hy) hb
      obtain ⟨v', r1, r2⟩ := s_bin (P := P) (t := t) (hO x x' hx) (hO y y' hy) hb
      refine OpGood.value hr (v' := v') ?_ r2
      simp [execOp, hop, hgd, r1]
    split at ht
    · injection ht with ht
      subst ht
      simp only [evalOp] at he
      obtain ⟨v0, h1, h2⟩ := map_some he
      injection h2 with e1 e2; subst e1; subst e2
      exact hbin h1
    · injection ht with ht
      subst ht
      simp only [evalOp] at he
      obtain ⟨v0, h1, h2⟩ := map_some he
      injection h2 with e1 e2; subst e1; subst e2
      exact hbin h1
    · rename_i hni hns
      split at ht <;> first | (cases ht; done) | skip
      rename_i ag ks hc
      split at ht <;> first | (cases ht; done) | skip
      rename_i hop2
      injection ht with ht
      subst ht
      simp only [evalOp] at he
      split at he <;> first | (cases he; done) | skip
      rename_i a b ha hb
      split at he <;> first | (cases he; done) | skip
      rename_i r hre
      injection he with he; injection he with e1 e2; subst e1; subst e2
      obtain ⟨g1, g2, g3⟩ := s_eqa (P := P) hc (hO x x' hx) (hO y y' hy) ha hb hre x y
      obtain ⟨g4, g5⟩ := g3 (fun k hk => hni k hk) (fun hk => hns hk)
      rcases hop2 with rfl | rfl
      · exact OpGood.value hr (v' := .bool r) (by simp [execOp, hop, g1, g4]) (.pv _ _ (by simpa using PVR.bool r))
      · exact OpGood.value hr (v' := .bool !r) (by simp [execOp, hop, g2, g5]) (.pv _ _ (by simpa using PVR.bool (!r)))
  | unOp op t x =>
    rw [hop] at ht
    obtain ⟨y, h1, rfl⟩ := trOpd_some ht
    simp only [evalOp] at he
    obtain ⟨v0, h2, h3⟩ := map_some he
    injection h3 with e1 e2; subst e1; subst e2
    have := (s_un (P := P) (hO x y h1) h2).op0 hr
    simpa [execOp, hop] using this
  | convert s d x =>
    rw [hop] at ht
    simp only [trOp] at ht
    split at ht
    · rename_i y k' k hx hs hd
      injection ht with ht
      subst ht
      simp only [evalOp] at he
      split at he <;> first | (cases he; done) | skip
      rename_i k0 n hg
      injection he with he; injection he with e1 e2; subst e1; subst e2
      have hx' := hO x y hx
      rw [hg] at hx'
      have := (s_conv (P := P) hs hd hx').op0 hr
      simpa [execOp, hop] using this
    · rename_i y k' hx hs hd
      injection ht with ht
      subst ht
      simp only [evalOp] at he
      have hx' := hO x y hx
      split at he <;> first | (cases he; done) | skip
      · rename_i b hg
        injection he with he; injection he with e1 e2; subst e1; subst e2
        rw [hg] at hx'
        have := (s_convs2 (P := P) hs hd hx').op0 hr
        simpa [execOp, hop] using this
      · rename_i k0 n hg
        injection he with he; injection he with e1 e2; subst e1; subst e2
        rw [hg] at hx'
        have := (s_convs1 (P := P) hs hd hx').op0 hr
        simpa [execOp, hop] using this
    · rename_i y hx hs hd
      injection ht with ht
      subst ht
      simp only [evalOp] at he
      have hx' := hO x y hx
      split at he <;> first | (cases he; done) | skip
      · rename_i b hg
        injection he with he; injection he with e1 e2; subst e1; subst e2
        rw [hg] at hx'
        have := (s_convs2 (P := P) hs hd hx').op0 hr
        simpa [execOp, hop] using this
      · rename_i k0 n hg
        injection he with he; injection he with e1 e2; subst e1; subst e2
        rw [hg] at hx'
        have hxi := hx'.int
        have hp : Plain P N L e w (convert s d (ρ x)) (.pv (.str (Utf8.encode n))) := by
          rw [hxi]
          exact plain_str _ (by simp [convert, underlying, hs, hd, Conv.intToString])
        have := hp.op0 hr
        simpa [execOp, hop] using this
    · cases ht
  | makeFunc fn first cap =>
    rw [hop] at ht
    cases fn with
    | func f =>
      simp only [trOp] at ht
      split at ht <;> first | (cases ht; done) | skip
      rename_i l hl
      split at ht <;> first | (cases ht; done) | skip
      rename_i hc
      injection ht with ht
      subst ht
      simp only [evalOp] at he
      injection he with he; injection he with e1 e2; subst e1; subst e2
      obtain ⟨k1, k2⟩ := trOpd_args hO hl
      have hfirst : first = #[] := Array.eq_empty_of_size_eq_zero hc.2
      subst hfirst
      refine OpGood.value hr (v' := .func (.func (N (M f))) #[] (cap.map ρ)) ?_ (.func (M f) (l.map g) (cap.map ρ) (by simp [k1]) (fun j c hj => ?_))
      · rw [hc.1]
        simp [execOp, hop, Instr.makeFunc]
      · rw [List.getElem?_map] at hj
        cases hlj : l[j]? with
        | none => simp [hlj] at hj
        | some y =>
          simp [hlj] at hj
          subst hj
          obtain ⟨x, hx1, hx2⟩ := k2 j y hlj
          have : (cap.map ρ).getD j undef = ρ x := by
            apply arr_getD_toList
            simp [Array.getElem?_toList] at hx1 ⊢
            exact ⟨x, hx1, rfl⟩
          rw [this]
          exact hx2
    | _ => simp [trOp] at ht
  | makeMap t r =>
    rw [hop] at ht
    cases r with
    | none =>
      simp only [trOp] at ht
      injection ht with ht
      subst ht
      simp only [evalOp] at he
      injection he with he; injection he with e1 e2; subst e1; subst e2
      have := (s_mkmap (P := P) hr (t := t)).op
      simpa [execOp, hop] using this
    | some r => simp [trOp] at ht
  | makeSlice t n c =>
    rw [hop] at ht
    simp only [trOp] at ht
    split at ht <;> first | (cases ht; done) | skip
    rename_i el k hel
    split at ht <;> first | (cases ht; done) | skip
    rename_i z n' c' hz hn hc
    split at ht <;> first | (cases ht; done) | skip
    rename_i hcalm
    injection ht with ht
    subst ht
    simp only [evalOp] at he
    split at he <;> first | (cases he; done) | skip
    rename_i a b ha hb
    split at he <;> first | (cases he; done) | skip
    rename_i hab
    injection he with he; injection he with e1 e2; subst e1; subst e2
    have := (s_make (P := P) hr hel hz hcalm (hO n n' hn) (hO c c' hc) ha hb hab.1 hab.2.1 hab.2.2).op
    simpa [execOp, hop] using this
  | slice t x lo hi mx =>
    rw [hop] at ht
    simp only [trOp] at ht
    split at ht <;> first | (cases ht; done) | skip
    rename_i x' lo' hi' mx' hx hlo hhi hmx
    split at ht
    · rename_i hu
      split at ht <;> first | (cases ht; done) | skip
      injection ht with ht
      subst ht
      simp only [evalOp] at he
      obtain ⟨v0, h2, h3⟩ := map_some he
      injection h3 with e1 e2; subst e1; subst e2
      have hmx0 : mx = none := by
        cases mx with
        | none => rfl
        | some m =>
          simp only [trOpt] at hmx
          split at hmx <;> simp at hmx
      subst hmx0
      have := (s_sls (P := P) hO hlo hhi hu (hO x x' hx) h2).op0 hr
      simpa [execOp, hop] using this
    · rename_i el hu
      split at ht <;> first | (cases ht; done) | skip
      rename_i k hk
      have hq : q = .sl k x' lo' hi' mx' ∧ (∀ y, mx' = some y → hi' ≠ none) := by
        split at ht
        · cases ht
        · rename_i hne
          injection ht with ht
          refine ⟨ht.symm, fun y hy hn => ?_⟩
          exact hne y hy hn
      obtain ⟨rfl, hnn⟩ := hq
      simp only [evalOp] at he
      obtain ⟨k1, k2⟩ := s_slice (P := P) hr hO hlo hhi hmx hnn hu hk (hO x x' hx) he
      have := k1.op hr k2
      simpa [execOp, hop] using this
    · cases ht
  | fieldAddr t x i =>
    rw [hop] at ht
    simp only [trOp] at ht
    split at ht <;> first | (cases ht; done) | skip
    rename_i fs y hu hx
    split at ht <;> first | (cases ht; done) | skip
    rename_i f hf
    split at ht <;> first | (cases ht; done) | skip
    rename_i n hn
    split at ht <;> first | (cases ht; done) | skip
    rename_i hn0
    injection ht with ht
    subst ht
    simp only [evalOp] at he
    obtain ⟨v0, h2, h3⟩ := map_some he
    injection h3 with e1 e2; subst e1; subst e2
    have := (s_fieldAddr (P := P) hu hf hn hn0 (hO x y hx) h2).op0 hr
    simpa [execOp, hop] using this
  | field t x i =>
    rw [hop] at ht
    simp only [trOp] at ht
    split at ht <;> first | (cases ht; done) | skip
    rename_i fs y hu hx
    split at ht <;> first | (cases ht; done) | skip
    rename_i f hf
    split at ht <;> first | (cases ht; done) | skip
    rename_i n a hl
    injection ht with ht
    subst ht
    simp only [evalOp] at he
    split at he <;> first | (cases he; done) | skip
    rename_i cs hg
    split at he <;> first | (cases he; done) | skip
    rename_i l htk
    obtain ⟨v0, h2, h3⟩ := map_some he
    injection h3 with e1 e2; subst e1; subst e2
    have hx' := hO x y hx
    rw [hg] at hx'
    have := (s_part (P := P) hu hf hl hx' htk h2).op0 hr
    simpa [execOp, hop] using this
  | indexAddr t x i =>
    rw [hop] at ht
    simp only [trOp] at ht
    split at ht
    · rename_i x' i' el hx hi hu
      split at ht <;> first | (cases ht; done) | skip
      rename_i k hk
      injection ht with ht
      subst ht
      simp only [evalOp] at he
      obtain ⟨k1, k2⟩ := s_idx (P := P) hr hu hk (hO x x' hx) (hO i i' hi) he
      have := k1.op hr k2
      simpa [execOp, hop] using this
    · rename_i x' i' n el hx hi hu
      split at ht <;> first | (cases ht; done) | skip
      rename_i k hk
      injection ht with ht
      subst ht
      simp only [evalOp] at he
      split at he <;> first | (cases he; done) | skip
      rename_i j hj
      obtain ⟨v0, h2, h3⟩ := map_some he
      injection h3 with e1 e2; subst e1; subst e2
      have := (s_idxa (P := P) hu hk (hO x x' hx) (hO i i' hi) hj h2).op0 hr
      simpa [execOp, hop] using this
    · cases ht
  | index t x i =>
    rw [hop] at ht
    simp only [trOp] at ht
    split at ht
    · rename_i x' i' n el hx hi hu
      split at ht <;> first | (cases ht; done) | skip
      rename_i k a k' hl hk
      injection ht with ht
      subst ht
      simp only [evalOp] at he
      split at he <;> first | (cases he; done) | skip
      rename_i j hj
      split at he <;> first | (cases he; done) | skip
      rename_i cs hg
      split at he <;> first | (cases he; done) | skip
      rename_i l htk
      obtain ⟨v0, h2, h3⟩ := map_some he
      injection h3 with e1 e2; subst e1; subst e2
      have hx' := hO x x' hx
      rw [hg] at hx'
      have := (s_ixa (P := P) hu hl hx' (hO i i' hi) hj htk h2).op0 hr
      simpa [execOp, hop] using this
    · rename_i x' i' hx hi hu
      injection ht with ht
      subst ht
      simp only [evalOp] at he
      split at he <;> first | (cases he; done) | skip
      rename_i s hg
      split at he <;> first | (cases he; done) | skip
      rename_i j hj
      split at he <;> first | (cases he; done) | skip
      rename_i b hb
      injection he with he; injection he with e1 e2; subst e1; subst e2
      have hx' := hO x x' hx
      rw [hg] at hx'
      have := (s_ixs (P := P) hu hx' (hO i i' hi) hj hb).op0 hr
      simpa [execOp, hop] using this
    · cases ht
  | lookup t x i ok =>
    rw [hop] at ht
    simp only [trOp] at ht
    split at ht <;> first | (cases ht; done) | skip
    rename_i x' i' k el hx hi hu
    split at ht <;> first | (cases ht; done) | skip
    rename_i z ag ks hz hc
    injection ht with ht
    subst ht
    simp only [evalOp] at he
    split at he <;> first | (cases he; done) | skip
    rename_i kq hkq
    split at he <;> first | (cases he; done) | skip
    rename_i m hm0
    have hm : mapAt h (g x') = some m := by rw [← hm0]; cases g x' <;> rfl
    split at he <;> first | (cases he; done) | skip
    rename_i r hf
    have hp := s_look (P := P) hr hu hz hc (hO x x' hx) (hO i i' hi) hkq hm hf ok
    injection he with he; injection he with e1 e2
    have ev : (if ok then .tup [lookVal z r, .pv (.bool r.isSome)] else lookVal z r) = v := by
      rw [← e1]
      cases r with
      | none => rfl
      | some jp => obtain ⟨j, p⟩ := jp; rfl
    rw [ev] at hp
    have htn : tn.apply h = h := by
      subst e2
      cases hgx : g x' <;> exact Tn.apply_plain h _ _ _ _ _
    have := hp.op hr htn
    simpa [execOp, hop] using this
  | mapUpdate t m k x =>
    rw [hop] at ht
    simp only [trOp] at ht
    split at ht <;> first | (cases ht; done) | skip
    rename_i m' k' x' kt el hm hk hx hu
    split at ht <;> first | (cases ht; done) | skip
    rename_i ag ks hc
    injection ht with ht
    subst ht
    simp only [evalOp] at he
    split at he <;> first | (cases he; done) | skip
    rename_i id kq p hgm hkq hp
    split at he <;> first | (cases he; done) | skip
    rename_i l hl
    have hm' := hO m m' hm
    rw [hgm] at hm'
    split at he <;> first | (cases he; done) | skip
    · rename_i j p0 hf
      injection he with he; injection he with e1 e2; subst e1; subst e2
      obtain ⟨w', r1, r2⟩ := s_upd (P := P) hr hu hc hm' (hO k k' hk) (hO x x' hx) hkq hp hl hf
      exact ⟨.skip, undef, w', L, e, by simp [execOp, hop, r1], .inr ⟨rfl, rfl⟩, r2, .any _⟩
    · rename_i hf
      injection he with he; injection he with e1 e2; subst e1; subst e2
      obtain ⟨w', r1, r2⟩ := s_upd (P := P) hr hu hc hm' (hO k k' hk) (hO x x' hx) hkq hp hl hf
      exact ⟨.skip, undef, w', L, e, by simp [execOp, hop, r1], .inr ⟨rfl, rfl⟩, r2, .any _⟩
  | insert t m k x =>
    rw [hop] at ht
    simp only [trOp] at ht
    split at ht <;> first | (cases ht; done) | skip
    rename_i m' k' x' kt el hm hk hx hu
    split at ht <;> first | (cases ht; done) | skip
    rename_i ag ks hc
    injection ht with ht
    subst ht
    simp only [evalOp] at he
    split at he <;> first | (cases he; done) | skip
    rename_i id kq p hgm hkq hp
    split at he <;> first | (cases he; done) | skip
    rename_i l hl
    have hm' := hO m m' hm
    rw [hgm] at hm'
    split at he <;> first | (cases he; done) | skip
    · rename_i j p0 hf
      injection he with he; injection he with e1 e2; subst e1; subst e2
      obtain ⟨w', r1, r2⟩ := s_upd (P := P) hr hu hc hm' (hO k k' hk) (hO x x' hx) hkq hp hl hf
      exact ⟨.skip, undef, w', L, e, by simp [execOp, hop, r1], .inr ⟨rfl, rfl⟩, r2, .any _⟩
    · rename_i hf
      injection he with he; injection he with e1 e2; subst e1; subst e2
      obtain ⟨w', r1, r2⟩ := s_upd (P := P) hr hu hc hm' (hO k k' hk) (hO x x' hx) hkq hp hl hf
      exact ⟨.skip, undef, w', L, e, by simp [execOp, hop, r1], .inr ⟨rfl, rfl⟩, r2, .any _⟩
  | extract x i =>
    rw [hop] at ht
    obtain ⟨y, h1, rfl⟩ := trOpd_some ht
    simp only [evalOp] at he
    split at he <;> first | (cases he; done) | skip
    rename_i vs hg
    split at he <;> first | (cases he; done) | skip
    rename_i v0 hv
    injection he with he; injection he with e1 e2; subst e1; subst e2
    have hx' := hO x y h1
    rw [hg] at hx'
    have := (s_ext (P := P) hx' hv).op0 hr
    simpa [execOp, hop] using this
  | call c =>
    rw [hop] at ht
    simp only [trOp] at ht
    have hex : execOp ρ o = (do let d ← resolve ρ c o.type; invoke d.target d.args) := by simp only [execOp, hop]
    split at ht
    · split at ht <;> first | (cases ht; done) | skip
      injection ht with ht
      subst ht
      simp [isCall] at hnc
    · rename_i y hce hargs
      obtain ⟨xs, hxs, hvx⟩ : ∃ x, c.args = #[x] ∧ VR N L e w (g y) (ρ x) := by
        obtain ⟨k1, k2⟩ := trOpd_args hO hargs
        obtain ⟨x, h1, h2⟩ := k2 0 y rfl
        match hc : c.args, k1 with
        | ⟨[x']⟩, _ => simp [hc] at h1; subst h1; exact ⟨_, rfl, h2⟩
      have hmapargs : c.args.map ρ = #[ρ xs] := by rw [hxs]; simp
      cases ha : c.argTypes[0]? with
      | none => simp [ha] at ht
      | some t =>
        have hb : ∀ consts, builtin .len c.argTypes o.type consts (c.args.map ρ) = nxv (Builtin.len_ #[t] o.type #[ρ xs]) := fun consts => by
          simp only [builtin]; rw [len_args ha, hmapargs]
        rw [hex]
        refine OpGood.of_run (builtin_run hce hb) ?_
        simp only [ha, Option.bind_some] at ht
        have key : ∀ kd, q = .len kd y → (∀ {n : Nat} {tn : Tn}, lenV h kd (g y) = some (n, tn) → (Builtin.len_ #[t] o.type #[ρ xs]).run P w = .ok (goInt n) w ∧ tn.apply h = h) → OpGood P N W L e h w (nxv (Builtin.len_ #[t] o.type #[ρ xs])) v tn := by
          intro kd hq hrun
          subst hq
          simp only [evalOp] at he
          split at he <;> first | (cases he; done) | skip
          rename_i n t' hl
          injection he with he; injection he with e1 e2; subst e1; subst e2
          obtain ⟨r1, r2⟩ := hrun hl
          have hp : Plain P N L e w (Builtin.len_ #[t] o.type #[ρ xs]) (.pv (.int .i64 n)) := ⟨_, r1, .pv _ _ (by simpa [goInt] using PVR.int IntKind.i64 n)⟩
          exact hp.op hr r2
        split at ht <;> first | (cases ht; done) | skip
        · rename_i hu
          injection ht with ht
          exact key 1 ht.symm (fun hl => s_len1 hu hvx hl)
        · rename_i hu
          injection ht with ht
          exact key 0 ht.symm (fun hl => s_len0 hu hvx hl)
        · rename_i hu
          injection ht with ht
          exact key 2 ht.symm (fun hl => s_len2 hr hu hvx hl)
    · rename_i x' y' hce hargs
      obtain ⟨x, y, hxs, hvx, hvy⟩ : ∃ x y, c.args = #[x, y] ∧ VR N L e w (g x') (ρ x) ∧ VR N L e w (g y') (ρ y) := by
        obtain ⟨k1, k2⟩ := trOpd_args hO hargs
        obtain ⟨x, h1, h2⟩ := k2 0 x' rfl
        obtain ⟨y, h3, h4⟩ := k2 1 y' rfl
        match hc : c.args, k1 with
        | ⟨[a, b]⟩, _ => simp [hc] at h1 h3; subst h1; subst h3; exact ⟨_, _, rfl, h2, h4⟩
      split at ht <;> first | (cases ht; done) | skip
      rename_i t ha
      split at ht <;> first | (cases ht; done) | skip
      rename_i el k hel
      split at ht <;> first | (cases ht; done) | skip
      rename_i hat
      injection ht with ht
      subst ht
      simp only [evalOp] at he
      have hb : ∀ consts, builtin .append c.argTypes o.type consts (c.args.map ρ) = nxv (Builtin.append_ #[t, t] o.type #[ρ x, ρ y]) := fun consts => by
        simp only [builtin]; rw [hat, hxs]; simp
      rw [hex]
      exact OpGood.of_run (builtin_run hce hb) (s_app hr hel hvx hvy he).op
    · rename_i y hce hargs
      obtain ⟨xs, hxs, hvx⟩ : ∃ x, c.args = #[x] ∧ VR N L e w (g y) (ρ x) := by
        obtain ⟨k1, k2⟩ := trOpd_args hO hargs
        obtain ⟨x, h1, h2⟩ := k2 0 y rfl
        match hc : c.args, k1 with
        | ⟨[x']⟩, _ => simp [hc] at h1; subst h1; exact ⟨_, rfl, h2⟩
      have hmapargs : c.args.map ρ = #[ρ xs] := by rw [hxs]; simp
      cases ha : c.argTypes[0]? with
      | none => simp [ha] at ht
      | some t =>
        simp only [ha, Option.bind_some] at ht
        split at ht <;> first | (cases ht; done) | skip
        rename_i el k hel
        split at ht <;> first | (cases ht; done) | skip
        rename_i z hz
        injection ht with ht
        subst ht
        have hb : ∀ consts, builtin .clear c.argTypes o.type consts (c.args.map ρ) = nxv (Builtin.clear_ #[t] 0 #[ρ xs]) := fun consts => by
          simp only [builtin]; rw [clear_args ha, hmapargs]
        rw [hex]
        refine OpGood.of_run (builtin_run hce hb) ?_
        obtain ⟨k1, k2, k3⟩ := s_clr (P := P) hr hel hz hvx
        simp only [evalOp] at he
        split at he <;> first | (cases he; done) | skip
        · rename_i tg hg
          injection he with he; injection he with e1 e2; subst e1; subst e2
          exact (k1 tg hg).op
        · rename_i hg
          injection he with he; injection he with e1 e2; subst e1; subst e2
          exact (k2 hg).op
        · rename_i id ver off len hg
          split at he <;> first | (cases he; done) | skip
          rename_i a zp ho hzp
          split at he <;> first | (cases he; done) | skip
          rename_i rows hbody
          split at he <;> first | (cases he; done) | skip
          rename_i hcond
          injection he with he; injection he with e1 e2; subst e1; subst e2
          exact (k3 id ver off len a zp rows hg ho hzp hbody hcond.1 hcond.2).op
    · rename_i x' y' hce hargs
      obtain ⟨x, y, hxs, hvx, hvy⟩ : ∃ x y, c.args = #[x, y] ∧ VR N L e w (g x') (ρ x) ∧ VR N L e w (g y') (ρ y) := by
        obtain ⟨k1, k2⟩ := trOpd_args hO hargs
        obtain ⟨x, h1, h2⟩ := k2 0 x' rfl
        obtain ⟨y, h3, h4⟩ := k2 1 y' rfl
        match hc : c.args, k1 with
        | ⟨[a, b]⟩, _ => simp [hc] at h1 h3; subst h1; subst h3; exact ⟨_, _, rfl, h2, h4⟩
      split at ht <;> first | (cases ht; done) | skip
      rename_i t ha
      split at ht <;> first | (cases ht; done) | skip
      rename_i el k hel
      split at ht <;> first | (cases ht; done) | skip
      rename_i hat
      injection ht with ht
      subst ht
      simp only [evalOp] at he
      have hb : ∀ consts, builtin .copy c.argTypes o.type consts (c.args.map ρ) = nxv (Builtin.copy_ #[t, t] o.type #[ρ x, ρ y]) := fun consts => by
        simp only [builtin]; rw [hat, hxs]; simp
      rw [hex]
      exact OpGood.of_run (builtin_run hce hb) (s_copy hr hel hvx hvy he).op
    · rename_i args hce hargs
      injection ht with ht
      subst ht
      rw [hex]
      obtain ⟨_, rfl, hp⟩ := minmax_sound (P := P) false hO hargs he
      have hb : ∀ consts, builtin .min c.argTypes o.type consts (c.args.map ρ) = nxv (Builtin.min_ c.argTypes o.type (c.args.map ρ)) := fun consts => rfl
      refine OpGood.of_run (builtin_run hce hb) ?_
      exact Plain.op0 hr ((hp c.argTypes o.type).1 rfl)
    · rename_i args hce hargs
      injection ht with ht
      subst ht
      rw [hex]
      obtain ⟨_, rfl, hp⟩ := minmax_sound (P := P) true hO hargs he
      have hb : ∀ consts, builtin .max c.argTypes o.type consts (c.args.map ρ) = nxv (Builtin.max_ c.argTypes o.type (c.args.map ρ)) := fun consts => rfl
      refine OpGood.of_run (builtin_run hce hb) ?_
      exact Plain.op0 hr ((hp c.argTypes o.type).2 rfl)
    · cases ht
  | panic x => rw [hop] at ht; simp only [trOp] at ht; injection ht with ht; subst ht; simp [evalOp] at he
  | makeInterface t x => rw [hop] at ht; simp only [trOp] at ht; injection ht with ht; subst ht; simp [evalOp] at he
  | _ => rw [hop] at ht; simp [trOp] at ht

end Go.Pv

/-
  What a call is lent, and what it gives back.
-/
namespace Go.Pv
variable {P : Program} {N M : Nat → Nat} {W : Nat → Prop} {L L' : Lx} {e e' : Emb} {h : Heap} {w w' : World} {g : Opd → V} {ρ : Operand → Value}

theorem own_len {id ver off len : Nat} {v : Value} (hx : VR N L e w (.own id ver off len) v) : ∃ A cap, v = .slice A len cap := by
  cases hx with
  | own _ _ _ _ A cap => exact ⟨A, cap, rfl⟩

/-- A slice of the call's own, read as one that is not written to. -/
theorem own_lst (hr : HR N L e W h w) {id ver off len cap : Nat} {A : Option Addr} (hx : VR N L e w (.own id ver off len) (.slice A len cap)) {a : Arr} (ho : ownArr h id ver = some a) {l : List (List PV)} {t : Nat}
    (hlen : l.length = (rowsOf (cutRows off len a.body)).length)
    (hrow : ∀ (i : Nat) (r : List PV), l[i]? = some r → ∃ q : List V, (rowsOf (cutRows off len a.body))[i]? = some q ∧ r.length = q.length ∧
      ∀ (j : Nat) (c : PV), r[j]? = some c → ∃ x, q[j]? = some x ∧ ∀ v, x.calm = true → VR N L e w x v → PVR N L' w c v ∧ c.calm = true ∧ (t ≤ 1 → c.perm = true))
    (hl : a.k ≠ 0 → lentAt L' t (e.ar id)) : PVR N L' w (.lst t l) (.slice A len cap) := by
  obtain ⟨ho1, ho2⟩ := ownArr_spec ho
  obtain ⟨v1, v2, v3, v4⟩ := hr.ver id a ho1
  cases hx with
  | own _ _ _ _ _ _ h0 h1 h2 h3 =>
    obtain ⟨q1, q2, q3, q4⟩ := h3 (by omega)
    have hrl : (rowsOf (cutRows off len a.body)).length = len := by
      rw [rowsOf_cut]
      apply cut_full
      rw [← Arr.rows_of, Arr.rows_length, ← v3]
      exact q1
    have hll : l.length = len := hlen.trans hrl
    rw [← hll]
    by_cases hk : a.k = 0
    · have hrows := v4 hk
      have hsz : a.size = 0 := by rw [← Arr.rows_length, hrows]; rfl
      have hl0 : l = [] := List.eq_nil_of_length_eq_zero (by omega)
      subst hl0
      exact .lst t [] A default cap 0 (fun _ _ => undef) (by simp) (by simp) (by simp) (by simp [at2]) (by simp [at2]) (by simp [at2]) (by simp [at2])
    · obtain ⟨g1, g2, g3, g4, g5⟩ := hr.ar id a ho1 hk
      have cellq : ∀ (i j : Nat) (c : PV), at2 l i j = some c → ∃ x v, w.cell? ⟨e.ar id, e.ad id + off * e.ak id + (i * a.k + j), none⟩ = some v ∧ x.calm = true ∧ VR N L e w x v ∧ (∀ v, x.calm = true → VR N L e w x v → PVR N L' w c v ∧ c.calm = true ∧ (t ≤ 1 → c.perm = true)) := by
        intro i j c hc
        unfold at2 at hc
        cases hi : l[i]? with
        | none => simp [hi] at hc
        | some r =>
          simp [hi] at hc
          obtain ⟨q, k1, k2, k3⟩ := hrow i r hi
          obtain ⟨x, k4, k5⟩ := k3 j c hc
          rw [rowsOf_cut, ← Arr.rows_of] at k1
          obtain ⟨_, k6⟩ := cut_get k1
          obtain ⟨k7, v, k8, k9⟩ := g4 (off + i) q k6 j x k4
          refine ⟨x, v, ?_, k7, k9, k5⟩
          rw [v2]
          rw [show e.ad id + off * a.k + (i * a.k + j) = e.ad id + (off + i) * a.k + j by rw [Nat.add_mul]; omega]
          exact k8
      refine .lst t l A ⟨e.ar id, e.ad id + off * e.ak id, none⟩ cap a.k (fun i j => (w.cell? ⟨e.ar id, e.ad id + off * e.ak id + (i * a.k + j), none⟩).getD undef) (fun r hr' => ?_) (by omega) (fun hpos => ⟨q4 (by omega), rfl, hl hk⟩) (fun i j c hc => ?_) (fun i j c hc => ?_) (fun ht i j c hc => ?_) (fun i j c hc => ?_)
      · obtain ⟨i, hi⟩ := List.mem_iff_getElem?.1 hr'
        obtain ⟨q, k1, k2, _⟩ := hrow i r hi
        rw [rowsOf_cut, ← Arr.rows_of] at k1
        rw [k2]
        exact g3 q (List.mem_of_getElem? (cut_get k1).2)
      · obtain ⟨x, v, c1, _⟩ := cellq i j c hc
        simp only [c1, Option.getD_some]
      · obtain ⟨x, v, c1, c2, c3, c4⟩ := cellq i j c hc
        simp only [c1, Option.getD_some]
        exact (c4 v c2 c3).1
      · obtain ⟨x, v, c1, c2, c3, c4⟩ := cellq i j c hc
        exact (c4 v c2 c3).2.2 ht
      · obtain ⟨x, v, c1, c2, c3, c4⟩ := cellq i j c hc
        exact (c4 v c2 c3).2.1

/-- The blocks that are a call's own. -/
def owned (e : Emb) (b : Nat) : Prop := (∃ s, e.sl s ∧ e.bx s = b) ∨ (∃ id, id < e.na ∧ e.ak id ≠ 0 ∧ e.ar id = b)

def Lx.lend (L : Lx) (e : Emb) : Lx := fun t b => L t b ∨ (t = 1 ∧ owned e b)

theorem PVR.lend {p : PV} {v : Value} (hp : PVR N L w p v) : PVR N (L.lend e) w p v := hp.mono (fun _ _ h => .inl h) (fun _ _ _ => rfl)

theorem V.calm_pv_lend {p : PV} (hp : (V.pv p).calm = true) : p.calm = true := by rw [← PV.calm_v]; exact hp

theorem perm_calm' {p : PV} (hp : p.perm = true) : p.calm = true := V.calm_pv_lend (PV.perm_calm hp)

theorem map_pv_row {l : List (List PV)} {i : Nat} {r : List PV} (hi : l[i]? = some r) : (l.map (·.map V.pv))[i]? = some (r.map V.pv) := by
  rw [List.getElem?_map, hi]; rfl

theorem permBody_row {a : Arr} {rows : List (List PV)} (hb : a.body = .inl rows) (hp : permBody a.body) {off len i j : Nat} {r : List PV} {c : PV} (hi : ((rows.drop off).take len)[i]? = some r) (hj : r[j]? = some c) : c.perm = true := by
  rw [hb] at hp
  exact hp r (List.mem_of_getElem? (cut_get hi).2) c (List.mem_of_getElem? hj)

theorem mapO_row {α β : Type} {f : α → Option β} {rows : List (List α)} {l : List (List β)} (hm : mapO (mapO f) rows = some l) {i : Nat} {r : List β} (hi : l[i]? = some r) : ∃ q, rows[i]? = some q ∧ r.length = q.length ∧ ∀ (j : Nat) (c : β), r[j]? = some c → ∃ x, q[j]? = some x ∧ f x = some c := by
  obtain ⟨q, h1, h2⟩ := mapO_get hm i r hi
  exact ⟨q, h1, mapO_len h2, fun j c hj => mapO_get h2 j c hj⟩

theorem lent_own (hr : HR N L e W h w) {id ver : Nat} {a : Arr} (ho : ownArr h id ver = some a) (hk : a.k ≠ 0) {t : Nat} (ht : t ≠ 0) : lentAt (L.lend e) t (e.ar id) := by
  obtain ⟨ho1, _⟩ := ownArr_spec ho
  obtain ⟨_, v2, _, _⟩ := hr.ver id a ho1
  exact .inr ⟨ht, .inr ⟨rfl, .inr ⟨id, by rw [hr.na]; exact (List.getElem?_eq_some_iff.1 ho1).1, by rw [v2]; exact hk, rfl⟩⟩⟩

theorem lendc_sound (hr : HR N L e W h w) : ∀ (d : Nat) (x : V) (p : PV) (v : Value), lendc h d x = some p → VR N L e w x v → PVR N (L.lend e) w p v ∧ p.one = true ∧ (x.calm = true → p.calm = true) := by
  intro d
  induction d with
  | zero =>
    intro x p v hh hv
    cases x with
    | pv q =>
      cases hv with
      | pv _ _ hq =>
        cases q <;> simp [lendc] at hh <;> subst hh <;> exact ⟨hq.lend, rfl, fun hc => V.calm_pv_lend hc⟩
    | tl rows =>
      simp [lendc] at hh
      subst hh
      cases hv with
      | tl _ A hq => exact ⟨hq.lend, rfl, fun _ => rfl⟩
    | _ => simp [lendc] at hh
  | succ d ih =>
    intro x p v hh hv
    cases x with
    | pv q =>
      cases hv with
      | pv _ _ hq =>
        cases q <;> simp [lendc] at hh <;> subst hh <;> exact ⟨hq.lend, rfl, fun hc => V.calm_pv_lend hc⟩
    | tl rows =>
      simp [lendc] at hh
      subst hh
      cases hv with
      | tl _ A hq => exact ⟨hq.lend, rfl, fun _ => rfl⟩
    | own id ver off len =>
      simp only [lendc] at hh
      cases ho : ownArr h id ver with
      | none => simp [ho] at hh
      | some a =>
        simp only [ho] at hh
        obtain ⟨A, cap, rfl⟩ := own_len hv
        obtain ⟨ho1, _⟩ := ownArr_spec ho
        cases hb : a.body with
        | inl rows =>
          simp [hb, cutRows] at hh
          subst hh
          refine ⟨own_lst hr hv ho (by simp [hb, cutRows, rowsOf]) (fun i r hi => ⟨r.map V.pv, ?_, by simp, fun j c hj => ⟨.pv c, by simp [hj], fun v hc hvv => ?_⟩⟩) (fun hk => lent_own hr ho hk (by omega)), rfl, fun _ => rfl⟩
          · simp only [hb, cutRows, rowsOf]; exact map_pv_row hi
          · have hk : a.k ≠ 0 := fun hk => by
              have := (hr.ver id a ho1).2.2.2 hk
              have hsz : a.size = 0 := by rw [← Arr.rows_length, this]; rfl
              simp [Arr.size, hb] at hsz
              rw [hsz] at hi; simp at hi
            have hperm := permBody_row hb (hr.ar id a ho1 hk).2.2.2.2 hi hj
            cases hvv with
            | pv _ _ hq => exact ⟨hq.lend, perm_calm' hperm, fun _ => hperm⟩
        | inr rows =>
          simp only [hb, cutRows] at hh
          cases hm : mapO (mapO (lendc h d)) ((rows.drop off).take len) with
          | none => simp [hm] at hh
          | some l =>
            simp [hm] at hh
            subst hh
            refine ⟨own_lst hr hv ho (by simp only [hb, cutRows, rowsOf]; exact mapO_len hm) (fun i r hi => ?_) (fun hk => lent_own hr ho hk (by omega)), rfl, fun _ => rfl⟩
            obtain ⟨q, k1, k2, k3⟩ := mapO_row hm hi
            refine ⟨q, by simp only [hb, cutRows, rowsOf]; exact k1, k2, fun j c hj => ?_⟩
            obtain ⟨x, k4, k5⟩ := k3 j c hj
            refine ⟨x, k4, fun v hc hvv => ?_⟩
            obtain ⟨i1, i2, i3⟩ := ih x c v k5 hvv
            exact ⟨i1, i3 hc, fun ht => absurd ht (by omega)⟩
    | ptr slot off =>
      simp only [lendc] at hh
      cases hs : look1 slot h.bx with
      | none => simp [hs] at hh
      | some cs =>
        simp only [hs] at hh
        cases hm : mapO (lendc h d) (cs.drop off) with
        | none => simp [hm] at hh
        | some l =>
          simp [hm] at hh
          subst hh
          cases hv with
          | ptr _ _ hsl =>
            have hcell : ∀ (j : Nat) (c : PV), l[j]? = some c → ∃ v, w.cell? ⟨e.bx slot, off + j, none⟩ = some v ∧ PVR N (L.lend e) w c v ∧ c.one = true := by
              intro j c hj
              obtain ⟨x, k1, k2⟩ := mapO_get hm j c hj
              rw [List.getElem?_drop] at k1
              obtain ⟨_, v, k3, k4⟩ := (hr.bx slot cs hs).2 (off + j) x k1
              rw [Nat.zero_add] at k3
              obtain ⟨i1, i2, i3⟩ := ih x c v k2 k4
              exact ⟨v, k3, i1, i2⟩
            refine ⟨.ro 2 l (e.bx slot) off (fun j => (w.cell? ⟨e.bx slot, off + j, none⟩).getD undef) (fun _ => .inr ⟨by omega, .inr ⟨rfl, .inl ⟨slot, hsl, rfl⟩⟩⟩) (fun j c hj => ?_) (fun j c hj => ?_) (fun c hc => ?_), rfl, fun hc => by simp [V.calm] at hc⟩
            · obtain ⟨v, k1, _⟩ := hcell j c hj
              simp [k1]
            · obtain ⟨v, k1, k2, _⟩ := hcell j c hj
              simp only [k1, Option.getD_some]
              exact k2
            · obtain ⟨j, hj⟩ := List.mem_iff_getElem?.1 hc
              exact (hcell j c hj).choose_spec.2.2
    | func f cap =>
      simp only [lendc] at hh
      cases hm : mapO (lendc h d) cap with
      | none => simp [hm] at hh
      | some l =>
        simp [hm] at hh
        subst hh
        cases hv with
        | func _ _ arr hs hvv =>
          refine ⟨.func f l arr (by rw [hs, mapO_len hm]) (fun j c hj => ?_), rfl, fun hc => ?_⟩
          · obtain ⟨x, k1, k2⟩ := mapO_get hm j c hj
            exact (ih x c _ k2 (hvv j x k1)).1
          · simp [V.calm] at hc
            subst hc
            simp [mapO] at hm
            subst hm
            rfl
    | _ => simp [lendc] at hh

theorem lend_sound (hr : HR N L e W h w) {x : V} {p : PV} {v : Value} (hh : lend h x = some p) (hv : VR N L e w x v) : PVR N (L.lend e) w p v := by
  unfold lend at hh
  split at hh
  · rename_i cs
    cases hm : mapO (lendc h 4) cs with
    | none => simp [hm] at hh
    | some l =>
      simp [hm] at hh
      subst hh
      cases hv with
      | agg _ arr hs hvv =>
        refine .agg l arr (by rw [hs, mapO_len hm]) (fun j c hj => ?_) (fun c hc => ?_)
        · obtain ⟨x, k1, k2⟩ := mapO_get hm j c hj
          exact (lendc_sound hr 4 x c _ k2 (hvv j x k1)).1
        · obtain ⟨j, hj⟩ := List.mem_iff_getElem?.1 hc
          obtain ⟨x, k1, k2⟩ := mapO_get hm j c hj
          exact (lendc_sound hr 4 x c _ k2 (hvv j x k1)).2.1
  · injection hh with hh
    subst hh
    cases hv with
    | pv _ _ hq => exact hq.lend
  · exact (lendc_sound hr 4 _ _ _ hh hv).1

theorem keepc_sound (hr : HR N L e W h w) (hL : ∀ b, L 0 b → L' 0 b) : ∀ (d : Nat) (x : V) (p : PV) (v : Value), keepc h d x = some p → VR N L e w x v → (ownId x ≠ none → ∀ id, id < e.na → e.ak id ≠ 0 → L' 0 (e.ar id)) → PVR N L' w p v ∧ p.perm = true := by
  have hw : ∀ b, L 0 b → L' 0 b ∧ w.heap[b]? = w.heap[b]? := fun b hb => ⟨hL b hb, rfl⟩
  have flat : ∀ (d : Nat) (x : V) (p : PV) (v : Value), ownId x = none → keepc h d x = some p → VR N L e w x v → PVR N L' w p v ∧ p.perm = true := by
    intro d x p v hno hh hv
    cases x with
    | pv q =>
      cases hv with
      | pv _ _ hq =>
        simp only [keepc] at hh
        split at hh
        · rename_i hp
          injection hh with hh
          subst hh
          exact ⟨hq.perm0 hp hw, hp⟩
        · cases hh
    | tl rows =>
      simp [keepc] at hh
      subst hh
      cases hv with
      | tl _ A hq => exact ⟨hq.perm0 rfl hw, rfl⟩
    | own => simp [ownId] at hno
    | func f cap =>
      cases d with
      | zero => simp [keepc] at hh
      | succ d =>
        simp only [keepc] at hh
        split at hh
        · rename_i hc
          injection hh with hh
          subst hh
          have : cap = [] := by simpa using hc
          subst this
          cases hv with
          | func _ _ arr hs hvv => exact ⟨.func f [] arr hs (fun j c hj => by simp at hj), rfl⟩
        · cases hh
    | _ => cases d <;> simp [keepc] at hh
  intro d
  induction d with
  | zero =>
    intro x p v hh hv hown
    cases x with
    | own => simp [keepc] at hh
    | _ => exact flat 0 _ p v rfl hh hv
  | succ d ih =>
    intro x p v hh hv hown
    cases x with
    | own id ver off len =>
      have hown' := hown (by simp [ownId])
      simp only [keepc] at hh
      cases ho : ownArr h id ver with
      | none => simp [ho] at hh
      | some a =>
        simp only [ho] at hh
        obtain ⟨A, cap, rfl⟩ := own_len hv
        obtain ⟨ho1, _⟩ := ownArr_spec ho
        have hlent : a.k ≠ 0 → lentAt L' 0 (e.ar id) := fun hk => .inl (hown' id (by rw [hr.na]; exact (List.getElem?_eq_some_iff.1 ho1).1) (by rw [(hr.ver id a ho1).2.1]; exact hk))
        cases hb : a.body with
        | inl rows =>
          simp [hb, cutRows] at hh
          subst hh
          refine ⟨own_lst hr hv ho (by simp [hb, cutRows, rowsOf]) (fun i r hi => ⟨r.map V.pv, ?_, by simp, fun j c hj => ⟨.pv c, by simp [hj], fun v hc hvv => ?_⟩⟩) hlent, rfl⟩
          · simp only [hb, cutRows, rowsOf]; exact map_pv_row hi
          · have hk : a.k ≠ 0 := fun hk => by
              have := (hr.ver id a ho1).2.2.2 hk
              have hsz : a.size = 0 := by rw [← Arr.rows_length, this]; rfl
              simp [Arr.size, hb] at hsz
              rw [hsz] at hi; simp at hi
            have hperm := permBody_row hb (hr.ar id a ho1 hk).2.2.2.2 hi hj
            cases hvv with
            | pv _ _ hq => exact ⟨hq.perm0 hperm hw, perm_calm' hperm, fun _ => hperm⟩
        | inr rows =>
          simp only [hb, cutRows] at hh
          cases hm : mapO (mapO (keepc h d)) ((rows.drop off).take len) with
          | none => simp [hm] at hh
          | some l =>
            simp [hm] at hh
            subst hh
            refine ⟨own_lst hr hv ho (by simp only [hb, cutRows, rowsOf]; exact mapO_len hm) (fun i r hi => ?_) hlent, rfl⟩
            obtain ⟨q, k1, k2, k3⟩ := mapO_row hm hi
            refine ⟨q, by simp only [hb, cutRows, rowsOf]; exact k1, k2, fun j c hj => ?_⟩
            obtain ⟨x, k4, k5⟩ := k3 j c hj
            refine ⟨x, k4, fun v hc hvv => ?_⟩
            obtain ⟨i1, i2⟩ := ih x c v k5 hvv (fun _ => hown')
            exact ⟨i1, perm_calm' i2, fun _ => i2⟩
    | _ => exact flat (d + 1) _ p v rfl hh hv

end Go.Pv

/-
  What a function is good for, and how a call of it is taken.
-/
namespace Go.Pv
variable {P : Program} {N M : Nat → Nat} {W : Nat → Prop} {L L' : Lx} {e e' : Emb} {h : Heap} {w w' : World} {g : Opd → V} {ρ : Operand → Value}

/-- A slice whose cells the holder may write to: nobody else has its block. -/
def FrR (N : Nat → Nat) (L : Lx) (w : World) (k : Nat) (rows : List (List PV)) (b : Nat) (v : Value) : Prop :=
  ∃ A c ad cap, v = .slice A rows.length c ∧ k ≠ 0 ∧ rows.length ≤ c ∧ c ≤ cap ∧ (0 < c → A = some ⟨b, ad, none⟩) ∧ Block w b (ad + cap * k) ∧ (∀ r ∈ rows, r.length = k) ∧ (∀ t, ¬ L t b) ∧
    ∀ (i j : Nat) (c : PV), at2 rows i j = some c → c.perm = true ∧ ∃ u, w.cell? ⟨b, ad + (i * k + j), none⟩ = some u ∧ PVR N L w c u

/-- A call's arguments; the first may be given away. -/
inductive ArgsR (N : Nat → Nat) (L : Lx) (w : World) : Option Nat → List PV → List Value → Prop
  | plain (ps : List PV) (vs : List Value) (hl : vs.length = ps.length) (hv : ∀ (j : Nat) (p : PV), ps[j]? = some p → ∃ v, vs[j]? = some v ∧ PVR N L w p v) : ArgsR N L w none ps vs
  | take (b k : Nat) (rows : List (List PV)) (v : Value) (ps : List PV) (vs : List Value) (hf : FrR N L w k rows b v) (hl : vs.length = ps.length) (hv : ∀ (j : Nat) (p : PV), ps[j]? = some p → ∃ v, vs[j]? = some v ∧ PVR N L w p v) :
      ArgsR N L w (some b) (.fr k rows :: ps) (v :: vs)

/-- A result's cell; the blocks that go with it. -/
inductive CR (N : Nat → Nat) (L : Lx) (w : World) : PV → Value → List Nat → Prop
  | keep (p : PV) (v : Value) (hp : p.perm = true) (hv : PVR N L w p v) : CR N L w p v []
  | fresh (k : Nat) (rows : List (List PV)) (b : Nat) (v : Value) (hf : FrR N L w k rows b v) : CR N L w (.fr k rows) v [b]

inductive CRs (N : Nat → Nat) (L : Lx) (w : World) : List PV → List Value → List Nat → Prop
  | nil : CRs N L w [] [] []
  | cons (p : PV) (v : Value) (bs : List Nat) (ps : List PV) (vs : List Value) (cs : List Nat) (h1 : CR N L w p v bs) (h2 : CRs N L w ps vs cs) : CRs N L w (p :: ps) (v :: vs) (bs ++ cs)

inductive RR (N : Nat → Nat) (L : Lx) (w : World) : PV → Value → List Nat → Prop
  | cell (p : PV) (v : Value) (bs : List Nat) (h : CR N L w p v bs) : RR N L w p v bs
  | agg (cs : List PV) (arr : Array Value) (bs : List Nat) (h : CRs N L w cs arr.toList bs) : RR N L w (.agg cs) (.agg arr) bs

inductive RRs (N : Nat → Nat) (L : Lx) (w : World) : List PV → List Value → List Nat → Prop
  | nil : RRs N L w [] [] []
  | cons (p : PV) (v : Value) (bs : List Nat) (ps : List PV) (vs : List Value) (cs : List Nat) (h1 : RR N L w p v bs) (h2 : RRs N L w ps vs cs) : RRs N L w (p :: ps) (v :: vs) (bs ++ cs)

def tupleV : List Value → Value
  | [v] => v
  | vs => .tuple vs.toArray

/-- What a call may write to: what is new, and what it was given. -/
def Wc (w : World) (T : Option Nat) (b : Nat) : Prop := w.heap.size ≤ b ∨ T = some b

/-- What holds when a call has ended. -/
def After (N : Nat → Nat) (L : Lx) (w : World) (T : Option Nat) (rs : List PV) (v : Value) (w1 : World) : Prop :=
  ∃ (L1 : Lx) (bs : List Nat) (vals : List Value), Fr (Wc w T) w w1 ∧ (∀ t b, L t b → L1 t b) ∧ (∀ t b, L1 t b → L t b ∨ (t = 0 ∧ Wc w T b)) ∧ (∀ t b, L1 t b → b < w1.heap.size) ∧
    RRs N L1 w1 rs vals bs ∧ bs.Nodup ∧ (∀ b ∈ bs, Wc w T b) ∧ v = tupleV vals

/-- A function that is called comes back with such a value. -/
def CallGood (P : Program) (f : FuncId) (args : Array Value) (w : World) (R : Value → World → Prop) : Prop :=
  (∃ v w', (callFunc f args).run P w = .ok (.value v) w' ∧ R v w') ∨
  ((callFunc f args).run P w = .ok (.enter f args) w ∧ Calls P f args w fun | .returned v, w' => R v w' | _, _ => False)

theorem CallGood.mono {f : FuncId} {args : Array Value} {R R' : Value → World → Prop} (hc : CallGood P f args w R) (hr : ∀ v w', R v w' → R' v w') : CallGood P f args w R' := by
  rcases hc with ⟨v, w', h1, h2⟩ | ⟨h1, h2⟩
  · exact .inl ⟨v, w', h1, hr _ _ h2⟩
  · exact .inr ⟨h1, h2.mono fun en w' hh => by cases en <;> first | exact hr _ _ hh | exact hh⟩

/-- What is claimed of a function at given arguments. -/
def FnR (P : Program) (N : Nat → Nat) (f : Nat) (ps rs : List PV) : Prop :=
  ∀ (L : Lx) (w : World) (T : Option Nat) (args : Array Value), (∀ t b, L t b → b < w.heap.size) → ArgsR N L w T ps args.toList → CallGood P (N f) args w (After N L w T rs)

/-- A function that is taken by a contract of its own. -/
def PrimOk (P : Program) (N : Nat → Nat) (Pr : Prims) : Prop :=
  ∀ fn pr, Pr fn = some pr → ∀ (L : Lx) (e : Emb) (W : Nat → Prop) (h : Heap) (w : World) (vs : List V) (args : Array Value) (v : V) (tn : Tn), pr vs h = some (v, tn) → HR N L e W h w →
    args.size = vs.length → (∀ (j : Nat) (x : V), vs[j]? = some x → VR N L e w x (args.getD j undef)) →
    CallGood P (N fn) args w fun v' w' => ∃ L' e', Nx N W L e w L' e' (tn.apply h) w' ∧ VR N L' e' w' v v'

theorem HR.quiet2 (hr : HR N L e W h w) (T : Nat → Prop) (hT : ∀ b, T b → ¬ owned e b ∧ (∀ t, ¬ L t b) ∧ ∀ id, id < e.nm → e.mp id ≠ b) (hs : ∀ b, b < w.heap.size → ¬ T b → w'.heap[b]? = w.heap[b]?) (hz : w.heap.size ≤ w'.heap.size)
    (hsub : ∀ t b, L t b → L' t b) (hnew : ∀ t b, L' t b → L t b ∨ ((T b ∨ w.heap.size ≤ b) ∧ b < w'.heap.size)) : HR N L' e W h w' ∧ Ext L e w L' e w' := by
  have hlk : ∀ t b, L t b → w'.heap[b]? = w.heap[b]? := fun t b hb => hs b (hr.lsz _ _ hb) (fun ht => (hT b ht).2.1 t hb)
  have hbx : ∀ s, e.sl s → w'.heap[e.bx s]? = w.heap[e.bx s]? := fun s hs' => hs _ (hr.lt_bx hs') (fun ht => (hT _ ht).1 (.inl ⟨s, hs', rfl⟩))
  have har : ∀ id, id < e.na → e.ak id ≠ 0 → w'.heap[e.ar id]? = w.heap[e.ar id]? := fun id hi hk => hs _ (hr.lt_ar hi hk) (fun ht => (hT _ ht).1 (.inr ⟨id, hi, hk, rfl⟩))
  have hmp : ∀ id, id < e.nm → w'.heap[e.mp id]? = w.heap[e.mp id]? := fun id hi => hs _ (hr.lt_mp hi) (fun ht => (hT _ ht).2.2 id hi rfl)
  have hx : Ext L e w L' e w' := { Ext.refl L e w with sub := hsub, kept := fun t b hb => hlk t b hb }
  have hnl : ∀ b, b < w.heap.size → ¬ T b → (∀ t, ¬ L t b) → ∀ t, ¬ L' t b := fun b hb ht hl t hl' => by
    rcases hnew t b hl' with h1 | ⟨h1 | h1, _⟩
    · exact hl t h1
    · exact ht h1
    · omega
  refine ⟨⟨hr.sl, fun s cs hc => ?_, hr.na, hr.ver, fun id a ha hk => ?_, hr.nm, fun id m hm => ?_, fun s hs' => ?_, fun id hi hk => ?_, fun id hi => ?_, hr.dbx, hr.dba, hr.daa, hr.dmm, fun t b hb => ?_, fun b hb => hr.wide b (by omega)⟩, hx⟩
  · obtain ⟨h1, h2⟩ := hr.bx s cs hc
    have := hbx s ((hr.sl s).2 (by rw [hc]; rfl))
    exact ⟨h1.same this, h2.mono hx this⟩
  · obtain ⟨h1, h2, h3, h4, h5⟩ := hr.ar id a ha hk
    have := har id (by rw [hr.na]; exact (List.getElem?_eq_some_iff.1 ha).1) (by rw [(hr.ver id a ha).2.1]; exact hk)
    exact ⟨h1, h2.same this, h3, fun i r hi => (h4 i r hi).mono hx this, h5⟩
  · obtain ⟨es, cl, h1, h2, h3⟩ := hr.mp id m hm
    have := hmp id (by rw [hr.nm]; exact (List.getElem?_eq_some_iff.1 hm).1)
    refine ⟨es, cl, this.trans h1, h2, fun i p hp => ?_⟩
    obtain ⟨g1, x, g2, g3⟩ := h3 i p hp
    exact ⟨g1, x, g2, g3.mono hx⟩
  · exact ⟨(hr.wbx s hs').1, hnl _ (hr.lt_bx hs') (fun ht => (hT _ ht).1 (.inl ⟨s, hs', rfl⟩)) (hr.wbx s hs').2⟩
  · exact ⟨(hr.war id hi hk).1, hnl _ (hr.lt_ar hi hk) (fun ht => (hT _ ht).1 (.inr ⟨id, hi, hk, rfl⟩)) (hr.war id hi hk).2⟩
  · exact ⟨(hr.wmp id hi).1, hnl _ (hr.lt_mp hi) (fun ht => (hT _ ht).2.2 id hi rfl) (hr.wmp id hi).2⟩
  · rcases hnew _ _ hb with hb | hb
    · exact Nat.lt_of_lt_of_le (hr.lsz _ _ hb) hz
    · exact hb.2

theorem FrR.perm0 {k b : Nat} {rows : List (List PV)} {v : Value} (hf : FrR N L w k rows b v) (hL : ∀ b, L 0 b → L' 0 b) (hb : ∀ t, ¬ L' t b) : FrR N L' w k rows b v := by
  obtain ⟨A, c, ad, cap, h1, h2, h3, h4, h5, h6, h7, h8, h9⟩ := hf
  refine ⟨A, c, ad, cap, h1, h2, h3, h4, h5, h6, h7, hb, fun i j x hx => ?_⟩
  obtain ⟨g1, u, g2, g3⟩ := h9 i j x hx
  exact ⟨g1, u, g2, g3.perm0 g1 (fun b hb => ⟨hL b hb, rfl⟩)⟩

/-- A new array, as it comes from a call. -/
theorem FrR.own (hr : HR N L e W h w) {k b : Nat} {rows : List (List PV)} {v : Value} (hf : FrR N L w k rows b v) (hW : W b) (hno : ¬ owned e b) :
    ∃ e', Nx N W L e w L e' { h with ar := h.ar ++ [⟨0, k, .inl rows⟩] } w ∧ VR N L e' w (.own h.ar.length 0 0 rows.length) v ∧ (∀ c, owned e' c → owned e c ∨ c = b) := by
  obtain ⟨A, c, ad, cap, rfl, h2, h3, h4, h5, h6, h7, h8, h9⟩ := hf
  have hnx := Nx.pushArr (b := b) (d := ad) (c := cap) hr ⟨0, k, .inl rows⟩ hW h8 (fun s hs hb => hno (.inl ⟨s, hs, hb⟩)) (fun id hi hk hb => hno (.inr ⟨id, hi, hk, hb⟩)) h2 (by simp [Arr.size]; omega) h6
    (fun r hr' => by
      obtain ⟨q, hq, rfl⟩ := List.mem_map.1 hr'
      simpa using h7 q hq)
    (fun i r hi j x hj => by
      simp only [Arr.rows] at hi
      rw [List.getElem?_map] at hi
      cases hri : rows[i]? with
      | none => simp [hri] at hi
      | some q =>
        simp [hri] at hi
        subst hi
        obtain ⟨p, hp, rfl⟩ := map_pv_get hj
        obtain ⟨g1, u, g2, g3⟩ := h9 i j p (by simp [at2, hri, hp])
        exact ⟨PV.perm_calm g1, u, by rw [Nat.add_assoc]; exact g2, .pv _ _ g3⟩)
    (fun r hr' x hx => by
      obtain ⟨i, hi⟩ := List.mem_iff_getElem?.1 hr'
      obtain ⟨j, hj⟩ := List.mem_iff_getElem?.1 hx
      exact (h9 i j x (by simp [at2, hi, hj])).1)
  refine ⟨_, hnx, ?_, fun c hc => ?_⟩
  · refine .own h.ar.length 0 0 rows.length A c (fun hp => by rw [h5 (by omega)]; rfl) (by rw [← hr.na]; exact Nat.lt_succ_self _) (Nat.zero_le _) (fun _ => ?_)
    rw [← hr.na]
    simp only [Emb.pushAr, upd1_same, Nat.zero_mul, Nat.add_zero, Nat.zero_add]
    exact ⟨by simp [Arr.size], h3, h4, h5⟩
  · rcases hc with ⟨s, hs, hb⟩ | ⟨id, hi, hk, hb⟩
    · exact .inl (.inl ⟨s, hs, hb⟩)
    · change id < e.na + 1 at hi
      rcases Nat.lt_or_ge id e.na with h1 | h1
      · simp only [Emb.pushAr, upd1_other _ _ (ne_of_lt_na h1)] at hk hb
        exact .inl (.inr ⟨id, h1, hk, hb⟩)
      · obtain rfl : id = e.na := by omega
        simp only [Emb.pushAr, upd1_same] at hb
        exact .inr hb.symm

/-- What comes of results: values, and arrays laid behind the others. -/
structure Took (N : Nat → Nat) (W : Nat → Prop) (L : Lx) (e : Emb) (h : Heap) (w : World) (as : List Arr) (bs : List Nat) (e' : Emb) : Prop where
  nx : Nx N W L e w L e' { h with ar := h.ar ++ as } w
  own : ∀ c, owned e' c → owned e c ∨ c ∈ bs

theorem Took.nil (hr : HR N L e W h w) : Took N W L e h w [] [] e := by
  refine ⟨?_, fun c hc => .inl hc⟩
  have : ({ h with ar := h.ar ++ [] } : Heap) = h := by cases h; simp
  rw [this]
  exact Nx.refl hr

theorem Took.trans {as as' : List Arr} {bs bs' : List Nat} {e1 e2 : Emb} (h1 : Took N W L e h w as bs e1) (h2 : Took N W L e1 { h with ar := h.ar ++ as } w as' bs' e2) : Took N W L e h w (as ++ as') (bs ++ bs') e2 := by
  refine ⟨?_, fun c hc => ?_⟩
  · have := h1.nx.trans h2.nx
    simpa [List.append_assoc] using this
  · rcases h2.own c hc with h3 | h3
    · rcases h1.own c h3 with h4 | h4
      · exact .inl h4
      · exact .inr (List.mem_append_left _ h4)
    · exact .inr (List.mem_append_right _ h3)

def cellArr : PV → List Arr
  | .fr k rows => [⟨0, k, .inl rows⟩]
  | _ => []

def cellV (n : Nat) : PV → V
  | .fr _ rows => .own n 0 0 rows.length
  | p => .pv p

theorem take_cell (hr : HR N L e W h w) {p : PV} {v : Value} {bs : List Nat} (hc : CR N L w p v bs) (hb : ∀ b ∈ bs, W b ∧ ¬ owned e b) :
    ∃ e', Took N W L e h w (cellArr p) bs e' ∧ VR N L e' w (cellV h.ar.length p) v := by
  cases hc with
  | keep _ _ hp hv =>
    refine ⟨e, ?_, ?_⟩
    · cases p <;> first | (simp [PV.perm] at hp; done) | exact Took.nil hr
    · cases p <;> first | (simp [PV.perm] at hp; done) | exact .pv _ _ hv
  | fresh k rows b _ hf =>
    obtain ⟨h1, h2⟩ := hb b (by simp)
    obtain ⟨e', g1, g2, g3⟩ := hf.own hr h1 h2
    exact ⟨e', ⟨g1, fun c hc => by rcases g3 c hc with h3 | h3 <;> simp [h3]⟩, g2⟩

theorem takec_cons (n : Nat) (p : PV) (r : List PV) : takec n (p :: r) = (cellV n p :: (takec (n + (cellArr p).length) r).1, cellArr p ++ (takec (n + (cellArr p).length) r).2) := by
  cases p <;> simp [takec, cellArr, cellV]

theorem Took.nodup {as : List Arr} {bs cs : List Nat} {e1 : Emb} (ht : Took N W L e h w as bs e1) (hn : (bs ++ cs).Nodup) (hb : ∀ b ∈ bs ++ cs, W b ∧ ¬ owned e b) : ∀ b ∈ cs, W b ∧ ¬ owned e1 b := by
  intro b hbc
  refine ⟨(hb b (List.mem_append_right _ hbc)).1, fun ho => ?_⟩
  rcases ht.own b ho with h1 | h1
  · exact (hb b (List.mem_append_right _ hbc)).2 h1
  · exact (List.nodup_append.1 hn).2.2 b h1 b hbc rfl

theorem take_cells : ∀ {ps : List PV} {vs : List Value} {bs : List Nat} {e : Emb} {h : Heap}, CRs N L w ps vs bs → HR N L e W h w → bs.Nodup → (∀ b ∈ bs, W b ∧ ¬ owned e b) →
    ∃ e', Took N W L e h w (takec h.ar.length ps).2 bs e' ∧ vs.length = (takec h.ar.length ps).1.length ∧ ∀ (j : Nat) (x : V), (takec h.ar.length ps).1[j]? = some x → ∃ v, vs[j]? = some v ∧ VR N L e' w x v := by
  intro ps vs bs e h hc
  induction hc generalizing e h with
  | nil => intro hr _ _; exact ⟨e, Took.nil hr, rfl, fun j x hj => by simp [takec] at hj⟩
  | cons p v b1 ps vs b2 h1 h2 ih =>
    intro hr hn hb
    obtain ⟨e1, t1, v1⟩ := take_cell hr h1 (fun b hbb => hb b (List.mem_append_left _ hbb))
    obtain ⟨e2, t2, l2, v2⟩ := ih t1.nx.hr (List.nodup_append.1 hn).2.1 (t1.nodup hn hb)
    rw [takec_cons]
    simp only [List.length_append] at t2 l2 v2
    refine ⟨e2, t1.trans t2, by simp [l2], fun j x hj => ?_⟩
    match j, hj with
    | 0, hj => simp at hj; subst hj; exact ⟨v, rfl, v1.mono t2.nx.ext⟩
    | j + 1, hj => simpa using v2 j x (by simpa using hj)

theorem take_val (hr : HR N L e W h w) {p : PV} {v : Value} {bs : List Nat} (hc : RR N L w p v bs) (hn : bs.Nodup) (hb : ∀ b ∈ bs, W b ∧ ¬ owned e b) :
    ∃ e', Took N W L e h w (takev h.ar.length p).2 bs e' ∧ VR N L e' w (takev h.ar.length p).1 v := by
  cases hc with
  | cell _ _ _ hc =>
    obtain ⟨e', h1, h2⟩ := take_cell hr hc hb
    refine ⟨e', ?_, ?_⟩
    · cases p with
      | agg cs => cases hc with | keep _ _ hp _ => simp [PV.perm] at hp
      | _ => exact h1
    · cases p with
      | agg cs => cases hc with | keep _ _ hp _ => simp [PV.perm] at hp
      | _ => exact h2
  | agg cs arr _ hc =>
    obtain ⟨e', h1, h2, h3⟩ := take_cells hc hr hn hb
    refine ⟨e', h1, .agg _ _ (by simpa using h2) (fun j x hj => ?_)⟩
    obtain ⟨v, h4, h5⟩ := h3 j x hj
    rw [arr_getD_toList h4]
    exact h5

theorem takeAll_cons (n : Nat) (p : PV) (r : List PV) : takeAll n (p :: r) = ((takev n p).1 :: (takeAll (n + (takev n p).2.length) r).1, (takev n p).2 ++ (takeAll (n + (takev n p).2.length) r).2) := by
  simp [takeAll]

theorem take_all : ∀ {ps : List PV} {vs : List Value} {bs : List Nat} {e : Emb} {h : Heap}, RRs N L w ps vs bs → HR N L e W h w → bs.Nodup → (∀ b ∈ bs, W b ∧ ¬ owned e b) →
    ∃ e', Took N W L e h w (takeAll h.ar.length ps).2 bs e' ∧ vs.length = (takeAll h.ar.length ps).1.length ∧ ∀ (j : Nat) (x : V), (takeAll h.ar.length ps).1[j]? = some x → ∃ v, vs[j]? = some v ∧ VR N L e' w x v := by
  intro ps vs bs e h hc
  induction hc generalizing e h with
  | nil => intro hr _ _; exact ⟨e, Took.nil hr, rfl, fun j x hj => by simp [takeAll] at hj⟩
  | cons p v b1 ps vs b2 h1 h2 ih =>
    intro hr hn hb
    obtain ⟨e1, t1, v1⟩ := take_val hr h1 (List.nodup_append.1 hn).1 (fun b hbb => hb b (List.mem_append_left _ hbb))
    obtain ⟨e2, t2, l2, v2⟩ := ih t1.nx.hr (List.nodup_append.1 hn).2.1 (t1.nodup hn hb)
    rw [takeAll_cons]
    simp only [List.length_append] at t2 l2 v2
    refine ⟨e2, t1.trans t2, by simp [l2], fun j x hj => ?_⟩
    match j, hj with
    | 0, hj => simp at hj; subst hj; exact ⟨v, rfl, v1.mono t2.nx.ext⟩
    | j + 1, hj => simpa using v2 j x (by simpa using hj)

theorem tuple_rel {ws : List V} {vals : List Value} (hl : vals.length = ws.length) (hv : ∀ (j : Nat) (x : V), ws[j]? = some x → ∃ v, vals[j]? = some v ∧ VR N L e w x v) : VR N L e w (tuple1 ws) (tupleV vals) := by
  have gen : VR N L e w (.tup ws) (.tuple vals.toArray) := .tup _ _ (by simpa using hl) (fun j x hj => by
    obtain ⟨v, h1, h2⟩ := hv j x hj
    rw [arr_getD_toList (by simpa using h1)]
    exact h2)
  match ws, vals, hl with
  | [], [], _ => exact gen
  | [x], [v], _ =>
    obtain ⟨v', h1, h2⟩ := hv 0 x rfl
    simp at h1
    subst h1
    exact h2
  | _ :: _ :: _, _ :: _ :: _, _ => exact gen

end Go.Pv

/-
  A call, as the caller sees it.
-/
namespace Go.Pv
variable {P : Program} {N M : Nat → Nat} {W : Nat → Prop} {L L' : Lx} {e e' : Emb} {h : Heap} {w w' : World} {g : Opd → V} {ρ : Operand → Value}

theorem CR.perm0 {p : PV} {v : Value} {bs : List Nat} (hc : CR N L w p v bs) (hL : ∀ b, L 0 b → L' 0 b) (hb : ∀ b ∈ bs, ∀ t, ¬ L' t b) : CR N L' w p v bs := by
  cases hc with
  | keep _ _ hp hv => exact .keep _ _ hp (hv.perm0 hp (fun b hb => ⟨hL b hb, rfl⟩))
  | fresh k rows b _ hf => exact .fresh k rows b _ (hf.perm0 hL (hb b (by simp)))

theorem CRs.perm0 {ps : List PV} {vs : List Value} {bs : List Nat} (hc : CRs N L w ps vs bs) (hL : ∀ b, L 0 b → L' 0 b) (hb : ∀ b ∈ bs, ∀ t, ¬ L' t b) : CRs N L' w ps vs bs := by
  induction hc with
  | nil => exact .nil
  | cons p v b1 ps vs b2 h1 h2 ih => exact .cons p v b1 ps vs b2 (h1.perm0 hL (fun b hbb => hb b (List.mem_append_left _ hbb))) (ih (fun b hbb => hb b (List.mem_append_right _ hbb)))

theorem RR.perm0 {p : PV} {v : Value} {bs : List Nat} (hc : RR N L w p v bs) (hL : ∀ b, L 0 b → L' 0 b) (hb : ∀ b ∈ bs, ∀ t, ¬ L' t b) : RR N L' w p v bs := by
  cases hc with
  | cell _ _ _ hc => exact .cell _ _ _ (hc.perm0 hL hb)
  | agg cs arr _ hc => exact .agg _ _ _ (hc.perm0 hL hb)

theorem RRs.perm0 {ps : List PV} {vs : List Value} {bs : List Nat} (hc : RRs N L w ps vs bs) (hL : ∀ b, L 0 b → L' 0 b) (hb : ∀ b ∈ bs, ∀ t, ¬ L' t b) : RRs N L' w ps vs bs := by
  induction hc with
  | nil => exact .nil
  | cons p v b1 ps vs b2 h1 h2 ih => exact .cons p v b1 ps vs b2 (h1.perm0 hL (fun b hbb => hb b (List.mem_append_left _ hbb))) (ih (fun b hbb => hb b (List.mem_append_right _ hbb)))

/-- What the caller's state is once the arguments are handed over. -/
structure Handed (N : Nat → Nat) (W : Nat → Prop) (L : Lx) (e : Emb) (h : Heap) (w : World) (T : Option Nat) (h1 : Heap) (e1 : Emb) : Prop where
  nx : Nx N W L e w L e1 h1 w
  len : h1.ar.length = h.ar.length
  T : ∀ b, T = some b → W b ∧ ¬ owned e1 b ∧ (∀ t, ¬ L t b) ∧ (∀ id, id < e1.nm → e1.mp id ≠ b) ∧ b < w.heap.size

theorem lend_args (hr : HR N L e W h w) : ∀ {vs : List V} {args : List Value} {ps : List PV}, args.length = vs.length → (∀ (j : Nat) (x : V), vs[j]? = some x → ∃ v, args[j]? = some v ∧ VR N L e w x v) → mapO (lend h) vs = some ps →
    args.length = ps.length ∧ ∀ (j : Nat) (p : PV), ps[j]? = some p → ∃ v, args[j]? = some v ∧ PVR N (L.lend e) w p v := by
  intro vs args ps hl hv hm
  refine ⟨by rw [hl, mapO_len hm], fun j p hj => ?_⟩
  obtain ⟨x, h1, h2⟩ := mapO_get hm j p hj
  obtain ⟨v, h3, h4⟩ := hv j x h1
  exact ⟨v, h3, lend_sound hr h2 h4⟩

theorem take_sound (hr : HR N L e W h w) {x : V} {p : PV} {id : Nat} {a' : Arr} {v : Value} (hh : lendTake h x = some (p, some (id, a'))) (hv : VR N L e w x v) :
    ∃ (k : Nat) (rows : List (List PV)) (b : Nat) (e1 : Emb), p = .fr k rows ∧ Handed N W L e h w (some b) { h with ar := h.ar.set id a' } e1 ∧ FrR N (L.lend e1) w k rows b v := by
  unfold lendTake at hh
  split at hh
  · rename_i id0 ver len
    cases ho : ownArr h id0 ver with
    | none => simp [ho] at hh
    | some a =>
      simp only [ho] at hh
      split at hh <;> first | (cases hh; done) | skip
      rename_i hc
      cases hb : a.body with
      | inr l => simp [hb] at hh
      | inl rows =>
        simp [hb] at hh
        obtain ⟨rfl, rfl, rfl⟩ := hh
        obtain ⟨ho1, ho2⟩ := ownArr_spec ho
        obtain ⟨v1, v2, v3, v4⟩ := hr.ver id0 a ho1
        obtain ⟨g1, g2, g3, g4, g5⟩ := hr.ar id0 a ho1 hc.2
        have hid : id0 < e.na := by rw [hr.na]; exact (List.getElem?_eq_some_iff.1 ho1).1
        have hak : e.ak id0 ≠ 0 := by rw [v2]; exact hc.2
        have hnx := Nx.killArr (a := ⟨ver + 1, 0, .inl []⟩) hr ho1 (by simp; omega) rfl rfl
        have hno : ¬ owned (e.setAr id0 (e.ar id0) (e.ad id0) (e.cap id0) ⟨ver + 1, 0, .inl []⟩) (e.ar id0) := by
          rintro (⟨s, hs, hbq⟩ | ⟨j, hj, hk, hbq⟩)
          · exact hr.dba s id0 hs hid hak hbq
          · by_cases hji : j = id0
            · subst hji; simp [Emb.setAr, upd1_same] at hk
            · simp only [Emb.setAr, upd1_other _ _ hji] at hk hbq
              exact hji (hr.daa j id0 hj hid hk hak hbq)
        have hL := (hr.war id0 hid hak).2
        refine ⟨a.k, rows, e.ar id0, _, rfl, ⟨hnx, by simp, fun b hbb => ?_⟩, ?_⟩
        · injection hbb with hbb
          subst hbb
          refine ⟨(hr.war id0 hid hak).1, hno, hL, fun j hj => ?_, hr.lt_ar hid hak⟩
          obtain ⟨m, hm⟩ := hr.get_mp (id := j) hj
          obtain ⟨es, cl, k1, _⟩ := hr.mp j m hm
          obtain ⟨arr, ty, k2, _⟩ := g2.out
          exact map_not_row k1 k2
        · obtain ⟨A, cap, rfl⟩ := own_len hv
          cases hv with
          | own _ _ _ _ _ _ h0 h1 h2 h3 =>
            obtain ⟨q1, q2, q3, q4⟩ := h3 (by omega)
            have hsz : rows.length = len := by rw [← hc.1]; simp [Arr.size, hb]
            simp only [Nat.zero_mul, Nat.add_zero, Nat.zero_add] at q3 q4
            have hrows : a.rows = rows.map (·.map V.pv) := by simp [Arr.rows, hb]
            refine ⟨A, cap, e.ad id0, e.cap id0, by rw [hsz], hc.2, by omega, q3, q4, g2, fun r hr' => ?_, fun t hlt => ?_, fun i j c hcc => ?_⟩
            · have := g3 (r.map V.pv) (by rw [hrows]; exact List.mem_map.2 ⟨r, hr', rfl⟩)
              simpa using this
            · rcases hlt with hlt | ⟨_, hlt⟩
              · exact hL t hlt
              · exact hno hlt
            · unfold at2 at hcc
              cases hi : rows[i]? with
              | none => simp [hi] at hcc
              | some r =>
                simp [hi] at hcc
                obtain ⟨_, u, k1, k2⟩ := g4 i (r.map V.pv) (by rw [hrows]; exact map_pv_row hi) j (.pv c) (by simp [hcc])
                have hperm : c.perm = true := by
                  rw [hb] at g5
                  exact g5 r (List.mem_of_getElem? hi) c (List.mem_of_getElem? hcc)
                refine ⟨hperm, u, by rw [← Nat.add_assoc]; exact k1, ?_⟩
                cases k2 with
                | pv _ _ hq => exact hq.lend
  · cases hh
  · cases hh

theorem handed (hr : HR N L e W h w) {vs : List V} {args : List Value} (hl : args.length = vs.length) (hv : ∀ (j : Nat) (x : V), vs[j]? = some x → ∃ v, args[j]? = some v ∧ VR N L e w x v) {tk : Bool} {ps : List PV} {a : Option (Nat × Arr)}
    (hh : lendAll h tk vs = some (ps, a)) : ∃ T e1, Handed N W L e h w T (Tn.apply { ar := a } h) e1 ∧ ArgsR N (L.lend e1) w T ps args := by
  have none0 : Handed N W L e h w none (Tn.apply { ar := none } h) e := by
    have h0 : Tn.apply { ar := none } h = h := Tn.apply_plain h none none none false false
    rw [h0]
    exact ⟨Nx.refl hr, rfl, fun b hb => by cases hb⟩
  unfold lendAll at hh
  split at hh
  · split at hh <;> first | (cases hh; done) | skip
    · rename_i x r
      obtain ⟨v0, av, rfl⟩ : ∃ v0 av, args = v0 :: av := by
        match args, hl with
        | v0 :: av, _ => exact ⟨v0, av, rfl⟩
      obtain ⟨v0', hv0, hx⟩ := hv 0 x rfl
      simp at hv0
      subst hv0
      have hvr : ∀ (j : Nat) (y : V), r[j]? = some y → ∃ v, av[j]? = some v ∧ VR N L e w y v := fun j y hj => by simpa using hv (j + 1) y (by simpa using hj)
      have hlr : av.length = r.length := by simpa using hl
      split at hh <;> first | (cases hh; done) | skip
      · rename_i p hlt
        split at hh <;> first | (cases hh; done) | skip
        rename_i l hm
        injection hh with hh; injection hh with e1 e2; subst e1; subst e2
        obtain ⟨k1, k2⟩ := lend_args hr hlr hvr hm
        refine ⟨none, e, none0, .plain _ _ (by simp [k1]) (fun j q hj => ?_)⟩
        match j, hj with
        | 0, hj =>
          simp at hj
          subst hj
          refine ⟨v0, rfl, ?_⟩
          unfold lendTake at hlt
          split at hlt
          · split at hlt <;> first | (cases hlt; done) | skip
            split at hlt <;> first | (cases hlt; done) | skip
            split at hlt <;> simp at hlt
          · injection hlt with hlt; injection hlt with e1 _; subst e1
            cases hx with
            | tl _ A hq => exact hq.lend
          · cases hlt
        | j + 1, hj => simpa using k2 j q (by simpa using hj)
      · rename_i p id a' hlt
        split at hh <;> first | (cases hh; done) | skip
        rename_i l hm
        injection hh with hh; injection hh with e1 e2; subst e1; subst e2
        obtain ⟨k, rows, b, e1, rfl, h1, h2⟩ := take_sound hr hlt hx
        obtain ⟨k1, k2⟩ := lend_args h1.nx.hr hlr (fun j y hj => by
          obtain ⟨v, q1, q2⟩ := hvr j y hj
          exact ⟨v, q1, q2.mono h1.nx.ext⟩) hm
        refine ⟨some b, e1, ?_, .take b k rows v0 l av h2 k1 k2⟩
        have : Tn.apply { ar := some (id, a') } h = { h with ar := h.ar.set id a' } := by rw [Tn.apply_ar]
        rw [this]
        exact h1
  · split at hh <;> first | (cases hh; done) | skip
    rename_i l hm
    injection hh with hh; injection hh with e1 e2; subst e1; subst e2
    obtain ⟨k1, k2⟩ := lend_args hr hl hv hm
    exact ⟨none, e, none0, .plain _ _ k1 k2⟩

theorem owned_lt (hr : HR N L e W h w) {b : Nat} (ho : owned e b) : b < w.heap.size := by
  rcases ho with ⟨s, hs, rfl⟩ | ⟨id, hi, hk, rfl⟩
  · exact hr.lt_bx hs
  · exact hr.lt_ar hi hk

theorem call_sound (hr : HR N L e W h w) {vs : List V} {args : Array Value} (hl : args.size = vs.length) (hv : ∀ (j : Nat) (x : V), vs[j]? = some x → VR N L e w x (args.getD j undef)) {tk : Bool} {ps : List PV} {a : Option (Nat × Arr)}
    (hh : lendAll h tk vs = some (ps, a)) {f : Nat} {rs : List PV} (hF : FnR P N f ps rs) (r : Bool) (base : Nat) :
    CallGood P (N f) args w fun v' w' => ∃ L' e', Nx N W L e w L' e' (Tn.apply { ar := a, push := (takeAll h.ar.length rs).2, rall := r, base := base } h) w' ∧ VR N L' e' w' (tuple1 (takeAll h.ar.length rs).1) v' := by
  obtain ⟨T, e1, hd, hargs⟩ := handed hr (args := args.toList) (by simpa using hl) (fun j x hj => by
    have hlt : j < args.size := by rw [hl]; exact (List.getElem?_eq_some_iff.1 hj).1
    exact ⟨args.getD j undef, by rw [Array.getElem?_toList]; exact getD_of_getElem? hlt, hv j x hj⟩) hh
  have hr1 := hd.nx.hr
  have hlsz : ∀ t b, (L.lend e1) t b → b < w.heap.size := fun t b hb => by
    rcases hb with hb | ⟨_, hb⟩
    · exact hr1.lsz _ _ hb
    · exact owned_lt hr1 hb
  refine (hF (L.lend e1) w T args hlsz hargs).mono fun v' w1 hpost => ?_
  obtain ⟨L1, bs, vals, f1, f2, f3, f4, f5, f6, f7, rfl⟩ := hpost
  let L2 : Lx := fun t b => L t b ∨ (t = 0 ∧ L1 0 b)
  have hWc : ∀ b, Wc w T b → W b ∧ ¬ owned e1 b ∧ ∀ t, ¬ L t b := fun b hb => by
    rcases hb with hb | hb
    · refine ⟨hr1.wide b hb, fun ho => ?_, fun t hl => ?_⟩
      · have := owned_lt hr1 ho; omega
      · have := hr1.lsz t b hl; omega
    · exact ⟨(hd.T b hb).1, (hd.T b hb).2.1, (hd.T b hb).2.2.1⟩
  have hnew1 : ∀ b, L1 0 b → L 0 b ∨ (Wc w T b ∧ b < w1.heap.size) := fun b hb => by
    rcases f3 0 b hb with (h1 | ⟨h1, _⟩) | ⟨_, h1⟩
    · exact .inl h1
    · cases h1
    · exact .inr ⟨h1, f4 0 b hb⟩
  obtain ⟨q1, q2⟩ := hr1.quiet2 (w' := w1) (L' := L2) (fun b => T = some b) (fun b hb => ⟨(hd.T b hb).2.1, (hd.T b hb).2.2.1, (hd.T b hb).2.2.2.1⟩)
    (fun b hb hnt => f1.kept b hb (fun hc => hc.elim (fun hc => absurd hb (by omega)) hnt)) f1.size (fun t b hb => .inl hb)
    (fun t b hb => by
      rcases hb with hb | ⟨rfl, hb⟩
      · exact .inl hb
      · rcases hnew1 b hb with h1 | ⟨h1, h2⟩
        · exact .inl h1
        · rcases h1 with h1 | h1
          · exact .inr ⟨.inr h1, h2⟩
          · exact .inr ⟨.inl h1, h2⟩)
  have hnx1 : Nx N W L e1 w L2 e1 (Tn.apply { ar := a } h) w1 := by
    refine ⟨q1, q2, ⟨f1.os, f1.tape, f1.output, f1.size, fun b hb hw => f1.kept b hb (fun hc => hw (hWc b hc).1), f1.drawn⟩, fun t b hb => ?_⟩
    rcases hb with hb | ⟨rfl, hb⟩
    · exact .inl hb
    · rcases hnew1 b hb with h1 | ⟨h1, _⟩
      · exact .inl h1
      · exact .inr ⟨rfl, (hWc b h1).1⟩
  have hbsL : ∀ b ∈ bs, ∀ t, ¬ L2 t b := by
    intro b hb t hl2
    have hfresh : ∀ {ps : List PV} {vs : List Value} {bs : List Nat}, RRs N L1 w1 ps vs bs → ∀ b ∈ bs, ∀ t, ¬ L1 t b := by
      have hcr : ∀ {p : PV} {v : Value} {bs : List Nat}, CR N L1 w1 p v bs → ∀ b ∈ bs, ∀ t, ¬ L1 t b := by
        intro p v bs hc b hb
        cases hc with
        | keep => cases hb
        | fresh k rows b' _ hf =>
          simp at hb
          subst hb
          obtain ⟨_, _, _, _, _, _, _, _, _, _, _, hnl, _⟩ := hf
          exact hnl
      have hcrs : ∀ {ps : List PV} {vs : List Value} {bs : List Nat}, CRs N L1 w1 ps vs bs → ∀ b ∈ bs, ∀ t, ¬ L1 t b := by
        intro ps vs bs hc
        induction hc with
        | nil => intro b hb; cases hb
        | cons p v b1 ps vs b2 h1 h2 ih =>
          intro b hb
          rcases List.mem_append.1 hb with hb | hb
          · exact hcr h1 b hb
          · exact ih b hb
      intro ps vs bs hc
      induction hc with
      | nil => intro b hb; cases hb
      | cons p v b1 ps vs b2 h1 h2 ih =>
        intro b hb
        rcases List.mem_append.1 hb with hb | hb
        · cases h1 with
          | cell _ _ _ hc => exact hcr hc b hb
          | agg _ _ _ hc => exact hcrs hc b hb
        · exact ih b hb
    rcases hl2 with hl2 | ⟨rfl, hl2⟩
    · exact hfresh f5 b hb t (f2 t b (.inl hl2))
    · exact hfresh f5 b hb 0 hl2
  have hRR := f5.perm0 (L' := L2) (fun b hb => .inr ⟨rfl, hb⟩) hbsL
  obtain ⟨e2, t1, t2, t3⟩ := take_all (W := W) hRR q1 f6 (fun b hb => ⟨(hWc b (f7 b hb)).1, (hWc b (f7 b hb)).2.1⟩)
  rw [hd.len] at t1 t2 t3
  refine ⟨L2, e2, ?_, tuple_rel t2 t3⟩
  have hchain := (hd.nx.trans hnx1).trans t1.nx
  have hap : ({ Tn.apply { ar := a } h with ar := (Tn.apply { ar := a } h).ar ++ (takeAll h.ar.length rs).2 } : Heap) = Tn.apply { ar := a, push := (takeAll h.ar.length rs).2, rall := r, base := base } h := by
    cases a with
    | none => cases h; simp [Tn.apply]
    | some ia => obtain ⟨i, a⟩ := ia; cases h; simp [Tn.apply]
  rw [← hap]
  exact hchain

end Go.Pv

/-
  An operation of a region, in the machine's own terms.
-/
namespace Go.Pv
variable {P : Program} {N M : Nat → Nat} {W : Nat → Prop} {L L' : Lx} {e e' : Emb} {h : Heap} {w w' : World} {g : Opd → V} {ρ : Operand → Value} {Φ : Nat → List PV → Option (List PV)} {Pr : Prims} {Tk : Nat → Bool}

/-- The interpreter's state stands for the machine's. -/
structure SR (N : Nat → Nat) (W : Nat → Prop) (L : Lx) (e : Emb) (nt : Nat) (s : St) (a : Act) (w : World) : Prop where
  hr : HR N L e W s.h w
  env : ∀ t, VR N L e w (get s.env t) (a.tmps.getD t undef)
  size : a.tmps.size = nt
  defers : a.defers = []

theorem get_put (env : List (Nat × V)) (d : Option Nat) (v : V) (t : Nat) : get (put env d v) t = if d = some t then v else get env t := by
  cases d with
  | none => simp [put]
  | some d =>
    simp only [put, get, look1]
    by_cases hd : d = t
    · simp [hd]
    · simp [hd]

theorem SR.put {nt : Nat} {s : St} {a : Act} (hs : SR N W L e nt s a w) (hx : Ext L e w L' e' w') {h' : Heap} (hr : HR N L' e' W h' w') {d : Option Nat} (hd : d.all (· < nt) = true) {v : V} {v' : Value} (hv : VR N L' e' w' v v') :
    SR N W L' e' nt ⟨Pv.put s.env d v, h'⟩ (a.put d v') w' := by
  refine ⟨hr, fun t => ?_, ?_, ?_⟩
  · rw [get_put]
    cases d with
    | none => simpa [Act.put] using (hs.env t).mono hx
    | some d =>
      simp at hd
      by_cases hdt : d = t
      · subst hdt
        simp [Act.put, hs.size, hd]
        exact hv
      · have : ¬ (some d = some t) := by simpa using hdt
        rw [if_neg this]
        simp only [Act.put]
        have e1 : (a.tmps.setIfInBounds d v').getD t undef = a.tmps.getD t undef := by simp [Array.getElem?_setIfInBounds_ne hdt]
        rw [e1]
        exact (hs.env t).mono hx
  · cases d <;> simp [Act.put, hs.size]
  · cases d <;> simp [Act.put, hs.defers]

theorem SR.or {nt : Nat} {s : St} {a : Act} (hs : SR N W L e nt s a w) : OR N M L e w (geto s.env) a.eval := OR.of_env hs.env

theorem funcOf_rel {x : V} {v : Value} (hx : VR N L e w x v) {f : Nat} {cap : List V} (hf : funcOf x = some (f, cap)) : ∃ arr : Array Value, v = .func (.func (N f)) #[] arr ∧ arr.size = cap.length ∧ ∀ (j : Nat) (c : V), cap[j]? = some c → VR N L e w c (arr.getD j undef) := by
  unfold funcOf at hf
  split at hf <;> first | (cases hf; done) | skip
  · injection hf with hf; injection hf with e1 e2; subst e1; subst e2
    cases hx with
    | func _ _ arr hs hv => exact ⟨arr, rfl, hs, hv⟩
  · injection hf with hf; injection hf with e1 e2; subst e1; subst e2
    cases hx with
    | pv _ _ hp =>
      cases hp with
      | func _ _ arr hs hv =>
        refine ⟨arr, rfl, by simpa using hs, fun j c hj => ?_⟩
        obtain ⟨p, h1, rfl⟩ := map_pv_get hj
        exact .pv _ _ (hv j p h1)

/-- A call of a function: the operation does what the function is good for. -/
theorem call_eval (hr : HR N L e W h w) (hO : OR N M L e w g ρ) (hΦ : ∀ f ps rs, Φ f ps = some rs → FnR P N f ps rs) (hPr : PrimOk P N Pr) {o : Oper} {f : Opd} {args : List Opd} (ht : trOp P N M o.dst o.op = some (.call f args)) {v : V} {tn : Tn}
    (he : evalOp Φ Pr Tk g h (.call f args) = some (v, tn)) : ∃ (fn : Nat) (vals : Array Value), (execOp ρ o).run P w = (callFunc (N fn) vals).run P w ∧ CallGood P (N fn) vals w fun v' w' => ∃ L' e', Nx N W L e w L' e' (tn.apply h) w' ∧ VR N L' e' w' v v' := by
  cases hop : o.op with
  | call c =>
    rw [hop] at ht
    simp only [trOp] at ht
    split at ht
    · rename_i fo args' hce hargs
      split at ht <;> first | (cases ht; done) | skip
      rename_i f' hf'
      injection ht with ht
      injection ht with e1 e2
      subst e1; subst e2
      simp only [evalOp] at he
      split at he <;> first | (cases he; done) | skip
      rename_i fn cap hfn
      obtain ⟨arr, h1, h2, h3⟩ := funcOf_rel (hO fo f' hf') hfn
      obtain ⟨k1, k2⟩ := trOpd_args hO hargs
      have k1' : args'.length = c.args.size := by rw [k1]; simp
      refine ⟨fn, (#[] ++ c.args.map ρ) ++ arr, ?_, ?_⟩
      · simp only [execOp, hop, resolve, hce, Deferred.ofValue, h1, Sem.run_bind, Sem.run_pure, Result.andThen_ok, invoke]
      · have hl : ((#[] ++ c.args.map ρ) ++ arr).size = (args'.map g ++ cap).length := by simp [k1, h2]
        have hv : ∀ (j : Nat) (x : V), (args'.map g ++ cap)[j]? = some x → VR N L e w x (((#[] ++ c.args.map ρ) ++ arr).getD j undef) := by
          intro j x hj
          rcases Nat.lt_or_ge j args'.length with hjl | hjl
          · rw [List.getElem?_append_left (by simpa using hjl), List.getElem?_map, List.getElem?_eq_getElem hjl] at hj
            simp at hj
            obtain ⟨y, hy1, hy2⟩ := k2 j args'[j] (List.getElem?_eq_getElem hjl)
            rw [← hj]
            have : ((#[] ++ c.args.map ρ) ++ arr).getD j undef = ρ y := by
              apply arr_getD_toList
              simp only [Array.toList_append, Array.toList_map, List.nil_append]
              rw [List.getElem?_append_left (by simp; omega), List.getElem?_map, hy1]
              rfl
            rw [this]
            exact hy2
          · rw [List.getElem?_append_right (by simpa using hjl)] at hj
            simp only [List.length_map] at hj
            have hlt : j - args'.length < arr.size := by rw [h2]; exact (List.getElem?_eq_some_iff.1 hj).1
            have : ((#[] ++ c.args.map ρ) ++ arr).getD j undef = arr.getD (j - args'.length) undef := by
              apply arr_getD_toList
              simp only [Array.toList_append, Array.toList_map, List.nil_append]
              rw [List.getElem?_append_right (by simp; omega)]
              simp only [List.length_map, Array.length_toList]
              rw [Array.getElem?_toList, show c.args.size = args'.length from k1'.symm]
              exact getD_of_getElem? hlt
            rw [this]
            exact h3 _ x hj
        split at he
        · rename_i pr hpr
          exact hPr fn pr hpr L e W h w _ _ v tn he hr hl hv
        · split at he <;> first | (cases he; done) | skip
          rename_i ps a hlend
          split at he <;> first | (cases he; done) | skip
          rename_i rs hrs
          injection he with he
          injection he with e1 e2
          subst e1; subst e2
          exact call_sound hr hl hv hlend (hΦ fn ps rs hrs) _ _
    · split at ht <;> cases ht
    · split at ht <;> first | (cases ht; done) | skip
      split at ht <;> first | (cases ht; done) | skip
      split at ht <;> cases ht
    · split at ht <;> first | (cases ht; done) | skip
      split at ht <;> cases ht
    · split at ht <;> first | (cases ht; done) | skip
      split at ht <;> first | (cases ht; done) | skip
      split at ht <;> cases ht
    · cases ht
    · cases ht
    · cases ht
  | _ =>
    rw [hop] at ht
    simp only [trOp] at ht
    try (repeat' (split at ht))
    all_goals first | contradiction | (cases ht; done) | (simp at ht; done) | (obtain ⟨y, _, h2⟩ := map_some ht; cases h2; done)

/-- One operation: whatever follows from what it gives, follows. -/
theorem eval_wp {o : Oper} {a : Act} {Q : Exit → Act → World → Prop} {K : Act → World → Prop} {q : AOp} (hr : HR N L e W h w) (hO : OR N M L e w g a.eval) (hΦ : ∀ f ps rs, Φ f ps = some rs → FnR P N f ps rs) (hPr : PrimOk P N Pr) (ht : trOp P N M o.dst o.op = some q) {v : V} {tn : Tn}
    (he : evalOp Φ Pr Tk g h q = some (v, tn)) (hK : ∀ v' w' L' e', Nx N W L e w L' e' (tn.apply h) w' → VR N L' e' w' v v' → K (a.put o.dst v') w') : o.wp P a w K Q := by
  unfold Oper.wp
  cases hc : isCall q with
  | false =>
    obtain ⟨nx, v', w', L', e', h1, h2, h3, h4⟩ := op_sound hr hO ht hc he
    rw [h1]
    rcases h2 with rfl | ⟨rfl, rfl⟩
    · exact hK _ _ _ _ h3 h4
    · exact hK _ _ _ _ h3 h4
  | true =>
    cases q with
    | call f args =>
      obtain ⟨fn, vals, h1, h2⟩ := call_eval hr hO hΦ hPr ht he
      rw [h1]
      rcases h2 with ⟨v', w', h3, L', e', h4, h5⟩ | ⟨h3, h4⟩
      · rw [h3]
        exact hK _ _ _ _ h4 h5
      · rw [h3]
        refine Calls.mono h4 fun en w' hh => ?_
        cases en with
        | returned v' =>
          obtain ⟨L', e', h5, h6⟩ := hh
          exact hK _ _ _ _ h5 h6
        | panicked => exact hh.elim
        | outgrown => exact hh.elim
    | _ => simp [isCall] at hc

theorem getD_of_some {tm : Array Value} {t : Nat} {v d : Value} (h : tm[t]? = some v) : tm.getD t d = v := by
  simp [Array.getD_eq_getD_getElem?, h]

theorem wanted_rel {nt : Nat} {s : St} {a : Act} (hs : SR N W L e nt s a w) {ops : Array Oper} {o : Oper} {gd : Option (Nat × Bool)} (hg : trGuard ops o = some gd) {b : Bool} (hw : wanted s.env gd = some b) : Region.wanted o (yielded ops a.tmps) = b := by
  unfold trGuard at hg
  split at hg
  · rename_i hgd
    injection hg with hg
    subst hg
    simp [wanted] at hw
    subst hw
    simp [Region.wanted, hgd]
  · rename_i j c hgd
    split at hg <;> first | (cases hg; done) | skip
    rename_i t hdst
    injection hg with hg
    subst hg
    simp only [wanted] at hw
    split at hw <;> first | (cases hw; done) | skip
    case h_2 =>
      rename_i vs hget
      injection hw with hw
      subst hw
      have hv := hs.env t
      rw [hget] at hv
      have hno : ∀ x, a.tmps[t]? ≠ some (.bool x) := by
        intro x hx
        rw [getD_of_some hx] at hv
        cases hv
      simp only [Region.wanted, hgd, yielded, hdst, Option.bind_some]
      cases hx : a.tmps[t]? with
      | none => rfl
      | some v =>
        cases v with
        | bool x => exact absurd hx (hno x)
        | _ => rfl
    rename_i c' hget
    injection hw with hw
    have hv := hs.env t
    rw [hget] at hv
    have hb := hv.bool
    have hlt : t < a.tmps.size := by
      rcases Nat.lt_or_ge t a.tmps.size with h1 | h1
      · exact h1
      · have : a.tmps.getD t undef = undef := by simp [Array.getElem?_eq_none h1]
        rw [this] at hb
        cases hb
    have ht : a.tmps[t]? = some (.bool c') := by rw [getD_of_getElem? hlt, hb]
    simp only [Region.wanted, hgd, yielded, hdst, Option.bind_some, ht]
    rw [← hw]
    cases c' <;> cases c <;> rfl

theorem trOper_spec {nt : Nat} {ops : Array Oper} {o : Oper} {q : AOper} (ht : trOper P N M nt ops o = some q) : trOp P N M o.dst o.op = some q.op ∧ trGuard ops o = some q.guard ∧ q.dst = o.dst ∧ o.dst.all (· < nt) = true := by
  unfold trOper at ht
  split at ht <;> first | (cases ht; done) | skip
  rename_i x y h1 h2
  split at ht <;> first | (cases ht; done) | skip
  rename_i h3
  injection ht with ht
  subst ht
  exact ⟨h1, h2, rfl, h3⟩

/-- A step of the interpreter is one of the machine. -/
theorem step_wp {nt : Nat} {s s' : St} {a : Act} {tn : Tn} (hs : SR N W L e nt s a w) (hΦ : ∀ f ps rs, Φ f ps = some rs → FnR P N f ps rs) (hPr : PrimOk P N Pr) {ops : Array Oper} {i : Nat} {o : Oper} {q : AOper} (hi : ops[i]? = some o) (ht : trOper P N M nt ops o = some q)
    (hst : stepOp Φ Pr Tk q s = some (s', tn)) {Q : Exit → Act → World → Prop} {K : Act → World → Prop} (hK : ∀ a' w' L' e', Nx N W L e w L' e' s'.h w' → SR N W L' e' nt s' a' w' → K a' w') : wpOp P ops Q i K a w := by
  obtain ⟨t1, t2, t3, t4⟩ := trOper_spec ht
  unfold wpOp
  simp only [hi]
  unfold stepOp at hst
  split at hst <;> first | (cases hst; done) | skip
  · rename_i hw
    injection hst with hst
    injection hst with e1 e2
    subst e1; subst e2
    rw [if_neg (by rw [wanted_rel hs t2 hw]; simp)]
    have hsr := hs.put (L' := L) (e' := e) (w' := w) (h' := s.h) (Ext.refl _ _ _) hs.hr t4 (.tup [] #[] rfl (fun j c hj => by simp at hj))
    rw [← t3] at hsr ⊢
    exact hK _ _ _ _ (Nx.refl hs.hr) hsr
  · rename_i hw
    split at hst <;> first | (cases hst; done) | skip
    rename_i v t he
    injection hst with hst
    injection hst with e1 e2
    subst e1; subst e2
    rw [if_pos (by rw [wanted_rel hs t2 hw])]
    refine .inl (eval_wp hs.hr (hs.or (M := M)) hΦ hPr t1 he fun v' w' L' e' h1 h2 => ?_)
    have hsr := hs.put h1.ext h1.hr t4 h2
    rw [← t3] at hsr ⊢
    exact hK _ _ _ _ h1 hsr

end Go.Pv

/-
  What an operation depends on: states that agree on what it looked at give the same.
-/
namespace Go.Pv
variable {g g' : Opd → V} {Φ : Nat → List PV → Option (List PV)} {Pr : Prims} {Tk : Nat → Bool}

/-- The same to the eye. -/
structure Heq (h1 h2 : Heap) : Prop where
  bx : ∀ s, look1 s h1.bx = look1 s h2.bx
  ar : h1.ar = h2.ar
  mp : h1.mp = h2.mp

theorem Heq.refl (h : Heap) : Heq h h := ⟨fun _ => rfl, rfl, rfl⟩
theorem Heq.symm {h1 h2 : Heap} (k : Heq h1 h2) : Heq h2 h1 := ⟨fun s => (k.bx s).symm, k.ar.symm, k.mp.symm⟩
theorem Heq.trans {h1 h2 h3 : Heap} (k : Heq h1 h2) (l : Heq h2 h3) : Heq h1 h3 := ⟨fun s => (k.bx s).trans (l.bx s), k.ar.trans l.ar, k.mp.trans l.mp⟩

/-- What the first one holds, the second one holds, too. -/
structure Grow (h1 h2 : Heap) : Prop where
  bx : ∀ s c, look1 s h1.bx = some c → look1 s h2.bx = some c
  ar : ∀ (i : Nat) (a : Arr), h1.ar[i]? = some a → h2.ar[i]? = some a

theorem Heq.grow {h1 h2 : Heap} (k : Heq h1 h2) : Grow h1 h2 := ⟨fun s c hs => by rw [← k.bx]; exact hs, fun i a hi => by rw [← k.ar]; exact hi⟩

/-- The two states agree on what the operation looked at or turned. -/
structure Agree (t : Tn) (h1 h2 : Heap) : Prop where
  bx : ∀ s, t.rb = some s ∨ (∃ c, t.bx = some (s, c)) → look1 s h1.bx = look1 s h2.bx
  ar : ∀ i, t.ra = some i ∨ t.ra2 = some i ∨ (∃ a, t.ar = some (i, a)) → h1.ar[i]? = h2.ar[i]?
  len : t.push ≠ [] → h1.ar.length = h2.ar.length
  mp : h1.mp = h2.mp
  all : t.rall = true → Grow h1 h2

theorem Heq.agree {h1 h2 : Heap} (k : Heq h1 h2) (t : Tn) : Agree t h1 h2 := ⟨fun s _ => k.bx s, fun i _ => by rw [k.ar], fun _ => by rw [k.ar], k.mp, fun _ => k.grow⟩

theorem Agree.own {t : Tn} {h1 h2 : Heap} (k : Agree t h1 h2) {id ver : Nat} (hi : t.ra = some id ∨ t.ra2 = some id ∨ (∃ a, t.ar = some (id, a))) : ownArr h2 id ver = ownArr h1 id ver := by
  unfold ownArr
  rw [k.ar id hi]

theorem Heq.own {h1 h2 : Heap} (k : Heq h1 h2) (id ver : Nat) : ownArr h2 id ver = ownArr h1 id ver := by
  unfold ownArr
  rw [k.ar]

theorem mapO_congr {α β : Type} {f f' : α → Option β} : ∀ {l : List α}, (∀ x ∈ l, f x = f' x) → mapO f l = mapO f' l
  | [], _ => rfl
  | x :: r, hf => by
    simp only [mapO]
    rw [hf x (by simp), mapO_congr (l := r) (fun y hy => hf y (by simp [hy]))]

theorem lendc_heq {h1 h2 : Heap} (k : Heq h1 h2) : ∀ (d : Nat) (x : V), lendc h2 d x = lendc h1 d x := by
  intro d
  induction d with
  | zero => intro x; cases x <;> simp [lendc]
  | succ d ih =>
    intro x
    have hfun : lendc h2 d = lendc h1 d := funext ih
    cases x <;> simp only [lendc, k.own, ← k.bx, hfun]

theorem lend_heq {h1 h2 : Heap} (k : Heq h1 h2) (x : V) : lend h2 x = lend h1 x := by
  have hfun : lendc h2 4 = lendc h1 4 := funext (lendc_heq k 4)
  cases x with
  | pv p => cases p <;> simp only [lend, hfun]
  | _ => simp only [lend, hfun]

theorem lendTake_heq {h1 h2 : Heap} (k : Heq h1 h2) (x : V) : lendTake h2 x = lendTake h1 x := by
  unfold lendTake
  split <;> simp only [k.own]

theorem lendAll_heq {h1 h2 : Heap} (k : Heq h1 h2) (tk : Bool) (vs : List V) : lendAll h2 tk vs = lendAll h1 tk vs := by
  have hfun : lend h2 = lend h1 := funext (lend_heq k)
  have hset : ∀ i a, lend { h2 with ar := h2.ar.set i a } = lend { h1 with ar := h1.ar.set i a } := fun i a =>
    funext (lend_heq ⟨fun s => k.bx s, by rw [k.ar], k.mp⟩)
  unfold lendAll
  simp only [hfun, hset, lendTake_heq k]

theorem mapO_mono {α β : Type} {f f' : α → Option β} : ∀ {l : List α} {r : List β}, (∀ x ∈ l, ∀ y, f x = some y → f' x = some y) → mapO f l = some r → mapO f' l = some r
  | [], _, _, hr => hr
  | x :: l, r, hf, hr => by
    simp only [mapO] at hr ⊢
    cases h1 : f x with
    | none => simp [h1] at hr
    | some y =>
      cases h2 : mapO f l with
      | none => simp [h1, h2] at hr
      | some q =>
        rw [hf x (by simp) y h1, mapO_mono (fun z hz => hf z (by simp [hz])) h2]
        simpa [h1, h2] using hr

theorem Grow.own {h1 h2 : Heap} (k : Grow h1 h2) {id ver : Nat} {a : Arr} (ho : ownArr h1 id ver = some a) : ownArr h2 id ver = some a := by
  unfold ownArr at ho ⊢
  cases hi : h1.ar[id]? with
  | none => simp [hi] at ho
  | some b => rw [k.ar id b hi]; simpa [hi] using ho

theorem lendc_grow {h1 h2 : Heap} (k : Grow h1 h2) : ∀ (d : Nat) (x : V) (p : PV), lendc h1 d x = some p → lendc h2 d x = some p := by
  intro d
  induction d with
  | zero => intro x p hp; cases x <;> simp [lendc] at hp ⊢ <;> exact hp
  | succ d ih =>
    intro x p hp
    cases x with
    | own id ver off len =>
      cases ho : ownArr h1 id ver with
      | none => simp [lendc, ho] at hp
      | some a =>
        simp only [lendc, k.own ho]
        simp only [lendc, ho] at hp
        cases hc : cutRows off len a.body with
        | inl rows => rw [hc] at hp; exact hp
        | inr rows =>
          rw [hc] at hp
          cases hm : mapO (mapO (lendc h1 d)) rows with
          | none => simp [hm] at hp
          | some l =>
            simp only
            rw [mapO_mono (fun r _ q hq => mapO_mono (fun c _ u hu => ih c u hu) hq) hm]
            simpa [hm] using hp
    | ptr slot off =>
      cases hs : look1 slot h1.bx with
      | none => simp [lendc, hs] at hp
      | some cs =>
        simp only [lendc, k.bx slot cs hs]
        simp only [lendc, hs] at hp
        cases hm : mapO (lendc h1 d) (cs.drop off) with
        | none => simp [hm] at hp
        | some l =>
          rw [mapO_mono (fun c _ u hu => ih c u hu) hm]
          simpa [hm] using hp
    | func f cap =>
      simp only [lendc] at hp ⊢
      cases hm : mapO (lendc h1 d) cap with
      | none => simp [hm] at hp
      | some l =>
        rw [mapO_mono (fun c _ u hu => ih c u hu) hm]
        simpa [hm] using hp
    | pv q => cases q <;> simp only [lendc] at hp ⊢ <;> exact hp
    | tl rows => simpa only [lendc] using hp
    | _ => simp [lendc] at hp

theorem lend_grow {h1 h2 : Heap} (k : Grow h1 h2) {x : V} {p : PV} (hp : lend h1 x = some p) : lend h2 x = some p := by
  cases x with
  | agg cs =>
    simp only [lend] at hp ⊢
    cases hm : mapO (lendc h1 4) cs with
    | none => simp [hm] at hp
    | some l =>
      rw [mapO_mono (fun c _ u hu => lendc_grow k 4 c u hu) hm]
      simpa [hm] using hp
  | pv q => cases q <;> simp only [lend] at hp ⊢ <;> first | exact hp | exact lendc_grow k 4 _ _ hp
  | _ => simp only [lend] at hp ⊢; exact lendc_grow k 4 _ _ hp

theorem lendTake_grow {h1 h2 : Heap} (k : Grow h1 h2) {x : V} {r : PV × Option (Nat × Arr)} (hp : lendTake h1 x = some r) : lendTake h2 x = some r := by
  unfold lendTake at hp ⊢
  split at hp
  · rename_i id ver len
    cases ho : ownArr h1 id ver with
    | none => simp [ho] at hp
    | some a => rw [k.own ho]; simpa [ho] using hp
  · exact hp
  · cases hp

theorem Grow.set {h1 h2 : Heap} (k : Grow h1 h2) (i : Nat) (a : Arr) : Grow { h1 with ar := h1.ar.set i a } { h2 with ar := h2.ar.set i a } := by
  refine ⟨k.bx, fun j b hj => ?_⟩
  simp only [List.getElem?_set] at hj ⊢
  by_cases hij : i = j
  · subst hij
    simp only [if_true] at hj ⊢
    split at hj <;> first | (cases hj; done) | skip
    rename_i hl
    have := k.ar i _ (List.getElem?_eq_getElem hl)
    rw [if_pos (List.getElem?_eq_some_iff.1 this).1]
    exact hj
  · rw [if_neg hij] at hj ⊢
    exact k.ar j b hj

theorem lendAll_grow {h1 h2 : Heap} (k : Grow h1 h2) {tk : Bool} {vs : List V} {r : List PV × Option (Nat × Arr)} (hh : lendAll h1 tk vs = some r) : lendAll h2 tk vs = some r := by
  unfold lendAll at hh ⊢
  cases tk with
  | false =>
    simp only [Bool.false_eq_true, if_false] at hh ⊢
    cases hm : mapO (lend h1) vs with
    | none => simp [hm] at hh
    | some l =>
      rw [mapO_mono (fun x _ y hy => lend_grow k hy) hm]
      simpa [hm] using hh
  | true =>
    simp only [if_true] at hh ⊢
    cases vs with
    | nil => exact hh
    | cons v r =>
      simp only at hh ⊢
      cases hl : lendTake h1 v with
      | none => simp [hl] at hh
      | some pa =>
        obtain ⟨p, a⟩ := pa
        rw [lendTake_grow k hl]
        simp only [hl] at hh
        cases a with
        | none =>
          simp only at hh ⊢
          cases hm : mapO (lend h1) r with
          | none => simp [hm] at hh
          | some l =>
            rw [mapO_mono (fun x _ y hy => lend_grow k hy) hm]
            simpa [hm] using hh
        | some ia =>
          obtain ⟨i, a⟩ := ia
          simp only at hh ⊢
          cases hm : mapO (lend { h1 with ar := h1.ar.set i a }) r with
          | none => simp [hm] at hh
          | some l =>
            rw [mapO_mono (fun x _ y hy => lend_grow (k.set i a) hy) hm]
            simpa [hm] using hh

/-- Arguments that are pure: whatever the state. -/
theorem lendc_pure (h1 h2 : Heap) {x : V} (hx : ∀ _d : Nat, (∃ p, x = .pv p) ∨ (∃ r, x = .tl r) ∨ (∃ f, x = .func f [])) (d : Nat) : lendc h2 (d + 1) x = lendc h1 (d + 1) x := by
  rcases hx d with ⟨p, rfl⟩ | ⟨r, rfl⟩ | ⟨f, rfl⟩
  · cases p <;> simp [lendc]
  · simp [lendc]
  · simp [lendc, mapO]

theorem lend_pure (h1 h2 : Heap) {x : V} (hx : x.isPv = true) : lend h2 x = lend h1 x := by
  cases x with
  | pv p => cases p <;> simp [lend, lendc]
  | tl r => simp [lend, lendc]
  | func f cap =>
    simp [V.isPv] at hx
    subst hx
    simp [lend, lendc, mapO]
  | agg cs =>
    simp only [lend]
    simp only [V.isPv, List.all_eq_true] at hx
    have : mapO (lendc h2 4) cs = mapO (lendc h1 4) cs := mapO_congr fun x hxm => by
      have := hx x hxm
      cases x with
      | pv p => cases p <;> simp [lendc]
      | tl r => simp [lendc]
      | _ => simp at this
    rw [this]
  | _ => simp [V.isPv] at hx

theorem lendTake_pure (h1 h2 : Heap) {x : V} (hx : x.isPv = true) : lendTake h2 x = lendTake h1 x := by
  cases x with
  | tl r => cases r <;> simp [lendTake]
  | _ => first | (simp [V.isPv] at hx; done) | simp [lendTake]

theorem lendTake_none (h : Heap) {x : V} (hx : x.isPv = true) {p : PV} {i : Nat} {a : Arr} : lendTake h x ≠ some (p, some (i, a)) := by
  intro hh
  cases x <;> first | (simp [V.isPv] at hx; done) | skip
  · simp [lendTake] at hh
  · rename_i r; cases r <;> simp [lendTake] at hh
  · simp [lendTake] at hh
  · simp [lendTake] at hh

theorem lendAll_pure (h1 h2 : Heap) (tk : Bool) {vs : List V} (hv : vs.all V.isPv = true) : lendAll h2 tk vs = lendAll h1 tk vs := by
  have hv' := List.all_eq_true.1 hv
  cases tk with
  | false =>
    simp only [lendAll, Bool.false_eq_true, if_false]
    rw [mapO_congr (fun x hx => lend_pure h1 h2 (hv' x hx))]
  | true =>
    simp only [lendAll, if_true]
    cases vs with
    | nil => rfl
    | cons v r =>
      simp only
      rw [lendTake_pure h1 h2 (hv' v (by simp))]
      cases hl : lendTake h1 v with
      | none => rfl
      | some pa =>
        obtain ⟨p, a⟩ := pa
        cases a with
        | none =>
          simp only
          rw [mapO_congr (fun x hx => lend_pure h1 h2 (hv' x (by simp [hx])))]
        | some ia =>
          obtain ⟨i, a⟩ := ia
          exact absurd hl (lendTake_none h1 (hv' v (by simp)))

theorem lendAll_none (h : Heap) (tk : Bool) {vs : List V} (hv : vs.all V.isPv = true) {ps : List PV} {a : Option (Nat × Arr)} (hh : lendAll h tk vs = some (ps, a)) : a = none := by
  have hv' := List.all_eq_true.1 hv
  unfold lendAll at hh
  split at hh
  · split at hh <;> first | (cases hh; done) | skip
    rename_i v r
    split at hh <;> first | (cases hh; done) | skip
    · split at hh <;> first | (cases hh; done) | skip
      injection hh with hh; injection hh with e1 e2; exact e2.symm
    · rename_i hl
      exact absurd hl (lendTake_none h (hv' v (by simp)))
  · split at hh <;> first | (cases hh; done) | skip
    injection hh with hh; injection hh with e1 e2; exact e2.symm

theorem takec_len (n : Nat) : ∀ (ps : List PV), (takec n ps).2 = [] → ∀ m, takec m ps = takec n ps
  | [], _, m => rfl
  | p :: r, hn, m => by
    rw [takec_cons] at hn ⊢
    simp only [List.append_eq_nil_iff] at hn
    rw [takec_cons]
    have h0 := hn.1
    have h1 := hn.2
    rw [h0] at h1 ⊢
    simp only [List.length_nil, Nat.add_zero] at h1 ⊢
    rw [takec_len n r h1 m]
    cases p <;> simp [cellArr] at h0 <;> simp [cellV]

theorem takev_len (n : Nat) (p : PV) (hn : (takev n p).2 = []) (m : Nat) : takev m p = takev n p := by
  cases p <;> simp [takev] at hn ⊢
  rename_i cs
  rw [takec_len n cs hn m]
  simp

theorem takeAll_len (n : Nat) : ∀ (ps : List PV), (takeAll n ps).2 = [] → ∀ m, takeAll m ps = takeAll n ps
  | [], _, m => rfl
  | p :: r, hn, m => by
    rw [takeAll_cons] at hn ⊢
    simp only [List.append_eq_nil_iff] at hn
    rw [takeAll_cons, takev_len n p hn.1 m]
    have h0 := hn.1
    have h1 := hn.2
    rw [h0] at h1 ⊢
    simp only [List.length_nil, Nat.add_zero] at h1 ⊢
    rw [takeAll_len n r h1 m]

/-- A function with a contract of its own looks at what it says. -/
def PrimLoc (Pr : Prims) : Prop := ∀ fn pr, Pr fn = some pr → ∀ vs h1 h2 v t, pr vs h1 = some (v, t) → Agree t h1 h2 → pr vs h2 = some (v, t)

theorem loadAt_loc {h1 h2 : Heap} {n : Nat} {x : V} {cs : List V} {t : Tn} (hh : loadAt h1 n x = some (cs, t)) (ha : Agree t h1 h2) : loadAt h2 n x = some (cs, t) := by
  have hh0 := hh
  unfold loadAt at hh ⊢
  split at hh
  · exact hh
  · rename_i slot off
    cases hs : look1 slot h1.bx with
    | none => simp [hs] at hh
    | some ds =>
      simp only [hs] at hh
      have ht : t.rb = some slot := by
        split at hh <;> first | (cases hh; done) | skip
        injection hh with hh; injection hh with e1 e2; subst e2; rfl
      rw [← ha.bx slot (.inl ht), hs]
      exact hh
  · rename_i id ver row col
    cases ho : ownArr h1 id ver with
    | none => simp [ho] at hh
    | some a =>
      simp only [ho] at hh
      have ht : t.ra = some id := by
        split at hh
        · split at hh <;> first | (cases hh; done) | skip
          split at hh <;> first | (cases hh; done) | skip
          injection hh with hh; injection hh with e1 e2; subst e2; rfl
        · split at hh <;> first | (cases hh; done) | skip
          split at hh <;> first | (cases hh; done) | skip
          injection hh with hh; injection hh with e1 e2; subst e2; rfl
      rw [ha.own (.inl ht), ho]
      exact hh
  · cases hh

theorem storeAt_loc {h1 h2 : Heap} {x : V} {news : List V} {t : Tn} (hh : storeAt h1 x news = some t) (ha : Agree t h1 h2) : storeAt h2 x news = some t := by
  unfold storeAt at hh ⊢
  split at hh
  · rename_i slot off
    cases hs : look1 slot h1.bx with
    | none => simp [hs] at hh
    | some ds =>
      simp only [hs] at hh
      have ht : ∃ c, t.bx = some (slot, c) := by
        split at hh <;> first | (cases hh; done) | skip
        injection hh with hh; subst hh; exact ⟨_, rfl⟩
      rw [← ha.bx slot (.inr ht), hs]
      exact hh
  · rename_i id ver row col
    cases ho : ownArr h1 id ver with
    | none => simp [ho] at hh
    | some a =>
      simp only [ho] at hh
      have ht : ∃ a, t.ar = some (id, a) := by
        split at hh <;> first | (cases hh; done) | skip
        injection hh with hh; subst hh; exact ⟨_, rfl⟩
      rw [ha.own (.inr (.inr ht)), ho]
      exact hh
  · cases hh

theorem srcRows_loc {h1 h2 : Heap} {y : V} {r : Sum (List (List PV)) (List (List V)) × Option Nat} (hh : srcRows h1 y = some r) (ha : ∀ i, r.2 = some i → h1.ar[i]? = h2.ar[i]?) : srcRows h2 y = some r := by
  unfold srcRows at hh ⊢
  split at hh
  · exact hh
  · exact hh
  · rename_i id ver off len
    cases ho : ownArr h1 id ver with
    | none => simp [ho] at hh
    | some a =>
      simp only [ho] at hh
      have ht : r.2 = some id := by injection hh with hh; subst hh; rfl
      have : ownArr h2 id ver = ownArr h1 id ver := by unfold ownArr; rw [ha id ht]
      rw [this, ho]
      exact hh
  · cases hh

theorem copyV_loc {h1 h2 : Heap} {k : Nat} {x y v : V} {t : Tn} (hh : copyV h1 k x y = some (v, t)) (ha : Agree t h1 h2) : copyV h2 k x y = some (v, t) := by
  unfold copyV at hh ⊢
  cases hs : srcRows h1 y with
  | none => simp [hs] at hh
  | some r =>
    obtain ⟨new, rd⟩ := r
    have hrd : t.ra = rd → srcRows h2 y = some (new, rd) := fun ht => srcRows_loc hs (fun i hi => ha.ar i (.inl (by rw [ht]; exact hi)))
    cases new with
    | inr new => simp [hs] at hh
    | inl new =>
      simp only [hs] at hh
      split at hh <;> first | (cases hh; done) | skip
      rename_i hfit
      split at hh <;> first | (cases hh; done) | skip
      rename_i id ver off len
      split at hh
      · rename_i hz
        injection hh with hh; injection hh with e1 e2; subst e1; subst e2
        rw [hrd rfl]
        simp only [hfit, if_true]
        rw [if_pos hz]
      · rename_i hz
        cases ho : ownArr h1 id ver with
        | none => simp [ho] at hh
        | some a =>
          simp only [ho] at hh
          split at hh <;> first | (cases hh; done) | skip
          rename_i rows hb
          split at hh <;> first | (cases hh; done) | skip
          rename_i hc
          injection hh with hh; injection hh with e1 e2; subst e1; subst e2
          rw [hrd rfl]
          simp only [hfit, if_true]
          rw [ha.own (.inr (.inr ⟨_, rfl⟩)), ho]
          simp only [hb]
          rw [if_neg hz, if_pos hc]

theorem appendV_loc {h1 h2 : Heap} {k : Nat} {x y v : V} {t : Tn} (hh : appendV h1 k x y = some (v, t)) (ha : Agree t h1 h2) : appendV h2 k x y = some (v, t) := by
  unfold appendV at hh ⊢
  cases hs : srcRows h1 y with
  | none => simp [hs] at hh
  | some r =>
    obtain ⟨new, rd⟩ := r
    simp only [hs] at hh
    have hrd : t.ra = rd → srcRows h2 y = some (new, rd) := fun ht => srcRows_loc hs (fun i hi => ha.ar i (.inl (by rw [ht]; exact hi)))
    split at hh <;> first | (cases hh; done) | skip
    rename_i hfit
    split at hh
    · rename_i rows
      split at hh
      · rename_i hz
        injection hh with hh; injection hh with e1 e2; subst e1; subst e2
        rw [hrd rfl]
        simp [hfit, hz]
      · rename_i hz
        split at hh <;> first | (cases hh; done) | skip
        rename_i hc
        injection hh with hh; injection hh with e1 e2; subst e1; subst e2
        rw [hrd rfl]
        simp only [hfit, if_true, hz, if_false, hc, and_self]
        rw [ha.len (by simp)]
    · rename_i id ver off len
      cases ho : ownArr h1 id ver with
      | none => simp [ho] at hh
      | some a =>
        simp only [ho] at hh
        split at hh
        · rename_i hz
          injection hh with hh; injection hh with e1 e2; subst e1; subst e2
          rw [hrd rfl]
          simp only [hfit, if_true]
          rw [ha.own (.inr (.inl rfl)), ho]
          simp [hz]
        · rename_i hz
          split at hh <;> first | (cases hh; done) | skip
          rename_i hc
          injection hh with hh; injection hh with e1 e2; subst e1; subst e2
          rw [hrd rfl]
          simp only [hfit, if_true]
          rw [ha.own (.inr (.inr ⟨_, rfl⟩)), ho]
          simp only [hz, if_false]
          rw [if_pos hc]
    · cases hh

theorem sliceV_loc {h1 h2 : Heap} {k : Nat} {x v : V} {lo hi mx : Option Opd} {t : Tn} (hh : sliceV g h1 k x lo hi mx = some (v, t)) (ha : Agree t h1 h2) : sliceV g h2 k x lo hi mx = some (v, t) := by
  unfold sliceV at hh ⊢
  split at hh
  · exact hh
  · exact hh
  · rename_i id ver off len
    cases ho : ownArr h1 id ver with
    | none => simp [ho] at hh
    | some a =>
      simp only [ho] at hh
      have ht : t.ra = some id := by
        split at hh <;> first | (cases hh; done) | skip
        split at hh <;> first | (cases hh; done) | skip
        · injection hh with hh; injection hh with e1 e2; subst e2; rfl
        · split at hh <;> first | (cases hh; done) | skip
          injection hh with hh; injection hh with e1 e2; subst e2; rfl
      rw [ha.own (.inl ht), ho]
      exact hh
  · cases hh

theorem idxV_loc {h1 h2 : Heap} {k : Nat} {x v : V} {i : Option Int} {t : Tn} (hh : idxV h1 k x i = some (v, t)) (ha : Agree t h1 h2) : idxV h2 k x i = some (v, t) := by
  unfold idxV at hh ⊢
  split at hh
  · exact hh
  · exact hh
  · rename_i id ver off len
    split at hh <;> first | (cases hh; done) | skip
    rename_i j a hj ho
    split at hh <;> first | (cases hh; done) | skip
    rename_i hk
    injection hh with hh; injection hh with e1 e2; subst e1; subst e2
    rw [hj, ha.own (.inl rfl), ho]
    simp [hk]
  · cases hh

theorem lenV_loc {h1 h2 : Heap} {kd : Nat} {x : V} {n : Nat} {t : Tn} (hh : lenV h1 kd x = some (n, t)) (ha : Agree t h1 h2) : lenV h2 kd x = some (n, t) := by
  unfold lenV at hh ⊢
  split at hh <;> first | exact hh | (cases hh; done) | skip
  rw [← ha.mp]
  exact hh

theorem eval_loc (hPL : PrimLoc Pr) {h1 h2 : Heap} {q : AOp} {v : V} {t : Tn} (he : evalOp Φ Pr Tk g h1 q = some (v, t)) (ha : Agree t h1 h2) : evalOp Φ Pr Tk g h2 q = some (v, t) := by
  cases q with
  | alloc slot zero =>
    simp only [evalOp] at he ⊢
    split at he <;> first | (cases he; done) | skip
    rename_i hs
    have he' := he
    injection he with he; injection he with e1 e2
    rw [← ha.bx slot (.inr ⟨zero, by rw [← e2]⟩), hs]
    exact he'
  | box slot n x =>
    simp only [evalOp] at he ⊢
    split at he <;> first | (cases he; done) | skip
    rename_i hs
    split at he <;> first | (cases he; done) | skip
    rename_i hc
    have he' := he
    injection he with he; injection he with e1 e2
    rw [← ha.bx slot (.inr ⟨(g x).cells, by rw [← e2]⟩), hs]
    simp only [hc, and_self, if_true]
    exact he'
  | lit k zero len parts =>
    simp only [evalOp] at he ⊢
    split at he <;> first | (cases he; done) | skip
    rename_i cs hf
    split at he
    · exact he
    · rename_i rows hrows
      split at he <;> first | (cases he; done) | skip
      rename_i hc
      injection he with he; injection he with e1 e2; subst e1; subst e2
      rw [if_pos hc, ha.len (by simp)]
  | load n isAgg x =>
    simp only [evalOp] at he ⊢
    split at he <;> first | (cases he; done) | skip
    rename_i cs t' hl
    split at he <;> first | (cases he; done) | skip
    rename_i v' hc
    injection he with he; injection he with e1 e2; subst e1; subst e2
    rw [loadAt_loc hl ha]
    simp only [hc]
  | store n x y =>
    simp only [evalOp] at he ⊢
    split at he <;> first | (cases he; done) | skip
    rename_i hn
    split at he <;> first | (cases he; done) | skip
    rename_i t' hs
    injection he with he; injection he with e1 e2; subst e1; subst e2
    rw [if_pos hn, storeAt_loc hs ha]
  | idx k x i => exact idxV_loc he ha
  | sl k x lo hi mx => exact sliceV_loc he ha
  | len kd x =>
    simp only [evalOp] at he ⊢
    split at he <;> first | (cases he; done) | skip
    rename_i n t' hl
    injection he with he; injection he with e1 e2; subst e1; subst e2
    rw [lenV_loc hl ha]
  | app k x y => exact appendV_loc he ha
  | copy k x y => exact copyV_loc he ha
  | make k zero n c =>
    simp only [evalOp] at he ⊢
    split at he <;> first | (cases he; done) | skip
    rename_i a b h1' h2'
    split at he <;> first | (cases he; done) | skip
    rename_i hc
    injection he with he; injection he with e1 e2; subst e1; subst e2
    rw [if_pos hc, ha.len (by simp)]
  | mkmap =>
    simp only [evalOp] at he ⊢
    rw [← ha.mp]
    exact he
  | look ag ks zero x i ok =>
    simp only [evalOp] at he ⊢
    rw [← ha.mp]
    exact he
  | upd ag ks m k x =>
    simp only [evalOp] at he ⊢
    rw [← ha.mp]
    exact he
  | call f args =>
    simp only [evalOp] at he ⊢
    split at he <;> first | (cases he; done) | skip
    rename_i fn cap hf
    split at he
    · rename_i pr hpr
      exact hPL fn pr hpr _ _ _ _ _ he ha
    · split at he <;> first | (cases he; done) | skip
      rename_i ps a hl
      split at he <;> first | (cases he; done) | skip
      rename_i rs hrs
      injection he with he; injection he with e1 e2; subst e1; subst e2
      have hlend : lendAll h2 (Tk fn) (args.map g ++ cap) = some (ps, a) := by
        cases hpv : (args.map g ++ cap).all V.isPv with
        | true => rw [lendAll_pure h1 h2 _ hpv]; exact hl
        | false => exact lendAll_grow (ha.all (by simp [hpv])) hl
      rw [hlend]
      simp only [hrs]
      by_cases has : (takeAll h1.ar.length rs).2 = []
      · rw [takeAll_len _ _ has h2.ar.length, has]
        simp
      · rw [← ha.len has]
  | clr k zero x =>
    simp only [evalOp] at he ⊢
    split at he <;> first | exact he | (cases he; done) | skip
    rename_i id ver off len hg
    split at he <;> first | (cases he; done) | skip
    rename_i a z ho hz
    split at he <;> first | (cases he; done) | skip
    rename_i rows hb
    split at he <;> first | (cases he; done) | skip
    rename_i hc
    injection he with he; injection he with e1 e2; subst e1; subst e2
    rw [ha.own (.inr (.inr ⟨_, rfl⟩)), ho]
    simp only [hz, hb, hc, and_self, if_true]
  | _ => exact he

end Go.Pv

/-
  Two operations that keep off each other may change places.
-/
namespace Go.Pv
variable {g g' : Opd → V} {Φ : Nat → List PV → Option (List PV)} {Pr : Prims} {Tk : Nat → Bool}

theorem geto_eq {env env' : List (Nat × V)} {x : Opd} (hx : ∀ t ∈ x.reads, get env t = get env' t) : geto env x = geto env' x := by
  cases x with
  | tmp t => exact hx t (by simp [Opd.reads])
  | val v => rfl

theorem map_geto {env env' : List (Nat × V)} {l : List Opd} (hl : ∀ t ∈ l.flatMap Opd.reads, get env t = get env' t) : l.map (geto env) = l.map (geto env') := by
  induction l with
  | nil => rfl
  | cons x r ih =>
    simp only [List.flatMap_cons, List.mem_append] at hl
    simp only [List.map_cons]
    rw [geto_eq (fun t ht => hl t (.inl ht)), ih (fun t ht => hl t (.inr ht))]

theorem fillv_congr {env env' : List (Nat × V)} : ∀ {parts : List (Nat × Nat × Opd)} {cs : List V}, (∀ t ∈ parts.flatMap (fun p => p.2.2.reads), get env t = get env' t) → fillv (geto env) cs parts = fillv (geto env') cs parts
  | [], cs, _ => rfl
  | (off, n, x) :: r, cs, hl => by
    simp only [List.flatMap_cons, List.mem_append] at hl
    simp only [fillv]
    rw [geto_eq (fun t ht => hl t (.inl ht))]
    split
    · exact fillv_congr (fun t ht => hl t (.inr ht))
    · rfl

theorem bound_congr {env env' : List (Nat × V)} {o : Option Opd} (ho : ∀ t ∈ readsO o, get env t = get env' t) (d n : Nat) : bound (geto env) o d n = bound (geto env') o d n := by
  cases o with
  | none => rfl
  | some x => simp only [bound]; rw [geto_eq ho]

theorem bounds_congr {env env' : List (Nat × V)} {lo hi mx : Option Opd} (h1 : ∀ t ∈ readsO lo, get env t = get env' t) (h2 : ∀ t ∈ readsO hi, get env t = get env' t) (h3 : ∀ t ∈ readsO mx, get env t = get env' t) (n : Nat) :
    bounds (geto env) lo hi mx n = bounds (geto env') lo hi mx n := by
  simp only [bounds, bound_congr h1, bound_congr h2]
  cases mx with
  | none => rfl
  | some m => simp only [bound_congr h3]

theorem eval_congr {env env' : List (Nat × V)} {h : Heap} {q : AOp} (hq : ∀ t ∈ q.reads, get env t = get env' t) : evalOp Φ Pr Tk (geto env) h q = evalOp Φ Pr Tk (geto env') h q := by
  cases q with
  | mov x => simp only [evalOp]; rw [geto_eq hq]
  | pick c a b =>
    simp only [AOp.reads, List.mem_append] at hq
    simp only [evalOp]
    rw [geto_eq (x := c) (fun t ht => hq t (by simp [ht])), geto_eq (x := a) (fun t ht => hq t (by simp [ht])), geto_eq (x := b) (fun t ht => hq t (by simp [ht]))]
  | alloc slot z => rfl
  | box slot n x => simp only [evalOp]; rw [geto_eq hq]
  | build z parts => simp only [evalOp]; rw [fillv_congr hq]
  | lit k z len parts => simp only [evalOp]; rw [fillv_congr hq]
  | load n b x => simp only [evalOp]; rw [geto_eq hq]
  | nilck x => simp only [evalOp]; rw [geto_eq hq]
  | un op x => simp only [evalOp]; rw [geto_eq hq]
  | conv k x => simp only [evalOp]; rw [geto_eq hq]
  | convs x => simp only [evalOp]; rw [geto_eq hq]
  | fld off x => simp only [evalOp]; rw [geto_eq hq]
  | part off n b x => simp only [evalOp]; rw [geto_eq hq]
  | len kd x => simp only [evalOp]; rw [geto_eq hq]
  | ext x i => simp only [evalOp]; rw [geto_eq hq]
  | clr k z x => simp only [evalOp]; rw [geto_eq hq]
  | mkmap => rfl
  | clos f cap => simp only [evalOp]; rw [map_geto hq]
  | minmax b args => simp only [evalOp]; rw [map_geto hq]
  | call f args =>
    simp only [AOp.reads, List.mem_append] at hq
    simp only [evalOp]
    rw [geto_eq (x := f) (fun t ht => hq t (.inl ht)), map_geto (fun t ht => hq t (.inr ht))]
  | sl k x lo hi mx =>
    simp only [AOp.reads, List.mem_append] at hq
    have hb : bounds (geto env) lo hi mx = bounds (geto env') lo hi mx := funext (bounds_congr (fun t ht => hq t (by simp [ht])) (fun t ht => hq t (by simp [ht])) (fun t ht => hq t (by simp [ht])))
    simp only [evalOp, sliceV, hb]
    rw [geto_eq (x := x) (fun t ht => hq t (by simp [ht]))]
  | sls x lo hi =>
    simp only [AOp.reads, List.mem_append] at hq
    have h1 : ∀ d n, bound (geto env) lo d n = bound (geto env') lo d n := bound_congr (fun t ht => hq t (by simp [ht]))
    have h2 : ∀ d n, bound (geto env) hi d n = bound (geto env') hi d n := bound_congr (fun t ht => hq t (by simp [ht]))
    simp only [evalOp, sliceS, h1, h2]
    rw [geto_eq (x := x) (fun t ht => hq t (by simp [ht]))]
  | upd ag ks m k v =>
    simp only [AOp.reads, List.mem_append] at hq
    simp only [evalOp]
    rw [geto_eq (x := m) (fun t ht => hq t (by simp [ht])), geto_eq (x := k) (fun t ht => hq t (by simp [ht])), geto_eq (x := v) (fun t ht => hq t (by simp [ht]))]
  | store n x y =>
    simp only [AOp.reads, List.mem_append] at hq
    simp only [evalOp]
    rw [geto_eq (x := x) (fun t ht => hq t (by simp [ht])), geto_eq (x := y) (fun t ht => hq t (by simp [ht]))]
  | bin op x y =>
    simp only [AOp.reads, List.mem_append] at hq
    simp only [evalOp]
    rw [geto_eq (x := x) (fun t ht => hq t (by simp [ht])), geto_eq (x := y) (fun t ht => hq t (by simp [ht]))]
  | eqa ag ks b x y =>
    simp only [AOp.reads, List.mem_append] at hq
    simp only [evalOp]
    rw [geto_eq (x := x) (fun t ht => hq t (by simp [ht])), geto_eq (x := y) (fun t ht => hq t (by simp [ht]))]
  | idx k x y =>
    simp only [AOp.reads, List.mem_append] at hq
    simp only [evalOp]
    rw [geto_eq (x := x) (fun t ht => hq t (by simp [ht])), geto_eq (x := y) (fun t ht => hq t (by simp [ht]))]
  | idxa n k x y =>
    simp only [AOp.reads, List.mem_append] at hq
    simp only [evalOp]
    rw [geto_eq (x := x) (fun t ht => hq t (by simp [ht])), geto_eq (x := y) (fun t ht => hq t (by simp [ht]))]
  | ixa n k b x y =>
    simp only [AOp.reads, List.mem_append] at hq
    simp only [evalOp]
    rw [geto_eq (x := x) (fun t ht => hq t (by simp [ht])), geto_eq (x := y) (fun t ht => hq t (by simp [ht]))]
  | ixs x y =>
    simp only [AOp.reads, List.mem_append] at hq
    simp only [evalOp]
    rw [geto_eq (x := x) (fun t ht => hq t (by simp [ht])), geto_eq (x := y) (fun t ht => hq t (by simp [ht]))]
  | app k x y =>
    simp only [AOp.reads, List.mem_append] at hq
    simp only [evalOp]
    rw [geto_eq (x := x) (fun t ht => hq t (by simp [ht])), geto_eq (x := y) (fun t ht => hq t (by simp [ht]))]
  | copy k x y =>
    simp only [AOp.reads, List.mem_append] at hq
    simp only [evalOp]
    rw [geto_eq (x := x) (fun t ht => hq t (by simp [ht])), geto_eq (x := y) (fun t ht => hq t (by simp [ht]))]
  | make k z x y =>
    simp only [AOp.reads, List.mem_append] at hq
    simp only [evalOp]
    rw [geto_eq (x := x) (fun t ht => hq t (by simp [ht])), geto_eq (x := y) (fun t ht => hq t (by simp [ht]))]
  | look ag ks z x y ok =>
    simp only [AOp.reads, List.mem_append] at hq
    simp only [evalOp]
    rw [geto_eq (x := x) (fun t ht => hq t (by simp [ht])), geto_eq (x := y) (fun t ht => hq t (by simp [ht]))]

/-- Turns nothing. -/
def Tn.idle (t : Tn) : Prop := t.bx = none ∧ t.ar = none ∧ t.push = [] ∧ t.mp = none ∧ t.pushm = false

theorem Tn.idle.apply {t : Tn} (ht : t.idle) (h : Heap) : t.apply h = h := by
  obtain ⟨h1, h2, h3, h4, h5⟩ := ht
  cases h
  simp [Tn.apply, h1, h2, h3, h4, h5]

theorem map_pair {x : Option V} {v : V} {t : Tn} (hh : (x.map fun v => (v, ({} : Tn))) = some (v, t)) : x = some v ∧ t = {} := by
  obtain ⟨y, h1, h2⟩ := map_some hh
  injection h2 with e1 e2
  subst e1
  exact ⟨h1, e2⟩

theorem idle0 : Tn.idle {} := ⟨rfl, rfl, rfl, rfl, rfl⟩

theorem loadAt_idle {h : Heap} {n : Nat} {x : V} {cs : List V} {t : Tn} (hh : loadAt h n x = some (cs, t)) : t.idle := by
  unfold loadAt at hh
  split at hh
  all_goals (repeat' (split at hh))
  all_goals first | (cases hh; done) | (injection hh with hh; injection hh with e1 e2; subst e2; exact ⟨rfl, rfl, rfl, rfl, rfl⟩)

theorem lenV_idle {h : Heap} {kd : Nat} {x : V} {n : Nat} {t : Tn} (hh : lenV h kd x = some (n, t)) : t.idle := by
  unfold lenV at hh
  split at hh
  all_goals (repeat' (split at hh))
  all_goals first | (cases hh; done) | (injection hh with hh; injection hh with e1 e2; subst e2; exact ⟨rfl, rfl, rfl, rfl, rfl⟩)

theorem idxV_idle {h : Heap} {k : Nat} {x v : V} {i : Option Int} {t : Tn} (hh : idxV h k x i = some (v, t)) : t.idle := by
  unfold idxV at hh
  split at hh
  · obtain ⟨_, rfl⟩ := map_pair hh; exact idle0
  · obtain ⟨_, rfl⟩ := map_pair hh; exact idle0
  · repeat' (split at hh)
    all_goals first | (cases hh; done) | (injection hh with hh; injection hh with e1 e2; subst e2; exact ⟨rfl, rfl, rfl, rfl, rfl⟩)
  · cases hh

theorem sliceV_idle {h : Heap} {k : Nat} {x v : V} {lo hi mx : Option Opd} {t : Tn} (hh : sliceV g h k x lo hi mx = some (v, t)) : t.idle := by
  unfold sliceV at hh
  split at hh
  all_goals (repeat' (split at hh))
  all_goals first | (cases hh; done) | (injection hh with hh; injection hh with e1 e2; subst e2; exact ⟨rfl, rfl, rfl, rfl, rfl⟩)

/-- What turns nothing by its kind. -/
theorem eval_idle {h : Heap} {q : AOp} {v : V} {t : Tn} (hq : q.turns = false) (he : evalOp Φ Pr Tk g h q = some (v, t)) : t.idle := by
  cases q <;> first | (simp [AOp.turns] at hq; done) | simp only [evalOp] at he
  case sl => exact sliceV_idle he
  case idx => exact idxV_idle he
  case load =>
    split at he <;> first | (cases he; done) | skip
    rename_i hl
    split at he <;> first | (cases he; done) | skip
    injection he with he; injection he with e1 e2; subst e2
    exact loadAt_idle hl
  case len =>
    split at he <;> first | (cases he; done) | skip
    rename_i hl
    injection he with he; injection he with e1 e2; subst e2
    exact lenV_idle hl
  case look =>
    split at he <;> first | (cases he; done) | skip
    split at he <;> first | (cases he; done) | skip
    split at he <;> first | (cases he; done) | skip
    injection he with he; injection he with e1 e2; subst e2
    split <;> exact ⟨rfl, rfl, rfl, rfl, rfl⟩
  all_goals (repeat' (split at he))
  all_goals first
    | (cases he; done)
    | (injection he with he; injection he with e1 e2; subst e2; exact idle0)
    | (obtain ⟨_, rfl⟩ := map_pair he; exact idle0)

/-- What neither looks nor turns. -/
theorem eval_quiet {h1 h2 : Heap} {q : AOp} {v : V} {t : Tn} (hl : q.looks = false) (hq : q.turns = false) (he : evalOp Φ Pr Tk g h1 q = some (v, t)) : evalOp Φ Pr Tk g h2 q = some (v, t) := by
  cases q <;> first | (simp [AOp.turns] at hq; done) | (simp [AOp.looks] at hl; done) | exact he

end Go.Pv

/-
  Changing places, and bringing an operation to the front.
-/
namespace Go.Pv
variable {g g' : Opd → V} {Φ : Nat → List PV → Option (List PV)} {Pr : Prims} {Tk : Nat → Bool}

/-- The arrays that it names are there; what it lays down lies behind all others. -/
def Tn.fit (t : Tn) (h : Heap) : Prop := (t.push ≠ [] → t.base = h.ar.length) ∧ ∀ i a, t.ar = some (i, a) → i < h.ar.length

/-- What is asked of functions with contracts of their own. -/
structure PrimLaw (Pr : Prims) : Prop where
  loc : PrimLoc Pr
  fit : ∀ fn pr, Pr fn = some pr → ∀ vs h v t, pr vs h = some (v, t) → t.fit h
  old : ∀ fn pr, Pr fn = some pr → ∀ vs h v t, pr vs h = some (v, t) → t.new = false

theorem Tn.idle.fit {t : Tn} (ht : t.idle) (h : Heap) : t.fit h := by
  obtain ⟨h1, h2, h3, h4, h5⟩ := ht
  exact ⟨fun hp => absurd h3 hp, fun i a hia => by rw [h2] at hia; cases hia⟩

theorem ownArr_lt {h : Heap} {id ver : Nat} {a : Arr} (ho : ownArr h id ver = some a) : id < h.ar.length := (List.getElem?_eq_some_iff.1 (ownArr_spec ho).1).1

theorem appendV_fit {h : Heap} {k : Nat} {x y v : V} {t : Tn} (hh : appendV h k x y = some (v, t)) : t.fit h := by
  unfold appendV at hh
  split at hh <;> first | (cases hh; done) | skip
  split at hh <;> first | (cases hh; done) | skip
  split at hh <;> first | (cases hh; done) | skip
  · split at hh
    · injection hh with hh; injection hh with e1 e2; subst e2
      exact ⟨fun hp => absurd rfl hp, fun i a hia => by cases hia⟩
    · split at hh <;> first | (cases hh; done) | skip
      injection hh with hh; injection hh with e1 e2; subst e2
      exact ⟨fun _ => rfl, fun i a hia => by cases hia⟩
  · split at hh <;> first | (cases hh; done) | skip
    rename_i ho
    split at hh
    · injection hh with hh; injection hh with e1 e2; subst e2
      exact ⟨fun hp => absurd rfl hp, fun i a hia => by cases hia⟩
    · split at hh <;> first | (cases hh; done) | skip
      injection hh with hh; injection hh with e1 e2; subst e2
      exact ⟨fun hp => absurd rfl hp, fun i a hia => by injection hia with hia; injection hia with e1 e2; subst e1; exact ownArr_lt ho⟩

theorem copyV_fit {h : Heap} {k : Nat} {x y v : V} {t : Tn} (hh : copyV h k x y = some (v, t)) : t.fit h := by
  unfold copyV at hh
  split at hh <;> first | (cases hh; done) | skip
  split at hh <;> first | (cases hh; done) | skip
  split at hh <;> first | (cases hh; done) | skip
  split at hh
  · injection hh with hh; injection hh with e1 e2; subst e2
    exact ⟨fun hp => absurd rfl hp, fun i a hia => by cases hia⟩
  · split at hh <;> first | (cases hh; done) | skip
    rename_i ho
    split at hh <;> first | (cases hh; done) | skip
    split at hh <;> first | (cases hh; done) | skip
    injection hh with hh; injection hh with e1 e2; subst e2
    exact ⟨fun hp => absurd rfl hp, fun i a hia => by injection hia with hia; injection hia with e1 e2; subst e1; exact ownArr_lt ho⟩

theorem storeAt_fit {h : Heap} {x : V} {news : List V} {t : Tn} (hh : storeAt h x news = some t) : t.fit h := by
  unfold storeAt at hh
  split at hh <;> first | (cases hh; done) | skip
  · split at hh <;> first | (cases hh; done) | skip
    split at hh <;> first | (cases hh; done) | skip
    injection hh with hh; subst hh
    exact ⟨fun hp => absurd rfl hp, fun i a hia => by cases hia⟩
  · split at hh <;> first | (cases hh; done) | skip
    rename_i ho
    split at hh <;> first | (cases hh; done) | skip
    injection hh with hh; subst hh
    exact ⟨fun hp => absurd rfl hp, fun i a hia => by injection hia with hia; injection hia with e1 e2; subst e1; exact ownArr_lt ho⟩

theorem lendAll_fit {h : Heap} {tk : Bool} {vs : List V} {ps : List PV} {i : Nat} {a : Arr} (hh : lendAll h tk vs = some (ps, some (i, a))) : i < h.ar.length := by
  unfold lendAll at hh
  split at hh
  · split at hh <;> first | (cases hh; done) | skip
    split at hh <;> first | (cases hh; done) | skip
    · split at hh <;> first | (cases hh; done) | skip
    · rename_i p j b hl
      split at hh <;> first | (cases hh; done) | skip
      injection hh with hh; injection hh with e1 e2
      injection e2 with e2; injection e2 with e3 e4
      subst e3
      unfold lendTake at hl
      split at hl <;> first | (cases hl; done) | skip
      split at hl <;> first | (cases hl; done) | skip
      rename_i ho
      split at hl <;> first | (cases hl; done) | skip
      split at hl <;> first | (cases hl; done) | skip
      injection hl with hl; injection hl with q1 q2; injection q2 with q2; injection q2 with q3 q4; subst q3
      exact ownArr_lt ho
  · split at hh <;> first | (cases hh; done) | skip

theorem eval_fit (hPL : PrimLaw Pr) {h : Heap} {q : AOp} {v : V} {t : Tn} (he : evalOp Φ Pr Tk g h q = some (v, t)) : t.fit h := by
  cases hq : q.turns with
  | false => exact (eval_idle hq he).fit h
  | true =>
    cases q <;> first | (simp [AOp.turns] at hq; done) | skip
    case alloc slot zero =>
      simp only [evalOp] at he
      split at he <;> first | (cases he; done) | skip
      injection he with he; injection he with e1 e2; subst e2
      exact ⟨fun hp => absurd rfl hp, fun i a hia => by cases hia⟩
    case box slot n x =>
      simp only [evalOp] at he
      split at he <;> first | (cases he; done) | skip
      split at he <;> first | (cases he; done) | skip
      injection he with he; injection he with e1 e2; subst e2
      exact ⟨fun hp => absurd rfl hp, fun i a hia => by cases hia⟩
    case lit k zero len parts =>
      simp only [evalOp] at he
      split at he <;> first | (cases he; done) | skip
      split at he
      · injection he with he; injection he with e1 e2; subst e2
        exact idle0.fit h
      · split at he <;> first | (cases he; done) | skip
        injection he with he; injection he with e1 e2; subst e2
        exact ⟨fun _ => rfl, fun i a hia => by cases hia⟩
    case store n x y =>
      simp only [evalOp] at he
      split at he <;> first | (cases he; done) | skip
      split at he <;> first | (cases he; done) | skip
      rename_i hs
      injection he with he; injection he with e1 e2; subst e2
      exact storeAt_fit hs
    case app k x y => exact appendV_fit he
    case copy k x y => exact copyV_fit he
    case make k zero n c =>
      simp only [evalOp] at he
      split at he <;> first | (cases he; done) | skip
      split at he <;> first | (cases he; done) | skip
      injection he with he; injection he with e1 e2; subst e2
      exact ⟨fun _ => rfl, fun i a hia => by cases hia⟩
    case mkmap =>
      simp only [evalOp] at he
      injection he with he; injection he with e1 e2; subst e2
      exact ⟨fun hp => absurd rfl hp, fun i a hia => by cases hia⟩
    case upd ag ks m k x =>
      simp only [evalOp] at he
      split at he <;> first | (cases he; done) | skip
      split at he <;> first | (cases he; done) | skip
      split at he <;> first | (cases he; done) | skip
      all_goals
        injection he with he; injection he with e1 e2; subst e2
        exact ⟨fun hp => absurd rfl hp, fun i a hia => by cases hia⟩
    case call f args =>
      simp only [evalOp] at he
      split at he <;> first | (cases he; done) | skip
      rename_i fn cap hf
      split at he
      · rename_i pr hpr
        exact hPL.fit fn pr hpr _ _ _ _ he
      · split at he <;> first | (cases he; done) | skip
        rename_i ps a hl
        split at he <;> first | (cases he; done) | skip
        injection he with he; injection he with e1 e2; subst e2
        refine ⟨fun hp => ?_, fun i b hia => ?_⟩
        · simp only at hp ⊢
          rw [if_neg (by simpa using hp)]
        · simp only at hia
          subst hia
          exact lendAll_fit hl
    case clr k zero x =>
      simp only [evalOp] at he
      split at he <;> first | (cases he; done) | skip
      · injection he with he; injection he with e1 e2; subst e2; exact idle0.fit h
      · injection he with he; injection he with e1 e2; subst e2; exact idle0.fit h
      · split at he <;> first | (cases he; done) | skip
        rename_i ho _
        split at he <;> first | (cases he; done) | skip
        split at he <;> first | (cases he; done) | skip
        injection he with he; injection he with e1 e2; subst e2
        exact ⟨fun hp => absurd rfl hp, fun i a hia => by injection hia with hia; injection hia with e1 e2; subst e1; exact ownArr_lt ho⟩

def arSet (o : Option (Nat × Arr)) (l : List Arr) : List Arr :=
  match o with
  | some (i, a) => l.set i a
  | none => l

theorem apply_ar (t : Tn) (h : Heap) : (t.apply h).ar = arSet t.ar h.ar ++ t.push := by
  cases ht : t.ar with
  | none => simp [Tn.apply, arSet, ht]
  | some ia => obtain ⟨i, a⟩ := ia; simp [Tn.apply, arSet, ht]

theorem arSet_len (o : Option (Nat × Arr)) (l : List Arr) : (arSet o l).length = l.length := by
  cases o with
  | none => rfl
  | some ia => obtain ⟨i, a⟩ := ia; simp [arSet]

theorem off2_ne {o p : Option Nat} (hh : off2 o p (· == ·) = true) {x : Nat} (ho : o = some x) : p ≠ some x := by
  intro hp
  subst ho; subst hp
  simp [off2] at hh

/-- What keeps off another's changes sees the same before and after them. -/
theorem off_base {a b : Tn} (hoff : a.offB b = true) {h : Heap} (hf : a.fit h) : (∀ s, b.rb = some s ∨ (∃ c, b.bx = some (s, c)) → look1 s h.bx = look1 s (a.apply h).bx) ∧
    (∀ i, b.ra = some i ∨ b.ra2 = some i ∨ (∃ x, b.ar = some (i, x)) → h.ar[i]? = (a.apply h).ar[i]?) ∧ (b.push ≠ [] → h.ar.length = (a.apply h).ar.length) ∧ h.mp = (a.apply h).mp := by
  simp only [Tn.offB, Bool.and_eq_true, Bool.or_eq_true, Bool.not_eq_true'] at hoff
  obtain ⟨⟨⟨⟨⟨⟨⟨o1, o2⟩, o3⟩, o4⟩, o5⟩, o6⟩, o7⟩, o8⟩ := hoff
  refine ⟨fun s hs => ?_, fun i hi => ?_, fun hp => ?_, ?_⟩
  · cases hbx : a.bx with
    | none => simp [Tn.apply, hbx]
    | some sc =>
      obtain ⟨s0, c0⟩ := sc
      have hne : s0 ≠ s := by
        intro he
        subst he
        rcases hs with hs | ⟨c, hs⟩
        · exact off2_ne o2 (x := s0) (by simp [hbx]) hs
        · exact off2_ne o1 (x := s0) (by simp [hbx]) (by simp [hs])
      have he : (a.apply h).bx = bxSet s0 c0 h.bx := by simp [Tn.apply, hbx]
      have hl : look1 s (bxSet s0 c0 h.bx) = if s0 = s then some c0 else look1 s h.bx := look1_set (α := List V) s0 s c0 h.bx
      rw [he, hl, if_neg hne]
  · have hset : (arSet a.ar h.ar)[i]? = h.ar[i]? := by
      cases har : a.ar with
      | none => rfl
      | some ia =>
        obtain ⟨i0, x0⟩ := ia
        have hne : i0 ≠ i := by
          intro he
          subst he
          rcases hi with hi | hi | ⟨x, hi⟩
          · exact off2_ne o4 (x := i0) (by simp [har]) hi
          · exact off2_ne o5 (x := i0) (by simp [har]) hi
          · exact off2_ne o3 (x := i0) (by simp [har]) (by simp [hi])
        simp only [arSet]
        rw [List.getElem?_set_ne hne]
    have hlen := arSet_len a.ar h.ar
    rw [apply_ar]
    rcases o6 with o6 | ⟨_, o6⟩
    · rw [List.isEmpty_iff.1 o6, List.append_nil, hset]
    · by_cases hp : a.push = []
      · rw [hp, List.append_nil, hset]
      · have hb := hf.1 hp
        rw [hb] at o6
        have hlt : i < h.ar.length := by
          simp only [Tn.old, Bool.and_eq_true] at o6
          obtain ⟨⟨p1, p2⟩, p3⟩ := o6
          rcases hi with hi | hi | ⟨x, hi⟩
          · rw [hi] at p2; simpa using p2
          · rw [hi] at p3; simpa using p3
          · rw [hi] at p1; simpa using p1
        rw [List.getElem?_append_left (by rw [hlen]; exact hlt), hset]
  · have : a.push = [] := by
      rcases o6 with o6 | ⟨o6, _⟩
      · exact List.isEmpty_iff.1 o6
      · exact absurd (List.isEmpty_iff.1 o6) hp
    rw [apply_ar, this, List.append_nil, arSet_len]
  · have h7 : a.mp = none := by simpa using o7
    simp [Tn.apply, h7, o8]

theorem off_heq {a b : Tn} (hoff : a.off b = true) (hall : b.rall = true) (h : Heap) : Heq h (a.apply h) := by
  simp only [Tn.off, Tn.offB, Bool.and_eq_true, Bool.or_eq_true, Bool.not_eq_true'] at hoff
  obtain ⟨⟨⟨_, o7⟩, o8⟩, o9⟩ := hoff
  rcases o9 with o9 | ⟨⟨o9, o10⟩, o11⟩
  · rw [hall] at o9; cases o9
  · have h1 : a.bx = none := by simpa using o9
    have h2 : a.ar = none := by simpa using o10
    have h3 : a.push = [] := List.isEmpty_iff.1 o11
    have h7 : a.mp = none := by simpa using o7
    rw [Tn.idle.apply ⟨h1, h2, h3, h7, o8⟩]
    exact Heq.refl h

theorem off_agree {a b : Tn} (hoff : a.off b = true) {h : Heap} (hf : a.fit h) : Agree b (a.apply h) h := by
  have hb : a.offB b = true := by simp only [Tn.off, Bool.and_eq_true] at hoff; exact hoff.1
  obtain ⟨k1, k2, k3, k4⟩ := off_base hb hf
  exact ⟨fun s hs => (k1 s hs).symm, fun i hi => (k2 i hi).symm, fun hp => (k3 hp).symm, k4.symm, fun ha => (off_heq hoff ha h).symm.grow⟩

/-- What came first, and sees everything, does not see what is new. -/
theorem off_late {a b : Tn} (hoff : a.offL b = true) {h : Heap} (hf : a.fit h) (hn : a.new = true → ∀ s c, a.bx = some (s, c) → look1 s h.bx = none) : Agree b h (a.apply h) := by
  have hb : a.offB b = true := by simp only [Tn.offL, Bool.and_eq_true] at hoff; exact hoff.1
  obtain ⟨k1, k2, k3, k4⟩ := off_base hb hf
  refine ⟨k1, k2, k3, k4, fun hall => ?_⟩
  simp only [Tn.offL, Bool.and_eq_true, Bool.or_eq_true, Bool.not_eq_true'] at hoff
  obtain ⟨_, o9⟩ := hoff
  rcases o9 with o9 | ⟨o9, o10⟩
  · rw [hall] at o9; cases o9
  · have h2 : a.ar = none := by simpa using o10
    refine ⟨fun s c hs => ?_, fun i x hi => ?_⟩
    · cases hbx : a.bx with
      | none => simpa [Tn.apply, hbx] using hs
      | some sc =>
        obtain ⟨s0, c0⟩ := sc
        have hnew : a.new = true := by
          rcases o9 with o9 | o9
          · simp [hbx] at o9
          · exact o9
        have h0 := hn hnew s0 c0 hbx
        have he : (a.apply h).bx = bxSet s0 c0 h.bx := by simp [Tn.apply, hbx]
        have hl : look1 s (bxSet s0 c0 h.bx) = if s0 = s then some c0 else look1 s h.bx := look1_set (α := List V) s0 s c0 h.bx
        rw [he, hl, if_neg (fun hc => by subst hc; rw [h0] at hs; cases hs)]
        exact hs
    · rw [apply_ar, h2]
      simp only [arSet]
      rw [List.getElem?_append_left (List.getElem?_eq_some_iff.1 hi).1]
      exact hi

theorem storeAt_new {h : Heap} {x : V} {news : List V} {t : Tn} (hh : storeAt h x news = some t) : t.new = false := by
  unfold storeAt at hh
  repeat' split at hh
  all_goals first | (cases hh; done) | (injection hh with hh; subst hh; rfl)

/-- What is new was not there. -/
theorem eval_new (hPL : PrimLaw Pr) {h : Heap} {q : AOp} {v : V} {t : Tn} (he : evalOp Φ Pr Tk g h q = some (v, t)) (hn : t.new = true) : ∀ s c, t.bx = some (s, c) → look1 s h.bx = none := by
  intro s c hb
  cases hq : q.turns with
  | false =>
    have := (eval_idle hq he).1
    rw [this] at hb; cases hb
  | true =>
    cases q <;> first | (simp [AOp.turns] at hq; done) | skip
    case alloc slot zero =>
      simp only [evalOp] at he
      split at he <;> first | (cases he; done) | skip
      rename_i hs
      injection he with he; injection he with e1 e2; subst e2
      injection hb with hb; injection hb with e3 e4; subst e3
      exact hs
    case box slot n x =>
      simp only [evalOp] at he
      split at he <;> first | (cases he; done) | skip
      rename_i hs
      split at he <;> first | (cases he; done) | skip
      injection he with he; injection he with e1 e2; subst e2
      injection hb with hb; injection hb with e3 e4; subst e3
      exact hs
    case store n x y =>
      simp only [evalOp] at he
      split at he <;> first | (cases he; done) | skip
      split at he <;> first | (cases he; done) | skip
      rename_i hs
      injection he with he; injection he with e1 e2; subst e2
      rw [storeAt_new hs] at hn; cases hn
    case call f args =>
      simp only [evalOp] at he
      split at he <;> first | (cases he; done) | skip
      split at he
      · rename_i pr hpr
        rw [hPL.old _ pr hpr _ _ _ _ he] at hn; cases hn
      · split at he <;> first | (cases he; done) | skip
        split at he <;> first | (cases he; done) | skip
        injection he with he; injection he with e1 e2; subst e2
        cases hn
    all_goals
      simp only [evalOp, appendV, copyV] at he
      repeat' split at he
      all_goals first | (cases he; done) | (injection he with he; injection he with e1 e2; subst e2; first | (cases hn; done) | (cases hb; done))

theorem look1_apply (t : Tn) (h : Heap) (s : Nat) : look1 s (t.apply h).bx = match t.bx with | some (s0, c) => (if s0 = s then some c else look1 s h.bx) | none => look1 s h.bx := by
  cases hb : t.bx with
  | none => simp [Tn.apply, hb]
  | some sc => obtain ⟨s0, c⟩ := sc; simp only [Tn.apply, hb]; exact look1_set (α := List V) _ _ _ _

theorem Heq.apply {h1 h2 : Heap} (k : Heq h1 h2) (t : Tn) : Heq (t.apply h1) (t.apply h2) := by
  refine ⟨fun s => ?_, by simp only [Tn.apply, k.ar], by simp only [Tn.apply, k.mp]⟩
  rw [look1_apply, look1_apply]
  cases t.bx with
  | none => exact k.bx s
  | some sc => obtain ⟨s0, c⟩ := sc; simp only; rw [k.bx s]

/-- Changes that keep off each other. -/
theorem apply_comm {a b : Tn} (hab : a.offB b = true) (hba : b.offB a = true) {h : Heap} (ha : a.fit h) (hb : b.fit h) : Heq (b.apply (a.apply h)) (a.apply (b.apply h)) := by
  simp only [Tn.offB, Bool.and_eq_true, Bool.or_eq_true, Bool.not_eq_true'] at hab hba
  obtain ⟨⟨⟨⟨⟨⟨⟨o1, o2⟩, o3⟩, o4⟩, o5⟩, o6⟩, o7⟩, o8⟩ := hab
  obtain ⟨⟨⟨⟨⟨⟨⟨q1, q2⟩, q3⟩, q4⟩, q5⟩, q6⟩, q7⟩, q8⟩ := hba
  have m1 : a.mp = none := by simpa using o7
  have m2 : b.mp = none := by simpa using q7
  refine ⟨fun s => ?_, ?_, by simp [Tn.apply, m1, m2, o8, q8]⟩
  · rw [look1_apply, look1_apply, look1_apply, look1_apply]
    cases hax : a.bx with
    | none => cases b.bx <;> rfl
    | some sc =>
      obtain ⟨s0, c0⟩ := sc
      cases hbx : b.bx with
      | none => rfl
      | some sd =>
        obtain ⟨s1, c1⟩ := sd
        have hne : s1 ≠ s0 := fun he => off2_ne o1 (x := s0) (by simp [hax]) (by simp [hbx, he])
        simp only
        by_cases h1 : s1 = s
        · subst h1
          rw [if_pos rfl, if_neg (Ne.symm hne), if_pos rfl]
        · rw [if_neg h1]
          by_cases h0 : s0 = s <;> simp [h0, h1]
  · have hp : a.push = [] ∨ b.push = [] := by
      rcases o6 with o6 | ⟨o6, _⟩
      · exact .inl (List.isEmpty_iff.1 o6)
      · exact .inr (List.isEmpty_iff.1 o6)
    rw [apply_ar, apply_ar, apply_ar, apply_ar]
    cases har : a.ar with
    | none =>
      cases hbr : b.ar with
      | none => rcases hp with hp | hp <;> simp [hp, arSet]
      | some jb =>
        obtain ⟨j, y⟩ := jb
        have hj := hb.2 j y hbr
        simp only [arSet]
        rw [List.set_append_left _ _ hj]
        rcases hp with hp | hp <;> simp [hp]
    | some ia =>
      obtain ⟨i, x⟩ := ia
      have hi := ha.2 i x har
      cases hbr : b.ar with
      | none =>
        simp only [arSet]
        rw [List.set_append_left _ _ hi]
        rcases hp with hp | hp <;> simp [hp]
      | some jb =>
        obtain ⟨j, y⟩ := jb
        have hj := hb.2 j y hbr
        have hne : i ≠ j := fun he => off2_ne o3 (x := i) (by simp [har]) (by simp [hbr, he])
        simp only [arSet]
        rw [List.set_append_left _ _ (by simpa using hj), List.set_append_left _ _ (by simpa using hi), List.set_comm _ _ hne]
        rcases hp with hp | hp <;> simp [hp]

end Go.Pv

/-
  Steps that change places; an operation brought to the front of those that wait.
-/
namespace Go.Pv
variable {g g' : Opd → V} {Φ : Nat → List PV → Option (List PV)} {Pr : Prims} {Tk : Nat → Bool}

/-- An operation with its guard. -/
def evalG (Φ : Nat → List PV → Option (List PV)) (Pr : Prims) (Tk : Nat → Bool) (o : AOper) (env : List (Nat × V)) (h : Heap) : Option (V × Tn) :=
  match wanted env o.guard with
  | none => none
  | some false => some (.tup [], {})
  | some true => evalOp Φ Pr Tk (geto env) h o.op

theorem step_eq {o : AOper} {s s' : St} {t : Tn} : stepOp Φ Pr Tk o s = some (s', t) ↔ ∃ v, evalG Φ Pr Tk o s.env s.h = some (v, t) ∧ s' = ⟨put s.env o.dst v, t.apply s.h⟩ := by
  unfold stepOp evalG
  cases hw : wanted s.env o.guard with
  | none => simp
  | some b =>
    cases b with
    | false =>
      simp only [Option.some.injEq, Prod.mk.injEq]
      constructor
      · rintro ⟨rfl, rfl⟩; exact ⟨.tup [], ⟨rfl, rfl⟩, by rw [idle0.apply]⟩
      · rintro ⟨v, ⟨rfl, rfl⟩, rfl⟩; exact ⟨by rw [idle0.apply], rfl⟩
    | true =>
      simp only
      cases he : evalOp Φ Pr Tk (geto s.env) s.h o.op with
      | none => simp
      | some vt =>
        obtain ⟨v, t'⟩ := vt
        simp only [Option.some.injEq, Prod.mk.injEq]
        constructor
        · rintro ⟨rfl, rfl⟩; exact ⟨v, ⟨rfl, rfl⟩, rfl⟩
        · rintro ⟨v', ⟨rfl, rfl⟩, rfl⟩; exact ⟨rfl, rfl⟩

theorem evalG_congr {o : AOper} {env env' : List (Nat × V)} {h : Heap} (hq : ∀ t ∈ o.reads, get env t = get env' t) : evalG Φ Pr Tk o env h = evalG Φ Pr Tk o env' h := by
  have hw : wanted env o.guard = wanted env' o.guard := by
    cases hg : o.guard with
    | none => rfl
    | some tb =>
      obtain ⟨t, b⟩ := tb
      simp only [wanted]
      rw [hq t (by simp [AOper.reads, hg])]
  have hr : ∀ t ∈ o.op.reads, get env t = get env' t := fun t ht => hq t (by simp [AOper.reads, ht])
  unfold evalG
  rw [hw, eval_congr hr]

theorem evalG_loc (hPL : PrimLaw Pr) {o : AOper} {env : List (Nat × V)} {h1 h2 : Heap} {v : V} {t : Tn} (he : evalG Φ Pr Tk o env h1 = some (v, t)) (ha : Agree t h1 h2) : evalG Φ Pr Tk o env h2 = some (v, t) := by
  unfold evalG at he ⊢
  split at he
  · cases he
  · exact he
  · exact eval_loc hPL.loc he ha

theorem evalG_fit (hPL : PrimLaw Pr) {o : AOper} {env : List (Nat × V)} {h : Heap} {v : V} {t : Tn} (he : evalG Φ Pr Tk o env h = some (v, t)) : t.fit h := by
  unfold evalG at he
  split at he
  · cases he
  · injection he with he; injection he with e1 e2; subst e2; exact idle0.fit h
  · exact eval_fit hPL he

theorem evalG_new (hPL : PrimLaw Pr) {o : AOper} {env : List (Nat × V)} {h : Heap} {v : V} {t : Tn} (he : evalG Φ Pr Tk o env h = some (v, t)) (hn : t.new = true) : ∀ s c, t.bx = some (s, c) → look1 s h.bx = none := by
  unfold evalG at he
  split at he
  · cases he
  · injection he with he; injection he with e1 e2; subst e2; cases hn
  · exact eval_new hPL he hn

theorem evalG_idle {o : AOper} {env : List (Nat × V)} {h : Heap} {v : V} {t : Tn} (hq : o.op.turns = false) (he : evalG Φ Pr Tk o env h = some (v, t)) : t.idle := by
  unfold evalG at he
  split at he
  · cases he
  · injection he with he; injection he with e1 e2; subst e2; exact idle0
  · exact eval_idle hq he

theorem evalG_quiet {o : AOper} {env : List (Nat × V)} {h1 h2 : Heap} {v : V} {t : Tn} (hl : o.op.looks = false) (hq : o.op.turns = false) (he : evalG Φ Pr Tk o env h1 = some (v, t)) : evalG Φ Pr Tk o env h2 = some (v, t) := by
  unfold evalG at he ⊢
  split at he
  · cases he
  · exact he
  · exact eval_quiet hl hq he

/-- The same to the eye. -/
def Seq (s s' : St) : Prop := (∀ t, get s.env t = get s'.env t) ∧ Heq s.h s'.h

theorem Seq.refl (s : St) : Seq s s := ⟨fun _ => rfl, Heq.refl _⟩
theorem Seq.trans {a b c : St} (h : Seq a b) (k : Seq b c) : Seq a c := ⟨fun t => (h.1 t).trans (k.1 t), h.2.trans k.2⟩
theorem Seq.symm {a b : St} (h : Seq a b) : Seq b a := ⟨fun t => (h.1 t).symm, h.2.symm⟩

theorem step_seq {o : AOper} {s s' s2 : St} {t : Tn} (hPL : PrimLaw Pr) (hst : stepOp Φ Pr Tk o s = some (s', t)) (hs : Seq s s2) : ∃ s2', stepOp Φ Pr Tk o s2 = some (s2', t) ∧ Seq s' s2' := by
  obtain ⟨v, h1, rfl⟩ := step_eq.1 hst
  rw [evalG_congr (env' := s2.env) (fun t _ => hs.1 t)] at h1
  have h2 := evalG_loc hPL h1 (hs.2.agree t)
  refine ⟨_, step_eq.2 ⟨v, h2, rfl⟩, fun u => ?_, hs.2.apply t⟩
  simp only [get_put]
  rw [hs.1 u]

/-- Neither is ahead of the other, and they keep off each other. -/
def Sep (x y : AOper × Tn) : Prop := x.1.apart y.1 = true ∧ (clash x.1.op y.1.op = false ∨ x.2.apart y.2 = true)

theorem apart_spec {x y : AOper} (hh : x.apart y = true) : (∀ d, x.dst = some d → d ∉ y.reads) ∧ (∀ d, x.dst = some d → y.dst ≠ some d) ∧ (∀ d, y.dst = some d → d ∉ x.reads) := by
  unfold AOper.apart at hh
  simp only [Bool.and_eq_true] at hh
  refine ⟨fun d hd => ?_, fun d hd => ?_, fun d hd => ?_⟩
  · have := hh.1; simp [hd] at this; exact this.1
  · have := hh.1; simp [hd] at this; exact this.2
  · have := hh.2; simp [hd] at this; exact this

theorem get_other {env : List (Nat × V)} {d : Option Nat} {v : V} {l : List Nat} (hd : ∀ x, d = some x → x ∉ l) : ∀ t ∈ l, get (put env d v) t = get env t := by
  intro t ht
  rw [get_put, if_neg]
  intro he
  exact hd t he ht

theorem put_comm {env : List (Nat × V)} {d1 d2 : Option Nat} {v1 v2 : V} (hd : ∀ x, d1 = some x → d2 ≠ some x) (t : Nat) : get (put (put env d1 v1) d2 v2) t = get (put (put env d2 v2) d1 v1) t := by
  simp only [get_put]
  by_cases h1 : d1 = some t
  · have h2 := hd t h1
    simp [h1, h2]
  · simp [h1]

/-- Two steps change places. -/
theorem swap (hPL : PrimLaw Pr) {x y : AOper} {s s1 s2 : St} {tx ty : Tn} (hx : stepOp Φ Pr Tk x s = some (s1, tx)) (hy : stepOp Φ Pr Tk y s1 = some (s2, ty)) (hsep : Sep (x, tx) (y, ty)) :
    ∃ s1' s2', stepOp Φ Pr Tk y s = some (s1', ty) ∧ stepOp Φ Pr Tk x s1' = some (s2', tx) ∧ Seq s2 s2' := by
  obtain ⟨hap, hcl⟩ := hsep
  obtain ⟨a1, a2, a3⟩ := apart_spec hap
  obtain ⟨vx, hx1, rfl⟩ := step_eq.1 hx
  obtain ⟨vy, hy1, rfl⟩ := step_eq.1 hy
  simp only at hy1
  rw [evalG_congr (env' := s.env) (get_other a1)] at hy1
  have hfx := evalG_fit hPL hx1
  have key : evalG Φ Pr Tk y s.env s.h = some (vy, ty) ∧ evalG Φ Pr Tk x s.env (ty.apply s.h) = some (vx, tx) ∧ Heq (ty.apply (tx.apply s.h)) (tx.apply (ty.apply s.h)) := by
    rcases hcl with hcl | hcl
    · simp only [clash, Bool.or_eq_false_iff, Bool.and_eq_false_iff] at hcl
      obtain ⟨c1, c2⟩ := hcl
      rcases c1 with c1 | ⟨c1, c1'⟩
      · have hix := evalG_idle c1 hx1
        rw [hix.apply] at hy1
        refine ⟨hy1, ?_, by rw [hix.apply, hix.apply]; exact Heq.refl _⟩
        rcases c2 with c2 | c2
        · rw [(evalG_idle c2 hy1).apply]; exact hx1
        · exact evalG_quiet c2 c1 hx1
      · have hiy := evalG_idle c1' hy1
        refine ⟨evalG_quiet c1 c1' hy1, by rw [hiy.apply]; exact hx1, by rw [hiy.apply, hiy.apply]; exact Heq.refl _⟩
    · simp only [Tn.apart, Bool.and_eq_true] at hcl
      have hy2 := evalG_loc hPL hy1 (off_agree hcl.1 hfx)
      have hfy := evalG_fit hPL hy2
      have hb1 : tx.offB ty = true := by have := hcl.1; simp only [Tn.off, Bool.and_eq_true] at this; exact this.1
      have hb2 : ty.offB tx = true := by have := hcl.2; simp only [Tn.offL, Bool.and_eq_true] at this; exact this.1
      exact ⟨hy2, evalG_loc hPL hx1 (off_late hcl.2 hfy (evalG_new hPL hy2)), apply_comm hb1 hb2 hfx hfy⟩
  obtain ⟨k1, k2, k3⟩ := key
  refine ⟨_, _, step_eq.2 ⟨vy, k1, rfl⟩, step_eq.2 ⟨vx, ?_, rfl⟩, fun t => put_comm a2 t, k3⟩
  simp only
  rw [evalG_congr (env' := s.env) (get_other a3)]
  exact k2

/-- A run of operations, with what each turned. -/
inductive Tr (Φ : Nat → List PV → Option (List PV)) (Pr : Prims) (Tk : Nat → Bool) : St → List (AOper × Tn) → St → Prop
  | nil (s : St) : Tr Φ Pr Tk s [] s
  | cons (s s1 s' : St) (o : AOper) (t : Tn) (r : List (AOper × Tn)) (h1 : stepOp Φ Pr Tk o s = some (s1, t)) (h2 : Tr Φ Pr Tk s1 r s') : Tr Φ Pr Tk s ((o, t) :: r) s'

theorem Tr.seq (hPL : PrimLaw Pr) {s s' : St} {l : List (AOper × Tn)} (ht : Tr Φ Pr Tk s l s') : ∀ {s2 : St}, Seq s s2 → ∃ s2', Tr Φ Pr Tk s2 l s2' ∧ Seq s' s2' := by
  induction ht with
  | nil s => intro s2 hs; exact ⟨s2, .nil _, hs⟩
  | cons s s1 s' o t r h1 h2 ih =>
    intro s2 hs
    obtain ⟨s3, k1, k2⟩ := step_seq hPL h1 hs
    obtain ⟨s4, k3, k4⟩ := ih k2
    exact ⟨s4, .cons _ _ _ _ _ _ k1 k3, k4⟩

theorem front (hPL : PrimLaw Pr) {q : AOper} {t : Tn} {post : List (AOper × Tn)} : ∀ (pre : List (AOper × Tn)) (s s' : St), Tr Φ Pr Tk s (pre ++ (q, t) :: post) s' → (∀ x ∈ pre, Sep x (q, t)) →
    ∃ s1 s'', stepOp Φ Pr Tk q s = some (s1, t) ∧ Tr Φ Pr Tk s1 (pre ++ post) s'' ∧ Seq s' s''
  | [], s, s', ht, _ => by
    cases ht with
    | cons _ s1 _ _ _ _ h1 h2 => exact ⟨s1, s', h1, h2, Seq.refl _⟩
  | (x, tx) :: pre, s, s', ht, hsep => by
    cases ht with
    | cons _ s1 _ _ _ _ h1 h2 =>
      obtain ⟨sa, sb, k1, k2, k3⟩ := front hPL pre s1 s' h2 (fun y hy => hsep y (by simp [hy]))
      obtain ⟨sc, sd, k4, k5, k6⟩ := swap hPL h1 k1 (hsep (x, tx) (by simp))
      obtain ⟨se, k7, k8⟩ := k2.seq hPL k6
      exact ⟨sc, se, k4, .cons _ _ _ _ _ _ k5 k7, k3.trans k8⟩

end Go.Pv

/-
  Regions: in the text's order, and in any that the edges allow.
-/
namespace Go.Pv
variable {P : Program} {N M : Nat → Nat} {W : Nat → Prop} {L L' : Lx} {e e' : Emb} {h : Heap} {w w' : World} {Φ : Nat → List PV → Option (List PV)} {Pr : Prims} {Tk : Nat → Bool}

theorem HR.heq {h' : Heap} (hr : HR N L e W h w) (k : Heq h h') : HR N L e W h' w :=
  ⟨fun s => by rw [hr.sl, k.bx], fun s cs hc => hr.bx s cs (by rw [k.bx]; exact hc), by rw [hr.na, k.ar], fun id a ha => hr.ver id a (by rw [k.ar]; exact ha), fun id a ha => hr.ar id a (by rw [k.ar]; exact ha),
    by rw [hr.nm, k.mp], fun id m hm => hr.mp id m (by rw [k.mp]; exact hm), hr.wbx, hr.war, hr.wmp, hr.dbx, hr.dba, hr.daa, hr.dmm, hr.lsz, hr.wide⟩

theorem SR.seq {nt : Nat} {s s' : St} {a : Act} (hs : SR N W L e nt s a w) (k : Seq s s') : SR N W L e nt s' a w :=
  ⟨hs.hr.heq k.2, fun t => by rw [← k.1 t]; exact hs.env t, hs.size, hs.defers⟩

theorem Nx.heq {h' h'' : Heap} (hn : Nx N W L e w L' e' h' w') (k : Heq h' h'') : Nx N W L e w L' e' h'' w' := ⟨hn.hr.heq k, hn.ext, hn.fr, hn.new⟩

/-- A region in the text's order. -/
theorem ops_wp (hΦ : ∀ f ps rs, Φ f ps = some rs → FnR P N f ps rs) (hPr : PrimOk P N Pr) {nt : Nat} {ops : Array Oper} {Q : Exit → Act → World → Prop} {s' : St} : ∀ (l : List AOper) (j : Nat) (L : Lx) (e : Emb) (s : St) (a : Act) (w : World),
    (∀ (i : Nat) (q : AOper), l[i]? = some q → ∃ o, ops[j + i]? = some o ∧ trOper P N M nt ops o = some q) → SR N W L e nt s a w → execOps Φ Pr Tk l s = some s' →
    (∀ a' w' L' e', Nx N W L e w L' e' s'.h w' → SR N W L' e' nt s' a' w' → Q .normal a' w') → wpOps P ops Q (List.range' j l.length) a w
  | [], j, L, e, s, a, w, _, hs, he, hK => by
    simp [execOps] at he
    subst he
    simp only [List.length_nil, List.range'_zero, wpOps]
    exact hK a w L e (Nx.refl hs.hr) hs
  | q :: l, j, L, e, s, a, w, hl, hs, he, hK => by
    simp only [execOps] at he
    cases hst : stepOp Φ Pr Tk q s with
    | none => simp [hst] at he
    | some st =>
      obtain ⟨s1, t⟩ := st
      simp only [hst] at he
      obtain ⟨o, ho, hq⟩ := hl 0 q rfl
      rw [List.length_cons, List.range'_succ, wpOps_cons]
      refine step_wp hs hΦ hPr (by simpa using ho) hq hst fun a1 w1 L1 e1 h1 hs1 => ?_
      refine ops_wp hΦ hPr l (j + 1) L1 e1 s1 a1 w1 (fun i q' hi => ?_) hs1 he (fun a' w' L' e' h2 hs2 => hK a' w' L' e' (h1.trans h2) hs2)
      obtain ⟨o', ho', hq'⟩ := hl (i + 1) q' (by simpa using hi)
      exact ⟨o', by rw [show j + 1 + i = j + (i + 1) by omega]; exact ho', hq'⟩

-- a drawn region

def depsOf (o : Oper) : List Nat := (o.after.toList.filter (Region.binds .any ·)).map (·.on)

theorem aheads_acc : ∀ (ops : List Oper) (acc : List (List Nat)), ∃ new, aheads acc ops = acc ++ new ∧ new.length = ops.length
  | [], acc => ⟨[], by simp [aheads], rfl⟩
  | o :: r, acc => by
    obtain ⟨new, h1, h2⟩ := aheads_acc r (acc ++ [depsOf o ++ (depsOf o).flatMap fun d => acc.getD d []])
    refine ⟨(depsOf o ++ (depsOf o).flatMap fun d => acc.getD d []) :: new, ?_, by simp [h2]⟩
    simp only [aheads]
    have : aheads (acc ++ [(o.after.toList.filter (Region.binds .any ·)).map (·.on) ++ ((o.after.toList.filter (Region.binds .any ·)).map (·.on)).flatMap fun d => acc.getD d []]) r = _ := h1
    rw [this]
    simp

theorem getD_append_some {α : Type} {l r : List (List α)} {d : Nat} {x : α} (hx : x ∈ l.getD d []) : x ∈ (l ++ r).getD d [] := by
  rw [List.getD_eq_getElem?_getD] at hx ⊢
  rcases Nat.lt_or_ge d l.length with h1 | h1
  · rw [List.getElem?_append_left h1]; exact hx
  · rw [List.getElem?_eq_none h1] at hx; simp at hx

theorem mem_aheads : ∀ (ops : List Oper) (acc : List (List Nat)) (i j : Nat), j ∈ (aheads acc ops).getD (acc.length + i) [] → ∃ o, ops[i]? = some o ∧ (j ∈ depsOf o ∨ ∃ d ∈ depsOf o, j ∈ (aheads acc ops).getD d [])
  | [], acc, i, j, hj => by
    simp [aheads] at hj
  | o :: r, acc, i, j, hj => by
    have hdef : aheads acc (o :: r) = aheads (acc ++ [depsOf o ++ (depsOf o).flatMap fun d => acc.getD d []]) r := rfl
    rw [hdef] at hj ⊢
    cases i with
    | zero =>
      obtain ⟨new, h1, _⟩ := aheads_acc r (acc ++ [depsOf o ++ (depsOf o).flatMap fun d => acc.getD d []])
      rw [h1] at hj ⊢
      have : ((acc ++ [depsOf o ++ (depsOf o).flatMap fun d => acc.getD d []]) ++ new).getD (acc.length + 0) [] = depsOf o ++ (depsOf o).flatMap fun d => acc.getD d [] := by
        simp [List.getD_eq_getElem?_getD]
      rw [this] at hj
      refine ⟨o, rfl, ?_⟩
      rcases List.mem_append.1 hj with hj | hj
      · exact .inl hj
      · obtain ⟨d, hd, hjd⟩ := List.mem_flatMap.1 hj
        exact .inr ⟨d, hd, by rw [List.append_assoc]; exact getD_append_some hjd⟩
    | succ i =>
      have := mem_aheads r (acc ++ [depsOf o ++ (depsOf o).flatMap fun d => acc.getD d []]) i j (by
        rw [List.length_append]
        simp only [List.length_cons, List.length_nil]
        rw [show acc.length + (0 + 1) + i = acc.length + (i + 1) by omega]
        exact hj)
      obtain ⟨o', h1, h2⟩ := this
      exact ⟨o', by simpa using h1, h2⟩

/-- What a run of a drawn region leaves. -/
theorem draw_tr : ∀ (items : List (AOper × List Nat)) (done : List Tn) (s s' : St), execDraw Φ Pr Tk items done s = some s' →
    ∃ ts : List Tn, ts.length = items.length ∧ Tr Φ Pr Tk s ((items.map (·.1)).zip ts) s' ∧ ∀ (i : Nat) (o : AOper) (un : List Nat) (t : Tn), items[i]? = some (o, un) → ts[i]? = some t → ∀ j ∈ un, ∃ u, (done ++ ts)[j]? = some u ∧ u.apart t = true
  | [], done, s, s', he => by
    simp [execDraw] at he
    subst he
    exact ⟨[], rfl, .nil s, fun i o un t hi => by simp at hi⟩
  | (o, un) :: r, done, s, s', he => by
    simp only [execDraw] at he
    cases hst : stepOp Φ Pr Tk o s with
    | none => simp [hst] at he
    | some st =>
      obtain ⟨s1, t⟩ := st
      simp only [hst] at he
      split at he <;> first | (cases he; done) | skip
      rename_i hold
      obtain ⟨ts, h1, h2, h3⟩ := draw_tr r (done ++ [t]) s1 s' he
      refine ⟨t :: ts, by simp [h1], .cons _ _ _ _ _ _ hst h2, fun i o' un' t' hi ht j hj => ?_⟩
      cases i with
      | zero =>
        simp at hi ht
        obtain ⟨rfl, rfl⟩ := hi
        subst ht
        have := List.all_eq_true.1 hold j hj
        split at this <;> first | (cases this; done) | skip
        rename_i u hu
        refine ⟨u, ?_, this⟩
        have hlt := (List.getElem?_eq_some_iff.1 hu).1
        rw [List.getElem?_append_left hlt]
        exact hu
      | succ i =>
        have := h3 i o' un' t' (by simpa using hi) (by simpa using ht) j hj
        simpa using this

/-- What the edges and the checks give: each two of which neither is ahead keep off each other. -/
structure Fits (ops : Array Oper) (it : Nat → AOper × Tn) (P : Program) (N M : Nat → Nat) (nt : Nat) (ahs : List (List Nat)) : Prop where
  tr : ∀ i o, ops[i]? = some o → trOper P N M nt ops o = some (it i).1
  back : ∀ i o, ops[i]? = some o → ∀ ed ∈ o.after, Region.binds .any ed = true → ed.on < i
  sep : ∀ i, i < ops.size → ∀ j, j < i → j ∈ ahs.getD i [] ∨ Sep (it j) (it i)
  mem : ∀ i j, j ∈ ahs.getD i [] → ∃ o, ops[i]? = some o ∧ (j ∈ depsOf o ∨ ∃ d ∈ depsOf o, j ∈ ahs.getD d [])

structure Wait (ops : Array Oper) (ahs : List (List Nat)) (listed : Array Bool) (rem : List Nat) : Prop where
  size : listed.size = ops.size
  inc : rem.Pairwise (· < ·)
  lt : ∀ i ∈ rem, i < ops.size
  mem : ∀ i, i < ops.size → (i ∈ rem ↔ listed.getD i true = false)
  down : ∀ i, listed.getD i false = true → ∀ j ∈ ahs.getD i [], listed.getD j false = true

theorem getD_two {listed : Array Bool} {i : Nat} (hi : i < listed.size) : listed.getD i true = listed.getD i false := by
  simp [Array.getD, hi]

theorem Wait.ahead {ops : Array Oper} {ahs : List (List Nat)} {listed : Array Bool} {rem : List Nat} {it : Nat → AOper × Tn} {nt : Nat} (hw : Wait ops ahs listed rem) (hf : Fits ops it P N M nt ahs) {i : Nat} (hr : i ∈ Region.ready .any ops listed) :
    i ∈ rem ∧ ∀ j ∈ ahs.getD i [], listed.getD j false = true := by
  rw [mem_ready] at hr
  obtain ⟨h1, o, ho, hall⟩ := hr
  have hi : i < ops.size := (Array.getElem?_eq_some_iff.1 ho).1
  refine ⟨(hw.mem i hi).2 h1, fun j hj => ?_⟩
  obtain ⟨o', ho', hd⟩ := hf.mem i j hj
  rw [ho] at ho'
  injection ho' with ho'
  subst ho'
  have hdeps : ∀ d ∈ depsOf o, listed.getD d false = true := by
    intro d hdd
    obtain ⟨ed, hed, rfl⟩ := List.mem_map.1 hdd
    obtain ⟨hed1, hed2⟩ := List.mem_filter.1 hed
    exact hall ed (Array.mem_toList_iff.1 hed1) hed2
  rcases hd with hd | ⟨d, hd, hjd⟩
  · exact hdeps j hd
  · exact hw.down d (hdeps d hd) j hjd

theorem any_wp (hPL : PrimLaw Pr) (hΦ : ∀ f ps rs, Φ f ps = some rs → FnR P N f ps rs) (hPr : PrimOk P N Pr) {nt : Nat} {ops : Array Oper} {it : Nat → AOper × Tn} {ahs : List (List Nat)} (hf : Fits ops it P N M nt ahs) {Q : Exit → Act → World → Prop} {s' : St} :
    ∀ (m : Nat) (rem : List Nat) (listed : Array Bool) (L : Lx) (e : Emb) (s s2 : St) (a : Act) (w : World), rem.length = m → Wait ops ahs listed rem → SR N W L e nt s a w → Tr Φ Pr Tk s (rem.map it) s2 → Seq s' s2 →
      (∀ a' w' L' e', Nx N W L e w L' e' s'.h w' → SR N W L' e' nt s' a' w' → Q .normal a' w') → wpAny P .any ops Q m listed a w := by
  have fin : ∀ (L : Lx) (e : Emb) (s s2 : St) (a : Act) (w : World), SR N W L e nt s a w → Tr Φ Pr Tk s [] s2 → Seq s' s2 → (∀ a' w' L' e', Nx N W L e w L' e' s'.h w' → SR N W L' e' nt s' a' w' → Q .normal a' w') → Q .normal a w := by
    intro L e s s2 a w hs ht hq hK
    cases ht
    have hsr := hs.seq hq.symm
    exact hK a w L e (Nx.refl hsr.hr) hsr
  intro m
  induction m with
  | zero =>
    intro rem listed L e s s2 a w hm hw hs ht hq hK
    have hrem : rem = [] := List.eq_nil_of_length_eq_zero hm
    subst hrem
    refine ⟨List.eq_nil_iff_forall_not_mem.2 fun i hi => ?_, fin L e s s2 a w hs ht hq hK⟩
    have := (hw.ahead hf hi).1
    cases this
  | succ m ih =>
    intro rem listed L e s s2 a w hm hw hs ht hq hK
    refine ⟨fun hnil => ?_, fun i hi => ?_⟩
    · match rem, hm with
      | i :: r, _ =>
        exfalso
        have hi : i < ops.size := hw.lt i (by simp)
        have : i ∈ Region.ready .any ops listed := by
          rw [mem_ready]
          refine ⟨(hw.mem i hi).1 (by simp), ops[i], Array.getElem?_eq_getElem hi, fun ed hed hb => ?_⟩
          have hlt := hf.back i ops[i] (Array.getElem?_eq_getElem hi) ed hed hb
          have hno : ed.on ∉ i :: r := by
            intro hmem
            rcases List.mem_cons.1 hmem with h1 | h1
            · omega
            · have := (List.pairwise_cons.1 hw.inc).1 _ h1
              omega
          have hd := (hw.mem ed.on (by omega))
          cases hv : listed.getD ed.on true with
          | false => exact absurd (hd.2 hv) hno
          | true => rw [← getD_two (by rw [hw.size]; omega), hv]
        rw [hnil] at this
        cases this
    · obtain ⟨hmem, hah⟩ := hw.ahead hf hi
      have hilt := hw.lt i hmem
      obtain ⟨pre, post, rfl⟩ := List.append_of_mem hmem
      have hinc := List.pairwise_append.1 hw.inc
      rw [List.map_append, List.map_cons] at ht
      obtain ⟨s1, s3, k1, k2, k3⟩ := front hPL (q := (it i).1) (t := (it i).2) (pre.map it) s s2 (by simpa using ht) (fun x hx => by
        obtain ⟨j, hj, rfl⟩ := List.mem_map.1 hx
        have hji : j < i := hinc.2.2 j hj i (by simp)
        rcases hf.sep i hilt j hji with h1 | h1
        · have h2 := hah j h1
          have h3 := (hw.mem j (by omega)).1 (by simp [hj])
          rw [getD_two (by rw [hw.size]; omega), h2] at h3
          cases h3
        · exact h1)
      refine step_wp hs hΦ hPr (Array.getElem?_eq_getElem hilt) (hf.tr i _ (Array.getElem?_eq_getElem hilt)) k1 fun a1 w1 L1 e1 h1 hs1 => ?_
      refine ih (pre ++ post) (listed.setIfInBounds i true) L1 e1 s1 s3 a1 w1 (by simp at hm ⊢; omega) ⟨by simp [hw.size], ?_, fun j hj => hw.lt j ?_, fun j hj => ?_, fun k hk j hj => ?_⟩ hs1 (by rw [List.map_append]; exact k2) (hq.trans k3)
        (fun a' w' L' e' h2 hs2 => hK a' w' L' e' (h1.trans h2) hs2)
      · refine List.pairwise_append.2 ⟨hinc.1, (List.pairwise_cons.1 hinc.2.1).2, fun x hx y hy => hinc.2.2 x hx y (by simp [hy])⟩
      · rcases List.mem_append.1 hj with h2 | h2 <;> simp [h2]
      · have hold := hw.mem j hj
        by_cases hji : j = i
        · subst hji
          have : (listed.setIfInBounds j true).getD j true = true := by simp [Array.getD, hw.size, hj]
          rw [this]
          constructor
          · intro hmem2
            exfalso
            rcases List.mem_append.1 hmem2 with h2 | h2
            · have := hinc.2.2 j h2 j (by simp); omega
            · have := (List.pairwise_cons.1 hinc.2.1).1 j h2; omega
          · intro h2; cases h2
        · rw [getD_set_ne true (Ne.symm hji), ← hold]
          simp [hji]
      · by_cases hki : k = i
        · subst hki
          exact getD_set_true (hah j hj)
        · rw [getD_set_ne false (Ne.symm hki)] at hk
          exact getD_set_true (hw.down k hk j hj)

theorem zip_map {α β : Type} [Inhabited α] [Inhabited β] : ∀ (l : List α) (r : List β), r.length = l.length → l.zip r = (List.range l.length).map fun i => (l.getD i default, r.getD i default) := by
  intro l r hl
  apply List.ext_getElem?
  intro i
  rcases Nat.lt_or_ge i l.length with h1 | h1
  · have h2 : i < r.length := by omega
    have hz : (l.zip r)[i]? = some (l[i], r[i]) := (List.getElem?_zip_eq_some (z := (l[i], r[i]))).2 ⟨List.getElem?_eq_getElem h1, List.getElem?_eq_getElem h2⟩
    rw [hz]
    simp [h1, h2]
  · rw [List.getElem?_eq_none (by simp; omega), List.getElem?_eq_none (by simpa using h1)]

/-- A region in whatever order. -/
theorem draw_wp (hm : P.follows .mixedOrders = true) (hPL : PrimLaw Pr) (hΦ : ∀ f ps rs, Φ f ps = some rs → FnR P N f ps rs) (hPr : PrimOk P N Pr) {nt id : Nat} {ops : Array Oper} {l : List AOper} (hl : mapO (trOper P N M nt ops) ops.toList = some l)
    (hok : drawOk ops.toList l (aheads [] ops.toList) = true) {Q : Exit → Act → World → Prop} {s s' : St} {a : Act} (hs : SR N W L e nt s a w) (he : execDraw Φ Pr Tk (zipAgainst l (aheads [] ops.toList)) [] s = some s')
    (hK : ∀ a' w' L' e', Nx N W L e w L' e' s'.h w' → SR N W L' e' nt s' a' w' → Q .normal a' w') : (Code.region id ops true).wp P Q a w := by
  obtain ⟨ts, h1, h2, h3⟩ := draw_tr _ _ _ _ he
  have hlen : l.length = ops.size := by rw [mapO_len hl]; simp
  have hz : (zipAgainst l (aheads [] ops.toList)).map (·.1) = l := by
    apply List.ext_getElem?
    intro i
    simp only [zipAgainst, List.getElem?_map, List.getElem?_zipIdx, Option.map_map]
    cases l[i]? <;> rfl
  have hzl : (zipAgainst l (aheads [] ops.toList)).length = l.length := by simp [zipAgainst]
  rw [hz] at h2
  rw [hzl] at h1
  let it : Nat → AOper × Tn := fun i => (l.getD i default, ts.getD i default)
  have hit : l.zip ts = (List.range l.length).map it := zip_map l ts h1
  rw [hit] at h2
  simp only [drawOk, List.all_eq_true, List.mem_range] at hok
  have hfit : Fits ops it P N M nt (aheads [] ops.toList) := by
    refine ⟨fun i o ho => ?_, fun i o ho ed hed hb => ?_, fun i hi j hj => ?_, fun i j hj => ?_⟩
    · obtain ⟨q, hq1, hq2⟩ := mapO_fwd hl i o (by simpa using ho)
      have : (it i).1 = q := by simp [it, hq1]
      rw [this]
      exact hq2
    · have hlt : i < ops.size := (Array.getElem?_eq_some_iff.1 ho).1
      have := hok i (by simpa using hlt)
      rw [show ops.toList[i]? = some o by simpa using ho] at this
      split at this
      · rename_i o' q ah e1 e2 e3
        injection e1 with e1
        subst e1
        simp only [Bool.and_eq_true, List.all_eq_true] at this
        have := this.1 ed (Array.mem_toList_iff.2 hed)
        simpa [hb] using this
      · cases this
    · have := hok i (by simpa using hi)
      split at this
      · rename_i o q ah e1 e2 e3
        simp only [Bool.and_eq_true, List.all_eq_true, List.mem_range] at this
        have h4 := this.2 j hj
        have hah : (aheads [] ops.toList).getD i [] = ah := by simp [e3]
        rw [hah]
        by_cases hmem : j ∈ ah
        · exact .inl hmem
        · refine .inr ?_
          simp only [Bool.or_eq_true, List.contains_iff_mem, hmem, false_or] at h4
          split at h4
          · rename_i p hp
            have e4 : (it j).1 = p := by simp [it, hp]
            have e5 : (it i).1 = q := by simp [it, e2]
            refine ⟨by rw [e4, e5]; exact h4, ?_⟩
            rw [e4, e5]
            cases hc : clash p.op q.op with
            | false => exact .inl rfl
            | true =>
              refine .inr ?_
              have hun : j ∈ against l ((aheads [] ops.toList).getD i []) q i := by
                simp only [against, List.mem_filter, List.mem_range]
                refine ⟨hj, ?_⟩
                rw [hah, hp]
                simp [hmem, hc]
              have hzi : (zipAgainst l (aheads [] ops.toList))[i]? = some (q, against l ((aheads [] ops.toList).getD i []) q i) := by
                simp [zipAgainst, List.getElem?_map, List.getElem?_zipIdx, e2]
              have htl : i < ts.length := by rw [h1, hlen]; exact hi
              obtain ⟨u, hu1, hu2⟩ := h3 i q _ ts[i] hzi (List.getElem?_eq_getElem htl) j hun
              simp only [List.nil_append] at hu1
              have e6 : (it j).2 = u := by simp [it, hu1]
              have e7 : (it i).2 = ts[i] := by simp [it, htl]
              rw [e6, e7]
              exact hu2
          · cases h4
      · cases this
    · have := mem_aheads ops.toList [] i j (by simpa using hj)
      obtain ⟨o, ho, hd⟩ := this
      exact ⟨o, by simpa using ho, hd⟩
  refine wp_region_any hm ?_
  have hdrew := Nx.drew hs.hr
  have hsr : SR N W L e nt s a w.drew := ⟨hdrew.hr, fun t => (hs.env t).mono hdrew.ext, hs.size, hs.defers⟩
  have := any_wp (W := W) (M := M) (Q := Q) (s' := s') hPL hΦ hPr hfit ops.size (List.range ops.size) (Array.replicate ops.size false) L e s s' a w.drew (by simp)
    ⟨by simp, List.pairwise_lt_range, fun i hi => List.mem_range.1 hi, fun i hi => by simp [hi], fun i hi => by
      rcases Nat.lt_or_ge i ops.size with h5 | h5
      · simp [h5] at hi
      · simp [h5] at hi⟩ hsr (by rw [← hlen]; exact h2) (Seq.refl _) (fun a' w' L' e' h5 h6 => hK a' w' L' e' (hdrew.trans h5) h6)
  exact this

theorem region_wp (hΦ : ∀ f ps rs, Φ f ps = some rs → FnR P N f ps rs) (hPr : PrimOk P N Pr) {nt id : Nat} {ops : Array Oper} {l : List AOper} (hl : mapO (trOper P N M nt ops) ops.toList = some l) {Q : Exit → Act → World → Prop} {s s' : St} {a : Act}
    (hs : SR N W L e nt s a w) (he : execOps Φ Pr Tk l s = some s') (hK : ∀ a' w' L' e', Nx N W L e w L' e' s'.h w' → SR N W L' e' nt s' a' w' → Q .normal a' w') : (Code.region id ops false).wp P Q a w := by
  have hlen : l.length = ops.size := by rw [mapO_len hl]; simp
  refine wp_region ?_
  rw [List.range_eq_range', ← hlen]
  refine ops_wp (M := M) hΦ hPr l 0 L e s a w (fun i q hi => ?_) hs he hK
  obtain ⟨o, h1, h2⟩ := mapO_get hl i q hi
  exact ⟨o, by simpa using h1, h2⟩

end Go.Pv

/-
  Code: what the interpreter says of it, the machine does.
-/
namespace Go.Pv
variable {P : Program} {N M : Nat → Nat} {W : Nat → Prop} {L L' : Lx} {e e' : Emb} {h : Heap} {w w' : World} {Φ : Nat → List PV → Option (List PV)} {Pr : Prims} {Tk : Nat → Bool}

def Emb.cut (e : Emb) (kb : List Nat) : Emb := { e with sl := fun s => e.sl s ∧ s ∈ kb }

theorem look1_mask (kb : List Nat) (bx : List (Nat × List V)) (s : Nat) : look1 s (maskBx kb bx) = if s ∈ kb then look1 s bx else none := by
  induction kb with
  | nil => simp [maskBx, look1]
  | cons k r ih =>
    simp only [maskBx]
    cases hk : look1 k bx with
    | none =>
      simp only
      rw [ih]
      by_cases hs : s = k
      · subst hs; simp [hk]
      · simp [hs]
    | some cs =>
      simp only [look1]
      by_cases hs : k = s
      · subst hs; simp [hk]
      · rw [if_neg hs, ih]
        simp [Ne.symm hs]

theorem get_mask (kt kb : List Nat) (env : List (Nat × V)) (t : Nat) : get (maskEnv kt kb env) t = if t ∈ kt then scrub kb (get env t) else .any := by
  induction kt with
  | nil => simp [maskEnv, get, look1]
  | cons k r ih =>
    have : maskEnv (k :: r) kb env = (k, scrub kb (get env k)) :: maskEnv r kb env := rfl
    rw [this]
    simp only [get, look1]
    by_cases hk : k = t
    · subst hk; simp []
    · rw [if_neg hk]
      have := ih
      simp only [get] at this
      rw [this]
      simp [Ne.symm hk]

theorem VR.cut {x : V} {v : Value} (hv : VR N L e w x v) {kb : List Nat} (hk : okc kb x = true) : VR N L (e.cut kb) w x v := by
  cases hv with
  | pv p v hp => exact .pv p v hp
  | tl rows a hp hs => exact .tl rows a hp hs
  | own id ver off len a cap h0 h1 h2 h3 => exact .own id ver off len a cap h0 h1 h2 h3
  | ptr s off hs => exact .ptr (e := e.cut kb) s off ⟨hs, by simpa [okc] using hk⟩
  | aptr id ver row col a h1 h2 h3 => exact .aptr id ver row col a h1 h2 h3
  | func f cap arr hs hv =>
    have : cap = [] := by simpa [okc] using hk
    subst this
    exact .func f [] arr hs (fun j c hj => by simp at hj)
  | map id hi => exact .map (e := e.cut kb) id hi
  | nilm => exact .nilm
  | agg => simp [okc] at hk
  | tup => simp [okc] at hk
  | any v => exact .any v

theorem VR.scrub {x : V} {v : Value} (hv : VR N L e w x v) (kb : List Nat) : VR N L (e.cut kb) w (Pv.scrub kb x) v := by
  cases x with
  | ptr s o =>
    simp only [Pv.scrub]
    split
    · rename_i hk; exact hv.cut (by simpa [okc] using hk)
    · exact .any v
  | func f cap =>
    simp only [Pv.scrub]
    split
    · rename_i hk
      cases hv with
      | func _ _ arr hs hvv => exact .func f cap arr hs (fun j c hj => (hvv j c hj).cut (List.all_eq_true.1 hk c (List.mem_of_getElem? hj)))
    · exact .any v
  | agg cs =>
    simp only [Pv.scrub]
    split
    · rename_i hk
      cases hv with
      | agg _ arr hs hvv => exact .agg cs arr hs (fun j c hj => (hvv j c hj).cut (List.all_eq_true.1 hk c (List.mem_of_getElem? hj)))
    · exact .any v
  | tup vs => exact .any v
  | pv p => exact hv.cut rfl
  | tl r => exact hv.cut rfl
  | own => exact hv.cut rfl
  | aptr => exact hv.cut rfl
  | map => exact hv.cut rfl
  | nilm => exact hv.cut rfl
  | any => exact hv.cut rfl

theorem calm_okc {x : V} (hc : x.calm = true) (kb : List Nat) : okc kb x = true := by
  cases x with
  | pv p => rfl
  | tl r => rfl
  | own => rfl
  | func f cap => simpa [V.calm, okc] using hc
  | _ => simp [V.calm] at hc

theorem CellsAt.cut {b off : Nat} {cs : List V} (hc : CellsAt N L e w b off cs) (kb : List Nat) : CellsAt N L (e.cut kb) w b off cs := by
  intro j c hj
  obtain ⟨h1, v, h2, h3⟩ := hc j c hj
  exact ⟨h1, v, h2, h3.cut (calm_okc h1 kb)⟩

theorem HR.cut (hr : HR N L e W h w) (kb : List Nat) : HR N L (e.cut kb) W { h with bx := maskBx kb h.bx } w := by
  refine ⟨fun s => ?_, fun s cs hs => ?_, hr.na, hr.ver, fun id a ha hk => ?_, hr.nm, hr.mp, fun s hs => hr.wbx s hs.1, hr.war, hr.wmp, fun s s' hs hs' => hr.dbx s s' hs.1 hs'.1, fun s id hs => hr.dba s id hs.1, hr.daa, hr.dmm, hr.lsz, hr.wide⟩
  · simp only [Emb.cut, look1_mask]
    by_cases hk : s ∈ kb
    · simp [hk, hr.sl s]
    · simp [hk]
  · simp only [look1_mask] at hs
    by_cases hk : s ∈ kb
    · simp only [hk, if_true] at hs
      obtain ⟨h1, h2⟩ := hr.bx s cs hs
      exact ⟨h1, h2.cut kb⟩
    · simp [hk] at hs
  · obtain ⟨h1, h2, h3, h4, h5⟩ := hr.ar id a ha hk
    exact ⟨h1, h2, h3, fun i r hi => (h4 i r hi).cut kb, h5⟩

theorem SR.mask {nt : Nat} {s : St} {a : Act} (hs : SR N W L e nt s a w) (kt kb : List Nat) : SR N W L (e.cut kb) nt (s.mask kt kb) a w := by
  refine ⟨hs.hr.cut kb, fun t => ?_, hs.size, hs.defers⟩
  simp only [St.mask, get_mask]
  split
  · exact (hs.env t).scrub kb
  · exact .any _

/-- The state, and how it came from the function's entry. -/
def FrS (N : Nat → Nat) (W : Nat → Prop) (nt : Nat) (L0 : Lx) (w0 : World) (s : St) (a : Act) (w : World) : Prop :=
  ∃ L e, SR N W L e nt s a w ∧ Fr W w0 w ∧ (∀ t b, L0 t b → L t b) ∧ (∀ t b, L t b → L0 t b ∨ (t = 0 ∧ W b))

theorem FrS.mask {nt : Nat} {L0 : Lx} {w0 : World} {s : St} {a : Act} (hs : FrS N W nt L0 w0 s a w) (kt kb : List Nat) : FrS N W nt L0 w0 (s.mask kt kb) a w := by
  obtain ⟨L, e, h1, h2⟩ := hs
  exact ⟨L, _, h1.mask kt kb, h2⟩

theorem FrS.step {nt : Nat} {L0 : Lx} {w0 : World} {s' : St} {a' : Act} (hf : Fr W w0 w) (h1 : ∀ t b, L0 t b → L t b) (h2 : ∀ t b, L t b → L0 t b ∨ (t = 0 ∧ W b)) (hn : Nx N W L e w L' e' s'.h w') (hs : SR N W L' e' nt s' a' w') : FrS N W nt L0 w0 s' a' w' := by
  refine ⟨L', e', hs, hf.trans hn.fr, fun t b hb => hn.ext.sub _ _ (h1 t b hb), fun t b hb => ?_⟩
  rcases hn.new t b hb with hb | hb
  · exact h2 t b hb
  · exact .inr hb

def exitOf : Ex → Exit
  | .normal => .normal
  | .exit id => .exit id
  | .ret => .ret

def QQ (N : Nat → Nat) (W : Nat → Prop) (nt : Nat) (L0 : Lx) (w0 : World) (ex : Ex) (s' : St) : Exit → Act → World → Prop := fun x a w => x = exitOf ex ∧ FrS N W nt L0 w0 s' a w

/-- What is claimed of code, at a fuel. -/
def CodeOk (P : Program) (N M : Nat → Nat) (A : Nat → Option AFunc) (Pr : Prims) (n : Nat) : Prop :=
  ∀ (nt : Nat) (code : Code) (an : Ann) (ac : AC) (an' : Ann), trCode P N M nt code an = some (ac, an') → ∀ (W : Nat → Prop) (L0 : Lx) (w0 : World) (s : St) (ex : Ex) (s' : St) (a : Act) (w : World),
    exec A Pr n ac s = some (ex, s') → FrS N W nt L0 w0 s a w → code.wp P (QQ N W nt L0 w0 ex s') a w

def FnsOk (P : Program) (N : Nat → Nat) (A : Nat → Option AFunc) (Pr : Prims) (n : Nat) : Prop := ∀ f ps rs, callBy A (exec A Pr n) f ps = some rs → FnR P N f ps rs

theorem loop_rounds {A : Nat → Option AFunc} {nt : Nat} {code : Code} {an an' : Ann} {x : AC} {kt kb : List Nat} (htr : trCode P N M nt code an = some (x, an')) {W : Nat → Prop} {L0 : Lx} {w0 : World} : ∀ (k : Nat), (∀ j, j < k → CodeOk P N M A Pr j) → ∀ (s : St) (ex : Ex) (s' : St) (a : Act) (w : World),
    exec A Pr k (.loop (.mask kt kb x)) s = some (ex, s') → FrS N W nt L0 w0 s a w → Code.rounds P code (QQ N W nt L0 w0 ex s') k a w := by
  intro k
  induction k with
  | zero => intro _ s ex s' a w he _; simp [exec] at he
  | succ k ih =>
    intro hall s ex s' a w he hs
    have he' : layer A Pr (exec A Pr k) (.loop (.mask kt kb x)) s = some (ex, s') := he
    simp only [layer] at he'
    rw [rounds_succ]
    cases k with
    | zero => simp [exec] at he'
    | succ j =>
      have hmask : exec A Pr (j + 1) (.mask kt kb x) s = exec A Pr j x (s.mask kt kb) := rfl
      rw [hmask] at he'
      cases hx : exec A Pr j x (s.mask kt kb) with
      | none => simp [hx] at he'
      | some r =>
        obtain ⟨ex1, s1⟩ := r
        have hwp := hall j (by omega) nt code an x an' htr W L0 w0 _ ex1 s1 a w hx (hs.mask kt kb)
        refine wp_mono hwp fun xx a1 w1 hq => ?_
        obtain ⟨rfl, hs1⟩ := hq
        cases ex1 with
        | normal =>
          simp only [hx] at he'
          exact ih (fun i hi => hall i (by omega)) s1 ex s' a1 w1 he' hs1
        | exit id =>
          simp only [hx] at he'
          injection he' with he'; injection he' with e1 e2; subst e1; subst e2
          exact ⟨rfl, hs1⟩
        | ret =>
          simp only [hx] at he'
          injection he' with he'; injection he' with e1 e2; subst e1; subst e2
          exact ⟨rfl, hs1⟩

theorem code_step (hm : P.follows .mixedOrders = true) (hPL : PrimLaw Pr) (hPr : PrimOk P N Pr) {A : Nat → Option AFunc} (n : Nat) (hall : ∀ j, j ≤ n → CodeOk P N M A Pr j) (hfn : FnsOk P N A Pr n) : CodeOk P N M A Pr (n + 1) := by
  intro nt code an ac an' htr W L0 w0 s ex s' a w he hs
  have he' : layer A Pr (exec A Pr n) ac s = some (ex, s') := he
  cases code with
  | skip =>
    simp only [trCode] at htr
    injection htr with htr; injection htr with e1 e2; subst e1
    simp only [layer] at he'
    injection he' with he'; injection he' with e1 e2; subst e1; subst e2
    exact wp_skip ⟨rfl, hs⟩
  | exit id =>
    simp only [trCode] at htr
    injection htr with htr; injection htr with e1 e2; subst e1
    simp only [layer] at he'
    injection he' with he'; injection he' with e1 e2; subst e1; subst e2
    exact wp_exit ⟨rfl, hs⟩
  | ret =>
    simp only [trCode] at htr
    injection htr with htr; injection htr with e1 e2; subst e1
    simp only [layer] at he'
    injection he' with he'; injection he' with e1 e2; subst e1; subst e2
    exact wp_ret ⟨rfl, hs⟩
  | seq x y =>
    simp only [trCode] at htr
    split at htr <;> first | (cases htr; done) | skip
    rename_i x' an1 hx
    split at htr <;> first | (cases htr; done) | skip
    rename_i y' an2 hy
    injection htr with htr; injection htr with e1 e2; subst e1
    simp only [layer] at he'
    refine wp_seq ?_
    cases hex : exec A Pr n x' s with
    | none => simp [hex] at he'
    | some r =>
      obtain ⟨ex1, s1⟩ := r
      refine wp_mono (hall n (Nat.le_refl _) nt x an x' an1 hx W L0 w0 s ex1 s1 a w hex hs) fun xx a1 w1 hq => ?_
      obtain ⟨rfl, hs1⟩ := hq
      cases ex1 with
      | normal =>
        simp only [hex] at he'
        exact hall n (Nat.le_refl _) nt y an1 y' an2 hy W L0 w0 s1 ex s' a1 w1 he' hs1
      | exit id =>
        simp only [hex] at he'
        injection he' with he'; injection he' with e1 e2; subst e1; subst e2
        exact ⟨rfl, hs1⟩
      | ret =>
        simp only [hex] at he'
        injection he' with he'; injection he' with e1 e2; subst e1; subst e2
        exact ⟨rfl, hs1⟩
  | cond c x y =>
    simp only [trCode] at htr
    split at htr <;> first | (cases htr; done) | skip
    rename_i c' x' an1 hc hx
    split at htr <;> first | (cases htr; done) | skip
    rename_i y' an2 hy
    injection htr with htr; injection htr with e1 e2; subst e1
    simp only [layer] at he'
    obtain ⟨L, e, hsr, hrest⟩ := hs
    have hv := (hsr.or (M := M)) c c' hc
    have hs : FrS N W nt L0 w0 s a w := ⟨L, e, hsr, hrest⟩
    split at he' <;> first | (cases he'; done) | skip
    · rename_i hg
      rw [hg] at hv
      exact wp_cond_true hv.bool (hall n (Nat.le_refl _) nt x an x' an1 hx W L0 w0 s ex s' a w he' hs)
    · rename_i hg
      rw [hg] at hv
      exact wp_cond_false hv.bool (hall n (Nat.le_refl _) nt y an1 y' an2 hy W L0 w0 s ex s' a w he' hs)
  | block id x =>
    simp only [trCode] at htr
    split at htr <;> first | (cases htr; done) | skip
    rename_i x' an1 hx
    injection htr with htr; injection htr with e1 e2; subst e1
    simp only [layer] at he'
    refine wp_block ?_
    cases hex : exec A Pr n x' s with
    | none => simp [hex] at he'
    | some r =>
      obtain ⟨ex1, s1⟩ := r
      refine wp_mono (hall n (Nat.le_refl _) nt x an x' an1 hx W L0 w0 s ex1 s1 a w hex hs) fun xx a1 w1 hq => ?_
      obtain ⟨rfl, hs1⟩ := hq
      cases ex1 with
      | normal =>
        simp only [hex] at he'
        injection he' with he'; injection he' with e1 e2; subst e1; subst e2
        exact ⟨rfl, hs1⟩
      | exit j =>
        simp only [hex] at he'
        simp only [exitOf, Exit.inBlock]
        split at he'
        · rename_i hj
          injection he' with he'; injection he' with e1 e2; subst e1; subst e2
          rw [if_pos hj]
          exact ⟨rfl, hs1⟩
        · rename_i hj
          injection he' with he'; injection he' with e1 e2; subst e1; subst e2
          rw [if_neg hj]
          exact ⟨rfl, hs1⟩
      | ret =>
        simp only [hex] at he'
        injection he' with he'; injection he' with e1 e2; subst e1; subst e2
        exact ⟨rfl, hs1⟩
  | loop x =>
    simp only [trCode] at htr
    split at htr <;> first | (cases htr; done) | skip
    rename_i kt kb r
    split at htr <;> first | (cases htr; done) | skip
    rename_i x' an1 hx
    injection htr with htr; injection htr with e1 e2; subst e1
    exact wp_loop_rounds (n + 1) (loop_rounds hx (n + 1) (fun j hj => hall j (by omega)) s ex s' a w he hs)
  | region id ops draw =>
    simp only [trCode] at htr
    split at htr <;> first | (cases htr; done) | skip
    rename_i kt kb r l hl
    obtain ⟨L, e, hsr, hf, h1, h2⟩ := hs
    split at htr
    · rename_i hdraw
      subst hdraw
      split at htr <;> first | (cases htr; done) | skip
      rename_i hok
      injection htr with htr; injection htr with e1 e2; subst e1
      simp only [layer] at he'
      split at he' <;> first | (cases he'; done) | skip
      rename_i s1 hex
      injection he' with he'; injection he' with e1 e2; subst e1; subst e2
      exact draw_wp (M := M) hm hPL hfn hPr hl hok hsr hex fun a' w' L' e' hn hs' => ⟨rfl, (FrS.step hf h1 h2 hn hs').mask kt kb⟩
    · rename_i hdraw
      have hdraw' : draw = false := by simpa using hdraw
      subst hdraw'
      injection htr with htr; injection htr with e1 e2; subst e1
      simp only [layer] at he'
      split at he' <;> first | (cases he'; done) | skip
      rename_i s1 hex
      injection he' with he'; injection he' with e1 e2; subst e1; subst e2
      exact region_wp (M := M) hfn hPr hl hsr hex fun a' w' L' e' hn hs' => ⟨rfl, (FrS.step hf h1 h2 hn hs').mask kt kb⟩
  | _ => simp [trCode] at htr

end Go.Pv

/-
  Functions: what the interpreter says of a call, the machine does.
-/
namespace Go.Pv
variable {P : Program} {N M : Nat → Nat} {W : Nat → Prop} {L L' : Lx} {e e' : Emb} {h : Heap} {w w' : World} {Pr : Prims}

def Emb.empty : Emb := ⟨fun _ => False, fun _ => 0, 0, fun _ => 0, fun _ => 0, fun _ => 0, fun _ => 0, fun _ => 0, fun _ => 0, 0, fun _ => 0⟩

theorem HR.start (hl : ∀ t b, L t b → b < w.heap.size) (hw : ∀ b, w.heap.size ≤ b → W b) : HR N L .empty W Heap.empty w := by
  refine ⟨fun s => ?_, fun s cs hs => ?_, rfl, fun id a ha => ?_, fun id a ha => ?_, rfl, fun id m hm => ?_, fun s hs => hs.elim, fun id hi => absurd hi (Nat.not_lt_zero _), fun id hi => absurd hi (Nat.not_lt_zero _),
    fun s _ hs => hs.elim, fun s _ hs => hs.elim, fun i _ hi => absurd hi (Nat.not_lt_zero _), fun i _ hi => absurd hi (Nat.not_lt_zero _), hl, hw⟩
  · simp [Emb.empty, Heap.empty, look1]
  · simp [Heap.empty, look1] at hs
  · simp [Heap.empty] at ha
  · simp [Heap.empty] at ha
  · simp [Heap.empty] at hm

theorem get_entry : ∀ (ps : List PV) (n t : Nat), get (entry n ps) t = if n ≤ t then (match ps[t - n]? with | some p => V.ofArg p | none => .any) else .any
  | [], n, t => by simp [entry, get, look1]
  | p :: r, n, t => by
    have ih := get_entry r (n + 1) t
    simp only [entry, get, look1] at ih ⊢
    by_cases hn : n = t
    · subst hn; simp
    · rw [if_neg hn, ih]
      by_cases hlt : n ≤ t
      · rw [if_pos (show n + 1 ≤ t by omega), if_pos hlt, show t - n = (t - (n + 1)) + 1 by omega]
        simp
      · rw [if_neg (by omega), if_neg hlt]

theorem ofArg_rel {p : PV} {v : Value} (hp : PVR N L w p v) : VR N L e w (V.ofArg p) v := by
  cases p with
  | agg cs =>
    cases hp with
    | agg _ arr hs hv _ =>
      refine .agg _ arr (by simpa using hs) (fun j c hj => ?_)
      obtain ⟨q, hq, rfl⟩ := map_pv_get hj
      exact .pv _ _ (hv j q hq)
  | fr k rows => cases hp
  | _ => exact .pv _ _ hp

theorem not_fr {k : Nat} {rows : List (List PV)} {v : Value} (hp : PVR N L w (.fr k rows) v) : False := by cases hp

/-- The state in which a body begins. -/
theorem entry_rel {T : Option Nat} {ps : List PV} {args : Array Value} (hl : ∀ t b, L t b → b < w.heap.size) (ha : ArgsR N L w T ps args.toList) :
    ∃ e, HR N L e (Wc w T) (entryHeap ps) w ∧ ∀ (j : Nat) (p : PV), ps[j]? = some p → ∃ v, args.toList[j]? = some v ∧ VR N L e w (V.ofArg p) v := by
  generalize hargs : args.toList = al at ha
  cases ha with
  | plain _ _ hlen hv =>
    have h0 : entryHeap ps = Heap.empty := by
      cases ps with
      | nil => rfl
      | cons p r =>
        cases p with
        | fr k rows =>
          obtain ⟨v, _, h2⟩ := hv 0 _ rfl
          exact (not_fr h2).elim
        | _ => rfl
    rw [h0]
    refine ⟨.empty, HR.start hl (fun b hb => .inl hb), fun j p hj => ?_⟩
    obtain ⟨v, h1, h2⟩ := hv j p hj
    exact ⟨v, h1, ofArg_rel h2⟩
  | take b k rows v qs vs hf hlen hv =>
    have hst : HR N L .empty (Wc w (some b)) Heap.empty w := HR.start hl (fun b hb => .inl hb)
    obtain ⟨e, h1, h2, h3⟩ := hf.own hst (.inr rfl) (fun ho => by
      rcases ho with ⟨s, hs, _⟩ | ⟨id, hi, _⟩
      · exact hs
      · exact absurd hi (Nat.not_lt_zero _))
    refine ⟨e, h1.hr, fun j p hj => ?_⟩
    match j, hj with
    | 0, hj => simp at hj; subst hj; exact ⟨v, rfl, h2⟩
    | j + 1, hj =>
      obtain ⟨u, k1, k2⟩ := hv j p (by simpa using hj)
      exact ⟨u, by simpa using k1, ofArg_rel k2⟩

theorem loadVar_of {t : TypeId} {n : Nat} {ag : Bool} (hl : loadT P t = some (n, ag)) (hr : HR N L e W h w) {x : V} {xv : Value} (hx : VR N L e w x xv) {cs : List V} {tn : Tn} (hla : loadAt h n x = some (cs, tn)) {v : V} (hc : cellsV ag cs = some v) :
    ∃ a v', xv = .pointer (some a) ∧ (loadVar t a).run P w = .ok v' w ∧ VR N L e w v v' := by
  obtain ⟨a1, a2, b, off, a3, a4⟩ := loadAt_spec hr hx hla
  obtain ⟨v', r1, r2⟩ := load_run (P := P) hl a2 a4 hc
  exact ⟨_, v', a3, r1, r2⟩

theorem results_list {nt : Nat} {s : St} {a : Act} (hs : SR N W L e nt s a w) : ∀ (rs : List ResultVar) (rv : List RVar) (vs : List V), mapO (trRes P) rs = some rv → mapO (resultOf s) rv = some vs →
    ∃ vals : List Value, (rs.mapM (fun r => (match r with | .tmp t => pure (a.tmps.getD t undef) | .cell x t => do loadVar t (← asAddr (a.tmps.getD x undef)) : Sem Value))).run P w = .ok vals w ∧ vals.length = vs.length ∧
      ∀ (j : Nat) (v : V), vs[j]? = some v → ∃ u, vals[j]? = some u ∧ VR N L e w v u
  | [], rv, vs, h1, h2 => by
    simp [mapO] at h1
    subst h1
    simp [mapO] at h2
    subst h2
    exact ⟨[], by simp, rfl, fun j v hj => by simp at hj⟩
  | r :: rs, rv, vs, h1, h2 => by
    simp only [mapO] at h1
    split at h1 <;> first | (cases h1; done) | skip
    rename_i q qs hq hqs
    injection h1 with h1
    subst h1
    simp only [mapO] at h2
    split at h2 <;> first | (cases h2; done) | skip
    rename_i v vr hv hvr
    injection h2 with h2
    subst h2
    obtain ⟨vals, g1, g2, g3⟩ := results_list hs rs qs vr hqs hvr
    have hone : ∃ u, (match r with | .tmp t => pure (a.tmps.getD t undef) | .cell x t => do loadVar t (← asAddr (a.tmps.getD x undef)) : Sem Value).run P w = .ok u w ∧ VR N L e w v u := by
      cases r with
      | tmp t =>
        simp [trRes] at hq
        subst hq
        simp [resultOf] at hv
        subst hv
        exact ⟨_, by simp, hs.env t⟩
      | cell x t =>
        simp only [trRes] at hq
        split at hq <;> first | (cases hq; done) | skip
        rename_i n b hl
        injection hq with hq
        subst hq
        simp only [resultOf] at hv
        split at hv <;> first | (cases hv; done) | skip
        rename_i cs tn hla
        obtain ⟨ad, u, k1, k2, k3⟩ := loadVar_of hl hs.hr (hs.env x) hla hv
        refine ⟨u, ?_, k3⟩
        simp only [Sem.run_bind]
        rw [k1]
        simpa [asAddr] using k2
    obtain ⟨u, k1, k2⟩ := hone
    refine ⟨u :: vals, ?_, by simp [g2], fun j x hj => ?_⟩
    · rw [List.mapM_cons]
      simp only [Sem.run_bind, k1, Result.andThen_ok, g1, Sem.run_pure]
    · match j, hj with
      | 0, hj => simp at hj; subst hj; exact ⟨u, rfl, k2⟩
      | j + 1, hj => simpa using g3 j x (by simpa using hj)

theorem tuple_eq (vs : Array Value) : (if h : vs.size = 1 then vs[0] else .tuple vs) = tupleV vs.toList := by
  obtain ⟨l⟩ := vs
  match l with
  | [] => rfl
  | [v] => rfl
  | _ :: _ :: _ => rfl

theorem results_run {nt : Nat} {s : St} {a : Act} (hs : SR N W L e nt s a w) {go : Func} {rv : List RVar} (hrv : mapO (trRes P) go.results.toList = some rv) {vs : List V} (hv : mapO (resultOf s) rv = some vs) :
    ∃ vals : List Value, (results go a.tmps).run P w = .ok (tupleV vals) w ∧ vals.length = vs.length ∧ ∀ (j : Nat) (v : V), vs[j]? = some v → ∃ u, vals[j]? = some u ∧ VR N L e w v u := by
  obtain ⟨vals, h1, h2, h3⟩ := results_list hs go.results.toList rv vs hrv hv
  refine ⟨vals, ?_, h2, h3⟩
  unfold results
  rw [Array.mapM_eq_mapM_toList]
  have h1' : ((go.results.toList.mapM (fun r => (match r with | .tmp t => pure (a.tmps.getD t undef) | .cell x t => do loadVar t (← asAddr (a.tmps.getD x undef)) : Sem Value))).run P w) = .ok vals w := h1
  simp only [Sem.run_bind, map_eq_pure_bind]
  have : ∀ (f : ResultVar → Sem Value), (∀ r, f r = (match r with | .tmp t => pure (a.tmps.getD t undef) | .cell x t => do loadVar t (← asAddr (a.tmps.getD x undef)) : Sem Value)) → (go.results.toList.mapM f).run P w = .ok vals w := by
    intro f hf
    have : f = _ := funext hf
    rw [this]
    exact h1'
  rw [this _ (fun r => by cases r <;> rfl)]
  simp only [Result.andThen_ok, Sem.run_pure]
  rw [tuple_eq]

-- what is given back

theorem keepc_cell (hr : HR N L e W h w) (hL : ∀ b, L 0 b → L' 0 b) (hown : ∀ id, id < e.na → e.ak id ≠ 0 → L' 0 (e.ar id)) {x : V} {p : PV} {v : Value} (hk : keepc h 4 x = some p) (hv : VR N L e w x v) : CR N L' w p v [] := by
  obtain ⟨h1, h2⟩ := keepc_sound hr hL 4 x p v hk hv (fun _ => hown)
  exact .keep p v h2 h1

/-- The blocks of the arrays that cells name. -/
def blocksOf (e : Emb) (cs : List V) : List Nat := (cs.filterMap ownId).map e.ar

theorem freshc_cell (hr : HR N L e W h w) (hL : ∀ b, L 0 b → L' 0 b) {x : V} (hno : ∀ b ∈ blocksOf e [x], ∀ t, ¬ L' t b) {p : PV} {v : Value} (hk : freshc h x = some p) (hv : VR N L e w x v) : CR N L' w p v (blocksOf e [x]) ∧ ∀ id, ownId x = some id → id < e.na ∧ e.ak id ≠ 0 := by
  unfold freshc at hk
  split at hk
  · rename_i id ver len
    cases ho : ownArr h id ver with
    | none => simp [ho] at hk
    | some a =>
      simp only [ho] at hk
      split at hk <;> first | (cases hk; done) | skip
      rename_i rows hb
      split at hk <;> first | (cases hk; done) | skip
      rename_i hk0
      injection hk with hk
      subst hk
      obtain ⟨ho1, ho2⟩ := ownArr_spec ho
      obtain ⟨v1, v2, v3, v4⟩ := hr.ver id a ho1
      obtain ⟨g1, g2, g3, g4, g5⟩ := hr.ar id a ho1 hk0
      have hid : id < e.na := by rw [hr.na]; exact (List.getElem?_eq_some_iff.1 ho1).1
      refine ⟨?_, fun j hj => by simp [ownId] at hj; subst hj; exact ⟨hid, by rw [v2]; exact hk0⟩⟩
      have hbl : blocksOf e [.own id ver 0 len] = [e.ar id] := rfl
      rw [hbl] at hno ⊢
      refine .fresh a.k (rows.take len) (e.ar id) v ?_
      obtain ⟨A, cap, rfl⟩ := own_len hv
      cases hv with
      | own _ _ _ _ _ _ h0 h1 h2 h3 =>
        obtain ⟨q1, q2, q3, q4⟩ := h3 (by omega)
        have hsz : a.size = rows.length := by simp [Arr.size, hb]
        simp only [Nat.zero_mul, Nat.add_zero, Nat.zero_add] at q1 q3 q4
        have hlen : (rows.take len).length = len := by simp; omega
        have hrows : a.rows = rows.map (·.map V.pv) := by simp [Arr.rows, hb]
        refine ⟨A, cap, e.ad id, e.cap id, by rw [hlen], hk0, by omega, q3, q4, g2, fun r hr' => ?_, hno (e.ar id) (by simp), fun i j c hcc => ?_⟩
        · have := g3 (r.map V.pv) (by rw [hrows]; exact List.mem_map.2 ⟨r, List.mem_of_mem_take hr', rfl⟩)
          simpa using this
        · unfold at2 at hcc
          cases hi : (rows.take len)[i]? with
          | none => simp [hi] at hcc
          | some r =>
            simp [hi] at hcc
            have hi' : rows[i]? = some r := by
              rw [List.getElem?_take] at hi
              split at hi
              · exact hi
              · cases hi
            obtain ⟨_, u, k1, k2⟩ := g4 i (r.map V.pv) (by rw [hrows]; exact map_pv_row hi') j (.pv c) (by simp [hcc])
            have hperm : c.perm = true := by
              rw [hb] at g5
              exact g5 r (List.mem_of_getElem? hi') c (List.mem_of_getElem? hcc)
            refine ⟨hperm, u, by rw [← Nat.add_assoc]; exact k1, ?_⟩
            cases k2 with
            | pv _ _ hq => exact hq.perm0 hperm (fun b hb => ⟨hL b hb, rfl⟩)
  · cases hk
  · rename_i hn1 hn2
    have hnone : ownId x = none := by
      cases x with
      | own id ver off len =>
        cases off with
        | zero => exact absurd rfl (hn1 id ver len)
        | succ off => exact absurd rfl (hn2 id ver (off + 1) len)
      | _ => rfl
    have hb0 : blocksOf e [x] = [] := by simp [blocksOf, hnone]
    rw [hb0]
    obtain ⟨k1, k2⟩ := keepc_sound hr hL 4 x p v hk hv (fun hne => absurd hnone hne)
    exact ⟨.keep p v k2 k1, fun id hid => by rw [hnone] at hid; cases hid⟩

theorem blocks_cons (e : Emb) (x : V) (cs : List V) : blocksOf e (x :: cs) = blocksOf e [x] ++ blocksOf e cs := by
  cases hx : ownId x <;> simp [blocksOf, hx]

theorem fresh_cells (hr : HR N L e W h w) (hL : ∀ b, L 0 b → L' 0 b) : ∀ (cs : List V) (ps : List PV) (vs : List Value), (∀ b ∈ blocksOf e cs, ∀ t, ¬ L' t b) → mapO (freshc h) cs = some ps → vs.length = cs.length → (∀ (j : Nat) (x : V), cs[j]? = some x → ∃ u, vs[j]? = some u ∧ VR N L e w x u) →
    CRs N L' w ps vs (blocksOf e cs) ∧ ∀ id ∈ cs.filterMap ownId, id < e.na ∧ e.ak id ≠ 0
  | [], ps, vs, _, hm, hl, _ => by
    simp [mapO] at hm
    subst hm
    have : vs = [] := List.eq_nil_of_length_eq_zero (by simpa using hl)
    subst this
    exact ⟨.nil, by simp⟩
  | x :: cs, ps, vs, hno, hm, hl, hv => by
    simp only [mapO] at hm
    split at hm <;> first | (cases hm; done) | skip
    rename_i p pr hp hpr
    injection hm with hm
    subst hm
    match vs, hl with
    | v :: vs, hl =>
      obtain ⟨u, h1, h2⟩ := hv 0 x rfl
      simp at h1
      subst h1
      rw [blocks_cons] at hno ⊢
      obtain ⟨c1, c2⟩ := freshc_cell hr hL (fun b hb => hno b (List.mem_append_left _ hb)) hp h2
      obtain ⟨d1, d2⟩ := fresh_cells hr hL cs pr vs (fun b hb => hno b (List.mem_append_right _ hb)) hpr (by simpa using hl) (fun j y hj => by simpa using hv (j + 1) y (by simpa using hj))
      refine ⟨.cons _ _ _ _ _ _ c1 d1, fun id hid => ?_⟩
      obtain ⟨y, hy1, hy2⟩ := List.mem_filterMap.1 hid
      rcases List.mem_cons.1 hy1 with rfl | hy1
      · exact c2 id hy2
      · exact d2 id (List.mem_filterMap.2 ⟨y, hy1, hy2⟩)

theorem keep_cells (hr : HR N L e W h w) (hL : ∀ b, L 0 b → L' 0 b) (hown : ∀ id, id < e.na → e.ak id ≠ 0 → L' 0 (e.ar id)) : ∀ (cs : List V) (ps : List PV) (vs : List Value), mapO (keepc h 4) cs = some ps → vs.length = cs.length → (∀ (j : Nat) (x : V), cs[j]? = some x → ∃ u, vs[j]? = some u ∧ VR N L e w x u) → CRs N L' w ps vs []
  | [], ps, vs, hm, hl, _ => by
    simp [mapO] at hm
    subst hm
    have : vs = [] := List.eq_nil_of_length_eq_zero (by simpa using hl)
    subst this
    exact .nil
  | x :: cs, ps, vs, hm, hl, hv => by
    simp only [mapO] at hm
    split at hm <;> first | (cases hm; done) | skip
    rename_i p pr hp hpr
    injection hm with hm
    subst hm
    match vs, hl with
    | v :: vs, hl =>
      obtain ⟨u, h1, h2⟩ := hv 0 x rfl
      simp at h1
      subst h1
      exact CRs.cons _ _ [] _ _ [] (keepc_cell hr hL hown hp h2) (keep_cells hr hL hown cs pr vs hpr (by simpa using hl) (fun j y hj => by simpa using hv (j + 1) y (by simpa using hj)))

end Go.Pv

/-
  The interpreter is sound: whatever it says of a function, the program's function does.
-/
namespace Go.Pv
variable {P : Program} {N M : Nat → Nat} {W : Nat → Prop} {L L' : Lx} {e e' : Emb} {h : Heap} {w w' : World} {Pr : Prims}

theorem agg_cells {cs : List V} {v : Value} (hv : VR N L e w (.agg cs) v) : ∃ arr : Array Value, v = .agg arr ∧ arr.toList.length = cs.length ∧ ∀ (j : Nat) (x : V), cs[j]? = some x → ∃ u, arr.toList[j]? = some u ∧ VR N L e w x u := by
  cases hv with
  | agg _ arr hs hvv =>
    refine ⟨arr, rfl, by simpa using hs, fun j x hj => ?_⟩
    have hlt : j < arr.size := by rw [hs]; exact (List.getElem?_eq_some_iff.1 hj).1
    exact ⟨arr.getD j undef, by rw [Array.getElem?_toList]; exact getD_of_getElem? hlt, hvv j x hj⟩

theorem fresh_val (hr : HR N L e W h w) (hL : ∀ b, L 0 b → L' 0 b) {x : V} {p : PV} {v : Value} (hno : ∀ b ∈ blocksOf e x.cells, ∀ t, ¬ L' t b) (hk : keep h true x = some p) (hv : VR N L e w x v) :
    RR N L' w p v (blocksOf e x.cells) ∧ ∀ id ∈ x.cells.filterMap ownId, id < e.na ∧ e.ak id ≠ 0 := by
  cases x with
  | agg cs =>
    simp only [keep, if_true] at hk
    cases hm : mapO (freshc h) cs with
    | none => simp [hm] at hk
    | some l =>
      simp [hm] at hk
      subst hk
      obtain ⟨arr, rfl, h1, h2⟩ := agg_cells hv
      obtain ⟨k1, k2⟩ := fresh_cells hr hL cs l arr.toList hno hm h1 h2
      exact ⟨.agg l arr _ k1, k2⟩
  | _ =>
    simp only [keep, if_true] at hk
    obtain ⟨k1, k2⟩ := freshc_cell hr hL hno hk hv
    refine ⟨.cell _ _ _ k1, fun id hid => ?_⟩
    obtain ⟨y, hy1, hy2⟩ := List.mem_filterMap.1 hid
    simp [V.cells] at hy1
    subst hy1
    exact k2 id hy2

theorem keep_val (hr : HR N L e W h w) (hL : ∀ b, L 0 b → L' 0 b) (hown : ∀ id, id < e.na → e.ak id ≠ 0 → L' 0 (e.ar id)) {x : V} {p : PV} {v : Value} (hk : keep h false x = some p) (hv : VR N L e w x v) : RR N L' w p v [] := by
  cases x with
  | agg cs =>
    simp only [keep, Bool.false_eq_true, if_false] at hk
    cases hm : mapO (keepc h 4) cs with
    | none => simp [hm] at hk
    | some l =>
      simp [hm] at hk
      subst hk
      obtain ⟨arr, rfl, h1, h2⟩ := agg_cells hv
      exact .agg l arr _ (keep_cells hr hL hown cs l arr.toList hm h1 h2)
  | _ =>
    simp only [keep, Bool.false_eq_true, if_false] at hk
    exact .cell _ _ _ (keepc_cell hr hL hown hk hv)

theorem fresh_vals (hr : HR N L e W h w) (hL : ∀ b, L 0 b → L' 0 b) : ∀ (xs : List V) (rs : List PV) (vals : List Value), (∀ b ∈ (ownIds xs).map e.ar, ∀ t, ¬ L' t b) → mapO (keep h true) xs = some rs → vals.length = xs.length → (∀ (j : Nat) (x : V), xs[j]? = some x → ∃ u, vals[j]? = some u ∧ VR N L e w x u) →
    RRs N L' w rs vals ((ownIds xs).map e.ar) ∧ ∀ id ∈ ownIds xs, id < e.na ∧ e.ak id ≠ 0
  | [], rs, vals, _, hm, hl, _ => by
    simp [mapO] at hm
    subst hm
    have : vals = [] := List.eq_nil_of_length_eq_zero (by simpa using hl)
    subst this
    exact ⟨.nil, by simp [ownIds]⟩
  | x :: xs, rs, vals, hno, hm, hl, hv => by
    simp only [mapO] at hm
    split at hm <;> first | (cases hm; done) | skip
    rename_i p pr hp hpr
    injection hm with hm
    subst hm
    match vals, hl with
    | v :: vals, hl =>
      obtain ⟨u, h1, h2⟩ := hv 0 x rfl
      simp at h1
      subst h1
      have hsplit : (ownIds (x :: xs)).map e.ar = blocksOf e x.cells ++ (ownIds xs).map e.ar := by simp [ownIds, blocksOf]
      rw [hsplit] at hno ⊢
      obtain ⟨c1, c2⟩ := fresh_val hr hL (fun b hb => hno b (List.mem_append_left _ hb)) hp h2
      obtain ⟨d1, d2⟩ := fresh_vals hr hL xs pr vals (fun b hb => hno b (List.mem_append_right _ hb)) hpr (by simpa using hl) (fun j y hj => by simpa using hv (j + 1) y (by simpa using hj))
      refine ⟨.cons _ _ _ _ _ _ c1 d1, fun id hid => ?_⟩
      simp only [ownIds, List.mem_append] at hid
      rcases hid with hid | hid
      · exact c2 id hid
      · exact d2 id hid

theorem keep_vals (hr : HR N L e W h w) (hL : ∀ b, L 0 b → L' 0 b) (hown : ∀ id, id < e.na → e.ak id ≠ 0 → L' 0 (e.ar id)) : ∀ (xs : List V) (rs : List PV) (vals : List Value), mapO (keep h false) xs = some rs → vals.length = xs.length → (∀ (j : Nat) (x : V), xs[j]? = some x → ∃ u, vals[j]? = some u ∧ VR N L e w x u) → RRs N L' w rs vals []
  | [], rs, vals, hm, hl, _ => by
    simp [mapO] at hm
    subst hm
    have : vals = [] := List.eq_nil_of_length_eq_zero (by simpa using hl)
    subst this
    exact .nil
  | x :: xs, rs, vals, hm, hl, hv => by
    simp only [mapO] at hm
    split at hm <;> first | (cases hm; done) | skip
    rename_i p pr hp hpr
    injection hm with hm
    subst hm
    match vals, hl with
    | v :: vals, hl =>
      obtain ⟨u, h1, h2⟩ := hv 0 x rfl
      simp at h1
      subst h1
      exact RRs.cons _ _ [] _ _ [] (keep_val hr hL hown hp h2) (keep_vals hr hL hown xs pr vals hpr (by simpa using hl) (fun j y hj => by simpa using hv (j + 1) y (by simpa using hj)))

theorem distinct_nodup : ∀ {l : List Nat}, distinct l = true → l.Nodup
  | [], _ => List.nodup_nil
  | x :: r, hd => by
    simp only [distinct, Bool.and_eq_true, Bool.not_eq_true'] at hd
    refine List.nodup_cons.2 ⟨fun hx => ?_, distinct_nodup hd.2⟩
    have := List.contains_iff_mem.2 hx
    rw [hd.1] at this
    cases this

theorem nodup_map {f : Nat → Nat} : ∀ {l : List Nat}, l.Nodup → (∀ a ∈ l, ∀ b ∈ l, f a = f b → a = b) → (l.map f).Nodup
  | [], _, _ => List.nodup_nil
  | x :: r, hn, hf => by
    obtain ⟨h1, h2⟩ := List.nodup_cons.1 hn
    rw [List.map_cons]
    refine List.nodup_cons.2 ⟨fun hx => ?_, nodup_map h2 (fun a ha b hb => hf a (by simp [ha]) b (by simp [hb]))⟩
    obtain ⟨y, hy1, hy2⟩ := List.mem_map.1 hx
    have := hf y (by simp [hy1]) x (by simp) hy2
    subst this
    exact h1 hy1

theorem own_ids (hr : HR N L e W h w) : ∀ {xs : List V} {rs : List PV}, mapO (keep h true) xs = some rs → ∀ id ∈ ownIds xs, id < e.na ∧ e.ak id ≠ 0 := by
  have hc : ∀ {x : V} {p : PV}, freshc h x = some p → ∀ id, ownId x = some id → id < e.na ∧ e.ak id ≠ 0 := by
    intro x p hk id hid
    cases x with
    | own id' ver off len =>
      simp [ownId] at hid
      subst hid
      cases off with
      | succ off => simp [freshc] at hk
      | zero =>
        simp only [freshc] at hk
        cases ho : ownArr h id' ver with
        | none => simp [ho] at hk
        | some a =>
          simp only [ho] at hk
          split at hk <;> first | (cases hk; done) | skip
          split at hk <;> first | (cases hk; done) | skip
          rename_i hk0
          obtain ⟨ho1, _⟩ := ownArr_spec ho
          exact ⟨by rw [hr.na]; exact (List.getElem?_eq_some_iff.1 ho1).1, by rw [(hr.ver id' a ho1).2.1]; exact hk0⟩
    | _ => simp [ownId] at hid
  intro xs
  induction xs with
  | nil => intro rs _ id hid; simp [ownIds] at hid
  | cons x xs ih =>
    intro rs hm id hid
    simp only [mapO] at hm
    split at hm <;> first | (cases hm; done) | skip
    rename_i p pr hp hpr
    simp only [ownIds, List.mem_append] at hid
    rcases hid with hid | hid
    · obtain ⟨y, hy1, hy2⟩ := List.mem_filterMap.1 hid
      cases x with
      | agg cs =>
        simp only [keep, if_true] at hp
        cases hmm : mapO (freshc h) cs with
        | none => simp [hmm] at hp
        | some l =>
          obtain ⟨j, hj⟩ := List.mem_iff_getElem?.1 (show y ∈ cs from hy1)
          obtain ⟨q, _, hq⟩ := mapO_fwd hmm j y hj
          exact hc hq id hy2
      | _ =>
        simp only [keep, if_true] at hp
        simp [V.cells] at hy1
        subst hy1
        exact hc hp id hy2
    · exact ih hpr id hid

/-- The results, when the body has ended. -/
theorem leave_sound {T : Option Nat} {nt : Nat} {L0 : Lx} {w0 : World} {s : St} {a : Act} {fn : AFunc} {go : Func} (hs : FrS N (Wc w0 T) nt L0 w0 s a w) (hrv : mapO (trRes P) go.results.toList = some fn.results) {rs : List PV} (hl : leave fn s = some rs) :
    ∃ v, (results go a.tmps).run P w = .ok v w ∧ After N L0 w0 T rs v w := by
  obtain ⟨L, e, hsr, hf, h1, h2⟩ := hs
  unfold leave at hl
  split at hl <;> first | (cases hl; done) | skip
  rename_i xs hxs
  split at hl <;> first | (cases hl; done) | skip
  rename_i hcond
  obtain ⟨vals, r1, r2, r3⟩ := results_run hsr hrv hxs
  refine ⟨tupleV vals, r1, ?_⟩
  have hr := hsr.hr
  cases hfr : fn.fresh with
  | false =>
    rw [hfr] at hl
    let L1 : Lx := fun t b => L t b ∨ (t = 0 ∧ Wc w0 T b ∧ b < w.heap.size)
    refine ⟨L1, [], vals, hf, fun t b hb => .inl (h1 t b hb), fun t b hb => ?_, fun t b hb => ?_, ?_, List.nodup_nil, by simp, rfl⟩
    · rcases hb with hb | ⟨h3, h4, _⟩
      · exact h2 t b hb
      · exact .inr ⟨h3, h4⟩
    · rcases hb with hb | ⟨_, _, h5⟩
      · exact hr.lsz t b hb
      · exact h5
    · exact keep_vals (L' := L1) hr (fun b hb => .inl hb) (fun id hi hk => .inr ⟨rfl, (hr.war id hi hk).1, hr.lt_ar hi hk⟩) xs rs vals hl r2 r3
  | true =>
    rw [hfr] at hl hcond
    simp only [Bool.not_true, Bool.false_or] at hcond
    let bs : List Nat := (ownIds xs).map e.ar
    let L1 : Lx := fun t b => (L t b ∨ (t = 0 ∧ Wc w0 T b ∧ b < w.heap.size)) ∧ b ∉ bs
    -- the blocks of what is given away are no one's
    have hids : ∀ id ∈ ownIds xs, id < e.na ∧ e.ak id ≠ 0 := own_ids hr hl
    have hfree : ∀ b ∈ bs, Wc w0 T b ∧ ∀ t, ¬ L t b := fun b hb => by
      obtain ⟨id, hid, rfl⟩ := List.mem_map.1 hb
      exact ⟨(hr.war id (hids id hid).1 (hids id hid).2).1, (hr.war id (hids id hid).1 (hids id hid).2).2⟩
    refine ⟨L1, bs, vals, hf, fun t b hb => ⟨.inl (h1 t b hb), fun hbb => (hfree b hbb).2 t (h1 t b hb)⟩, fun t b hb => ?_, fun t b hb => ?_, ?_, ?_, fun b hb => (hfree b hb).1, rfl⟩
    · rcases hb.1 with hb | ⟨h3, h4, _⟩
      · exact h2 t b hb
      · exact .inr ⟨h3, h4⟩
    · rcases hb.1 with hb | ⟨_, _, h5⟩
      · exact hr.lsz t b hb
      · exact h5
    · exact (fresh_vals (L' := L1) hr (fun b hb => ⟨.inl hb, fun hbb => (hfree b hbb).2 0 hb⟩) xs rs vals (fun b hb t ht => ht.2 hb) hl r2 r3).1
    · exact nodup_map (distinct_nodup hcond) (fun i hi j hj heq => hr.daa i j (hids i hi).1 (hids j hj).1 (hids i hi).2 (hids j hj).2 heq)

/-- A function of the table. -/
theorem fn_sound {A : Nat → Option AFunc} {n : Nat} (hcode : CodeOk P N M A Pr n) (hA : ∀ f fn, A f = some fn → ∃ an, FnOk P N M (N f) an fn) : FnsOk P N A Pr n := by
  intro f ps rs hcall
  unfold callBy at hcall
  split at hcall <;> first | (cases hcall; done) | skip
  rename_i fn hfn
  obtain ⟨an, go, code, f1, f2, f3, f4, f5, f6⟩ := hA f fn hfn
  unfold runFn at hcall
  split at hcall <;> first | (cases hcall; done) | skip
  rename_i hargs
  intro L w T args hlsz har
  refine .inr ⟨by simp only [beq_eq_false_iff_ne, ne_eq] at f3; simp [callFunc, f1, f2, f3], ?_⟩
  refine calls_of_wp f1 f2 ?_
  obtain ⟨e, e1, e2⟩ := entry_rel hlsz har
  have hlen : args.size = ps.length := by
    have : args.toList.length = ps.length := by
      generalize args.toList = al at har
      cases har with
      | plain _ _ hl _ => exact hl
      | take _ _ _ _ _ _ _ hl _ => simp [hl]
    simpa using this
  have hst : FrS N (Wc w T) go.ntmps L w ⟨entry 0 ps, entryHeap ps⟩ { tmps := args ++ Array.replicate (go.ntmps - args.size) undef, defers := [] } w := by
    refine ⟨L, e, ⟨e1, fun t => ?_, ?_, rfl⟩, Fr.refl _ _, fun _ _ hb => hb, fun _ _ hb => .inl hb⟩
    · rw [get_entry]
      simp only [Nat.zero_le, if_true, Nat.sub_zero]
      cases hp : ps[t]? with
      | none => exact .any _
      | some p =>
        obtain ⟨v, h1, h2⟩ := e2 t p hp
        have hlt : t < args.size := by rw [hlen]; exact (List.getElem?_eq_some_iff.1 hp).1
        have : (args ++ Array.replicate (go.ntmps - args.size) undef).getD t undef = v := by
          apply arr_getD_toList
          rw [Array.toList_append, List.getElem?_append_left (by simpa using hlt)]
          exact h1
        show VR N L e w (V.ofArg p) _
        rw [this]
        exact h2
    · simp
      omega
  split at hcall <;> first | (cases hcall; done) | skip
  · rename_i s' hex
    refine wp_mono (hcode go.ntmps code an fn.body [] f5 (Wc w T) L w _ _ s' _ w hex hst) fun xx a1 w1 hq => ?_
    obtain ⟨rfl, hs1⟩ := hq
    obtain ⟨v, r1, r2⟩ := leave_sound hs1 f6 hcall
    exact ⟨hs1.choose_spec.choose_spec.1.defers, v, r1, r2⟩
  · rename_i s' hex
    refine wp_mono (hcode go.ntmps code an fn.body [] f5 (Wc w T) L w _ _ s' _ w hex hst) fun xx a1 w1 hq => ?_
    obtain ⟨rfl, hs1⟩ := hq
    obtain ⟨v, r1, r2⟩ := leave_sound hs1 f6 hcall
    exact ⟨hs1.choose_spec.choose_spec.1.defers, v, r1, r2⟩

/-- The interpreter is sound. -/
theorem sound (hm : P.follows .mixedOrders = true) (hPL : PrimLaw Pr) (hPr : PrimOk P N Pr) {A : Nat → Option AFunc} (hA : ∀ f fn, A f = some fn → ∃ an, FnOk P N M (N f) an fn) : ∀ n, (∀ j, j ≤ n → CodeOk P N M A Pr j) ∧ FnsOk P N A Pr n := by
  have zero : CodeOk P N M A Pr 0 := fun nt code an ac an' _ W L0 w0 s ex s' a w he _ => by simp [exec] at he
  intro n
  induction n with
  | zero =>
    have hall : ∀ j, j ≤ 0 → CodeOk P N M A Pr j := fun j hj => by
      obtain rfl : j = 0 := by omega
      exact zero
    exact ⟨hall, fn_sound zero hA⟩
  | succ n ih =>
    have hstep := code_step hm hPL hPr n ih.1 ih.2
    refine ⟨fun j hj => ?_, fn_sound hstep hA⟩
    rcases Nat.lt_or_ge j (n + 1) with h1 | h1
    · exact ih.1 j (by omega)
    · obtain rfl : j = n + 1 := by omega
      exact hstep

end Go.Pv

