/-
  What the functions of the law give.
-/
import Derived.Test.YtdeoikfaclbniaaC2
set_option linter.unusedSimpArgs false
set_option linter.unusedVariables false
/-
  Chapter 07: is a schema valid?
-/
namespace Go.Pv

def kindAt (l : List Typ) (i : Int) : Int := ((l[i.toNat]?).map (·.kind)).getD 0
def dupName (l : List Typ) (k : Nat) (t : Typ) : Bool := !decide (t.name = ⟨#[]⟩) && hasS ((l.take k).map (·.name)) t.name
def outR (n : Nat) (u : Int) : Bool := decide (u < 0) || decide ((n : Int) ≤ u)
def badKey (l : List Typ) (t : Typ) : Bool := decide (t.kind = 8) && !(decide (1 ≤ kindAt l t.key) && decide (kindAt l t.key ≤ 4))
noncomputable def errAt (l : List Typ) (k : Nat) (t : Typ) : Int := if (!ownOk t || dupName l k t) = true then 1 else if (usesT t).any (outR l.length) = true then 4 else if badKey l t = true then 1 else 0
noncomputable def errIdx (l : List Typ) (k : Nat) : Int := match l[k]? with
  | some t => errAt l k t
  | none => 0
noncomputable def errOf (l : List Typ) (o : Option Nat) : Int := match o with
  | some k => errIdx l k
  | none => 0
noncomputable def validR (l : List Typ) : Int := if 32 < l.length then 3 else errOf l ((List.range l.length).find? fun k => decide (errIdx l k ≠ 0))
/-- The names seen so far. -/
def seenN (l : List Typ) (k : Nat) : List ByteArray := ((l.take k).map (·.name)).foldl insS []
theorem mem_foldS : ∀ (m s : List ByteArray) (x : ByteArray), x ∈ m.foldl insS s ↔ x ∈ s ∨ x ∈ m
  | [], s, x => by simp
  | y :: m, s, x => by
    rw [List.foldl_cons, mem_foldS m (insS s y) x, mem_insS, List.mem_cons]
    constructor
    · rintro ((h | h) | h)
      · exact .inl h
      · exact .inr (.inl h)
      · exact .inr (.inr h)
    · rintro (h | h | h)
      · exact .inl (.inl h)
      · exact .inl (.inr h)
      · exact .inr h
theorem has_seenN (l : List Typ) (k : Nat) (x : ByteArray) : hasS (seenN l k) x = hasS ((l.take k).map (·.name)) x := by
  rw [Bool.eq_iff_iff, hasS_iff, hasS_iff, seenN, mem_foldS]
  simp
theorem seenN_next {l : List Typ} {k : Nat} {t : Typ} (h : l[k]? = some t) : insS (seenN l k) t.name = seenN l (k + 1) := by
  unfold seenN
  rw [List.take_add_one, h, List.map_append, List.foldl_append]
  rfl
theorem key_used {t : Typ} (h : t.kind = 8) : t.key ∈ usesT t := by simp [usesT, keysT, h]
set_option maxHeartbeats 4000000 in
/-- Valid. -/
theorem r267 (v : Nat) (l : List Typ) (hl : l.length ≤ 2147483648) (ho : ∀ t ∈ l, t.ok) (hs : ∀ t ∈ l, t.short) : res A PrA 267 [.agg [.lst v (l.map Typ.c)]] = some [.int .i64 (validR l)] := by
  refine res_of a267 rfl rfl ?_
  simp only [F267]
  simp (disch := omega) only [go_sem]
  refine Br.ofP (fun c0 => ?_) (fun c0 => ?_) <;> simp (disch := omega) only [go_sem, c0]
  · have : 32 < l.length := by omega
    simp [validR, this]
  have h32 : ¬ 32 < l.length := by omega
  unfold validR
  rw [if_neg h32]
  obtain ⟨G, hG⟩ : ∃ G, errOf l ((List.range l.length).find? fun k => decide (errIdx l k ≠ 0)) = G := ⟨_, rfl⟩
  rw [hG]
  refine W.find (List.range l.length) (fun k => decide (errIdx l k ≠ 0)) (fun k => ⟨[(1, .ptr 1 0), (3, .map 0), (14, .pv (.lst v (l.map Typ.c))), (15, .pv (.int .i64 l.length)), (16, .pv (.int .i64 k))], ⟨[(1, [.pv (.lst v (l.map Typ.c))])], [], [seenS (seenN l k)]⟩⟩) rfl (fun k x hx hk hfd => ?_) (fun hn => ?_)
  · obtain ⟨rfl, hk⟩ := range_get hx
    have hp := List.getElem?_eq_getElem hk
    generalize l[x] = p at hp
    have hm := List.mem_of_getElem? hp
    have h283 := r283 p (ho p hm) (hs p hm)
    have h284 := r284 p (hs p hm)
    have he : errIdx l x = errAt l x p := by simp only [errIdx, hp]
    have hnx := seenN_next hp
    have hsn := has_seenN l x p.name
    have done : ∀ e : Int, errAt l x p = e → e ≠ 0 → (some [PV.int .i64 e] : Option (List PV)) = some [.int .i64 G] := fun e h1 h2 => by
      rw [← hG, (hfd (by rw [he, h1]; simpa using h2)).find, errOf, he, h1]
    rw [he]
    have hul : (usesT p).length ≤ 1048578 := by
      have := (hs p hm).mems
      unfold usesT keysT elemsT
      rw [List.length_append, List.length_append, List.length_map]
      split <;> split <;> simp <;> omega
    unfold Typ.c at h283 h284
    simp (disch := omega) only [go_sem]
    refine Br.ofP (fun c => ?_) (fun c => (c (by omega)).elim)
    simp (disch := omega) only [go_sem, hp, Typ.c, h283]
    refine Br.of (fun c1 => ?_) (fun c1 => ?_) <;> simp (disch := omega) only [go_sem, c1]
    rotate_left
    · exact done 1 (by simp [errAt, c1]) (by decide)
    have nodup : dupName l x p = false → (!ownOk p || dupName l x p) = false := fun h => by rw [c1, h]; rfl
    have dup : dupName l x p = (!decide (p.name = ⟨#[]⟩) && hasS (seenN l x) p.name) := by rw [has_seenN]; rfl
    have hown : (ownOk p) = true := c1
    refine Br.ofP (fun c2 => ?_) (fun c2 => ?_)
    · have d2 : decide (p.name = ⟨#[]⟩) = true := by simp [c2]
      rw [d2] at dup
      have hd := nodup (by rw [dup]; rfl)
      clear c2
      simp (disch := omega) only [go_sem, d2, h284, hnx]
      refine W.find (usesT p) (outR l.length) (fun j => ⟨[(1, .ptr 1 0), (3, .map 0), (5, .ptr 5 0), (14, .pv (.lst v (l.map Typ.c))), (15, .pv (.int .i64 l.length)), (16, .pv (.int .i64 x)), (38, .pv (.lst 0 (ints (usesT p)))), (39, .pv (.int .i64 (usesT p).length)), (40, .pv (.int .i64 j))], ⟨[(1, [.pv (.lst v (l.map Typ.c))]), (5, [.pv (.int .i64 p.kind), .pv (.str p.name), .pv (.int .i64 p.low), .pv (.int .i64 p.high), .pv (.int .i64 p.max), .pv (.lst 0 (p.syms.map Sym.c)), .pv (.lst 0 (p.mems.map Mem.c)), .pv (.int .i64 p.key), .pv (.int .i64 p.elem), .pv (.bool p.opn)])], [], [seenS (seenN l (x + 1))]⟩⟩) rfl (fun j u hu hj hfd2 => ?_) (fun hn => ?_)
      · have d4 : outR l.length u = true → errAt l x p = 4 := fun g => by
          rw [errAt, hd, (hfd2 g).any]
          rfl
        simp (disch := omega) only [go_sem]
        refine Br.ofP (fun c => ?_) (fun c => (c (by omega)).elim)
        simp (disch := omega) only [go_sem, hu]
        refine Br.ofP (fun c4 => ?_) (fun c4 => ?_) <;> simp (disch := omega) only [go_sem, c4]
        · exact done 4 (d4 (by simp [outR, c4])) (by decide)
        refine Br.ofP (fun c5 => ?_) (fun c5 => ?_) <;> simp (disch := omega) only [go_sem, c5]
        · exact done 4 (d4 (by simp [outR, c5])) (by decide)
        · exact findK.of (by simp [outR, c4, c5]) rfl
      · have he2 : errAt l x p = if badKey l p = true then 1 else 0 := by
          rw [errAt, hd, hn.any]
          rfl
        simp (disch := omega) only [go_sem]
        refine Br.ofP (fun c4 => ?_) (fun c4 => ?_)
        · have hku := key_used c4
          have hout := List.any_eq_false.1 hn.any _ hku
          have hk0 : 0 ≤ p.key ∧ p.key < l.length := by
            simp [outR] at hout
            omega
          have hkk := List.getElem?_eq_getElem (l := l) (i := p.key.toNat) (by omega)
          have hka : kindAt l p.key = (l[p.key.toNat]'(by omega)).kind := by rw [kindAt, hkk]; rfl
          generalize l[p.key.toNat]'(by omega) = q at hkk hka
          have d8 : decide (p.kind = 8) = true := by simp [c4]
          have hb : badKey l p = !(decide (1 ≤ q.kind) && decide (q.kind ≤ 4)) := by rw [badKey, d8, hka]; rfl
          have hidx : idxR 10 v (l.map Typ.c) (some p.key) = some (V.pv (.ro v q.c)) := by
            rw [idxR_int _ _ _ hk0.1, List.getElem?_map, hkk]
            rfl
          unfold Typ.c at hidx
          unfold Typ.c
          simp (disch := omega) only [go_sem, d8, hidx]
          refine Br.ofP (fun c6 => ?_) (fun c6 => ?_) <;> simp (disch := omega) only [go_sem, c6]
          · refine done 1 ?_ (by decide)
            have : ¬ 1 ≤ q.kind := by omega
            rw [he2, hb]
            simp [this]
          simp (disch := omega) only [go_sem, hidx]
          refine Br.ofP (fun c7 => ?_) (fun c7 => ?_) <;> simp (disch := omega) only [go_sem, c7]
          · refine done 1 ?_ (by decide)
            have : ¬ q.kind ≤ 4 := by omega
            rw [he2, hb]
            simp [this]
          · refine findK.of ?_ rfl
            have h1 : 1 ≤ q.kind := by omega
            have h2 : q.kind ≤ 4 := by omega
            rw [he2, hb]
            simp [h1, h2]
        · have d8 : decide (p.kind = 8) = false := by simp [c4]
          have hb : badKey l p = false := by rw [badKey, d8]; rfl
          simp (disch := omega) only [go_sem, d8]
          refine findK.of ?_ rfl
          rw [he2, hb]
          rfl
    · have d2 : decide (p.name = ⟨#[]⟩) = false := by simp [c2]
      rw [d2] at dup
      simp (disch := omega) only [go_sem, d2]
      refine Br.of (fun c3 => ?_) (fun c3 => ?_) <;> simp (disch := omega) only [go_sem, c3, h284, hnx]
      · refine done 1 ?_ (by decide)
        rw [errAt, dup, c3]
        simp
      have hd := nodup (by rw [dup, c3]; rfl)
      refine W.find (usesT p) (outR l.length) (fun j => ⟨[(1, .ptr 1 0), (3, .map 0), (5, .ptr 5 0), (14, .pv (.lst v (l.map Typ.c))), (15, .pv (.int .i64 l.length)), (16, .pv (.int .i64 x)), (38, .pv (.lst 0 (ints (usesT p)))), (39, .pv (.int .i64 (usesT p).length)), (40, .pv (.int .i64 j))], ⟨[(1, [.pv (.lst v (l.map Typ.c))]), (5, [.pv (.int .i64 p.kind), .pv (.str p.name), .pv (.int .i64 p.low), .pv (.int .i64 p.high), .pv (.int .i64 p.max), .pv (.lst 0 (p.syms.map Sym.c)), .pv (.lst 0 (p.mems.map Mem.c)), .pv (.int .i64 p.key), .pv (.int .i64 p.elem), .pv (.bool p.opn)])], [], [seenS (seenN l (x + 1))]⟩⟩) rfl (fun j u hu hj hfd2 => ?_) (fun hn => ?_)
      · have d4 : outR l.length u = true → errAt l x p = 4 := fun g => by
          rw [errAt, hd, (hfd2 g).any]
          rfl
        simp (disch := omega) only [go_sem]
        refine Br.ofP (fun c => ?_) (fun c => (c (by omega)).elim)
        simp (disch := omega) only [go_sem, hu]
        refine Br.ofP (fun c4 => ?_) (fun c4 => ?_) <;> simp (disch := omega) only [go_sem, c4]
        · exact done 4 (d4 (by simp [outR, c4])) (by decide)
        refine Br.ofP (fun c5 => ?_) (fun c5 => ?_) <;> simp (disch := omega) only [go_sem, c5]
        · exact done 4 (d4 (by simp [outR, c5])) (by decide)
        · exact findK.of (by simp [outR, c4, c5]) rfl
      · have he2 : errAt l x p = if badKey l p = true then 1 else 0 := by
          rw [errAt, hd, hn.any]
          rfl
        simp (disch := omega) only [go_sem]
        refine Br.ofP (fun c4 => ?_) (fun c4 => ?_)
        · have hku := key_used c4
          have hout := List.any_eq_false.1 hn.any _ hku
          have hk0 : 0 ≤ p.key ∧ p.key < l.length := by
            simp [outR] at hout
            omega
          have hkk := List.getElem?_eq_getElem (l := l) (i := p.key.toNat) (by omega)
          have hka : kindAt l p.key = (l[p.key.toNat]'(by omega)).kind := by rw [kindAt, hkk]; rfl
          generalize l[p.key.toNat]'(by omega) = q at hkk hka
          have d8 : decide (p.kind = 8) = true := by simp [c4]
          have hb : badKey l p = !(decide (1 ≤ q.kind) && decide (q.kind ≤ 4)) := by rw [badKey, d8, hka]; rfl
          have hidx : idxR 10 v (l.map Typ.c) (some p.key) = some (V.pv (.ro v q.c)) := by
            rw [idxR_int _ _ _ hk0.1, List.getElem?_map, hkk]
            rfl
          unfold Typ.c at hidx
          unfold Typ.c
          simp (disch := omega) only [go_sem, d8, hidx]
          refine Br.ofP (fun c6 => ?_) (fun c6 => ?_) <;> simp (disch := omega) only [go_sem, c6]
          · refine done 1 ?_ (by decide)
            have : ¬ 1 ≤ q.kind := by omega
            rw [he2, hb]
            simp [this]
          simp (disch := omega) only [go_sem, hidx]
          refine Br.ofP (fun c7 => ?_) (fun c7 => ?_) <;> simp (disch := omega) only [go_sem, c7]
          · refine done 1 ?_ (by decide)
            have : ¬ q.kind ≤ 4 := by omega
            rw [he2, hb]
            simp [this]
          · refine findK.of ?_ rfl
            have h1 : 1 ≤ q.kind := by omega
            have h2 : q.kind ≤ 4 := by omega
            rw [he2, hb]
            simp [h1, h2]
        · have d8 : decide (p.kind = 8) = false := by simp [c4]
          have hb : badKey l p = false := by rw [badKey, d8]; rfl
          simp (disch := omega) only [go_sem, d8]
          refine findK.of ?_ rfl
          rw [he2, hb]
          rfl
  · rw [hn.find] at hG
    rw [List.length_range]
    simp (disch := omega) only [go_sem]
    rw [← hG]
    rfl
end Go.Pv

/-
  Chapter 07: is a schema valid, as the document says; and the law of it.
-/
namespace Go.Pv

theorem isName_ne {s : ByteArray} (h : isName s = true) : s ≠ ⟨#[]⟩ := by
  rintro rfl
  cases h
theorem plainTy_name {t : Typ} (hn : ¬ (4 ≤ t.kind ∧ t.kind ≤ 6)) : (plainTy t).name = ⟨#[]⟩ := by
  unfold plainTy
  repeat' split
  all_goals first
    | rfl
    | omega
theorem own_name {p : Typ} (h : ownOk p = true) : decide (p.name = ⟨#[]⟩) = !(decide (4 ≤ p.kind) && decide (p.kind ≤ 6)) := by
  unfold ownOk at h
  rw [Bool.and_eq_true, Bool.and_eq_true (eqv p (plainTy p)), Bool.and_eq_true (!(decide (4 ≤ p.kind) && decide (p.kind ≤ 6)) || isName p.name), eqv_iff] at h
  obtain ⟨h1, h2, h3, h4⟩ := h
  by_cases hn : 4 ≤ p.kind ∧ p.kind ≤ 6
  · have e : (decide (4 ≤ p.kind) && decide (p.kind ≤ 6)) = true := by simp [hn]
    rw [e] at h3 ⊢
    have h3 : isName p.name = true := by simpa using h3
    simp [isName_ne h3]
  · have e : (decide (4 ≤ p.kind) && decide (p.kind ≤ 6)) = false := by
      rw [Bool.eq_false_iff]
      simp
      omega
    rw [e]
    have : p.name = ⟨#[]⟩ := by
      rw [h2]
      exact plainTy_name hn
    simp [this]
theorem dup_own {l : List Typ} {k : Nat} {p : Typ} (h : ownOk p = true) : dupName l k p = (l.take k).any fun q => (decide (4 ≤ p.kind) && decide (p.kind ≤ 6)) && decide (q.name = p.name) := by
  unfold dupName
  rw [own_name h, Bool.not_not]
  cases (decide (4 ≤ p.kind) && decide (p.kind ≤ 6)) with
  | false => simp
  | true =>
    simp only [Bool.true_and]
    unfold hasS
    rw [List.any_map]
    rfl
theorem own_kind {p : Typ} (h : ownOk p = true) : p.kind ≤ 9 := by
  unfold ownOk at h
  simp only [Bool.and_eq_true, decide_eq_true_eq] at h
  exact h.1.2
set_option maxHeartbeats 4000000 in
/-- Valid. -/
theorem r268 (v : Nat) (l : List Typ) (hl : l.length ≤ 2147483648) (ho : ∀ t ∈ l, t.ok) (hs : ∀ t ∈ l, t.short) : res A PrA 268 [.agg [.lst v (l.map Typ.c)]] = some [.int .i64 (validR l)] := by
  refine res_of a268 rfl rfl ?_
  simp only [F268]
  simp (disch := omega) only [go_sem]
  refine Br.ofP (fun c0 => ?_) (fun c0 => ?_) <;> simp (disch := omega) only [go_sem, c0]
  · have : 32 < l.length := by omega
    simp [validR, this]
  have h32 : ¬ 32 < l.length := by omega
  unfold validR
  rw [if_neg h32]
  obtain ⟨G, hG⟩ : ∃ G, errOf l ((List.range l.length).find? fun k => decide (errIdx l k ≠ 0)) = G := ⟨_, rfl⟩
  rw [hG]
  refine W.find (List.range l.length) (fun k => decide (errIdx l k ≠ 0)) (fun k => ⟨[(1, .ptr 1 0), (3, .pv (.int .i64 k))], ⟨[(1, [.pv (.lst v (l.map Typ.c))])], [], []⟩⟩) rfl (fun k x hx hk hfd => ?_) (fun hn => ?_)
  · obtain ⟨rfl, hk⟩ := range_get hx
    have hp := List.getElem?_eq_getElem hk
    generalize l[x] = p at hp
    have hm := List.mem_of_getElem? hp
    have h285 := r285 p (ho p hm) (hs p hm)
    have h286 := r286 p.kind
    have he : errIdx l x = errAt l x p := by simp only [errIdx, hp]
    have done : ∀ e : Int, errAt l x p = e → e ≠ 0 → (some [PV.int .i64 e] : Option (List PV)) = some [.int .i64 G] := fun e h1 h2 => by
      rw [← hG, (hfd (by rw [he, h1]; simpa using h2)).find, errOf, he, h1]
    rw [he]
    have hul : (usesT p).length ≤ 1048578 := by
      have := (hs p hm).mems
      unfold usesT keysT elemsT
      rw [List.length_append, List.length_append, List.length_map]
      split <;> split <;> simp <;> omega
    have h287 := fun h9 => r287 p (hs p hm) h9
    unfold Typ.c at h285 h287
    simp (disch := omega) only [go_sem]
    refine Br.ofP (fun c => ?_) (fun c => (c (by omega)).elim)
    simp (disch := omega) only [go_sem, hp, Typ.c, h285]
    refine Br.of (fun c1 => ?_) (fun c1 => ?_) <;> simp (disch := omega) only [go_sem, c1]
    rotate_left
    · exact done 1 (by simp [errAt, c1]) (by decide)
    have h287 := h287 (own_kind c1)
    have hdup := dup_own (l := l) (k := x) c1
    have herr : (!ownOk p || dupName l x p) = dupName l x p := by rw [c1]; rfl
    generalize hnm : (decide (4 ≤ p.kind) && decide (p.kind ≤ 6)) = nm at h286 hdup
    refine W.find (l.take x) (fun q => nm && decide (q.name = p.name)) (fun j => ⟨[(1, .ptr 1 0), (3, .pv (.int .i64 x)), (4, .ptr 4 0), (5, .pv (.int .i64 j))], ⟨[(1, [.pv (.lst v (l.map Typ.c))]), (4, [.pv (.int .i64 p.kind), .pv (.str p.name), .pv (.int .i64 p.low), .pv (.int .i64 p.high), .pv (.int .i64 p.max), .pv (.lst 0 (p.syms.map Sym.c)), .pv (.lst 0 (p.mems.map Mem.c)), .pv (.int .i64 p.key), .pv (.int .i64 p.elem), .pv (.bool p.opn)])], [], []⟩⟩) rfl (fun j q hj hjl hfd2 => ?_) (fun hn => ?_)
    · have hjl' : j < x ∧ j < l.length := by rw [List.length_take] at hjl; omega
      have hj' : l[j]? = some q := by
        rw [List.getElem?_take, if_pos hjl'.1] at hj
        exact hj
      simp (disch := omega) only [go_sem]
      refine Br.ofP (fun c => ?_) (fun c => (c (by omega)).elim)
      simp (disch := omega) only [go_sem, h286]
      refine Br.of (fun c2 => ?_) (fun c2 => ?_)
      · simp (disch := omega) only [go_sem, c2, hj', Typ.c]
        refine Br.ofP (fun c3 => ?_) (fun c3 => ?_) <;> simp (disch := omega) only [go_sem, c3]
        · refine done 1 ?_ (by decide)
          rw [errAt, herr, hdup, (hfd2 (by simp [c2, c3])).any]
          rfl
        · exact findK.of (by simp [c3]) rfl
      · simp (disch := omega) only [go_sem, c2]
        exact findK.of (by simp [c2]) rfl
    · have hlx : (l.take x).length = x := by rw [List.length_take]; omega
      rw [hlx]
      have hd : (!ownOk p || dupName l x p) = false := by rw [herr, hdup, hn.any]
      simp (disch := omega) only [go_sem, h287]
      refine W.find (usesT p) (outR l.length) (fun j => ⟨[(1, .ptr 1 0), (3, .pv (.int .i64 x)), (4, .ptr 4 0), (6, .pv (.lst 0 (ints (usesT p)))), (7, .pv (.int .i64 j))], ⟨[(1, [.pv (.lst v (l.map Typ.c))]), (4, [.pv (.int .i64 p.kind), .pv (.str p.name), .pv (.int .i64 p.low), .pv (.int .i64 p.high), .pv (.int .i64 p.max), .pv (.lst 0 (p.syms.map Sym.c)), .pv (.lst 0 (p.mems.map Mem.c)), .pv (.int .i64 p.key), .pv (.int .i64 p.elem), .pv (.bool p.opn)])], [], []⟩⟩) rfl (fun j u hu hj hfd2 => ?_) (fun hn => ?_)
      · have d4 : outR l.length u = true → errAt l x p = 4 := fun g => by
          rw [errAt, hd, (hfd2 g).any]
          rfl
        simp (disch := omega) only [go_sem]
        refine Br.ofP (fun c => ?_) (fun c => (c (by omega)).elim)
        simp (disch := omega) only [go_sem, hu]
        refine Br.ofP (fun c4 => ?_) (fun c4 => ?_) <;> simp (disch := omega) only [go_sem, c4]
        · exact done 4 (d4 (by simp [outR, c4])) (by decide)
        simp (disch := omega) only [go_sem, hu]
        refine Br.ofP (fun c5 => ?_) (fun c5 => ?_) <;> simp (disch := omega) only [go_sem, c5]
        · exact done 4 (d4 (by simp [outR, c5])) (by decide)
        · exact findK.of (by simp [outR, c4, c5]) rfl
      · have he2 : errAt l x p = if badKey l p = true then 1 else 0 := by
          rw [errAt, hd, hn.any]
          rfl
        simp (disch := omega) only [go_sem]
        refine Br.ofP (fun c4 => ?_) (fun c4 => ?_)
        · have hku := key_used c4
          have hout := List.any_eq_false.1 hn.any _ hku
          have hk0 : 0 ≤ p.key ∧ p.key < l.length := by
            simp [outR] at hout
            omega
          have hkk := List.getElem?_eq_getElem (l := l) (i := p.key.toNat) (by omega)
          have hka : kindAt l p.key = (l[p.key.toNat]'(by omega)).kind := by rw [kindAt, hkk]; rfl
          generalize l[p.key.toNat]'(by omega) = q at hkk hka
          have d8 : decide (p.kind = 8) = true := by simp [c4]
          have hb : badKey l p = !(decide (1 ≤ q.kind) && decide (q.kind ≤ 4)) := by rw [badKey, d8, hka]; rfl
          have hidx : idxR 10 v (l.map Typ.c) (some p.key) = some (V.pv (.ro v q.c)) := by
            rw [idxR_int _ _ _ hk0.1, List.getElem?_map, hkk]
            rfl
          have h288 := r288 q.kind
          generalize (decide (1 ≤ q.kind) && decide (q.kind ≤ 4)) = kk at hb h288
          unfold Typ.c at hidx
          unfold Typ.c
          simp (disch := omega) only [go_sem, d8, hidx, h288]
          refine Br.of (fun c6 => ?_) (fun c6 => ?_) <;> simp (disch := omega) only [go_sem, c6]
          · refine findK.of ?_ rfl
            rw [he2, hb, c6]
            rfl
          · refine done 1 ?_ (by decide)
            rw [he2, hb, c6]
            rfl
        · have d8 : decide (p.kind = 8) = false := by simp [c4]
          have hb : badKey l p = false := by rw [badKey, d8]; rfl
          simp (disch := omega) only [go_sem, d8]
          refine findK.of ?_ rfl
          rw [he2, hb]
          rfl
  · rw [hn.find] at hG
    rw [List.length_range]
    simp (disch := omega) only [go_sem]
    rw [← hG]
    rfl
set_option maxHeartbeats 1000000 in
/-- SchemaValid, given that the chapter is awake. -/
theorem r259 (r265 : res A PrA 265 [] = some [.bool true]) (l : List Typ) (hl : l.length ≤ 1048576) (ho : ∀ t ∈ l, t.ok) (hs : ∀ t ∈ l, t.short) : res A PrA 259 [.agg [.lst 0 (l.map Typ.c)]] = some [.bool true] := by
  refine res_of a259 rfl rfl ?_
  simp only [F259]
  have h266 := fun u => r266 u l ho
  have e1 := fun t => r267 t l (by omega) ho hs
  have e2 := fun t => r268 t l (by omega) ho hs
  generalize few l = f at h266
  generalize validR l = b at e1 e2
  simp (disch := omega) only [go_sem, r265, h266]
  cases f with
  | false => simp (disch := omega) only [go_sem, r265]
  | true => simp (disch := omega) only [go_sem, e1, e2]
end Go.Pv

/-
  Chapter 07: searches; the error of a schema with a type; the types that a type uses, each once.
-/
namespace Go.Pv

theorem s118 (t : Nat) (l : List Int) (x : Int) (hl : l.length ≤ 2 ^ 63 - 1) : res A PrA 118 [.lst t (ints l), .int .i64 x] = some [.int .i64 (firstI (fun y => decide (y = x)) l)] := by
  refine res_of a118 rfl rfl ?_
  simp only [F118]
  simp (disch := omega) only [go_sem]
  refine W.find l (fun y => decide (y = x)) (fun k => ⟨[(0, .pv (.lst t (ints l))), (1, .pv (.int .i64 x)), (7, .pv (.int .i64 l.length)), (8, .pv (.int .i64 k))], ⟨[], [], []⟩⟩) rfl (fun k y hy hk hfd => ?_) (fun hn => ?_)
  · simp (disch := omega) only [go_sem]
    refine Br.ofP (fun c => ?_) (fun c => (c (by omega)).elim)
    simp (disch := omega) only [go_sem, hy]
    refine Br.ofP (fun g => ?_) (fun g => ?_) <;> simp (disch := omega) only [go_sem]
    · rw [(hfd (by simp [g])).firstI]
    · exact findK.of (by simpa using fun e => g e.symm) rfl
  · simp (disch := omega) only [go_sem]
    rw [hn.firstI]
theorem firstI_pos {l : List Int} {x : Int} : 0 ≤ firstI (fun y => decide (y = x)) l ↔ x ∈ l := by
  unfold firstI
  cases h : l.findIdx? (fun y => decide (y = x)) with
  | none =>
    rw [List.findIdx?_eq_none_iff] at h
    constructor
    · intro hh
      exact absurd hh (by decide)
    · intro hx
      have := h x hx
      simp at this
  | some k =>
    rw [List.findIdx?_eq_some_iff_getElem] at h
    obtain ⟨hk, hp, _⟩ := h
    constructor
    · intro _
      have e : l[k] = x := by simpa using hp
      rw [← e]
      exact List.getElem_mem hk
    · intro _
      exact Int.natCast_nonneg k
theorem s110 (t : Nat) (l : List Int) (x : Int) (hl : l.length ≤ 2 ^ 63 - 1) : res A PrA 110 [.lst t (ints l), .int .i64 x] = some [.bool (decide (x ∈ l))] := by
  refine res_of a110 rfl rfl ?_
  simp only [F110]
  have h118 := fun t => s118 t l x hl
  simp (disch := omega) only [go_sem, h118]
  simp only [firstI_pos]
theorem s293 (t : Nat) (l : List Int) (x : Int) (hl : l.length ≤ 2 ^ 63 - 1) : res A PrA 293 [.lst t (ints l), .int .i64 x] = some [.bool (decide (x ∈ l))] := by
  refine res_of a293 rfl rfl ?_
  simp only [F293]
  simp (disch := omega) only [go_sem]
  refine W.find l (fun y => decide (y = x)) (fun k => ⟨[(0, .pv (.lst t (ints l))), (1, .pv (.int .i64 x)), (5, .pv (.int .i64 k))], ⟨[], [], []⟩⟩) rfl (fun k y hy hk hfd => ?_) (fun hn => ?_)
  · simp (disch := omega) only [go_sem]
    refine Br.ofP (fun c => ?_) (fun c => (c (by omega)).elim)
    simp (disch := omega) only [go_sem, hy]
    refine Br.ofP (fun g => ?_) (fun g => ?_) <;> simp (disch := omega) only [go_sem]
    · have : x ∈ l := g ▸ List.mem_of_getElem? hy
      simp [this]
    · exact findK.of (by simpa using g) rfl
  · simp (disch := omega) only [go_sem]
    have : ¬ x ∈ l := fun hx => by simpa using List.any_eq_false.1 hn.any x hx
    simp [this]
theorem eqv_int (a b : Int) : eqv a b = decide (a = b) := by
  rw [Bool.eq_iff_iff, eqv_iff]
  simp
theorem s94 (t u : Nat) (l m : List Int) (hl : l.length ≤ 2 ^ 63 - 1) (_hm : m.length ≤ 2 ^ 63 - 1) : res A PrA 94 [.lst t (ints l), .lst u (ints m)] = some [.bool (eqv l m)] := by
  refine res_of a94 rfl rfl ?_
  simp only [F94]
  simp (disch := omega) only [go_sem]
  refine Br.ofP (fun h => ?_) (fun h => ?_) <;> simp (disch := omega) only [go_sem]
  · refine W.find (l.zip m) (fun q => !eqv q.1 q.2) (fun k => ⟨[(0, .pv (.lst t (ints l))), (1, .pv (.lst u (ints m))), (5, .pv (.int .i64 k))], ⟨[], [], []⟩⟩) rfl (fun k q hq hk hfd => ?_) (fun hn => ?_)
    · obtain ⟨h1, h2⟩ := zip_get hq
      rw [zip_len (by omega)] at hk
      simp (disch := omega) only [go_sem]
      refine Br.ofP (fun c => ?_) (fun c => (c (by omega)).elim)
      simp (disch := omega) only [go_sem, h1, h2]
      rw [← eqv_int]
      refine Br.of (fun g => ?_) (fun g => ?_) <;> simp (disch := omega) only [go_sem]
      · exact findK.of (by rw [g]; rfl) rfl
      · rw [(hfd (by rw [g]; rfl)).ne]
    · have hz : (l.zip m).length = l.length := zip_len (by omega)
      rw [hz]
      simp (disch := omega) only [go_sem]
      rw [hn.eq (by omega), eqv_same]
  · rw [eqv_ne (fun e => h (by rw [e]))]
noncomputable def knownR (l : List Typ) (i : Int) : Int := if validR l ≠ 0 then validR l else if outR l.length i = true then 4 else 0
theorem r291 (v : Nat) (l : List Typ) (i : Int) (hl : l.length ≤ 2147483648) (ho : ∀ t ∈ l, t.ok) (hs : ∀ t ∈ l, t.short) : res A PrA 291 [.agg [.lst v (l.map Typ.c)], .int .i64 i] = some [.int .i64 (knownR l i)] := by
  refine res_of a291 rfl rfl ?_
  simp only [F291]
  have h267 := fun v => r267 v l hl ho hs
  unfold knownR outR
  generalize validR l = e at h267
  simp (disch := omega) only [go_sem, h267]
  refine Br.ofP (fun c => ?_) (fun c => ?_) <;> simp (disch := omega) only [go_sem, c]
  · refine Br.ofP (fun c2 => ?_) (fun c2 => ?_) <;> simp (disch := omega) only [go_sem, c2]
    · simp [c]
    · refine Br.ofP (fun c3 => ?_) (fun c3 => ?_) <;> simp (disch := omega) only [go_sem, c3]
      · simp [c]
      · simp [c, c2]
  · simp [c]
theorem r292 (v : Nat) (l : List Typ) (i : Int) (hl : l.length ≤ 2147483648) (ho : ∀ t ∈ l, t.ok) (hs : ∀ t ∈ l, t.short) : res A PrA 292 [.agg [.lst v (l.map Typ.c)], .int .i64 i] = some [.int .i64 (knownR l i)] := by
  refine res_of a292 rfl rfl ?_
  simp only [F292]
  have h268 := fun v => r268 v l hl ho hs
  unfold knownR outR
  generalize validR l = e at h268
  simp (disch := omega) only [go_sem, h268]
  refine Br.ofP (fun c => ?_) (fun c => ?_) <;> simp (disch := omega) only [go_sem, c]
  · refine Br.ofP (fun c2 => ?_) (fun c2 => ?_) <;> simp (disch := omega) only [go_sem, c2]
    · simp [c]
    · refine Br.ofP (fun c3 => ?_) (fun c3 => ?_) <;> simp (disch := omega) only [go_sem, c3]
      · simp [c]
      · simp [c, c2]
  · simp [c]
end Go.Pv

/-
  Chapter 07: what a type uses, each once, and what is reached.
-/
namespace Go.Pv

def noTyp : Typ := ⟨0, ⟨#[]⟩, 0, 0, 0, [], [], 0, 0, false⟩
def typAt (l : List Typ) (i : Int) : Typ := (l[i.toNat]?).getD noTyp
/-- What is known of a schema that is known to be valid. -/
structure Sane (l : List Typ) : Prop where
  len : l.length ≤ 32
  own : ∀ t ∈ l, ownOk t = true
  uses : ∀ t ∈ l, ∀ u ∈ usesT t, 0 ≤ u ∧ u < l.length
theorem valid_sane {l : List Typ} (h : validR l = 0) : Sane l := by
  unfold validR at h
  split at h
  · cases h
  · rename_i hl
    have hz : ∀ k, k < l.length → errIdx l k = 0 := by
      cases hf : (List.range l.length).find? (fun k => decide (errIdx l k ≠ 0)) with
      | none =>
        intro k hk
        have := List.find?_eq_none.1 hf k (List.mem_range.2 hk)
        simpa using this
      | some k =>
        rw [hf] at h
        have := List.find?_some hf
        simp only [errOf] at h
        simp [h] at this
    have hone : ∀ t ∈ l, ownOk t = true ∧ (usesT t).any (outR l.length) = false := by
      intro t ht
      obtain ⟨k, hk⟩ := List.mem_iff_getElem?.1 ht
      have := hz k (List.getElem?_eq_some_iff.1 hk).1
      simp only [errIdx, hk, errAt] at this
      split at this
      · cases this
      · rename_i h1
        split at this
        · cases this
        · rename_i h2
          simp only [Bool.or_eq_true, Bool.not_eq_true', not_or, Bool.not_eq_false] at h1
          exact ⟨h1.1, by simpa using h2⟩
    refine ⟨by omega, fun t ht => (hone t ht).1, fun t ht u hu => ?_⟩
    have := List.any_eq_false.1 (hone t ht).2 u hu
    simp [outR] at this
    omega
theorem known_zero {l : List Typ} {i : Int} (h : knownR l i = 0) : validR l = 0 ∧ 0 ≤ i ∧ i < l.length := by
  unfold knownR at h
  split at h
  · rename_i h1
    exact absurd h h1
  · rename_i h1
    split at h
    · cases h
    · rename_i h2
      simp only [outR, Bool.or_eq_true, decide_eq_true_eq, not_or] at h2
      exact ⟨by omega, by omega, by omega⟩
theorem typAt_get {l : List Typ} {i : Int} (h0 : 0 ≤ i) (h : i < l.length) : l[i.toNat]? = some (typAt l i) := by
  have := List.getElem?_eq_getElem (l := l) (i := i.toNat) (by omega)
  rw [typAt, this]
  rfl
theorem uses_len {t : Typ} (h : t.short) : (usesT t).length ≤ 1048578 := by
  have := h.mems
  unfold usesT keysT elemsT
  rw [List.length_append, List.length_append, List.length_map]
  split <;> split <;> simp <;> omega
noncomputable def usesR (l : List Typ) (i : Int) : List Int × Int := if knownR l i ≠ 0 then ([], knownR l i) else (addL [] (usesT (typAt l i)), 0)
theorem addN_len (o : List Int) (x : Int) : (addN o x).length ≤ o.length + 1 := by
  unfold addN
  split
  · omega
  · simp
theorem idx_typ {v : Nat} {l : List Typ} {i : Int} (h0 : 0 ≤ i) (h : i < l.length) : idxR 10 v (l.map Typ.c) (some i) = some (V.pv (.ro v (typAt l i).c)) := by
  rw [idxR_int _ _ _ h0, List.getElem?_map, typAt_get h0 h]
  rfl
set_option maxHeartbeats 2000000 in
/-- Uses. -/
theorem r271 (v : Nat) (l : List Typ) (i : Int) (hl : l.length ≤ 2147483648) (ho : ∀ t ∈ l, t.ok) (hs : ∀ t ∈ l, t.short) : res A PrA 271 [.agg [.lst v (l.map Typ.c)], .int .i64 i] = some [.lst 0 (ints (usesR l i).1), .int .i64 (usesR l i).2] := by
  refine res_of a271 rfl rfl ?_
  simp only [F271]
  have h291 := fun v => r291 v l i hl ho hs
  unfold usesR
  simp (disch := omega) only [go_sem, h291]
  refine Br.ofP (fun c => ?_) (fun c => ?_) <;> simp (disch := omega) only [go_sem, c]
  rotate_left
  · simp [c, ints]
  obtain ⟨hv, hi0, hin⟩ := known_zero c
  rw [if_neg (by simp [c])]
  have hget := typAt_get hi0 hin
  have hidx := idx_typ (v := v) hi0 hin
  have h284 := r284 (typAt l i) (hs _ (List.mem_of_getElem? hget))
  have hul := uses_len (hs _ (List.mem_of_getElem? hget))
  generalize typAt l i = p at *
  unfold Typ.c at h284 hidx
  unfold Typ.c
  simp (disch := omega) only [go_sem, hidx, h284]
  refine W.fold (usesT p) addN [] (fun k o => ⟨[(7, grV 0 (ints o)), (21, .pv (.lst 0 (ints (usesT p)))), (22, .pv (.int .i64 (usesT p).length)), (23, .pv (.int .i64 k))], ⟨[], grA 1 (ints o), []⟩⟩) (fun k o => o.length ≤ k) rfl (Nat.le_refl 0) (fun k u o hu hk _ hI => ?_) (fun o hacc hI => ?_)
  · have h110 := fun t => s110 t o u (by omega)
    have hI2 : (addN o u).length ≤ k + 1 := Nat.le_trans (addN_len o u) (by omega)
    simp (disch := omega) only [go_sem]
    refine Br.ofP (fun c => ?_) (fun c => (c (by omega)).elim)
    simp (disch := omega) only [go_sem, hu, h110]
    refine Br.ofP (fun c2 => ?_) (fun c2 => ?_) <;> simp (disch := omega) only [go_sem, c2]
    · refine foldK.of ?_ hI2
      show _ = St.mk _ _
      rw [addN, if_pos c2]
      rfl
    · refine foldK.of ?_ hI2
      show _ = St.mk _ _
      rw [addN, if_neg c2]
      rfl
  · simp (disch := omega) only [go_sem]
    rw [hacc]
    rfl
set_option maxHeartbeats 2000000 in
/-- Uses, of the document. -/
theorem r272 (v : Nat) (l : List Typ) (i : Int) (hl : l.length ≤ 2147483648) (ho : ∀ t ∈ l, t.ok) (hs : ∀ t ∈ l, t.short) : res A PrA 272 [.agg [.lst v (l.map Typ.c)], .int .i64 i] = some [.lst 0 (ints (usesR l i).1), .int .i64 (usesR l i).2] := by
  refine res_of a272 rfl rfl ?_
  simp only [F272]
  have h292 := fun v => r292 v l i hl ho hs
  unfold usesR
  simp (disch := omega) only [go_sem, h292]
  refine Br.ofP (fun c => ?_) (fun c => ?_) <;> simp (disch := omega) only [go_sem, c]
  rotate_left
  · simp [c, ints]
  obtain ⟨hv, hi0, hin⟩ := known_zero c
  rw [if_neg (by simp [c])]
  have hget := typAt_get hi0 hin
  have hidx := idx_typ (v := v) hi0 hin
  have h287 := r287 (typAt l i) (hs _ (List.mem_of_getElem? hget)) (own_kind ((valid_sane hv).own _ (List.mem_of_getElem? hget)))
  have hul := uses_len (hs _ (List.mem_of_getElem? hget))
  generalize typAt l i = p at *
  unfold Typ.c at h287 hidx
  unfold Typ.c
  simp (disch := omega) only [go_sem, hidx, h287]
  refine W.fold (usesT p) addN [] (fun k o => ⟨[(7, .pv (.lst 0 (ints (usesT p)))), (8, grV 0 (ints o)), (9, .pv (.int .i64 k))], ⟨[], grA 1 (ints o), []⟩⟩) (fun k o => o.length ≤ k) rfl (Nat.le_refl 0) (fun k u o hu hk _ hI => ?_) (fun o hacc hI => ?_)
  · have h293 := fun t => s293 t o u (by omega)
    have hI2 : (addN o u).length ≤ k + 1 := Nat.le_trans (addN_len o u) (by omega)
    simp (disch := omega) only [go_sem]
    refine Br.ofP (fun c => ?_) (fun c => (c (by omega)).elim)
    simp (disch := omega) only [go_sem, hu, h293]
    refine Br.ofP (fun c2 => ?_) (fun c2 => ?_) <;> simp (disch := omega) only [go_sem, c2]
    · refine foldK.of ?_ hI2
      show _ = St.mk _ _
      rw [addN, if_pos c2]
      rfl
    · simp (disch := omega) only [go_sem, hu]
      refine foldK.of ?_ hI2
      show _ = St.mk _ _
      rw [addN, if_neg c2]
      rfl
  · simp (disch := omega) only [go_sem]
    rw [hacc]
    rfl
end Go.Pv

/-
  Chapter 07: what is reached from a type.
-/
namespace Go.Pv

def nxT (l : List Typ) (u : Int) : List Int := usesT (typAt l u)
def inT (l : List Typ) (u : Int) : Prop := 0 ≤ u ∧ u < l.length
def reachL (l : List Typ) (i : Int) : List Int := bfs (nxT l) l.length 0 [i]
noncomputable def reachR (l : List Typ) (i : Int) : List Int × Int := if knownR l i ≠ 0 then ([], knownR l i) else (isort ltI (reachL l i), 0)
theorem Sane.next {l : List Typ} (h : Sane l) : ∀ v, inT l v → ∀ x ∈ nxT l v, inT l x := fun _v hv x hx =>
  h.uses _ (List.mem_of_getElem? (typAt_get hv.1 hv.2)) x hx
theorem inT_bound {l : List Typ} (o : List Int) (hd : o.Nodup) (h : ∀ v ∈ o, inT l v) : o.length ≤ l.length := nodup_bound hd h
set_option maxHeartbeats 4000000 in
/-- Reachable. -/
theorem r273 (v : Nat) (l : List Typ) (i : Int) (hl : l.length ≤ 2147483648) (ho : ∀ t ∈ l, t.ok) (hs : ∀ t ∈ l, t.short) : res A PrA 273 [.agg [.lst v (l.map Typ.c)], .int .i64 i] = some [.lst 0 (ints (reachR l i).1), .int .i64 (reachR l i).2] := by
  refine res_of a273 rfl rfl ?_
  simp only [F273]
  have h291 := fun v => r291 v l i hl ho hs
  unfold reachR
  simp (disch := omega) only [go_sem, h291]
  refine Br.ofP (fun c => ?_) (fun c => ?_) <;> simp (disch := omega) only [go_sem, c]
  rotate_left
  · simp [c, ints]
  obtain ⟨hv, hi0, hin⟩ := known_zero c
  rw [if_neg (by simp [c])]
  have hsane := valid_sane hv
  have h32 := hsane.len
  refine W.loop (α := Nat × List Int) (fun x => ⟨[(2, .ptr 2 0), (7, glV 0 1 (ints x.2)), (8, .pv (.int .i64 x.1))], ⟨[(2, [.pv (.lst v (l.map Typ.c))])], glA 1 1 (ints x.2), []⟩⟩)
    (fun x => x.2.Nodup ∧ (∀ v ∈ x.2, inT l v) ∧ 1 ≤ x.2.length ∧ x.1 ≤ x.2.length ∧ bfs (nxT l) (l.length - x.1) x.1 x.2 = reachL l i) (fun x => l.length - x.1) (0, [i]) rfl ⟨by simp, fun w hw => (List.mem_singleton.1 hw) ▸ ⟨hi0, hin⟩, by simp, by simp, rfl⟩ fun x hx => ?_
  obtain ⟨j, o⟩ := x
  obtain ⟨hd, hin', h1, h2, hb⟩ := hx
  dsimp only at hd hin' h1 h2 hb
  have hlen := inT_bound o hd hin'
  simp (disch := omega) only [go_sem]
  refine Br.ofP (fun h => ?_) (fun h => ?_)
  · have hw := List.getElem?_eq_getElem (l := o) (i := j) (by omega)
    generalize o[j]'(by omega) = w at hw
    obtain ⟨hw0, hw1⟩ := hin' w (List.mem_of_getElem? hw)
    have hget := typAt_get hw0 hw1
    have hidx := idx_typ (v := v) hw0 hw1
    have h284 := r284 (typAt l w) (hs _ (List.mem_of_getElem? hget))
    have hul := uses_len (hs _ (List.mem_of_getElem? hget))
    have hnx : nxT l w = usesT (typAt l w) := rfl
    have huses := hsane.uses _ (List.mem_of_getElem? hget)
    generalize typAt l w = p at *
    unfold Typ.c at h284 hidx
    unfold Typ.c at *
    have inner : ∀ (k : Nat) (o : List Int), (o.Nodup ∧ (∀ v ∈ o, inT l v) ∧ 1 ≤ o.length ∧ j < o.length) → ∀ u ∈ usesT p, (addN o u).Nodup ∧ (∀ v ∈ addN o u, inT l v) ∧ 1 ≤ (addN o u).length ∧ j < (addN o u).length := by
      rintro k o ⟨g1, g2, g3, g4⟩ u hu
      obtain ⟨r, hr⟩ := addN_pre o u
      refine ⟨addN_nodup g1, fun x hx => (addN_mem.1 hx).elim (g2 x) (fun q => q ▸ huses u hu), by rw [← hr, List.length_append]; omega, by rw [← hr, List.length_append]; omega⟩
    have hgl := gl_cases (b := 1) (rows := ints o)
    have hVA : ∃ V0 A0, glV 0 1 (ints o) = V0 ∧ glA 1 1 (ints o) = A0 ∧ ((V0 = .tl (ints o) ∧ A0 = []) ∨ ∃ m, (ints o).length = 1 + m + 1 ∧ V0 = .own 0 m 0 (1 + m + 1) ∧ A0 = [⟨m, 1, .inl (ints o)⟩]) := by
      rcases hgl with hc | ⟨m, hc⟩
      · exact ⟨_, _, glV_lit hc, glA_lit hc, .inl ⟨rfl, rfl⟩⟩
      · exact ⟨_, _, glV_own hc, glA_own hc, .inr ⟨m, hc, rfl, rfl⟩⟩
    obtain ⟨V0, A0, hV0, hA0, hcase⟩ := hVA
    rw [hV0, hA0]
    rcases hcase with ⟨e1, e2⟩ | ⟨m, hc, e1, e2⟩
    all_goals rw [e1] at hV0 ⊢
    all_goals rw [e2] at hA0 ⊢
    all_goals try rw [ints_length] at hc
    all_goals simp (disch := omega) only [go_sem, hw, hidx, h284]
    all_goals
      refine W.fold (usesT p) addN o (fun k o => ⟨[(2, .ptr 2 0), (7, glV 0 1 (ints o)), (8, .pv (.int .i64 j)), (33, .pv (.lst 0 (ints (usesT p)))), (34, .pv (.int .i64 (usesT p).length)), (35, .pv (.int .i64 k))], ⟨[(2, [.pv (.lst v (l.map Typ.c))])], glA 1 1 (ints o), []⟩⟩)
        (fun _ o => o.Nodup ∧ (∀ v ∈ o, inT l v) ∧ 1 ≤ o.length ∧ j < o.length) ?_ ⟨hd, hin', h1, by omega⟩ (fun k u o hu hk _ hI => ?_) (fun o hacc hI => ?_)
      · show _ = St.mk _ _
        rw [hV0, hA0]
        rfl
      · have hI2 := inner k o hI u (List.mem_of_getElem? hu)
        obtain ⟨g1, g2, g3, g4⟩ := hI
        have hlen := inT_bound o g1 g2
        have h110 := fun t => s110 t o u (by omega)
        simp (disch := omega) only [go_sem]
        refine Br.ofP (fun c => ?_) (fun c => (c (by omega)).elim)
        simp (disch := omega) only [go_sem, hu, h110]
        refine Br.ofP (fun c2 => ?_) (fun c2 => ?_) <;> simp (disch := omega) only [go_sem, c2]
        · refine foldK.of ?_ hI2
          show _ = St.mk _ _
          rw [addN, if_pos c2]
          rfl
        · rcases gl_cases (b := 1) (rows := ints o) with hc | ⟨m, hc⟩
          · rw [glV_lit hc, glA_lit hc]
            rw [ints_length] at hc
            simp (disch := omega) only [go_sem]
            refine foldK.of ?_ hI2
            show _ = St.mk _ _
            rw [addN, if_neg c2, glV_intsS g3, glA_intsS g3, show o.length - 1 = 0 by omega]
            rfl
          · rw [glV_own hc, glA_own hc]
            rw [ints_length] at hc
            simp (disch := omega) only [go_sem]
            refine foldK.of ?_ hI2
            show _ = St.mk _ _
            rw [addN, if_neg c2, glV_intsS g3, glA_intsS g3, show o.length - 1 = m + 1 by omega, hc]
            rfl
      · obtain ⟨g1, g2, g3, g4⟩ := hI
        simp (disch := omega) only [go_sem]
        refine ⟨(j + 1, o), ⟨g1, g2, g3, g4, ?_⟩, by dsimp only; omega, rfl⟩
        dsimp only
        rw [← hb, hacc]
        obtain ⟨q, hq⟩ : ∃ q, l.length - j = q + 1 := ⟨l.length - j - 1, by omega⟩
        rw [hq, bfs_step hw, hnx]
        congr 1
        omega
  · rw [bfs_end (by omega)] at hb
    rw [← hb]
    rcases gl_cases (b := 1) (rows := ints o) with hc | ⟨m, hc⟩
    · have hc1 : o.length = 1 := by rw [ints_length] at hc; omega
      rw [glV_lit hc, glA_lit hc]
      obtain ⟨y, rfl⟩ := List.length_eq_one_iff.1 hc1
      simp (disch := omega) only [go_sem, ints, List.map_cons, List.map_nil]
      rfl
    · rw [glV_own hc, glA_own hc]
      rw [ints_length] at hc
      simp (disch := omega) only [go_sem]
      rw [List.take_of_length_le (by rw [isort_lenS]; omega)]
end Go.Pv

/-
  Chapter 07: what is reached from a type, as the document says; the law of Uses and Reachable.
-/
namespace Go.Pv

/-- Of the numbers from 0 on those that a list has. -/
def pickI (o : List Int) (n : Nat) : List Int := ((List.range n).filter fun (k : Nat) => decide ((k : Int) ∈ o)).map fun (k : Nat) => (k : Int)
theorem pickI_len (o : List Int) (n : Nat) : (pickI o n).length ≤ n := by
  unfold pickI
  rw [List.length_map]
  exact Nat.le_trans (List.length_filter_le _ _) (by simp)
theorem pickI_succ (o : List Int) (n : Nat) : pickI o (n + 1) = if (n : Int) ∈ o then pickI o n ++ [(n : Int)] else pickI o n := by
  unfold pickI
  rw [List.range_succ, List.filter_append, List.map_append]
  by_cases h : (n : Int) ∈ o
  · simp [h]
  · simp [h]
theorem pickI_mem {o : List Int} {n : Nat} {x : Int} : x ∈ pickI o n ↔ x ∈ o ∧ 0 ≤ x ∧ x < n := by
  unfold pickI
  simp only [List.mem_map, List.mem_filter, List.mem_range, decide_eq_true_eq]
  constructor
  · rintro ⟨k, ⟨h1, h2⟩, rfl⟩
    exact ⟨h2, by omega, by omega⟩
  · rintro ⟨h1, h2, h3⟩
    exact ⟨x.toNat, ⟨by omega, by rw [Int.toNat_of_nonneg h2]; exact h1⟩, by omega⟩
theorem pickI_asc (o : List Int) (n : Nat) : (pickI o n).Pairwise (· < ·) := by
  unfold pickI
  rw [List.pairwise_map]
  have : (List.range n).Pairwise (· < ·) := List.pairwise_lt_range
  exact (this.filter _).imp (fun h => by omega)
theorem isort_asc {o : List Int} (hd : o.Nodup) : (isort ltI o).Pairwise (· < ·) := by
  have h1 := isort_sorted o
  have h2 : (isort ltI o).Nodup := (isort_perm ltI o).nodup_iff.2 hd
  exact List.Pairwise.imp₂ (fun a b h h' => by omega) h1 h2
theorem pickI_all {l : List Typ} {o : List Int} (hd : o.Nodup) (hin : ∀ v ∈ o, inT l v) : pickI o l.length = isort ltI o := by
  refine asc_ext (pickI_asc o _) (isort_asc hd) fun x => ?_
  rw [pickI_mem, (isort_perm ltI o).mem_iff]
  exact ⟨fun h => h.1, fun h => ⟨h, hin x h⟩⟩
set_option maxHeartbeats 4000000 in
/-- Reachable, of the document. -/
theorem r274 (v : Nat) (l : List Typ) (i : Int) (hl : l.length ≤ 2147483648) (ho : ∀ t ∈ l, t.ok) (hs : ∀ t ∈ l, t.short) : res A PrA 274 [.agg [.lst v (l.map Typ.c)], .int .i64 i] = some [.lst 0 (ints (reachR l i).1), .int .i64 (reachR l i).2] := by
  refine res_of a274 rfl rfl ?_
  simp only [F274]
  have h292 := fun v => r292 v l i hl ho hs
  unfold reachR
  simp (disch := omega) only [go_sem, h292]
  refine Br.ofP (fun c => ?_) (fun c => ?_) <;> simp (disch := omega) only [go_sem, c]
  rotate_left
  · simp [c, ints]
  obtain ⟨hv, hi0, hin⟩ := known_zero c
  rw [if_neg (by simp [c])]
  have hsane := valid_sane hv
  have h32 := hsane.len
  refine W.loop (α := Nat × List Int) (fun x => ⟨[(2, .ptr 2 0), (7, glV 0 1 (ints x.2)), (8, .pv (.int .i64 x.1))], ⟨[(2, [.pv (.lst v (l.map Typ.c))])], glA 1 1 (ints x.2), []⟩⟩)
    (fun x => x.2.Nodup ∧ (∀ v ∈ x.2, inT l v) ∧ 1 ≤ x.2.length ∧ x.1 ≤ x.2.length ∧ bfs (nxT l) (l.length - x.1) x.1 x.2 = reachL l i) (fun x => l.length - x.1) (0, [i]) rfl ⟨by simp, fun w hw => (List.mem_singleton.1 hw) ▸ ⟨hi0, hin⟩, by simp, by simp, rfl⟩ fun x hx => ?_
  obtain ⟨j, o⟩ := x
  obtain ⟨hd, hin', h1, h2, hb⟩ := hx
  dsimp only at hd hin' h1 h2 hb
  have hlen := inT_bound o hd hin'
  simp (disch := omega) only [go_sem]
  refine Br.ofP (fun h => ?_) (fun h => ?_)
  · have hw := List.getElem?_eq_getElem (l := o) (i := j) (by omega)
    generalize o[j]'(by omega) = w at hw
    obtain ⟨hw0, hw1⟩ := hin' w (List.mem_of_getElem? hw)
    have hget := typAt_get hw0 hw1
    have hidx := idx_typ (v := v) hw0 hw1
    have h287 := r287 (typAt l w) (hs _ (List.mem_of_getElem? hget)) (own_kind (hsane.own _ (List.mem_of_getElem? hget)))
    have hul := uses_len (hs _ (List.mem_of_getElem? hget))
    have hnx : nxT l w = usesT (typAt l w) := rfl
    have huses := hsane.uses _ (List.mem_of_getElem? hget)
    generalize typAt l w = p at *
    unfold Typ.c at h287 hidx
    unfold Typ.c at *
    have inner : ∀ (k : Nat) (o : List Int), (o.Nodup ∧ (∀ v ∈ o, inT l v) ∧ 1 ≤ o.length ∧ j < o.length) → ∀ u ∈ usesT p, (addN o u).Nodup ∧ (∀ v ∈ addN o u, inT l v) ∧ 1 ≤ (addN o u).length ∧ j < (addN o u).length := by
      rintro k o ⟨g1, g2, g3, g4⟩ u hu
      obtain ⟨r, hr⟩ := addN_pre o u
      refine ⟨addN_nodup g1, fun x hx => (addN_mem.1 hx).elim (g2 x) (fun q => q ▸ huses u hu), by rw [← hr, List.length_append]; omega, by rw [← hr, List.length_append]; omega⟩
    have hgl := gl_cases (b := 1) (rows := ints o)
    have hVA : ∃ V0 A0, glV 0 1 (ints o) = V0 ∧ glA 1 1 (ints o) = A0 ∧ ((V0 = .tl (ints o) ∧ A0 = []) ∨ ∃ m, (ints o).length = 1 + m + 1 ∧ V0 = .own 0 m 0 (1 + m + 1) ∧ A0 = [⟨m, 1, .inl (ints o)⟩]) := by
      rcases hgl with hc | ⟨m, hc⟩
      · exact ⟨_, _, glV_lit hc, glA_lit hc, .inl ⟨rfl, rfl⟩⟩
      · exact ⟨_, _, glV_own hc, glA_own hc, .inr ⟨m, hc, rfl, rfl⟩⟩
    obtain ⟨V0, A0, hV0, hA0, hcase⟩ := hVA
    rw [hV0, hA0]
    rcases hcase with ⟨e1, e2⟩ | ⟨m, hc, e1, e2⟩
    all_goals rw [e1] at hV0 ⊢
    all_goals rw [e2] at hA0 ⊢
    all_goals try rw [ints_length] at hc
    all_goals simp (disch := omega) only [go_sem, hw, hidx, h287]
    all_goals
      refine W.fold (usesT p) addN o (fun k o => ⟨[(2, .ptr 2 0), (7, glV 0 1 (ints o)), (8, .pv (.int .i64 j)), (9, .pv (.lst 0 (ints (usesT p)))), (10, .pv (.int .i64 k))], ⟨[(2, [.pv (.lst v (l.map Typ.c))])], glA 1 1 (ints o), []⟩⟩)
        (fun _ o => o.Nodup ∧ (∀ v ∈ o, inT l v) ∧ 1 ≤ o.length ∧ j < o.length) ?_ ⟨hd, hin', h1, by omega⟩ (fun k u o hu hk _ hI => ?_) (fun o hacc hI => ?_)
      · show _ = St.mk _ _
        rw [hV0, hA0]
        rfl
      · have hI2 := inner k o hI u (List.mem_of_getElem? hu)
        obtain ⟨g1, g2, g3, g4⟩ := hI
        have hlen := inT_bound o g1 g2
        have h293 := fun t => s293 t o u (by omega)
        simp (disch := omega) only [go_sem]
        refine Br.ofP (fun c => ?_) (fun c => (c (by omega)).elim)
        simp (disch := omega) only [go_sem, hu, h293]
        refine Br.ofP (fun c2 => ?_) (fun c2 => ?_) <;> simp (disch := omega) only [go_sem, c2]
        · refine foldK.of ?_ hI2
          show _ = St.mk _ _
          rw [addN, if_pos c2]
          rfl
        · rcases gl_cases (b := 1) (rows := ints o) with hc | ⟨m, hc⟩
          · rw [glV_lit hc, glA_lit hc]
            rw [ints_length] at hc
            simp (disch := omega) only [go_sem, hu]
            refine foldK.of ?_ hI2
            show _ = St.mk _ _
            rw [addN, if_neg c2, glV_intsS g3, glA_intsS g3, show o.length - 1 = 0 by omega]
            rfl
          · rw [glV_own hc, glA_own hc]
            rw [ints_length] at hc
            simp (disch := omega) only [go_sem, hu]
            refine foldK.of ?_ hI2
            show _ = St.mk _ _
            rw [addN, if_neg c2, glV_intsS g3, glA_intsS g3, show o.length - 1 = m + 1 by omega, hc]
            rfl
      · obtain ⟨g1, g2, g3, g4⟩ := hI
        simp (disch := omega) only [go_sem]
        refine ⟨(j + 1, o), ⟨g1, g2, g3, g4, ?_⟩, by dsimp only; omega, rfl⟩
        dsimp only
        rw [← hb, hacc]
        obtain ⟨q, hq⟩ : ∃ q, l.length - j = q + 1 := ⟨l.length - j - 1, by omega⟩
        rw [hq, bfs_step hw, hnx]
        congr 1
        omega
  · rw [bfs_end (by omega)] at hb
    rw [← hb]
    rcases gl_cases (b := 1) (rows := ints o) with hc | ⟨m, hc⟩
    · rw [glV_lit hc, glA_lit hc]
      rw [ints_length] at hc
      simp (disch := omega) only [go_sem]
      refine W.upto l.length (fun k => ⟨[(2, .ptr 2 0), (7, .tl (ints o)), (11, grV 0 (ints (pickI o k))), (12, .pv (.int .i64 k))], ⟨[(2, [.pv (.lst v (l.map Typ.c))])], grA 1 (ints (pickI o k)), []⟩⟩) (fun _ => True) rfl trivial (fun k hk _ => ?_)
      have hpl := pickI_len o k
      have hps := pickI_succ o k
      have h293 := fun t => s293 t o (k : Int) (by omega)
      simp (disch := omega) only [go_sem]
      refine Br.ofP (fun c => ?_) (fun c => ?_) <;> simp (disch := omega) only [go_sem, h293]
      · refine Br.ofP (fun c2 => ?_) (fun c2 => ?_) <;> simp (disch := omega) only [go_sem, c2]
        · refine .of (by omega) ?_ trivial
          rw [hps, if_pos c2]
          rfl
        · refine .of (by omega) ?_ trivial
          rw [hps, if_neg c2]
          rfl
      · obtain rfl : k = l.length := by omega
        rw [pickI_all hd hin']
    · rw [glV_own hc, glA_own hc]
      rw [ints_length] at hc
      simp (disch := omega) only [go_sem]
      refine W.upto l.length (fun k => ⟨[(2, .ptr 2 0), (7, .own 0 m 0 (1 + m + 1)), (11, grV 1 (ints (pickI o k))), (12, .pv (.int .i64 k))], ⟨[(2, [.pv (.lst v (l.map Typ.c))])], ⟨m, 1, .inl (ints o)⟩ :: grA 1 (ints (pickI o k)), []⟩⟩) (fun _ => True) rfl trivial (fun k hk _ => ?_)
      have hpl := pickI_len o k
      have hps := pickI_succ o k
      have h293 := fun t => s293 t o (k : Int) (by omega)
      have ht : o.take (1 + m + 1) = o := List.take_of_length_le (by omega)
      simp (disch := omega) only [go_sem]
      refine Br.ofP (fun c => ?_) (fun c => ?_) <;> simp (disch := omega) only [go_sem, h293, ht]
      · refine Br.ofP (fun c2 => ?_) (fun c2 => ?_) <;> simp (disch := omega) only [go_sem, c2]
        · refine .of (by omega) ?_ trivial
          rw [hps, if_pos c2]
          rfl
        · refine .of (by omega) ?_ trivial
          rw [hps, if_neg c2]
          rfl
      · obtain rfl : k = l.length := by omega
        rw [pickI_all hd hin']
theorem addL_len : ∀ (l o : List Int), (addL o l).length ≤ o.length + l.length
  | [], o => Nat.le_refl _
  | x :: l, o => by
    rw [addL_cons]
    have h1 := addL_len l (addN o x)
    have h2 := addN_len o x
    rw [List.length_cons]
    omega
theorem usesR_len {l : List Typ} {i : Int} (hs : ∀ t ∈ l, t.short) : (usesR l i).1.length ≤ 1048578 := by
  unfold usesR
  split
  · exact Nat.zero_le _
  · rename_i h
    obtain ⟨_, h0, h1⟩ := known_zero (l := l) (i := i) (by simpa using h)
    have := addL_len (usesT (typAt l i)) []
    have h2 := uses_len (hs _ (List.mem_of_getElem? (typAt_get h0 h1)))
    simp only [List.length_nil] at this
    show (addL [] (usesT (typAt l i))).length ≤ _
    omega
theorem reachR_in {l : List Typ} {i : Int} (h : knownR l i = 0) : (reachL l i).Nodup ∧ ∀ v ∈ reachL l i, inT l v := by
  obtain ⟨hv, h0, h1⟩ := known_zero h
  exact ⟨bfs_nodup _ _ (by simp), bfs_all (valid_sane hv).next _ _ (fun v hv => (List.mem_singleton.1 hv) ▸ ⟨h0, h1⟩)⟩
theorem reachR_len {l : List Typ} {i : Int} : (reachR l i).1.length ≤ l.length := by
  unfold reachR
  split
  · exact Nat.zero_le _
  · rename_i h
    obtain ⟨h1, h2⟩ := reachR_in (l := l) (i := i) (by simpa using h)
    show (isort ltI (reachL l i)).length ≤ _
    rw [isort_lenS]
    exact inT_bound _ h1 h2
set_option maxHeartbeats 1000000 in
/-- SchemaUses, given that the chapter is awake. -/
theorem r261 (r265 : res A PrA 265 [] = some [.bool true]) (l : List Typ) (i : Int) (hl : l.length ≤ 1048576) (ho : ∀ t ∈ l, t.ok) (hs : ∀ t ∈ l, t.short) : res A PrA 261 [.agg [.lst 0 (l.map Typ.c)], .int .i64 i] = some [.bool true] := by
  refine res_of a261 rfl rfl ?_
  simp only [F261]
  have h266 := fun u => r266 u l ho
  have e1 := fun t => r271 t l i (by omega) ho hs
  have e2 := fun t => r272 t l i (by omega) ho hs
  have e3 := fun t => r273 t l i (by omega) ho hs
  have e4 := fun t => r274 t l i (by omega) ho hs
  have l1 : (usesR l i).1.length ≤ 2 ^ 63 - 1 := Nat.le_trans (usesR_len hs) (by decide)
  have l2 : (reachR l i).1.length ≤ 2 ^ 63 - 1 := Nat.le_trans reachR_len (by omega)
  have h94 := fun t u => s94 t u (usesR l i).1 (usesR l i).1 l1 l1
  have h94' := fun t u => s94 t u (reachR l i).1 (reachR l i).1 l2 l2
  rw [eqv_same] at h94 h94'
  generalize few l = f at h266
  generalize usesR l i = u at e1 e2 h94
  generalize reachR l i = w at e3 e4 h94'
  simp (disch := omega) only [go_sem, r265, h266]
  cases f with
  | false => simp (disch := omega) only [go_sem, r265]
  | true =>
    simp (disch := omega) only [go_sem, e1, e2, e3, e4, h94, h94']
end Go.Pv

/-
  Chapter 07: copies of values.
-/
namespace Go.Pv

theorem rowsFit_all {k : Nat} {rows : List (List PV)} (h : ∀ r ∈ rows, r.length = k) : rowsFit k (.inl rows) = true := by
  simp only [rowsFit, List.all_eq_true, beq_iff_eq]
  exact h
theorem set_same {α : Type} {l : List α} {k : Nat} {x : α} (h : l[k]? = some x) : l.set k x = l := by
  obtain ⟨hk, rfl⟩ := List.getElem?_eq_some_iff.1 h
  exact List.set_getElem_self hk
theorem over_same {rows : List (List PV)} {row c n : Nat} {r : List PV} (hr : rows[row]? = some r) (hn : c + n ≤ r.length) : over row c ((r.drop c).take n) rows = rows := by
  unfold over
  have hd : rows.getD row [] = r := by rw [List.getD_eq_getElem?_getD, hr]; rfl
  have hl : ((r.drop c).take n).length = n := by rw [List.length_take, List.length_drop]; omega
  rw [hd, hl, List.append_assoc, ← List.drop_drop, List.take_append_drop, List.take_append_drop]
  exact set_same hr
theorem mapO_pure : ∀ {l : List PV}, (∀ c ∈ l, c.perm = true) → mapO V.purec (l.map V.pv) = some l
  | [], _ => rfl
  | x :: l, h => by
    have h1 := mapO_pure (l := l) (fun c hc => h c (by simp [hc]))
    simp only [List.map_cons, mapO, V.purec, h x (by simp), if_true, h1]
/-- The same cells stored again. -/
theorem store_same {id row c n ver k : Nat} {rows : List (List PV)} {r : List PV} (hr : rows[row]? = some r) (hp : ∀ x ∈ (r.drop c).take n, x.perm = true) (hn : c + n ≤ r.length) (hk : r.length = k) : storeRow id row c (((r.drop c).take n).map V.pv) ⟨ver, k, .inl rows⟩ = some { ar := some (id, ⟨ver, k, .inl rows⟩) } := by
  have hl : ((r.drop c).take n).length = n := by rw [List.length_take, List.length_drop]; omega
  rw [storeRow_inl (List.getElem?_eq_some_iff.1 hr).1 (mapO_pure hp) (by rw [List.length_map, hl]; omega) (by
    rw [List.all_eq_true]
    intro x hx
    obtain ⟨y, hy, rfl⟩ := List.mem_map.1 hx
    exact PV.perm_calm (hp y hy)), over_same hr hn]
theorem clone_nil (k : Nat) (h : Heap) : cloneP k [.pv (.lst 0 [])] h = some (.tl [], {}) := by
  simp [cloneP, srcRows, rowsFit, mostRows]
theorem clone_lst {k t : Nat} {rows : List (List PV)} {h : Heap} (ht : t ≤ 1) (hr : ∀ r ∈ rows, r.length = k) (h0 : rows ≠ []) (hm : rows.length ≤ 2147483648) : cloneP k [.pv (.lst t rows)] h = some (.own h.ar.length 0 0 rows.length, { push := [⟨0, k, .inl rows⟩], base := h.ar.length }) := by
  have hl : ¬ rows.length = 0 := fun e => h0 (List.eq_nil_of_length_eq_zero e)
  simp only [cloneP, srcRows, ht, if_true, rowsFit_all hr, mostRows, hm, and_self, if_neg hl]
/-- What a copied list is. -/
theorem clone_two {k : Nat} {rows : List (List PV)} (hr : ∀ r ∈ rows, r.length = k) (hm : rows.length ≤ 2147483648) : (rows = [] ∧ ∀ h, cloneP k [.pv (.lst 0 rows)] h = some (.tl [], {})) ∨ (rows ≠ [] ∧ ∀ h, cloneP k [.pv (.lst 0 rows)] h = some (.own h.ar.length 0 0 rows.length, { push := [⟨0, k, .inl rows⟩], base := h.ar.length })) := by
  by_cases h0 : rows = []
  · subst h0
    exact .inl ⟨rfl, fun h => clone_nil k h⟩
  · exact .inr ⟨h0, fun h => clone_lst (by decide) hr h0 hm⟩
set_option maxHeartbeats 8000000 in
/-- clone. -/
theorem r315 : ∀ (n : Nat) (cs : List PV), VOk n cs → (∀ c ∈ cs, Small 1048576 c) → res A PrA 315 [.agg cs] = some [.agg cs]
  | 0, cs, h, _ => h.elim
  | n + 1, cs, h, hsm => by
    obtain ⟨v, rfl, ⟨h1, h2, h3, h4⟩, ⟨h5, h6, h7⟩, h8, h9, h10⟩ := h
    have ih := r315 n
    obtain ⟨kind, bool, int, str, id, keys, items, rest⟩ := v
    unfold Val.c at *
    dsimp only at *
    obtain ⟨m5, n5⟩ := lst_small (hsm (.lst 0 keys) (by simp))
    obtain ⟨m6, n6⟩ := lst_small (hsm (.lst 0 items) (by simp))
    obtain ⟨m7, _⟩ := lst_small (hsm (.lst 0 (rest.map Raw.c)) (by simp))
    rw [List.length_map] at m7
    have hk : ∀ r ∈ keys, res A PrA 315 [.agg r] = some [.agg r] := fun r hr => ih r (h8 r hr) (n5 r hr)
    have hi : ∀ r ∈ items, res A PrA 315 [.agg r] = some [.agg r] := fun r hr => ih r (h9 r hr) (n6 r hr)
    have vk : ∀ r ∈ keys, ∃ w : Val, r = w.c := fun r hr => (h8 r hr).val
    have vi : ∀ r ∈ items, ∃ w : Val, r = w.c := fun r hr => (h9 r hr).val
    clear ih n5 n6 hsm
    have lk : ∀ r ∈ keys, r.length = 8 := fun r hr => (h8 r hr).len
    have li : ∀ r ∈ items, r.length = 8 := fun r hr => (h9 r hr).len
    have lr : ∀ r ∈ rest.map Raw.c, r.length = 2 := fun r hr => by
      obtain ⟨x, _, rfl⟩ := List.mem_map.1 hr
      rfl
    refine res_of a315 rfl rfl ?_
    simp only [F315]
    simp (disch := omega) only [go_sem]
    have ck := clone_two lk (by omega)
    have ci := clone_two li (by omega)
    have cr := clone_two lr (by rw [List.length_map]; omega)
    generalize rest.map Raw.c = rs at cr lr
    have hkl : keys.length ≤ 1048576 := m5
    have hil : items.length ≤ 1048576 := m6
    rcases ck with ⟨ek, ck⟩ | ⟨ek, ck⟩ <;> rcases ci with ⟨ei, ci⟩ | ⟨ei, ci⟩ <;> rcases cr with ⟨er, cr⟩ | ⟨er, cr⟩
    all_goals simp (disch := omega) only [go_sem, ck, ci, cr]
    all_goals first
      | (subst ek
         refine W.once ?_
         simp (disch := omega) only [go_sem]
         refine Br.ofP (fun c => absurd c (by omega)) (fun _ => ?_)
         simp (disch := omega) only [go_sem])
      | (refine W.upto keys.length ((fun h0 => fun k => ⟨[(1, .ptr 1 0), (2, .ptr 2 0), (19, .pv (.int .i64 keys.length)), (20, .pv (.int .i64 (k : Nat)))], h0⟩) _) (fun _ => True) rfl trivial (fun k hk' _ => ?_)
         simp (disch := omega) only [go_sem]
         refine Br.ofP (fun c => ?_) (fun c => ?_)
         · have hr := List.getElem?_eq_getElem (l := keys) (i := k) (by omega)
           generalize keys[k]'(by omega) = r at hr
           have hc := hk r (List.mem_of_getElem? hr)
           have hset := set_same hr
           obtain ⟨w, rfl⟩ := vk r (List.mem_of_getElem? hr)
           unfold Val.c at hr hc hset
           have hst := fun id => store_same (id := id) (c := 0) (n := 8) (ver := 0) (k := 8) hr (by simp [PV.perm]) (by simp) (by simp)
           simp only [List.drop_zero, List.take_succ_cons, List.take_zero, List.map_cons, List.map_nil] at hst
           simp (disch := omega) only [go_sem, hr, hc, hst]
           refine .of (by omega) ?_ trivial
           rfl
         simp (disch := omega) only [go_sem])
    all_goals first
      | (subst ei
         refine W.once ?_
         simp (disch := omega) only [go_sem]
         refine Br.ofP (fun c => absurd c (by omega)) (fun _ => ?_)
         simp (disch := omega) only [go_sem])
      | (refine W.upto items.length ((fun h0 => fun k => ⟨[(1, .ptr 1 0), (2, .ptr 2 0), (36, .pv (.int .i64 items.length)), (37, .pv (.int .i64 (k : Nat)))], h0⟩) _) (fun _ => True) rfl trivial (fun k hk' _ => ?_)
         simp (disch := omega) only [go_sem]
         refine Br.ofP (fun c => ?_) (fun c => ?_)
         · have hr := List.getElem?_eq_getElem (l := items) (i := k) (by omega)
           generalize items[k]'(by omega) = r at hr
           have hc := hi r (List.mem_of_getElem? hr)
           have hset := set_same hr
           obtain ⟨w, rfl⟩ := vi r (List.mem_of_getElem? hr)
           unfold Val.c at hr hc hset
           have hst := fun id => store_same (id := id) (c := 0) (n := 8) (ver := 0) (k := 8) hr (by simp [PV.perm]) (by simp) (by simp)
           simp only [List.drop_zero, List.take_succ_cons, List.take_zero, List.map_cons, List.map_nil] at hst
           simp (disch := omega) only [go_sem, hr, hc, hst]
           refine .of (by omega) ?_ trivial
           rfl
         simp (disch := omega) only [go_sem])
    all_goals first
      | (simp only [List.take_length]
         done)
      | (simp only [List.take_length, er]
         done)
      | (simp only [er]
         done)
end Go.Pv

/-
  Chapter 07: copies of types.
-/
namespace Go.Pv

/-- A list that is given to the caller to write to. -/
def frL (k : Nat) (rows : List (List PV)) : PV := match rows with
  | [] => .lst 0 []
  | x :: r => .fr k (x :: r)
theorem frL_cons {k : Nat} {rows : List (List PV)} (h : rows ≠ []) : frL k rows = .fr k rows := by
  cases rows with
  | nil => exact (h rfl).elim
  | cons x r => rfl
theorem frL_nil {k : Nat} : frL k [] = .lst 0 [] := rfl
/-- A type of which the lists of symbols and members are the caller's. -/
def copC (t : Typ) : List PV := [.int .i64 t.kind, .str t.name, .int .i64 t.low, .int .i64 t.high, .int .i64 t.max, frL 2 (t.syms.map Sym.c), frL 13 (t.mems.map Mem.c), .int .i64 t.key, .int .i64 t.elem, .bool t.opn]
set_option maxHeartbeats 8000000 in
/-- copied. -/
theorem r294 (t : Typ) (ht : t.ok) (hsm : ∀ c ∈ t.c, Small 1048576 c) : res A PrA 294 [.agg t.c] = some [.agg (copC t)] := by
  obtain ⟨_, _, _, ho⟩ := ht
  obtain ⟨k, a2, a3, a4, a5, a6, l, a8, a9, a10⟩ := t
  unfold copC
  unfold Typ.c at *
  dsimp only at *
  obtain ⟨m6, _⟩ := lst_small (hsm (.lst 0 (a6.map Sym.c)) (by simp))
  obtain ⟨m7, n7⟩ := lst_small (hsm (.lst 0 (l.map Mem.c)) (by simp))
  rw [List.length_map] at m6 m7
  have hcl : ∀ m ∈ l, res A PrA 315 [.agg m.dflt.c] = some [.agg m.dflt.c] := fun m hm => by
    obtain ⟨n, hn⟩ := (ho m hm).2.2.2
    refine r315 n _ hn fun c hc => n7 _ (List.mem_map_of_mem hm) c ?_
    unfold Mem.c
    unfold Val.c at hc
    simp only [List.mem_cons] at hc ⊢
    exact .inr (.inr (.inr (.inr (.inr hc))))
  have ls : ∀ r ∈ a6.map Sym.c, r.length = 2 := fun r hr => by
    obtain ⟨x, _, rfl⟩ := List.mem_map.1 hr
    rfl
  have lm : ∀ r ∈ l.map Mem.c, r.length = 13 := fun r hr => by
    obtain ⟨x, _, rfl⟩ := List.mem_map.1 hr
    rfl
  have cs := clone_two ls (by rw [List.length_map]; omega)
  have cm := clone_two lm (by rw [List.length_map]; omega)
  clear n7 hsm ho
  refine res_of a294 rfl rfl ?_
  simp only [F294]
  simp (disch := omega) only [go_sem]
  generalize a6.map Sym.c = rs at cs ls
  have hlen : (l.map Mem.c).length = l.length := List.length_map ..
  rcases cs with ⟨es, cs⟩ | ⟨es, cs⟩ <;> rcases cm with ⟨em, cm⟩ | ⟨em, cm⟩
  all_goals simp (disch := omega) only [go_sem, cs, cm]
  all_goals first
    | (have hl0 : l = [] := List.map_eq_nil_iff.1 em
       subst hl0
       refine W.once ?_
       simp (disch := omega) only [go_sem]
       refine Br.ofP (fun c => absurd c (by omega)) (fun _ => ?_)
       simp (disch := omega) only [go_sem, leaveL_true])
    | (refine W.upto l.length ((fun h0 => fun k => ⟨[(1, .ptr 1 0), (2, .ptr 2 0), (14, .pv (.int .i64 l.length)), (15, .pv (.int .i64 (k : Nat)))], h0⟩) _) (fun _ => True) rfl trivial (fun k hk' _ => ?_)
       simp (disch := omega) only [go_sem]
       refine Br.ofP (fun c => ?_) (fun c => ?_)
       · have hr := List.getElem?_eq_getElem (l := l) (i := k) (by omega)
         generalize l[k]'(by omega) = r at hr
         have hc := hcl r (List.mem_of_getElem? hr)
         have hrr : (l.map Mem.c)[k]? = some r.c := by rw [List.getElem?_map, hr]; rfl
         have hst : ∀ id, storeRow id k 5 [.pv (.int .i64 r.dflt.kind), .pv (.bool r.dflt.bool), .pv (.int .i64 r.dflt.int), .pv (.str r.dflt.str), .pv (.int .i64 r.dflt.id), .pv (.lst 0 r.dflt.keys), .pv (.lst 0 r.dflt.items), .pv (.lst 0 (r.dflt.rest.map Raw.c))] ⟨0, 13, .inl (l.map Mem.c)⟩ = some { ar := some (id, ⟨0, 13, .inl (l.map Mem.c)⟩) } :=
           fun id => store_same (id := id) (c := 5) (n := 8) (ver := 0) (k := 13) hrr (by simp [PV.perm, Mem.c]) (by simp [Mem.c]) (by simp [Mem.c])
         unfold Val.c at hc
         simp (disch := omega) only [go_sem, hr, Mem.c, hc, hst]
         refine .of (by omega) ?_ trivial
         rfl
       simp (disch := omega) only [go_sem, leaveL_true])
  all_goals simp [ownIds, V.cells, keep, mapO, freshc, ownArr, keepc, PV.perm, frL_cons, es, em]
  all_goals first
    | exact ⟨rfl, rfl, rfl⟩
    | exact ⟨rfl, rfl, List.take_of_length_le (by rw [List.length_map]; exact Nat.le_refl _)⟩
    | exact ⟨rfl, rfl⟩
    | exact ⟨rfl, List.take_of_length_le (by rw [List.length_map]; exact Nat.le_refl _)⟩
end Go.Pv

/-
  Chapter 07: lists of types whose own lists lie elsewhere.
-/
namespace Go.Pv

/-- A list that is kept: for good, or in an array of its own that is not the o-th. -/
def Home (ar : List Arr) (o k : Nat) (v : V) (rows : List (List PV)) : Prop := v = .pv (.lst 0 rows) ∨ (∃ id, v = .own id 0 0 rows.length ∧ id ≠ o ∧ ar[id]? = some ⟨0, k, .inl rows⟩) ∨ v = .tl rows
theorem Home.push {ar : List Arr} {o k : Nat} {v : V} {rows : List (List PV)} (h : Home ar o k v rows) (x : List Arr) : Home (ar ++ x) o k v rows := by
  rcases h with h | ⟨id, h1, h2, h3⟩ | h
  · exact .inl h
  · exact .inr (.inl ⟨id, h1, h2, by rw [List.getElem?_append_left (List.getElem?_eq_some_iff.1 h3).1]; exact h3⟩)
  · exact .inr (.inr h)
theorem Home.set {ar : List Arr} {o k : Nat} {v : V} {rows : List (List PV)} (h : Home ar o k v rows) (a : Arr) : Home (ar.set o a) o k v rows := by
  rcases h with h | ⟨id, h1, h2, h3⟩ | h
  · exact .inl h
  · exact .inr (.inl ⟨id, h1, h2, by rw [List.getElem?_set_ne (fun e => h2 e.symm)]; exact h3⟩)
  · exact .inr (.inr h)
theorem Home.other {ar : List Arr} {o k : Nat} {v : V} {rows : List (List PV)} (h : Home ar o k v rows) (o' : Nat) (hn : ar.length ≤ o') : Home ar o' k v rows := by
  rcases h with h | ⟨id, h1, h2, h3⟩ | h
  · exact .inl h
  · exact .inr (.inl ⟨id, h1, by have := (List.getElem?_eq_some_iff.1 h3).1; omega, h3⟩)
  · exact .inr (.inr h)
theorem Home.keep {ar : List Arr} {o k : Nat} {v : V} {rows : List (List PV)} (h : Home ar o k v rows) (bx : List (Nat × List V)) (mp : List (List (PV × PV))) (d : Nat) : keepc ⟨bx, ar, mp⟩ (d + 1) v = some (.lst 0 rows) := by
  rcases h with rfl | ⟨id, rfl, h2, h3⟩ | rfl
  · rfl
  · rw [keepc_own, ownArr_mk, h3]
    simp only [Option.bind_some, if_true, cutRows, keepRows, List.drop_zero, List.take_length]
  · rfl
/-- A row of cells stands for a type. -/
def TRow (ar : List Arr) (o : Nat) (row : List V) (t : Typ) : Prop := ∃ sv mv, row = [.pv (.int .i64 t.kind), .pv (.str t.name), .pv (.int .i64 t.low), .pv (.int .i64 t.high), .pv (.int .i64 t.max), sv, mv, .pv (.int .i64 t.key), .pv (.int .i64 t.elem), .pv (.bool t.opn)] ∧
  Home ar o 2 sv (t.syms.map Sym.c) ∧ Home ar o 13 mv (t.mems.map Mem.c)
theorem TRow.push {ar : List Arr} {o : Nat} {row : List V} {t : Typ} (h : TRow ar o row t) (x : List Arr) : TRow (ar ++ x) o row t := by
  obtain ⟨sv, mv, h1, h2, h3⟩ := h
  exact ⟨sv, mv, h1, h2.push x, h3.push x⟩
theorem TRow.set {ar : List Arr} {o : Nat} {row : List V} {t : Typ} (h : TRow ar o row t) (a : Arr) : TRow (ar.set o a) o row t := by
  obtain ⟨sv, mv, h1, h2, h3⟩ := h
  exact ⟨sv, mv, h1, h2.set a, h3.set a⟩
theorem TRow.other {ar : List Arr} {o : Nat} {row : List V} {t : Typ} (h : TRow ar o row t) (o' : Nat) (hn : ar.length ≤ o') : TRow ar o' row t := by
  obtain ⟨sv, mv, h1, h2, h3⟩ := h
  exact ⟨sv, mv, h1, h2.other o' hn, h3.other o' hn⟩
theorem TRow.len {ar : List Arr} {o : Nat} {row : List V} {t : Typ} (h : TRow ar o row t) : row.length = 10 := by
  obtain ⟨sv, mv, rfl, _⟩ := h
  rfl
theorem TRow.keep {ar : List Arr} {o : Nat} {row : List V} {t : Typ} (h : TRow ar o row t) (bx : List (Nat × List V)) (mp : List (List (PV × PV))) (d : Nat) : mapO (keepc ⟨bx, ar, mp⟩ (d + 1)) row = some t.c := by
  obtain ⟨sv, mv, rfl, h2, h3⟩ := h
  simp only [mapO, h2.keep bx mp d, h3.keep bx mp d, keepc_pv, PV.perm, if_true]
  rfl
/-- The rows of a body. -/
def bodyV : Sum (List (List PV)) (List (List V)) → List (List V)
  | .inl x => x.map (·.map .pv)
  | .inr x => x
theorem bodyV_len (b : Sum (List (List PV)) (List (List V))) : (bodyV b).length = rowsLen b := by cases b <;> simp [bodyV, rowsLen]
theorem bodyV_cat (a b : Sum (List (List PV)) (List (List V))) : bodyV (catRows a b) = bodyV a ++ bodyV b := by
  cases a <;> cases b <;> simp [bodyV, catRows]
structure TRows (ar : List Arr) (o : Nat) (rows : List (List V)) (ts : List Typ) : Prop where
  len : rows.length = ts.length
  row : ∀ (i : Nat) row t, rows[i]? = some row → ts[i]? = some t → TRow ar o row t
theorem TRows.push {ar : List Arr} {o : Nat} {rows : List (List V)} {ts : List Typ} (h : TRows ar o rows ts) (x : List Arr) : TRows (ar ++ x) o rows ts := ⟨h.len, fun i row t h1 h2 => (h.row i row t h1 h2).push x⟩
theorem TRows.set {ar : List Arr} {o : Nat} {rows : List (List V)} {ts : List Typ} (h : TRows ar o rows ts) (a : Arr) : TRows (ar.set o a) o rows ts := ⟨h.len, fun i row t h1 h2 => (h.row i row t h1 h2).set a⟩
theorem TRows.snoc {ar : List Arr} {o : Nat} {rows : List (List V)} {ts : List Typ} {row : List V} {t : Typ} (h : TRows ar o rows ts) (hr : TRow ar o row t) : TRows ar o (rows ++ [row]) (ts ++ [t]) := by
  refine ⟨by simp [h.len], fun i r u h1 h2 => ?_⟩
  rcases Nat.lt_or_ge i rows.length with hi | hi
  · rw [List.getElem?_append_left hi] at h1
    rw [List.getElem?_append_left (by rw [← h.len]; exact hi)] at h2
    exact h.row i r u h1 h2
  · rw [List.getElem?_append_right hi] at h1
    rw [List.getElem?_append_right (by rw [← h.len]; exact hi)] at h2
    rw [h.len] at h1
    cases hj : i - ts.length with
    | zero =>
      rw [hj] at h1 h2
      cases h1
      cases h2
      exact hr
    | succ j =>
      rw [hj] at h1
      simp at h1
theorem mapO_rows {α β γ : Type} {f : α → Option β} : ∀ {rows : List (List α)} {ts : List γ} {c : γ → List β}, rows.length = ts.length → (∀ (i : Nat) row t, rows[i]? = some row → ts[i]? = some t → mapO f row = some (c t)) → mapO (mapO f) rows = some (ts.map c)
  | [], [], _, _, _ => rfl
  | r :: rows, t :: ts, c, hl, h => by
    have h1 := h 0 r t rfl rfl
    have h2 := mapO_rows (f := f) (rows := rows) (ts := ts) (c := c) (by simpa using hl) (fun i row u hi hu => h (i + 1) row u (by simpa using hi) (by simpa using hu))
    simp only [mapO, h1, h2, List.map_cons]
theorem mapO_pvs {h : Heap} {d : Nat} : ∀ {l r : List PV}, mapO (keepc h d) (l.map V.pv) = some r → r = l
  | [], r, he => by
    cases he
    rfl
  | x :: l, r, he => by
    simp only [List.map_cons, mapO_cons', keepc_pv] at he
    split at he
    · cases hm : mapO (keepc h d) (l.map V.pv) with
      | none => simp [hm] at he
      | some y =>
        simp [hm] at he
        rw [← he, mapO_pvs hm]
    · simp at he
/-- A list of types that is being built. -/
structure OutRep (ar : List Arr) (o ver : Nat) (ts : List Typ) : Prop where
  pos : ts ≠ []
  it : ∃ body, ar[o]? = some ⟨ver, 10, body⟩ ∧ TRows ar o (bodyV body) ts
theorem OutRep.keep {ar : List Arr} {o ver : Nat} {ts : List Typ} (h : OutRep ar o ver ts) (bx : List (Nat × List V)) (mp : List (List (PV × PV))) : keepc ⟨bx, ar, mp⟩ 4 (.own o ver 0 ts.length) = some (.lst 0 (ts.map Typ.c)) := by
  obtain ⟨body, h1, h2⟩ := h.it
  rw [keepc_own, ownArr_mk, h1]
  simp only [Option.bind_some, if_true]
  have hk := mapO_rows (f := keepc ⟨bx, ar, mp⟩ 3) (c := Typ.c) h2.len (fun i row t hi ht => (h2.row i row t hi ht).keep bx mp 2)
  cases body with
  | inl R =>
    have hl : R.length = ts.length := by have := h2.len; simpa [bodyV] using this
    simp only [cutRows, keepRows, List.drop_zero]
    rw [← hl, List.take_length]
    congr 1
    congr 1
    apply List.ext_getElem?
    intro i
    rcases Nat.lt_or_ge i R.length with hi | hi
    · have e1 := List.getElem?_eq_getElem hi
      have e2 := List.getElem?_eq_getElem (l := ts) (i := i) (by omega)
      rw [List.getElem?_map, e1, e2]
      have := (h2.row i (R[i].map V.pv) (ts[i]'(by omega)) (by simp [bodyV, e1]) e2).keep bx mp 2
      have := mapO_pvs this
      rw [Option.map_some, this]
    · rw [List.getElem?_eq_none hi, List.getElem?_map, List.getElem?_eq_none (by omega)]
      rfl
  | inr R =>
    have hl : R.length = ts.length := by have := h2.len; simpa [bodyV] using this
    simp only [cutRows, keepRows, List.drop_zero]
    rw [← hl, List.take_length]
    have hk' : mapO (mapO (keepc ⟨bx, ar, mp⟩ 3)) R = some (ts.map Typ.c) := hk
    rw [hk']
    rfl
end Go.Pv

/-
  Chapter 07: pruned schemas.
-/
namespace Go.Pv

def idxI (L : List Int) (j : Int) : Int := firstI (fun y => decide (y = j)) L
def plK (L : List Int) (n k : Nat) : List Int := (List.range n).map fun (j : Nat) => if j < k then idxI L (j : Int) else 0
theorem plK_len (L : List Int) (n k : Nat) : (plK L n k).length = n := by simp [plK]
theorem plK_zero (L : List Int) (n : Nat) : plK L n 0 = List.replicate n 0 := by
  apply List.ext_getElem
  · simp [plK]
  · intro i h1 h2
    simp [plK]
theorem plK_set (L : List Int) (n k : Nat) (_hk : k < n) : (plK L n k).set k (idxI L (k : Int)) = plK L n (k + 1) := by
  apply List.ext_getElem
  · simp [plK]
  · intro i h1 h2
    rw [List.getElem_set]
    by_cases h : k = i
    · subst h
      simp [plK]
    · have : (i < k + 1) = (i < k) := by rw [eq_iff_iff]; omega
      simp [plK, h, this]
theorem plK_get {L : List Int} {n : Nat} {u : Int} (h0 : 0 ≤ u) (h1 : u < n) : (plK L n n)[u.toNat]? = some (idxI L u) := by
  have hu : u.toNat < n := by omega
  have e : ((u.toNat : Nat) : Int) = u := Int.toNat_of_nonneg h0
  unfold plK
  rw [List.getElem?_map, List.getElem?_range hu, Option.map_some, if_pos hu, e]
def remapM (L : List Int) (m : Mem) : Mem := { m with type := idxI L m.type }
def remapT (L : List Int) (t : Typ) : Typ := { t with mems := t.mems.map (remapM L), key := if t.kind = 8 then idxI L t.key else t.key, elem := if 7 ≤ t.kind then idxI L t.elem else t.elem }
theorem drop_atS {α : Type} {l : List α} {k : Nat} {x : α} (h : l[k]? = some x) : l.drop k = x :: l.drop (k + 1) := by
  obtain ⟨hk, rfl⟩ := List.getElem?_eq_some_iff.1 h
  exact List.drop_eq_getElem_cons hk
theorem body_fit {k : Nat} {b : Sum (List (List PV)) (List (List V))} (h : ∀ r ∈ bodyV b, r.length = k) : rowsFit k b = true := by
  cases b with
  | inl x =>
    simp only [rowsFit, List.all_eq_true, beq_iff_eq]
    intro r hr
    have := h (r.map .pv) (List.mem_map_of_mem hr)
    simpa using this
  | inr x =>
    simp only [rowsFit, List.all_eq_true, beq_iff_eq]
    exact h
/-- Members, of which the first are renumbered. -/
def mixJ (L : List Int) (l : List Mem) (j : Nat) : List Mem := (l.take j).map (remapM L) ++ l.drop j
theorem mixJ_zero (L : List Int) (l : List Mem) : mixJ L l 0 = l := by simp [mixJ]
theorem mixJ_all (L : List Int) (l : List Mem) : mixJ L l l.length = l.map (remapM L) := by simp [mixJ]
theorem mixJ_len (L : List Int) (l : List Mem) (j : Nat) : (mixJ L l j).length = l.length := by
  simp only [mixJ, List.length_append, List.length_map, List.length_take, List.length_drop]
  omega
theorem mixJ_get {L : List Int} {l : List Mem} {j : Nat} {m : Mem} (h : l[j]? = some m) : (mixJ L l j)[j]? = some m := by
  have hj := (List.getElem?_eq_some_iff.1 h).1
  have hl : ((l.take j).map (remapM L)).length = j := by simp; omega
  unfold mixJ
  rw [List.getElem?_append_right (by omega), hl, Nat.sub_self, List.getElem?_drop, Nat.add_zero]
  exact h
theorem mixJ_set {L : List Int} {l : List Mem} {j : Nat} {m : Mem} (h : l[j]? = some m) : (mixJ L l j).set j (remapM L m) = mixJ L l (j + 1) := by
  have hj := (List.getElem?_eq_some_iff.1 h).1
  have hl : ((l.take j).map (remapM L)).length = j := by simp; omega
  unfold mixJ
  rw [List.set_append_right _ _ (by omega), hl, Nat.sub_self, drop_atS h, List.set_cons_zero, List.take_add_one, h]
  simp
theorem out_first {bx : List (Nat × List V)} {ar : List Arr} {mp : List (List (PV × PV))} {y : V} {new : Sum (List (List PV)) (List (List V))} {rd : Option Nat} {row : List V} (hs : srcRows ⟨bx, ar, mp⟩ y = some (new, rd)) (hn : bodyV new = [row]) (hr : row.length = 10) :
    appendV ⟨bx, ar, mp⟩ 10 (.tl []) y = some (.own ar.length 0 0 1, { push := [⟨0, 10, catRows (.inl []) new⟩], ra := rd, base := ar.length }) := by
  have h1 : rowsLen new = 1 := by rw [← bodyV_len, hn]; rfl
  have h2 : rowsFit 10 new = true := body_fit (by rw [hn]; intro r hr'; rw [List.mem_singleton] at hr'; rw [hr']; exact hr)
  simp only [appendV, hs, h2, h1, if_true]
  simp [rowsFit, mostRows]
theorem out_next {bx : List (Nat × List V)} {ar : List Arr} {mp : List (List (PV × PV))} {y : V} {new : Sum (List (List PV)) (List (List V))} {rd : Option Nat} {row : List V} {o ver n : Nat} {body : Sum (List (List PV)) (List (List V))} (hs : srcRows ⟨bx, ar, mp⟩ y = some (new, rd)) (hn : bodyV new = [row]) (hr : row.length = 10)
    (ho : ar[o]? = some ⟨ver, 10, body⟩) (hb : rowsLen body = n) (hrd : rd ≠ some o) (hm : n + 1 ≤ 2147483648) :
    appendV ⟨bx, ar, mp⟩ 10 (.own o ver 0 n) y = some (.own o (ver + 1) 0 (n + 1), { ar := some (o, ⟨ver + 1, 10, catRows (cutRows 0 n body) new⟩), ra := rd }) := by
  have h1 : rowsLen new = 1 := by rw [← bodyV_len, hn]; rfl
  have h2 : rowsFit 10 new = true := body_fit (by rw [hn]; intro r hr'; rw [List.mem_singleton] at hr'; rw [hr']; exact hr)
  have h3 : ownArr ⟨bx, ar, mp⟩ o ver = some ⟨ver, 10, body⟩ := by rw [ownArr_mk, ho]; simp
  have h4 : (⟨ver, 10, body⟩ : Arr).size = n := by rw [← hb]; cases body <;> rfl
  simp only [appendV, hs, h2, h1, h3, if_true, h4]
  simp [mostRows, hm, hrd]
end Go.Pv

