/-
  What the functions of the law give.
-/
import Derived.Test.YtdeoikfaclbniaaC2
set_option linter.unusedSimpArgs false
set_option linter.unusedVariables false
/-
  Chapter 07: is a schema valid?
-/
namespace Go.Pv

def kindAt (l : List Typ) (i : Int) : Int := ((l[i.toNat]?).map (·.kind)).getD 0
def dupName (l : List Typ) (k : Nat) (t : Typ) : Bool := !decide (t.name = ⟨#[]⟩) && hasS ((l.take k).map (·.name)) t.name
def outR (n : Nat) (u : Int) : Bool := decide (u < 0) || decide ((n : Int) ≤ u)
def badKey (l : List Typ) (t : Typ) : Bool := decide (t.kind = 8) && !(decide (1 ≤ kindAt l t.key) && decide (kindAt l t.key ≤ 4))
noncomputable def errAt (l : List Typ) (k : Nat) (t : Typ) : Int := if (!ownOk t || dupName l k t) = true then 1 else if (usesT t).any (outR l.length) = true then 4 else if badKey l t = true then 1 else 0
noncomputable def errIdx (l : List Typ) (k : Nat) : Int := match l[k]? with
  | some t => errAt l k t
  | none => 0
noncomputable def errOf (l : List Typ) (o : Option Nat) : Int := match o with
  | some k => errIdx l k
  | none => 0
noncomputable def validR (l : List Typ) : Int := if 32 < l.length then 3 else errOf l ((List.range l.length).find? fun k => decide (errIdx l k ≠ 0))
/-- The names seen so far. -/
def seenN (l : List Typ) (k : Nat) : List ByteArray := ((l.take k).map (·.name)).foldl insS []
theorem mem_foldS : ∀ (m s : List ByteArray) (x : ByteArray), x ∈ m.foldl insS s ↔ x ∈ s ∨ x ∈ m
  | [], s, x => by simp
  | y :: m, s, x => by
    rw [List.foldl_cons, mem_foldS m (insS s y) x, mem_insS, List.mem_cons]
    constructor
    · rintro ((h | h) | h)
      · exact .inl h
      · exact .inr (.inl h)
      · exact .inr (.inr h)
    · rintro (h | h | h)
      · exact .inl (.inl h)
      · exact .inl (.inr h)
      · exact .inr h
theorem has_seenN (l : List Typ) (k : Nat) (x : ByteArray) : hasS (seenN l k) x = hasS ((l.take k).map (·.name)) x := by
  rw [Bool.eq_iff_iff, hasS_iff, hasS_iff, seenN, mem_foldS]
  simp
theorem seenN_next {l : List Typ} {k : Nat} {t : Typ} (h : l[k]? = some t) : insS (seenN l k) t.name = seenN l (k + 1) := by
  unfold seenN
  rw [List.take_add_one, h, List.map_append, List.foldl_append]
  rfl
theorem key_used {t : Typ} (h : t.kind = 8) : t.key ∈ usesT t := by simp [usesT, keysT, h]
set_option maxHeartbeats 4000000 in
/-- Valid. -/
theorem r267 (v : Nat) (l : List Typ) (hl : l.length ≤ 2147483648) (ho : ∀ t ∈ l, t.ok) (hs : ∀ t ∈ l, t.short) : res A PrA 267 [.agg [.lst v (l.map Typ.c)]] = some [.int .i64 (validR l)] := by
  refine res_of a267 rfl rfl ?_
  simp only [F267]
  simp (disch := omega) only [go_sem]
  refine Br.ofP (fun c0 => ?_) (fun c0 => ?_) <;> simp (disch := omega) only [go_sem, c0]
  · have : 32 < l.length := by omega
    simp [validR, this]
  have h32 : ¬ 32 < l.length := by omega
  unfold validR
  rw [if_neg h32]
  obtain ⟨G, hG⟩ : ∃ G, errOf l ((List.range l.length).find? fun k => decide (errIdx l k ≠ 0)) = G := ⟨_, rfl⟩
  rw [hG]
  refine W.find (List.range l.length) (fun k => decide (errIdx l k ≠ 0)) (fun k => ⟨[(1, .ptr 1 0), (3, .map 0), (14, .pv (.lst v (l.map Typ.c))), (15, .pv (.int .i64 l.length)), (16, .pv (.int .i64 k))], ⟨[(1, [.pv (.lst v (l.map Typ.c))])], [], [seenS (seenN l k)]⟩⟩) rfl (fun k x hx hk hfd => ?_) (fun hn => ?_)
  · obtain ⟨rfl, hk⟩ := range_get hx
    have hp := List.getElem?_eq_getElem hk
    generalize l[x] = p at hp
    have hm := List.mem_of_getElem? hp
    have h283 := r283 p (ho p hm) (hs p hm)
    have h284 := r284 p (hs p hm)
    have he : errIdx l x = errAt l x p := by simp only [errIdx, hp]
    have hnx := seenN_next hp
    have hsn := has_seenN l x p.name
    have done : ∀ e : Int, errAt l x p = e → e ≠ 0 → (some [PV.int .i64 e] : Option (List PV)) = some [.int .i64 G] := fun e h1 h2 => by
      rw [← hG, (hfd (by rw [he, h1]; simpa using h2)).find, errOf, he, h1]
    rw [he]
    have hul : (usesT p).length ≤ 1048578 := by
      have := (hs p hm).mems
      unfold usesT keysT elemsT
      rw [List.length_append, List.length_append, List.length_map]
      split <;> split <;> simp <;> omega
    unfold Typ.c at h283 h284
    simp (disch := omega) only [go_sem]
    refine Br.ofP (fun c => ?_) (fun c => (c (by omega)).elim)
    simp (disch := omega) only [go_sem, hp, Typ.c, h283]
    refine Br.of (fun c1 => ?_) (fun c1 => ?_) <;> simp (disch := omega) only [go_sem, c1]
    rotate_left
    · exact done 1 (by simp [errAt, c1]) (by decide)
    have nodup : dupName l x p = false → (!ownOk p || dupName l x p) = false := fun h => by rw [c1, h]; rfl
    have dup : dupName l x p = (!decide (p.name = ⟨#[]⟩) && hasS (seenN l x) p.name) := by rw [has_seenN]; rfl
    have hown : (ownOk p) = true := c1
    refine Br.ofP (fun c2 => ?_) (fun c2 => ?_)
    · have d2 : decide (p.name = ⟨#[]⟩) = true := by simp [c2]
      rw [d2] at dup
      have hd := nodup (by rw [dup]; rfl)
      clear c2
      simp (disch := omega) only [go_sem, d2, h284, hnx]
      refine W.find (usesT p) (outR l.length) (fun j => ⟨[(1, .ptr 1 0), (3, .map 0), (5, .ptr 5 0), (14, .pv (.lst v (l.map Typ.c))), (15, .pv (.int .i64 l.length)), (16, .pv (.int .i64 x)), (38, .pv (.lst 0 (ints (usesT p)))), (39, .pv (.int .i64 (usesT p).length)), (40, .pv (.int .i64 j))], ⟨[(1, [.pv (.lst v (l.map Typ.c))]), (5, [.pv (.int .i64 p.kind), .pv (.str p.name), .pv (.int .i64 p.low), .pv (.int .i64 p.high), .pv (.int .i64 p.max), .pv (.lst 0 (p.syms.map Sym.c)), .pv (.lst 0 (p.mems.map Mem.c)), .pv (.int .i64 p.key), .pv (.int .i64 p.elem), .pv (.bool p.opn)])], [], [seenS (seenN l (x + 1))]⟩⟩) rfl (fun j u hu hj hfd2 => ?_) (fun hn => ?_)
      · have d4 : outR l.length u = true → errAt l x p = 4 := fun g => by
          rw [errAt, hd, (hfd2 g).any]
          rfl
        simp (disch := omega) only [go_sem]
        refine Br.ofP (fun c => ?_) (fun c => (c (by omega)).elim)
        simp (disch := omega) only [go_sem, hu]
        refine Br.ofP (fun c4 => ?_) (fun c4 => ?_) <;> simp (disch := omega) only [go_sem, c4]
        · exact done 4 (d4 (by simp [outR, c4])) (by decide)
        refine Br.ofP (fun c5 => ?_) (fun c5 => ?_) <;> simp (disch := omega) only [go_sem, c5]
        · exact done 4 (d4 (by simp [outR, c5])) (by decide)
        · exact findK.of (by simp [outR, c4, c5]) rfl
      · have he2 : errAt l x p = if badKey l p = true then 1 else 0 := by
          rw [errAt, hd, hn.any]
          rfl
        simp (disch := omega) only [go_sem]
        refine Br.ofP (fun c4 => ?_) (fun c4 => ?_)
        · have hku := key_used c4
          have hout := List.any_eq_false.1 hn.any _ hku
          have hk0 : 0 ≤ p.key ∧ p.key < l.length := by
            simp [outR] at hout
            omega
          have hkk := List.getElem?_eq_getElem (l := l) (i := p.key.toNat) (by omega)
          have hka : kindAt l p.key = (l[p.key.toNat]'(by omega)).kind := by rw [kindAt, hkk]; rfl
          generalize l[p.key.toNat]'(by omega) = q at hkk hka
          have d8 : decide (p.kind = 8) = true := by simp [c4]
          have hb : badKey l p = !(decide (1 ≤ q.kind) && decide (q.kind ≤ 4)) := by rw [badKey, d8, hka]; rfl
          have hidx : idxR 10 v (l.map Typ.c) (some p.key) = some (V.pv (.ro v q.c)) := by
            rw [idxR_int _ _ _ hk0.1, List.getElem?_map, hkk]
            rfl
          unfold Typ.c at hidx
          unfold Typ.c
          simp (disch := omega) only [go_sem, d8, hidx]
          refine Br.ofP (fun c6 => ?_) (fun c6 => ?_) <;> simp (disch := omega) only [go_sem, c6]
          · refine done 1 ?_ (by decide)
            have : ¬ 1 ≤ q.kind := by omega
            rw [he2, hb]
            simp [this]
          simp (disch := omega) only [go_sem, hidx]
          refine Br.ofP (fun c7 => ?_) (fun c7 => ?_) <;> simp (disch := omega) only [go_sem, c7]
          · refine done 1 ?_ (by decide)
            have : ¬ q.kind ≤ 4 := by omega
            rw [he2, hb]
            simp [this]
          · refine findK.of ?_ rfl
            have h1 : 1 ≤ q.kind := by omega
            have h2 : q.kind ≤ 4 := by omega
            rw [he2, hb]
            simp [h1, h2]
        · have d8 : decide (p.kind = 8) = false := by simp [c4]
          have hb : badKey l p = false := by rw [badKey, d8]; rfl
          simp (disch := omega) only [go_sem, d8]
          refine findK.of ?_ rfl
          rw [he2, hb]
          rfl
    · have d2 : decide (p.name = ⟨#[]⟩) = false := by simp [c2]
      rw [d2] at dup
      simp (disch := omega) only [go_sem, d2]
      refine Br.of (fun c3 => ?_) (fun c3 => ?_) <;> simp (disch := omega) only [go_sem, c3, h284, hnx]
      · refine done 1 ?_ (by decide)
        rw [errAt, dup, c3]
        simp
      have hd := nodup (by rw [dup, c3]; rfl)
      refine W.find (usesT p) (outR l.length) (fun j => ⟨[(1, .ptr 1 0), (3, .map 0), (5, .ptr 5 0), (14, .pv (.lst v (l.map Typ.c))), (15, .pv (.int .i64 l.length)), (16, .pv (.int .i64 x)), (38, .pv (.lst 0 (ints (usesT p)))), (39, .pv (.int .i64 (usesT p).length)), (40, .pv (.int .i64 j))], ⟨[(1, [.pv (.lst v (l.map Typ.c))]), (5, [.pv (.int .i64 p.kind), .pv (.str p.name), .pv (.int .i64 p.low), .pv (.int .i64 p.high), .pv (.int .i64 p.max), .pv (.lst 0 (p.syms.map Sym.c)), .pv (.lst 0 (p.mems.map Mem.c)), .pv (.int .i64 p.key), .pv (.int .i64 p.elem), .pv (.bool p.opn)])], [], [seenS (seenN l (x + 1))]⟩⟩) rfl (fun j u hu hj hfd2 => ?_) (fun hn => ?_)
      · have d4 : outR l.length u = true → errAt l x p = 4 := fun g => by
          rw [errAt, hd, (hfd2 g).any]
          rfl
        simp (disch := omega) only [go_sem]
        refine Br.ofP (fun c => ?_) (fun c => (c (by omega)).elim)
        simp (disch := omega) only [go_sem, hu]
        refine Br.ofP (fun c4 => ?_) (fun c4 => ?_) <;> simp (disch := omega) only [go_sem, c4]
        · exact done 4 (d4 (by simp [outR, c4])) (by decide)
        refine Br.ofP (fun c5 => ?_) (fun c5 => ?_) <;> simp (disch := omega) only [go_sem, c5]
        · exact done 4 (d4 (by simp [outR, c5])) (by decide)
        · exact findK.of (by simp [outR, c4, c5]) rfl
      · have he2 : errAt l x p = if badKey l p = true then 1 else 0 := by
          rw [errAt, hd, hn.any]
          rfl
        simp (disch := omega) only [go_sem]
        refine Br.ofP (fun c4 => ?_) (fun c4 => ?_)
        · have hku := key_used c4
          have hout := List.any_eq_false.1 hn.any _ hku
          have hk0 : 0 ≤ p.key ∧ p.key < l.length := by
            simp [outR] at hout
            omega
          have hkk := List.getElem?_eq_getElem (l := l) (i := p.key.toNat) (by omega)
          have hka : kindAt l p.key = (l[p.key.toNat]'(by omega)).kind := by rw [kindAt, hkk]; rfl
          generalize l[p.key.toNat]'(by omega) = q at hkk hka
          have d8 : decide (p.kind = 8) = true := by simp [c4]
          have hb : badKey l p = !(decide (1 ≤ q.kind) && decide (q.kind ≤ 4)) := by rw [badKey, d8, hka]; rfl
          have hidx : idxR 10 v (l.map Typ.c) (some p.key) = some (V.pv (.ro v q.c)) := by
            rw [idxR_int _ _ _ hk0.1, List.getElem?_map, hkk]
            rfl
          unfold Typ.c at hidx
          unfold Typ.c
          simp (disch := omega) only [go_sem, d8, hidx]
          refine Br.ofP (fun c6 => ?_) (fun c6 => ?_) <;> simp (disch := omega) only [go_sem, c6]
          · refine done 1 ?_ (by decide)
            have : ¬ 1 ≤ q.kind := by omega
            rw [he2, hb]
            simp [this]
          simp (disch := omega) only [go_sem, hidx]
          refine Br.ofP (fun c7 => ?_) (fun c7 => ?_) <;> simp (disch := omega) only [go_sem, c7]
          · refine done 1 ?_ (by decide)
            have : ¬ q.kind ≤ 4 := by omega
            rw [he2, hb]
            simp [this]
          · refine findK.of ?_ rfl
            have h1 : 1 ≤ q.kind := by omega
            have h2 : q.kind ≤ 4 := by omega
            rw [he2, hb]
            simp [h1, h2]
        · have d8 : decide (p.kind = 8) = false := by simp [c4]
          have hb : badKey l p = false := by rw [badKey, d8]; rfl
          simp (disch := omega) only [go_sem, d8]
          refine findK.of ?_ rfl
          rw [he2, hb]
          rfl
  · rw [hn.find] at hG
    rw [List.length_range]
    simp (disch := omega) only [go_sem]
    rw [← hG]
    rfl
end Go.Pv

/-
  Chapter 07: is a schema valid, as the document says; and the law of it.
-/
namespace Go.Pv

theorem isName_ne {s : ByteArray} (h : isName s = true) : s ≠ ⟨#[]⟩ := by
  rintro rfl
  cases h
theorem plainTy_name {t : Typ} (hn : ¬ (4 ≤ t.kind ∧ t.kind ≤ 6)) : (plainTy t).name = ⟨#[]⟩ := by
  unfold plainTy
  repeat' split
  all_goals first
    | rfl
    | omega
theorem own_name {p : Typ} (h : ownOk p = true) : decide (p.name = ⟨#[]⟩) = !(decide (4 ≤ p.kind) && decide (p.kind ≤ 6)) := by
  unfold ownOk at h
  rw [Bool.and_eq_true, Bool.and_eq_true (eqv p (plainTy p)), Bool.and_eq_true (!(decide (4 ≤ p.kind) && decide (p.kind ≤ 6)) || isName p.name), eqv_iff] at h
  obtain ⟨h1, h2, h3, h4⟩ := h
  by_cases hn : 4 ≤ p.kind ∧ p.kind ≤ 6
  · have e : (decide (4 ≤ p.kind) && decide (p.kind ≤ 6)) = true := by simp [hn]
    rw [e] at h3 ⊢
    have h3 : isName p.name = true := by simpa using h3
    simp [isName_ne h3]
  · have e : (decide (4 ≤ p.kind) && decide (p.kind ≤ 6)) = false := by
      rw [Bool.eq_false_iff]
      simp
      omega
    rw [e]
    have : p.name = ⟨#[]⟩ := by
      rw [h2]
      exact plainTy_name hn
    simp [this]
theorem dup_own {l : List Typ} {k : Nat} {p : Typ} (h : ownOk p = true) : dupName l k p = (l.take k).any fun q => (decide (4 ≤ p.kind) && decide (p.kind ≤ 6)) && decide (q.name = p.name) := by
  unfold dupName
  rw [own_name h, Bool.not_not]
  cases (decide (4 ≤ p.kind) && decide (p.kind ≤ 6)) with
  | false => simp
  | true =>
    simp only [Bool.true_and]
    unfold hasS
    rw [List.any_map]
    rfl
theorem own_kind {p : Typ} (h : ownOk p = true) : p.kind ≤ 9 := by
  unfold ownOk at h
  simp only [Bool.and_eq_true, decide_eq_true_eq] at h
  exact h.1.2
set_option maxHeartbeats 4000000 in
/-- Valid. -/
theorem r268 (v : Nat) (l : List Typ) (hl : l.length ≤ 2147483648) (ho : ∀ t ∈ l, t.ok) (hs : ∀ t ∈ l, t.short) : res A PrA 268 [.agg [.lst v (l.map Typ.c)]] = some [.int .i64 (validR l)] := by
  refine res_of a268 rfl rfl ?_
  simp only [F268]
  simp (disch := omega) only [go_sem]
  refine Br.ofP (fun c0 => ?_) (fun c0 => ?_) <;> simp (disch := omega) only [go_sem, c0]
  · have : 32 < l.length := by omega
    simp [validR, this]
  have h32 : ¬ 32 < l.length := by omega
  unfold validR
  rw [if_neg h32]
  obtain ⟨G, hG⟩ : ∃ G, errOf l ((List.range l.length).find? fun k => decide (errIdx l k ≠ 0)) = G := ⟨_, rfl⟩
  rw [hG]
  refine W.find (List.range l.length) (fun k => decide (errIdx l k ≠ 0)) (fun k => ⟨[(1, .ptr 1 0), (3, .pv (.int .i64 k))], ⟨[(1, [.pv (.lst v (l.map Typ.c))])], [], []⟩⟩) rfl (fun k x hx hk hfd => ?_) (fun hn => ?_)
  · obtain ⟨rfl, hk⟩ := range_get hx
    have hp := List.getElem?_eq_getElem hk
    generalize l[x] = p at hp
    have hm := List.mem_of_getElem? hp
    have h285 := r285 p (ho p hm) (hs p hm)
    have h286 := r286 p.kind
    have he : errIdx l x = errAt l x p := by simp only [errIdx, hp]
    have done : ∀ e : Int, errAt l x p = e → e ≠ 0 → (some [PV.int .i64 e] : Option (List PV)) = some [.int .i64 G] := fun e h1 h2 => by
      rw [← hG, (hfd (by rw [he, h1]; simpa using h2)).find, errOf, he, h1]
    rw [he]
    have hul : (usesT p).length ≤ 1048578 := by
      have := (hs p hm).mems
      unfold usesT keysT elemsT
      rw [List.length_append, List.length_append, List.length_map]
      split <;> split <;> simp <;> omega
    have h287 := fun h9 => r287 p (hs p hm) h9
    unfold Typ.c at h285 h287
    simp (disch := omega) only [go_sem]
    refine Br.ofP (fun c => ?_) (fun c => (c (by omega)).elim)
    simp (disch := omega) only [go_sem, hp, Typ.c, h285]
    refine Br.of (fun c1 => ?_) (fun c1 => ?_) <;> simp (disch := omega) only [go_sem, c1]
    rotate_left
    · exact done 1 (by simp [errAt, c1]) (by decide)
    have h287 := h287 (own_kind c1)
    have hdup := dup_own (l := l) (k := x) c1
    have herr : (!ownOk p || dupName l x p) = dupName l x p := by rw [c1]; rfl
    generalize hnm : (decide (4 ≤ p.kind) && decide (p.kind ≤ 6)) = nm at h286 hdup
    refine W.find (l.take x) (fun q => nm && decide (q.name = p.name)) (fun j => ⟨[(1, .ptr 1 0), (3, .pv (.int .i64 x)), (4, .ptr 4 0), (5, .pv (.int .i64 j))], ⟨[(1, [.pv (.lst v (l.map Typ.c))]), (4, [.pv (.int .i64 p.kind), .pv (.str p.name), .pv (.int .i64 p.low), .pv (.int .i64 p.high), .pv (.int .i64 p.max), .pv (.lst 0 (p.syms.map Sym.c)), .pv (.lst 0 (p.mems.map Mem.c)), .pv (.int .i64 p.key), .pv (.int .i64 p.elem), .pv (.bool p.opn)])], [], []⟩⟩) rfl (fun j q hj hjl hfd2 => ?_) (fun hn => ?_)
    · have hjl' : j < x ∧ j < l.length := by rw [List.length_take] at hjl; omega
      have hj' : l[j]? = some q := by
        rw [List.getElem?_take, if_pos hjl'.1] at hj
        exact hj
      simp (disch := omega) only [go_sem]
      refine Br.ofP (fun c => ?_) (fun c => (c (by omega)).elim)
      simp (disch := omega) only [go_sem, h286]
      refine Br.of (fun c2 => ?_) (fun c2 => ?_)
      · simp (disch := omega) only [go_sem, c2, hj', Typ.c]
        refine Br.ofP (fun c3 => ?_) (fun c3 => ?_) <;> simp (disch := omega) only [go_sem, c3]
        · refine done 1 ?_ (by decide)
          rw [errAt, herr, hdup, (hfd2 (by simp [c2, c3])).any]
          rfl
        · exact findK.of (by simp [c3]) rfl
      · simp (disch := omega) only [go_sem, c2]
        exact findK.of (by simp [c2]) rfl
    · have hlx : (l.take x).length = x := by rw [List.length_take]; omega
      rw [hlx]
      have hd : (!ownOk p || dupName l x p) = false := by rw [herr, hdup, hn.any]
      simp (disch := omega) only [go_sem, h287]
      refine W.find (usesT p) (outR l.length) (fun j => ⟨[(1, .ptr 1 0), (3, .pv (.int .i64 x)), (4, .ptr 4 0), (6, .pv (.lst 0 (ints (usesT p)))), (7, .pv (.int .i64 j))], ⟨[(1, [.pv (.lst v (l.map Typ.c))]), (4, [.pv (.int .i64 p.kind), .pv (.str p.name), .pv (.int .i64 p.low), .pv (.int .i64 p.high), .pv (.int .i64 p.max), .pv (.lst 0 (p.syms.map Sym.c)), .pv (.lst 0 (p.mems.map Mem.c)), .pv (.int .i64 p.key), .pv (.int .i64 p.elem), .pv (.bool p.opn)])], [], []⟩⟩) rfl (fun j u hu hj hfd2 => ?_) (fun hn => ?_)
      · have d4 : outR l.length u = true → errAt l x p = 4 := fun g => by
          rw [errAt, hd, (hfd2 g).any]
          rfl
        simp (disch := omega) only [go_sem]
        refine Br.ofP (fun c => ?_) (fun c => (c (by omega)).elim)
        simp (disch := omega) only [go_sem, hu]
        refine Br.ofP (fun c4 => ?_) (fun c4 => ?_) <;> simp (disch := omega) only [go_sem, c4]
        · exact done 4 (d4 (by simp [outR, c4])) (by decide)
        simp (disch := omega) only [go_sem, hu]
        refine Br.ofP (fun c5 => ?_) (fun c5 => ?_) <;> simp (disch := omega) only [go_sem, c5]
        · exact done 4 (d4 (by simp [outR, c5])) (by decide)
        · exact findK.of (by simp [outR, c4, c5]) rfl
      · have he2 : errAt l x p = if badKey l p = true then 1 else 0 := by
          rw [errAt, hd, hn.any]
          rfl
        simp (disch := omega) only [go_sem]
        refine Br.ofP (fun c4 => ?_) (fun c4 => ?_)
        · have hku := key_used c4
          have hout := List.any_eq_false.1 hn.any _ hku
          have hk0 : 0 ≤ p.key ∧ p.key < l.length := by
            simp [outR] at hout
            omega
          have hkk := List.getElem?_eq_getElem (l := l) (i := p.key.toNat) (by omega)
          have hka : kindAt l p.key = (l[p.key.toNat]'(by omega)).kind := by rw [kindAt, hkk]; rfl
          generalize l[p.key.toNat]'(by omega) = q at hkk hka
          have d8 : decide (p.kind = 8) = true := by simp [c4]
          have hb : badKey l p = !(decide (1 ≤ q.kind) && decide (q.kind ≤ 4)) := by rw [badKey, d8, hka]; rfl
          have hidx : idxR 10 v (l.map Typ.c) (some p.key) = some (V.pv (.ro v q.c)) := by
            rw [idxR_int _ _ _ hk0.1, List.getElem?_map, hkk]
            rfl
          have h288 := r288 q.kind
          generalize (decide (1 ≤ q.kind) && decide (q.kind ≤ 4)) = kk at hb h288
          unfold Typ.c at hidx
          unfold Typ.c
          simp (disch := omega) only [go_sem, d8, hidx, h288]
          refine Br.of (fun c6 => ?_) (fun c6 => ?_) <;> simp (disch := omega) only [go_sem, c6]
          · refine findK.of ?_ rfl
            rw [he2, hb, c6]
            rfl
          · refine done 1 ?_ (by decide)
            rw [he2, hb, c6]
            rfl
        · have d8 : decide (p.kind = 8) = false := by simp [c4]
          have hb : badKey l p = false := by rw [badKey, d8]; rfl
          simp (disch := omega) only [go_sem, d8]
          refine findK.of ?_ rfl
          rw [he2, hb]
          rfl
  · rw [hn.find] at hG
    rw [List.length_range]
    simp (disch := omega) only [go_sem]
    rw [← hG]
    rfl
set_option maxHeartbeats 1000000 in
/-- SchemaValid, given that the chapter is awake. -/
theorem r259 (r265 : res A PrA 265 [] = some [.bool true]) (l : List Typ) (hl : l.length ≤ 1048576) (ho : ∀ t ∈ l, t.ok) (hs : ∀ t ∈ l, t.short) : res A PrA 259 [.agg [.lst 0 (l.map Typ.c)]] = some [.bool true] := by
  refine res_of a259 rfl rfl ?_
  simp only [F259]
  have h266 := fun u => r266 u l ho
  have e1 := fun t => r267 t l (by omega) ho hs
  have e2 := fun t => r268 t l (by omega) ho hs
  generalize few l = f at h266
  generalize validR l = b at e1 e2
  simp (disch := omega) only [go_sem, r265, h266]
  cases f with
  | false => simp (disch := omega) only [go_sem, r265]
  | true => simp (disch := omega) only [go_sem, e1, e2]
end Go.Pv

/-
  Chapter 07: searches; the error of a schema with a type; the types that a type uses, each once.
-/
namespace Go.Pv

theorem s118 (t : Nat) (l : List Int) (x : Int) (hl : l.length ≤ 2 ^ 63 - 1) : res A PrA 118 [.lst t (ints l), .int .i64 x] = some [.int .i64 (firstI (fun y => decide (y = x)) l)] := by
  refine res_of a118 rfl rfl ?_
  simp only [F118]
  simp (disch := omega) only [go_sem]
  refine W.find l (fun y => decide (y = x)) (fun k => ⟨[(0, .pv (.lst t (ints l))), (1, .pv (.int .i64 x)), (7, .pv (.int .i64 l.length)), (8, .pv (.int .i64 k))], ⟨[], [], []⟩⟩) rfl (fun k y hy hk hfd => ?_) (fun hn => ?_)
  · simp (disch := omega) only [go_sem]
    refine Br.ofP (fun c => ?_) (fun c => (c (by omega)).elim)
    simp (disch := omega) only [go_sem, hy]
    refine Br.ofP (fun g => ?_) (fun g => ?_) <;> simp (disch := omega) only [go_sem]
    · rw [(hfd (by simp [g])).firstI]
    · exact findK.of (by simpa using fun e => g e.symm) rfl
  · simp (disch := omega) only [go_sem]
    rw [hn.firstI]
theorem firstI_pos {l : List Int} {x : Int} : 0 ≤ firstI (fun y => decide (y = x)) l ↔ x ∈ l := by
  unfold firstI
  cases h : l.findIdx? (fun y => decide (y = x)) with
  | none =>
    rw [List.findIdx?_eq_none_iff] at h
    constructor
    · intro hh
      exact absurd hh (by decide)
    · intro hx
      have := h x hx
      simp at this
  | some k =>
    rw [List.findIdx?_eq_some_iff_getElem] at h
    obtain ⟨hk, hp, _⟩ := h
    constructor
    · intro _
      have e : l[k] = x := by simpa using hp
      rw [← e]
      exact List.getElem_mem hk
    · intro _
      exact Int.natCast_nonneg k
theorem s110 (t : Nat) (l : List Int) (x : Int) (hl : l.length ≤ 2 ^ 63 - 1) : res A PrA 110 [.lst t (ints l), .int .i64 x] = some [.bool (decide (x ∈ l))] := by
  refine res_of a110 rfl rfl ?_
  simp only [F110]
  have h118 := fun t => s118 t l x hl
  simp (disch := omega) only [go_sem, h118]
  simp only [firstI_pos]
theorem s293 (t : Nat) (l : List Int) (x : Int) (hl : l.length ≤ 2 ^ 63 - 1) : res A PrA 293 [.lst t (ints l), .int .i64 x] = some [.bool (decide (x ∈ l))] := by
  refine res_of a293 rfl rfl ?_
  simp only [F293]
  simp (disch := omega) only [go_sem]
  refine W.find l (fun y => decide (y = x)) (fun k => ⟨[(0, .pv (.lst t (ints l))), (1, .pv (.int .i64 x)), (5, .pv (.int .i64 k))], ⟨[], [], []⟩⟩) rfl (fun k y hy hk hfd => ?_) (fun hn => ?_)
  · simp (disch := omega) only [go_sem]
    refine Br.ofP (fun c => ?_) (fun c => (c (by omega)).elim)
    simp (disch := omega) only [go_sem, hy]
    refine Br.ofP (fun g => ?_) (fun g => ?_) <;> simp (disch := omega) only [go_sem]
    · have : x ∈ l := g ▸ List.mem_of_getElem? hy
      simp [this]
    · exact findK.of (by simpa using g) rfl
  · simp (disch := omega) only [go_sem]
    have : ¬ x ∈ l := fun hx => by simpa using List.any_eq_false.1 hn.any x hx
    simp [this]
theorem eqv_int (a b : Int) : eqv a b = decide (a = b) := by
  rw [Bool.eq_iff_iff, eqv_iff]
  simp
theorem s94 (t u : Nat) (l m : List Int) (hl : l.length ≤ 2 ^ 63 - 1) (_hm : m.length ≤ 2 ^ 63 - 1) : res A PrA 94 [.lst t (ints l), .lst u (ints m)] = some [.bool (eqv l m)] := by
  refine res_of a94 rfl rfl ?_
  simp only [F94]
  simp (disch := omega) only [go_sem]
  refine Br.ofP (fun h => ?_) (fun h => ?_) <;> simp (disch := omega) only [go_sem]
  · refine W.find (l.zip m) (fun q => !eqv q.1 q.2) (fun k => ⟨[(0, .pv (.lst t (ints l))), (1, .pv (.lst u (ints m))), (5, .pv (.int .i64 k))], ⟨[], [], []⟩⟩) rfl (fun k q hq hk hfd => ?_) (fun hn => ?_)
    · obtain ⟨h1, h2⟩ := zip_get hq
      rw [zip_len (by omega)] at hk
      simp (disch := omega) only [go_sem]
      refine Br.ofP (fun c => ?_) (fun c => (c (by omega)).elim)
      simp (disch := omega) only [go_sem, h1, h2]
      rw [← eqv_int]
      refine Br.of (fun g => ?_) (fun g => ?_) <;> simp (disch := omega) only [go_sem]
      · exact findK.of (by rw [g]; rfl) rfl
      · rw [(hfd (by rw [g]; rfl)).ne]
    · have hz : (l.zip m).length = l.length := zip_len (by omega)
      rw [hz]
      simp (disch := omega) only [go_sem]
      rw [hn.eq (by omega), eqv_same]
  · rw [eqv_ne (fun e => h (by rw [e]))]
noncomputable def knownR (l : List Typ) (i : Int) : Int := if validR l ≠ 0 then validR l else if outR l.length i = true then 4 else 0
theorem r291 (v : Nat) (l : List Typ) (i : Int) (hl : l.length ≤ 2147483648) (ho : ∀ t ∈ l, t.ok) (hs : ∀ t ∈ l, t.short) : res A PrA 291 [.agg [.lst v (l.map Typ.c)], .int .i64 i] = some [.int .i64 (knownR l i)] := by
  refine res_of a291 rfl rfl ?_
  simp only [F291]
  have h267 := fun v => r267 v l hl ho hs
  unfold knownR outR
  generalize validR l = e at h267
  simp (disch := omega) only [go_sem, h267]
  refine Br.ofP (fun c => ?_) (fun c => ?_) <;> simp (disch := omega) only [go_sem, c]
  · refine Br.ofP (fun c2 => ?_) (fun c2 => ?_) <;> simp (disch := omega) only [go_sem, c2]
    · simp [c]
    · refine Br.ofP (fun c3 => ?_) (fun c3 => ?_) <;> simp (disch := omega) only [go_sem, c3]
      · simp [c]
      · simp [c, c2]
  · simp [c]
theorem r292 (v : Nat) (l : List Typ) (i : Int) (hl : l.length ≤ 2147483648) (ho : ∀ t ∈ l, t.ok) (hs : ∀ t ∈ l, t.short) : res A PrA 292 [.agg [.lst v (l.map Typ.c)], .int .i64 i] = some [.int .i64 (knownR l i)] := by
  refine res_of a292 rfl rfl ?_
  simp only [F292]
  have h268 := fun v => r268 v l hl ho hs
  unfold knownR outR
  generalize validR l = e at h268
  simp (disch := omega) only [go_sem, h268]
  refine Br.ofP (fun c => ?_) (fun c => ?_) <;> simp (disch := omega) only [go_sem, c]
  · refine Br.ofP (fun c2 => ?_) (fun c2 => ?_) <;> simp (disch := omega) only [go_sem, c2]
    · simp [c]
    · refine Br.ofP (fun c3 => ?_) (fun c3 => ?_) <;> simp (disch := omega) only [go_sem, c3]
      · simp [c]
      · simp [c, c2]
  · simp [c]
end Go.Pv

/-
  Chapter 07: what a type uses, each once, and what is reached.
-/
namespace Go.Pv

def noTyp : Typ := ⟨0, ⟨#[]⟩, 0, 0, 0, [], [], 0, 0, false⟩
def typAt (l : List Typ) (i : Int) : Typ := (l[i.toNat]?).getD noTyp
/-- What is known of a schema that is known to be valid. -/
structure Sane (l : List Typ) : Prop where
  len : l.length ≤ 32
  own : ∀ t ∈ l, ownOk t = true
  uses : ∀ t ∈ l, ∀ u ∈ usesT t, 0 ≤ u ∧ u < l.length
theorem valid_sane {l : List Typ} (h : validR l = 0) : Sane l := by
  unfold validR at h
  split at h
  · cases h
  · rename_i hl
    have hz : ∀ k, k < l.length → errIdx l k = 0 := by
      cases hf : (List.range l.length).find? (fun k => decide (errIdx l k ≠ 0)) with
      | none =>
        intro k hk
        have := List.find?_eq_none.1 hf k (List.mem_range.2 hk)
        simpa using this
      | some k =>
        rw [hf] at h
        have := List.find?_some hf
        simp only [errOf] at h
        simp [h] at this
    have hone : ∀ t ∈ l, ownOk t = true ∧ (usesT t).any (outR l.length) = false := by
      intro t ht
      obtain ⟨k, hk⟩ := List.mem_iff_getElem?.1 ht
      have := hz k (List.getElem?_eq_some_iff.1 hk).1
      simp only [errIdx, hk, errAt] at this
      split at this
      · cases this
      · rename_i h1
        split at this
        · cases this
        · rename_i h2
          simp only [Bool.or_eq_true, Bool.not_eq_true', not_or, Bool.not_eq_false] at h1
          exact ⟨h1.1, by simpa using h2⟩
    refine ⟨by omega, fun t ht => (hone t ht).1, fun t ht u hu => ?_⟩
    have := List.any_eq_false.1 (hone t ht).2 u hu
    simp [outR] at this
    omega
theorem known_zero {l : List Typ} {i : Int} (h : knownR l i = 0) : validR l = 0 ∧ 0 ≤ i ∧ i < l.length := by
  unfold knownR at h
  split at h
  · rename_i h1
    exact absurd h h1
  · rename_i h1
    split at h
    · cases h
    · rename_i h2
      simp only [outR, Bool.or_eq_true, decide_eq_true_eq, not_or] at h2
      exact ⟨by omega, by omega, by omega⟩
theorem typAt_get {l : List Typ} {i : Int} (h0 : 0 ≤ i) (h : i < l.length) : l[i.toNat]? = some (typAt l i) := by
  have := List.getElem?_eq_getElem (l := l) (i := i.toNat) (by omega)
  rw [typAt, this]
  rfl
theorem uses_len {t : Typ} (h : t.short) : (usesT t).length ≤ 1048578 := by
  have := h.mems
  unfold usesT keysT elemsT
  rw [List.length_append, List.length_append, List.length_map]
  split <;> split <;> simp <;> omega
noncomputable def usesR (l : List Typ) (i : Int) : List Int × Int := if knownR l i ≠ 0 then ([], knownR l i) else (addL [] (usesT (typAt l i)), 0)
theorem addN_len (o : List Int) (x : Int) : (addN o x).length ≤ o.length + 1 := by
  unfold addN
  split
  · omega
  · simp
theorem idx_typ {v : Nat} {l : List Typ} {i : Int} (h0 : 0 ≤ i) (h : i < l.length) : idxR 10 v (l.map Typ.c) (some i) = some (V.pv (.ro v (typAt l i).c)) := by
  rw [idxR_int _ _ _ h0, List.getElem?_map, typAt_get h0 h]
  rfl
set_option maxHeartbeats 2000000 in
/-- Uses. -/
theorem r271 (v : Nat) (l : List Typ) (i : Int) (hl : l.length ≤ 2147483648) (ho : ∀ t ∈ l, t.ok) (hs : ∀ t ∈ l, t.short) : res A PrA 271 [.agg [.lst v (l.map Typ.c)], .int .i64 i] = some [.lst 0 (ints (usesR l i).1), .int .i64 (usesR l i).2] := by
  refine res_of a271 rfl rfl ?_
  simp only [F271]
  have h291 := fun v => r291 v l i hl ho hs
  unfold usesR
  simp (disch := omega) only [go_sem, h291]
  refine Br.ofP (fun c => ?_) (fun c => ?_) <;> simp (disch := omega) only [go_sem, c]
  rotate_left
  · simp [c, ints]
  obtain ⟨hv, hi0, hin⟩ := known_zero c
  rw [if_neg (by simp [c])]
  have hget := typAt_get hi0 hin
  have hidx := idx_typ (v := v) hi0 hin
  have h284 := r284 (typAt l i) (hs _ (List.mem_of_getElem? hget))
  have hul := uses_len (hs _ (List.mem_of_getElem? hget))
  generalize typAt l i = p at *
  unfold Typ.c at h284 hidx
  unfold Typ.c
  simp (disch := omega) only [go_sem, hidx, h284]
  refine W.fold (usesT p) addN [] (fun k o => ⟨[(7, grV 0 (ints o)), (21, .pv (.lst 0 (ints (usesT p)))), (22, .pv (.int .i64 (usesT p).length)), (23, .pv (.int .i64 k))], ⟨[], grA 1 (ints o), []⟩⟩) (fun k o => o.length ≤ k) rfl (Nat.le_refl 0) (fun k u o hu hk _ hI => ?_) (fun o hacc hI => ?_)
  · have h110 := fun t => s110 t o u (by omega)
    have hI2 : (addN o u).length ≤ k + 1 := Nat.le_trans (addN_len o u) (by omega)
    simp (disch := omega) only [go_sem]
    refine Br.ofP (fun c => ?_) (fun c => (c (by omega)).elim)
    simp (disch := omega) only [go_sem, hu, h110]
    refine Br.ofP (fun c2 => ?_) (fun c2 => ?_) <;> simp (disch := omega) only [go_sem, c2]
    · refine foldK.of ?_ hI2
      show _ = St.mk _ _
      rw [addN, if_pos c2]
      rfl
    · refine foldK.of ?_ hI2
      show _ = St.mk _ _
      rw [addN, if_neg c2]
      rfl
  · simp (disch := omega) only [go_sem]
    rw [hacc]
    rfl
set_option maxHeartbeats 2000000 in
/-- Uses, of the document. -/
theorem r272 (v : Nat) (l : List Typ) (i : Int) (hl : l.length ≤ 2147483648) (ho : ∀ t ∈ l, t.ok) (hs : ∀ t ∈ l, t.short) : res A PrA 272 [.agg [.lst v (l.map Typ.c)], .int .i64 i] = some [.lst 0 (ints (usesR l i).1), .int .i64 (usesR l i).2] := by
  refine res_of a272 rfl rfl ?_
  simp only [F272]
  have h292 := fun v => r292 v l i hl ho hs
  unfold usesR
  simp (disch := omega) only [go_sem, h292]
  refine Br.ofP (fun c => ?_) (fun c => ?_) <;> simp (disch := omega) only [go_sem, c]
  rotate_left
  · simp [c, ints]
  obtain ⟨hv, hi0, hin⟩ := known_zero c
  rw [if_neg (by simp [c])]
  have hget := typAt_get hi0 hin
  have hidx := idx_typ (v := v) hi0 hin
  have h287 := r287 (typAt l i) (hs _ (List.mem_of_getElem? hget)) (own_kind ((valid_sane hv).own _ (List.mem_of_getElem? hget)))
  have hul := uses_len (hs _ (List.mem_of_getElem? hget))
  generalize typAt l i = p at *
  unfold Typ.c at h287 hidx
  unfold Typ.c
  simp (disch := omega) only [go_sem, hidx, h287]
  refine W.fold (usesT p) addN [] (fun k o => ⟨[(7, .pv (.lst 0 (ints (usesT p)))), (8, grV 0 (ints o)), (9, .pv (.int .i64 k))], ⟨[], grA 1 (ints o), []⟩⟩) (fun k o => o.length ≤ k) rfl (Nat.le_refl 0) (fun k u o hu hk _ hI => ?_) (fun o hacc hI => ?_)
  · have h293 := fun t => s293 t o u (by omega)
    have hI2 : (addN o u).length ≤ k + 1 := Nat.le_trans (addN_len o u) (by omega)
    simp (disch := omega) only [go_sem]
    refine Br.ofP (fun c => ?_) (fun c => (c (by omega)).elim)
    simp (disch := omega) only [go_sem, hu, h293]
    refine Br.ofP (fun c2 => ?_) (fun c2 => ?_) <;> simp (disch := omega) only [go_sem, c2]
    · refine foldK.of ?_ hI2
      show _ = St.mk _ _
      rw [addN, if_pos c2]
      rfl
    · simp (disch := omega) only [go_sem, hu]
      refine foldK.of ?_ hI2
      show _ = St.mk _ _
      rw [addN, if_neg c2]
      rfl
  · simp (disch := omega) only [go_sem]
    rw [hacc]
    rfl
end Go.Pv

/-
  Chapter 07: what is reached from a type.
-/
namespace Go.Pv

def nxT (l : List Typ) (u : Int) : List Int := usesT (typAt l u)
def inT (l : List Typ) (u : Int) : Prop := 0 ≤ u ∧ u < l.length
def reachL (l : List Typ) (i : Int) : List Int := bfs (nxT l) l.length 0 [i]
noncomputable def reachR (l : List Typ) (i : Int) : List Int × Int := if knownR l i ≠ 0 then ([], knownR l i) else (isort ltI (reachL l i), 0)
theorem Sane.next {l : List Typ} (h : Sane l) : ∀ v, inT l v → ∀ x ∈ nxT l v, inT l x := fun _v hv x hx =>
  h.uses _ (List.mem_of_getElem? (typAt_get hv.1 hv.2)) x hx
theorem inT_bound {l : List Typ} (o : List Int) (hd : o.Nodup) (h : ∀ v ∈ o, inT l v) : o.length ≤ l.length := nodup_bound hd h
set_option maxHeartbeats 4000000 in
/-- Reachable. -/
theorem r273 (v : Nat) (l : List Typ) (i : Int) (hl : l.length ≤ 2147483648) (ho : ∀ t ∈ l, t.ok) (hs : ∀ t ∈ l, t.short) : res A PrA 273 [.agg [.lst v (l.map Typ.c)], .int .i64 i] = some [.lst 0 (ints (reachR l i).1), .int .i64 (reachR l i).2] := by
  refine res_of a273 rfl rfl ?_
  simp only [F273]
  have h291 := fun v => r291 v l i hl ho hs
  unfold reachR
  simp (disch := omega) only [go_sem, h291]
  refine Br.ofP (fun c => ?_) (fun c => ?_) <;> simp (disch := omega) only [go_sem, c]
  rotate_left
  · simp [c, ints]
  obtain ⟨hv, hi0, hin⟩ := known_zero c
  rw [if_neg (by simp [c])]
  have hsane := valid_sane hv
  have h32 := hsane.len
  refine W.loop (α := Nat × List Int) (fun x => ⟨[(2, .ptr 2 0), (7, glV 0 1 (ints x.2)), (8, .pv (.int .i64 x.1))], ⟨[(2, [.pv (.lst v (l.map Typ.c))])], glA 1 1 (ints x.2), []⟩⟩)
    (fun x => x.2.Nodup ∧ (∀ v ∈ x.2, inT l v) ∧ 1 ≤ x.2.length ∧ x.1 ≤ x.2.length ∧ bfs (nxT l) (l.length - x.1) x.1 x.2 = reachL l i) (fun x => l.length - x.1) (0, [i]) rfl ⟨by simp, fun w hw => (List.mem_singleton.1 hw) ▸ ⟨hi0, hin⟩, by simp, by simp, rfl⟩ fun x hx => ?_
  obtain ⟨j, o⟩ := x
  obtain ⟨hd, hin', h1, h2, hb⟩ := hx
  dsimp only at hd hin' h1 h2 hb
  have hlen := inT_bound o hd hin'
  simp (disch := omega) only [go_sem]
  refine Br.ofP (fun h => ?_) (fun h => ?_)
  · have hw := List.getElem?_eq_getElem (l := o) (i := j) (by omega)
    generalize o[j]'(by omega) = w at hw
    obtain ⟨hw0, hw1⟩ := hin' w (List.mem_of_getElem? hw)
    have hget := typAt_get hw0 hw1
    have hidx := idx_typ (v := v) hw0 hw1
    have h284 := r284 (typAt l w) (hs _ (List.mem_of_getElem? hget))
    have hul := uses_len (hs _ (List.mem_of_getElem? hget))
    have hnx : nxT l w = usesT (typAt l w) := rfl
    have huses := hsane.uses _ (List.mem_of_getElem? hget)
    generalize typAt l w = p at *
    unfold Typ.c at h284 hidx
    unfold Typ.c at *
    have inner : ∀ (k : Nat) (o : List Int), (o.Nodup ∧ (∀ v ∈ o, inT l v) ∧ 1 ≤ o.length ∧ j < o.length) → ∀ u ∈ usesT p, (addN o u).Nodup ∧ (∀ v ∈ addN o u, inT l v) ∧ 1 ≤ (addN o u).length ∧ j < (addN o u).length := by
      rintro k o ⟨g1, g2, g3, g4⟩ u hu
      obtain ⟨r, hr⟩ := addN_pre o u
      refine ⟨addN_nodup g1, fun x hx => (addN_mem.1 hx).elim (g2 x) (fun q => q ▸ huses u hu), by rw [← hr, List.length_append]; omega, by rw [← hr, List.length_append]; omega⟩
    have hgl := gl_cases (b := 1) (rows := ints o)
    have hVA : ∃ V0 A0, glV 0 1 (ints o) = V0 ∧ glA 1 1 (ints o) = A0 ∧ ((V0 = .tl (ints o) ∧ A0 = []) ∨ ∃ m, (ints o).length = 1 + m + 1 ∧ V0 = .own 0 m 0 (1 + m + 1) ∧ A0 = [⟨m, 1, .inl (ints o)⟩]) := by
      rcases hgl with hc | ⟨m, hc⟩
      · exact ⟨_, _, glV_lit hc, glA_lit hc, .inl ⟨rfl, rfl⟩⟩
      · exact ⟨_, _, glV_own hc, glA_own hc, .inr ⟨m, hc, rfl, rfl⟩⟩
    obtain ⟨V0, A0, hV0, hA0, hcase⟩ := hVA
    rw [hV0, hA0]
    rcases hcase with ⟨e1, e2⟩ | ⟨m, hc, e1, e2⟩
    all_goals rw [e1] at hV0 ⊢
    all_goals rw [e2] at hA0 ⊢
    all_goals try rw [ints_length] at hc
    all_goals simp (disch := omega) only [go_sem, hw, hidx, h284]
    all_goals
      refine W.fold (usesT p) addN o (fun k o => ⟨[(2, .ptr 2 0), (7, glV 0 1 (ints o)), (8, .pv (.int .i64 j)), (33, .pv (.lst 0 (ints (usesT p)))), (34, .pv (.int .i64 (usesT p).length)), (35, .pv (.int .i64 k))], ⟨[(2, [.pv (.lst v (l.map Typ.c))])], glA 1 1 (ints o), []⟩⟩)
        (fun _ o => o.Nodup ∧ (∀ v ∈ o, inT l v) ∧ 1 ≤ o.length ∧ j < o.length) ?_ ⟨hd, hin', h1, by omega⟩ (fun k u o hu hk _ hI => ?_) (fun o hacc hI => ?_)
      · show _ = St.mk _ _
        rw [hV0, hA0]
        rfl
      · have hI2 := inner k o hI u (List.mem_of_getElem? hu)
        obtain ⟨g1, g2, g3, g4⟩ := hI
        have hlen := inT_bound o g1 g2
        have h110 := fun t => s110 t o u (by omega)
        simp (disch := omega) only [go_sem]
        refine Br.ofP (fun c => ?_) (fun c => (c (by omega)).elim)
        simp (disch := omega) only [go_sem, hu, h110]
        refine Br.ofP (fun c2 => ?_) (fun c2 => ?_) <;> simp (disch := omega) only [go_sem, c2]
        · refine foldK.of ?_ hI2
          show _ = St.mk _ _
          rw [addN, if_pos c2]
          rfl
        · rcases gl_cases (b := 1) (rows := ints o) with hc | ⟨m, hc⟩
          · rw [glV_lit hc, glA_lit hc]
            rw [ints_length] at hc
            simp (disch := omega) only [go_sem]
            refine foldK.of ?_ hI2
            show _ = St.mk _ _
            rw [addN, if_neg c2, glV_intsS g3, glA_intsS g3, show o.length - 1 = 0 by omega]
            rfl
          · rw [glV_own hc, glA_own hc]
            rw [ints_length] at hc
            simp (disch := omega) only [go_sem]
            refine foldK.of ?_ hI2
            show _ = St.mk _ _
            rw [addN, if_neg c2, glV_intsS g3, glA_intsS g3, show o.length - 1 = m + 1 by omega, hc]
            rfl
      · obtain ⟨g1, g2, g3, g4⟩ := hI
        simp (disch := omega) only [go_sem]
        refine ⟨(j + 1, o), ⟨g1, g2, g3, g4, ?_⟩, by dsimp only; omega, rfl⟩
        dsimp only
        rw [← hb, hacc]
        obtain ⟨q, hq⟩ : ∃ q, l.length - j = q + 1 := ⟨l.length - j - 1, by omega⟩
        rw [hq, bfs_step hw, hnx]
        congr 1
        omega
  · rw [bfs_end (by omega)] at hb
    rw [← hb]
    rcases gl_cases (b := 1) (rows := ints o) with hc | ⟨m, hc⟩
    · have hc1 : o.length = 1 := by rw [ints_length] at hc; omega
      rw [glV_lit hc, glA_lit hc]
      obtain ⟨y, rfl⟩ := List.length_eq_one_iff.1 hc1
      simp (disch := omega) only [go_sem, ints, List.map_cons, List.map_nil]
      rfl
    · rw [glV_own hc, glA_own hc]
      rw [ints_length] at hc
      simp (disch := omega) only [go_sem]
      rw [List.take_of_length_le (by rw [isort_lenS]; omega)]
end Go.Pv

/-
  Chapter 07: what is reached from a type, as the document says; the law of Uses and Reachable.
-/
namespace Go.Pv

/-- Of the numbers from 0 on those that a list has. -/
def pickI (o : List Int) (n : Nat) : List Int := ((List.range n).filter fun (k : Nat) => decide ((k : Int) ∈ o)).map fun (k : Nat) => (k : Int)
theorem pickI_len (o : List Int) (n : Nat) : (pickI o n).length ≤ n := by
  unfold pickI
  rw [List.length_map]
  exact Nat.le_trans (List.length_filter_le _ _) (by simp)
theorem pickI_succ (o : List Int) (n : Nat) : pickI o (n + 1) = if (n : Int) ∈ o then pickI o n ++ [(n : Int)] else pickI o n := by
  unfold pickI
  rw [List.range_succ, List.filter_append, List.map_append]
  by_cases h : (n : Int) ∈ o
  · simp [h]
  · simp [h]
theorem pickI_mem {o : List Int} {n : Nat} {x : Int} : x ∈ pickI o n ↔ x ∈ o ∧ 0 ≤ x ∧ x < n := by
  unfold pickI
  simp only [List.mem_map, List.mem_filter, List.mem_range, decide_eq_true_eq]
  constructor
  · rintro ⟨k, ⟨h1, h2⟩, rfl⟩
    exact ⟨h2, by omega, by omega⟩
  · rintro ⟨h1, h2, h3⟩
    exact ⟨x.toNat, ⟨by omega, by rw [Int.toNat_of_nonneg h2]; exact h1⟩, by omega⟩
theorem pickI_asc (o : List Int) (n : Nat) : (pickI o n).Pairwise (· < ·) := by
  unfold pickI
  rw [List.pairwise_map]
  have : (List.range n).Pairwise (· < ·) := List.pairwise_lt_range
  exact (this.filter _).imp (fun h => by omega)
theorem isort_asc {o : List Int} (hd : o.Nodup) : (isort ltI o).Pairwise (· < ·) := by
  have h1 := isort_sorted o
  have h2 : (isort ltI o).Nodup := (isort_perm ltI o).nodup_iff.2 hd
  exact List.Pairwise.imp₂ (fun a b h h' => by omega) h1 h2
theorem pickI_all {l : List Typ} {o : List Int} (hd : o.Nodup) (hin : ∀ v ∈ o, inT l v) : pickI o l.length = isort ltI o := by
  refine asc_ext (pickI_asc o _) (isort_asc hd) fun x => ?_
  rw [pickI_mem, (isort_perm ltI o).mem_iff]
  exact ⟨fun h => h.1, fun h => ⟨h, hin x h⟩⟩
set_option maxHeartbeats 4000000 in
/-- Reachable, of the document. -/
theorem r274 (v : Nat) (l : List Typ) (i : Int) (hl : l.length ≤ 2147483648) (ho : ∀ t ∈ l, t.ok) (hs : ∀ t ∈ l, t.short) : res A PrA 274 [.agg [.lst v (l.map Typ.c)], .int .i64 i] = some [.lst 0 (ints (reachR l i).1), .int .i64 (reachR l i).2] := by
  refine res_of a274 rfl rfl ?_
  simp only [F274]
  have h292 := fun v => r292 v l i hl ho hs
  unfold reachR
  simp (disch := omega) only [go_sem, h292]
  refine Br.ofP (fun c => ?_) (fun c => ?_) <;> simp (disch := omega) only [go_sem, c]
  rotate_left
  · simp [c, ints]
  obtain ⟨hv, hi0, hin⟩ := known_zero c
  rw [if_neg (by simp [c])]
  have hsane := valid_sane hv
  have h32 := hsane.len
  refine W.loop (α := Nat × List Int) (fun x => ⟨[(2, .ptr 2 0), (7, glV 0 1 (ints x.2)), (8, .pv (.int .i64 x.1))], ⟨[(2, [.pv (.lst v (l.map Typ.c))])], glA 1 1 (ints x.2), []⟩⟩)
    (fun x => x.2.Nodup ∧ (∀ v ∈ x.2, inT l v) ∧ 1 ≤ x.2.length ∧ x.1 ≤ x.2.length ∧ bfs (nxT l) (l.length - x.1) x.1 x.2 = reachL l i) (fun x => l.length - x.1) (0, [i]) rfl ⟨by simp, fun w hw => (List.mem_singleton.1 hw) ▸ ⟨hi0, hin⟩, by simp, by simp, rfl⟩ fun x hx => ?_
  obtain ⟨j, o⟩ := x
  obtain ⟨hd, hin', h1, h2, hb⟩ := hx
  dsimp only at hd hin' h1 h2 hb
  have hlen := inT_bound o hd hin'
  simp (disch := omega) only [go_sem]
  refine Br.ofP (fun h => ?_) (fun h => ?_)
  · have hw := List.getElem?_eq_getElem (l := o) (i := j) (by omega)
    generalize o[j]'(by omega) = w at hw
    obtain ⟨hw0, hw1⟩ := hin' w (List.mem_of_getElem? hw)
    have hget := typAt_get hw0 hw1
    have hidx := idx_typ (v := v) hw0 hw1
    have h287 := r287 (typAt l w) (hs _ (List.mem_of_getElem? hget)) (own_kind (hsane.own _ (List.mem_of_getElem? hget)))
    have hul := uses_len (hs _ (List.mem_of_getElem? hget))
    have hnx : nxT l w = usesT (typAt l w) := rfl
    have huses := hsane.uses _ (List.mem_of_getElem? hget)
    generalize typAt l w = p at *
    unfold Typ.c at h287 hidx
    unfold Typ.c at *
    have inner : ∀ (k : Nat) (o : List Int), (o.Nodup ∧ (∀ v ∈ o, inT l v) ∧ 1 ≤ o.length ∧ j < o.length) → ∀ u ∈ usesT p, (addN o u).Nodup ∧ (∀ v ∈ addN o u, inT l v) ∧ 1 ≤ (addN o u).length ∧ j < (addN o u).length := by
      rintro k o ⟨g1, g2, g3, g4⟩ u hu
      obtain ⟨r, hr⟩ := addN_pre o u
      refine ⟨addN_nodup g1, fun x hx => (addN_mem.1 hx).elim (g2 x) (fun q => q ▸ huses u hu), by rw [← hr, List.length_append]; omega, by rw [← hr, List.length_append]; omega⟩
    have hgl := gl_cases (b := 1) (rows := ints o)
    have hVA : ∃ V0 A0, glV 0 1 (ints o) = V0 ∧ glA 1 1 (ints o) = A0 ∧ ((V0 = .tl (ints o) ∧ A0 = []) ∨ ∃ m, (ints o).length = 1 + m + 1 ∧ V0 = .own 0 m 0 (1 + m + 1) ∧ A0 = [⟨m, 1, .inl (ints o)⟩]) := by
      rcases hgl with hc | ⟨m, hc⟩
      · exact ⟨_, _, glV_lit hc, glA_lit hc, .inl ⟨rfl, rfl⟩⟩
      · exact ⟨_, _, glV_own hc, glA_own hc, .inr ⟨m, hc, rfl, rfl⟩⟩
    obtain ⟨V0, A0, hV0, hA0, hcase⟩ := hVA
    rw [hV0, hA0]
    rcases hcase with ⟨e1, e2⟩ | ⟨m, hc, e1, e2⟩
    all_goals rw [e1] at hV0 ⊢
    all_goals rw [e2] at hA0 ⊢
    all_goals try rw [ints_length] at hc
    all_goals simp (disch := omega) only [go_sem, hw, hidx, h287]
    all_goals
      refine W.fold (usesT p) addN o (fun k o => ⟨[(2, .ptr 2 0), (7, glV 0 1 (ints o)), (8, .pv (.int .i64 j)), (9, .pv (.lst 0 (ints (usesT p)))), (10, .pv (.int .i64 k))], ⟨[(2, [.pv (.lst v (l.map Typ.c))])], glA 1 1 (ints o), []⟩⟩)
        (fun _ o => o.Nodup ∧ (∀ v ∈ o, inT l v) ∧ 1 ≤ o.length ∧ j < o.length) ?_ ⟨hd, hin', h1, by omega⟩ (fun k u o hu hk _ hI => ?_) (fun o hacc hI => ?_)
      · show _ = St.mk _ _
        rw [hV0, hA0]
        rfl
      · have hI2 := inner k o hI u (List.mem_of_getElem? hu)
        obtain ⟨g1, g2, g3, g4⟩ := hI
        have hlen := inT_bound o g1 g2
        have h293 := fun t => s293 t o u (by omega)
        simp (disch := omega) only [go_sem]
        refine Br.ofP (fun c => ?_) (fun c => (c (by omega)).elim)
        simp (disch := omega) only [go_sem, hu, h293]
        refine Br.ofP (fun c2 => ?_) (fun c2 => ?_) <;> simp (disch := omega) only [go_sem, c2]
        · refine foldK.of ?_ hI2
          show _ = St.mk _ _
          rw [addN, if_pos c2]
          rfl
        · rcases gl_cases (b := 1) (rows := ints o) with hc | ⟨m, hc⟩
          · rw [glV_lit hc, glA_lit hc]
            rw [ints_length] at hc
            simp (disch := omega) only [go_sem, hu]
            refine foldK.of ?_ hI2
            show _ = St.mk _ _
            rw [addN, if_neg c2, glV_intsS g3, glA_intsS g3, show o.length - 1 = 0 by omega]
            rfl
          · rw [glV_own hc, glA_own hc]
            rw [ints_length] at hc
            simp (disch := omega) only [go_sem, hu]
            refine foldK.of ?_ hI2
            show _ = St.mk _ _
            rw [addN, if_neg c2, glV_intsS g3, glA_intsS g3, show o.length - 1 = m + 1 by omega, hc]
            rfl
      · obtain ⟨g1, g2, g3, g4⟩ := hI
        simp (disch := omega) only [go_sem]
        refine ⟨(j + 1, o), ⟨g1, g2, g3, g4, ?_⟩, by dsimp only; omega, rfl⟩
        dsimp only
        rw [← hb, hacc]
        obtain ⟨q, hq⟩ : ∃ q, l.length - j = q + 1 := ⟨l.length - j - 1, by omega⟩
        rw [hq, bfs_step hw, hnx]
        congr 1
        omega
  · rw [bfs_end (by omega)] at hb
    rw [← hb]
    rcases gl_cases (b := 1) (rows := ints o) with hc | ⟨m, hc⟩
    · rw [glV_lit hc, glA_lit hc]
      rw [ints_length] at hc
      simp (disch := omega) only [go_sem]
      refine W.upto l.length (fun k => ⟨[(2, .ptr 2 0), (7, .tl (ints o)), (11, grV 0 (ints (pickI o k))), (12, .pv (.int .i64 k))], ⟨[(2, [.pv (.lst v (l.map Typ.c))])], grA 1 (ints (pickI o k)), []⟩⟩) (fun _ => True) rfl trivial (fun k hk _ => ?_)
      have hpl := pickI_len o k
      have hps := pickI_succ o k
      have h293 := fun t => s293 t o (k : Int) (by omega)
      simp (disch := omega) only [go_sem]
      refine Br.ofP (fun c => ?_) (fun c => ?_) <;> simp (disch := omega) only [go_sem, h293]
      · refine Br.ofP (fun c2 => ?_) (fun c2 => ?_) <;> simp (disch := omega) only [go_sem, c2]
        · refine .of (by omega) ?_ trivial
          rw [hps, if_pos c2]
          rfl
        · refine .of (by omega) ?_ trivial
          rw [hps, if_neg c2]
          rfl
      · obtain rfl : k = l.length := by omega
        rw [pickI_all hd hin']
    · rw [glV_own hc, glA_own hc]
      rw [ints_length] at hc
      simp (disch := omega) only [go_sem]
      refine W.upto l.length (fun k => ⟨[(2, .ptr 2 0), (7, .own 0 m 0 (1 + m + 1)), (11, grV 1 (ints (pickI o k))), (12, .pv (.int .i64 k))], ⟨[(2, [.pv (.lst v (l.map Typ.c))])], ⟨m, 1, .inl (ints o)⟩ :: grA 1 (ints (pickI o k)), []⟩⟩) (fun _ => True) rfl trivial (fun k hk _ => ?_)
      have hpl := pickI_len o k
      have hps := pickI_succ o k
      have h293 := fun t => s293 t o (k : Int) (by omega)
      have ht : o.take (1 + m + 1) = o := List.take_of_length_le (by omega)
      simp (disch := omega) only [go_sem]
      refine Br.ofP (fun c => ?_) (fun c => ?_) <;> simp (disch := omega) only [go_sem, h293, ht]
      · refine Br.ofP (fun c2 => ?_) (fun c2 => ?_) <;> simp (disch := omega) only [go_sem, c2]
        · refine .of (by omega) ?_ trivial
          rw [hps, if_pos c2]
          rfl
        · refine .of (by omega) ?_ trivial
          rw [hps, if_neg c2]
          rfl
      · obtain rfl : k = l.length := by omega
        rw [pickI_all hd hin']
theorem addL_len : ∀ (l o : List Int), (addL o l).length ≤ o.length + l.length
  | [], o => Nat.le_refl _
  | x :: l, o => by
    rw [addL_cons]
    have h1 := addL_len l (addN o x)
    have h2 := addN_len o x
    rw [List.length_cons]
    omega
theorem usesR_len {l : List Typ} {i : Int} (hs : ∀ t ∈ l, t.short) : (usesR l i).1.length ≤ 1048578 := by
  unfold usesR
  split
  · exact Nat.zero_le _
  · rename_i h
    obtain ⟨_, h0, h1⟩ := known_zero (l := l) (i := i) (by simpa using h)
    have := addL_len (usesT (typAt l i)) []
    have h2 := uses_len (hs _ (List.mem_of_getElem? (typAt_get h0 h1)))
    simp only [List.length_nil] at this
    show (addL [] (usesT (typAt l i))).length ≤ _
    omega
theorem reachR_in {l : List Typ} {i : Int} (h : knownR l i = 0) : (reachL l i).Nodup ∧ ∀ v ∈ reachL l i, inT l v := by
  obtain ⟨hv, h0, h1⟩ := known_zero h
  exact ⟨bfs_nodup _ _ (by simp), bfs_all (valid_sane hv).next _ _ (fun v hv => (List.mem_singleton.1 hv) ▸ ⟨h0, h1⟩)⟩
theorem reachR_len {l : List Typ} {i : Int} : (reachR l i).1.length ≤ l.length := by
  unfold reachR
  split
  · exact Nat.zero_le _
  · rename_i h
    obtain ⟨h1, h2⟩ := reachR_in (l := l) (i := i) (by simpa using h)
    show (isort ltI (reachL l i)).length ≤ _
    rw [isort_lenS]
    exact inT_bound _ h1 h2
set_option maxHeartbeats 1000000 in
/-- SchemaUses, given that the chapter is awake. -/
theorem r261 (r265 : res A PrA 265 [] = some [.bool true]) (l : List Typ) (i : Int) (hl : l.length ≤ 1048576) (ho : ∀ t ∈ l, t.ok) (hs : ∀ t ∈ l, t.short) : res A PrA 261 [.agg [.lst 0 (l.map Typ.c)], .int .i64 i] = some [.bool true] := by
  refine res_of a261 rfl rfl ?_
  simp only [F261]
  have h266 := fun u => r266 u l ho
  have e1 := fun t => r271 t l i (by omega) ho hs
  have e2 := fun t => r272 t l i (by omega) ho hs
  have e3 := fun t => r273 t l i (by omega) ho hs
  have e4 := fun t => r274 t l i (by omega) ho hs
  have l1 : (usesR l i).1.length ≤ 2 ^ 63 - 1 := Nat.le_trans (usesR_len hs) (by decide)
  have l2 : (reachR l i).1.length ≤ 2 ^ 63 - 1 := Nat.le_trans reachR_len (by omega)
  have h94 := fun t u => s94 t u (usesR l i).1 (usesR l i).1 l1 l1
  have h94' := fun t u => s94 t u (reachR l i).1 (reachR l i).1 l2 l2
  rw [eqv_same] at h94 h94'
  generalize few l = f at h266
  generalize usesR l i = u at e1 e2 h94
  generalize reachR l i = w at e3 e4 h94'
  simp (disch := omega) only [go_sem, r265, h266]
  cases f with
  | false => simp (disch := omega) only [go_sem, r265]
  | true =>
    simp (disch := omega) only [go_sem, e1, e2, e3, e4, h94, h94']
end Go.Pv

