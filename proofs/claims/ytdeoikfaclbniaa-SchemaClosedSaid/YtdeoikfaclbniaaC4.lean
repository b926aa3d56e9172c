/-
  What the functions of the law give.
-/
import Derived.Test.YtdeoikfaclbniaaC3
set_option linter.unusedSimpArgs false
set_option linter.unusedVariables false
/-
  Chapter 07: the members of a draft's type.
-/
namespace Go.Pv

def nameM (id : Nat) : ByteArray := ⟨#[109]⟩ ++ Utf8.encode (97 + (id : Int))
def hits (d : List Node) (i id : Nat) (p : Part) : Bool := decide (1 + p.id % 12 = id) && (targetD d i p.type).isSome
def noNode : Node := ⟨0, 0, 0, 0, []⟩
def nodeAt (d : List Node) (u : Nat) : Node := (d[u]?).getD noNode
def dfltD (d : List Node) (u : Nat) (p : Part) : Val × Bool := initV (initK d u) (nodeAt d u) (p.flag / 4)
def mkMem (d : List Node) (i : Nat) (fl : Bool) (id : Nat) (p : Part) : Mem :=
  ⟨id, nameM id, optI (targetD d i p.type), fl && decide (p.flag % 4 = 1), fl && (decide (2 ≤ p.flag % 4) && (dfltD d ((targetD d i p.type).getD 0) p).2),
    if (fl && decide (2 ≤ p.flag % 4)) = true then (dfltD d ((targetD d i p.type).getD 0) p).1 else zeroVal⟩
def memAt (d : List Node) (i : Nat) (fl : Bool) (ps : List Part) (id : Nat) : Option Mem := (ps.find? (hits d i id)).map (mkMem d i fl id)
def partsD (d : List Node) (i : Nat) (fl : Bool) (ps : List Part) (k : Nat) : List Mem := (List.range k).filterMap fun j => memAt d i fl ps (j + 1)
theorem partsD_succ (d : List Node) (i : Nat) (fl : Bool) (ps : List Part) (k : Nat) : partsD d i fl ps (k + 1) = partsD d i fl ps k ++ (memAt d i fl ps (k + 1)).toList := by
  unfold partsD
  rw [List.range_succ, List.filterMap_append]
  congr 1
theorem partsD_len (d : List Node) (i : Nat) (fl : Bool) (ps : List Part) (k : Nat) : (partsD d i fl ps k).length ≤ k := by
  unfold partsD
  exact Nat.le_trans (List.length_filterMap_le _ _) (by simp)
theorem part_idx {t : Nat} {ps : List Part} {i : Nat} {p : Part} (h : ps[i]? = some p) : idxR 3 t (ps.map Part.c) (some (i : Int)) = some (V.pv (.ro t p.c)) := by
  rw [idxR_nat, List.getElem?_map, h]
  rfl
theorem targetD_lt {d : List Node} {i code u : Nat} (h0 : 0 < d.length) (hi : i < d.length) (h : targetD d i code = some u) : u < d.length := by
  have hm : code % d.length < d.length := Nat.mod_lt _ h0
  unfold targetD at h
  split at h
  · cases h
    exact hm
  · split at h
    · cases h
      rename_i h1
      exact Nat.lt_trans (Nat.mod_lt _ h1) hi
    · have := List.mem_of_find?_eq_some h
      simpa using this
theorem wrap_i32 {x : Int} (h1 : -2147483648 ≤ x) (h2 : x ≤ 2147483647) : IntKind.wrap .i32 x = x := by
  show (if (true && decide (x % (2 ^ 32 : Int) ≥ (2 ^ 31 : Int))) = true then x % (2 ^ 32 : Int) - (2 ^ 32 : Int) else x % (2 ^ 32 : Int)) = x
  simp only [Bool.true_and, decide_eq_true_eq, Int.reducePow]
  by_cases h : x % 4294967296 ≥ 2147483648
  · rw [if_pos h]; omega
  · rw [if_neg h]; omega
theorem quo4 {a : Nat} (h : a ≤ 255) : binV .quo (.pv (.int .u8 (a : Int))) (.pv (.int .u8 4)) = some (.pv (.int .u8 ((a / 4 : Nat) : Int))) := by
  have e : (a : Int).tdiv 4 = ((a / 4 : Nat) : Int) := (Int.ofNat_tdiv a 4).symm
  rw [binV_quo (by decide), e, wrap_u8 (by omega) (by omega)]
theorem enc_size {k : Nat} (h : k < 12) : (Utf8.encode (97 + ((k + 1 : Nat) : Int))).size = 1 := by
  have : ∀ k : Fin 12, (Utf8.encode (97 + ((k.val + 1 : Nat) : Int))).size = 1 := by decide
  exact this ⟨k, h⟩
theorem nameM_add {k : Nat} (h : k < 12) : binV .add (.pv (.str ⟨#[109]⟩)) (.pv (.str (Utf8.encode (IntKind.wrap .i32 (97 + ((k + 1 : Nat) : Int)))))) = some (.pv (.str (nameM (k + 1)))) := by
  rw [wrap_i32 (by omega) (by omega)]
  have h1 : (⟨#[109]⟩ : ByteArray).size = 1 := rfl
  have h2 : (1 : Nat) + 1 ≤ 1099511627776 := by omega
  simp only [binV, strBin, h1, enc_size h, h2, if_true, Option.map_some]
  rfl
set_option maxHeartbeats 4000000 in
theorem r302 (t : Nat) (d : List Node) (i : Nat) (fl : Bool) (x : Node) (hx : d[i]? = some x) (h0 : i < d.length) (hl : d.length ≤ 5) (hok : ∀ y ∈ d, y.ok) :
    res A PrA 302 [.agg [.lst t (d.map Node.cs)], .int .i64 i, .bool fl] = some [.lst 0 ((partsD d i fl x.parts 12).map Mem.c)] := by
  refine res_of a302 rfl rfl ?_
  simp only [F302]
  have hidx : idxR 5 t (d.map Node.cs) (some (i : Int)) = some (V.pv (.ro t [.int .u8 x.kind, .int .u8 x.a, .int .u8 x.b, .int .u8 x.c, .lst 0 (x.parts.map Part.c)])) := node_idx (t := t) hx
  have hxo := hok x (List.mem_of_getElem? hx)
  obtain ⟨_, hpl, hpo⟩ := hxo
  unfold lenOk at hpl
  simp (disch := omega) only [go_sem, hidx]
  refine W.loop (α := Nat × List Arr × V) (fun y => ⟨[(1, .pv (.int .i64 i)), (2, .pv (.bool fl)), (3, .ptr 3 0), (7, .ptr 7 0), (8, y.2.2), (9, .pv (.int .i64 ((y.1 + 1 : Nat) : Int)))], ⟨[(3, [.pv (.lst t (d.map Node.cs))]), (7, [.pv (.int .u8 x.kind), .pv (.int .u8 x.a), .pv (.int .u8 x.b), .pv (.int .u8 x.c), .pv (.lst 0 (x.parts.map Part.c))])], y.2.1, []⟩⟩)
    (fun y => y.1 ≤ 12 ∧ ThinV 13 y.2.1 y.2.2 ((partsD d i fl x.parts y.1).map Mem.c)) (fun y => 12 - y.1) (0, [], .tl []) rfl ⟨Nat.zero_le _, .inl ⟨rfl, rfl⟩⟩ fun y hy => ?_
  obtain ⟨k, ar, V0⟩ := y
  obtain ⟨hk, hO⟩ := hy
  dsimp only at hk hO
  have hsc := fun kb => hO.same kb
  simp (disch := omega) only [go_sem, hsc]
  refine Br.ofP (fun c => ?_) (fun c => ?_)
  rotate_left
  · obtain rfl : k = 12 := by omega
    have hkeep := fun bx => hO.kept bx []
    simp (disch := omega) only [go_sem, hsc, hkeep]
  simp (disch := omega) only [go_sem, hsc]
  refine W.find x.parts (hits d i (k + 1)) (fun j => ⟨[(1, .pv (.int .i64 i)), (2, .pv (.bool fl)), (3, .ptr 3 0), (7, .ptr 7 0), (8, V0), (9, .pv (.int .i64 ((k + 1 : Nat) : Int))), (10, .pv (.int .i64 j))], ⟨[(3, [.pv (.lst t (d.map Node.cs))]), (7, [.pv (.int .u8 x.kind), .pv (.int .u8 x.a), .pv (.int .u8 x.b), .pv (.int .u8 x.c), .pv (.lst 0 (x.parts.map Part.c))])], ar, []⟩⟩) rfl (fun j p hp hj hfd => ?_) (fun hn => ?_)
  rotate_left
  · have e : memAt d i fl x.parts (k + 1) = none := by
      unfold memAt
      rw [hn.find]
      rfl
    simp (disch := omega) only [go_sem, hsc]
    refine ⟨(k + 1, ar, V0), ⟨by dsimp only; omega, ?_⟩, by dsimp only; omega, rfl⟩
    dsimp only
    rw [partsD_succ, e]
    simpa using hO
  have hidp : idxR 3 0 (x.parts.map Part.c) (some (j : Int)) = some (V.pv (.ro 0 [.int .u8 p.id, .int .u8 p.type, .int .u8 p.flag])) := part_idx (t := 0) hp
  obtain ⟨pi, pt, pf⟩ := hpo p (List.mem_of_getElem? hp)
  have h321 := fun t => r321 t d i p.type (by omega) hl h0 pt
  simp (disch := omega) only [go_sem, hsc]
  refine Br.ofP (fun _ => ?_) (fun c => absurd (by omega) c)
  simp (disch := omega) only [go_sem, hsc, hidp, h321, rem12]
  refine Br.ofP (fun c1 => ?_) (fun c1 => ?_) <;> simp (disch := omega) only [go_sem, hsc, c1]
  rotate_left
  · have e : hits d i (k + 1) p = false := by
      have : ¬ 1 + p.id % 12 = k + 1 := by omega
      simp [hits, this]
    exact findK.of e rfl
  cases htg : targetD d i p.type with
  | none =>
    have e : hits d i (k + 1) p = false := by simp [hits, htg]
    have en : decide (optI none < 0) = true := rfl
    simp (disch := omega) only [go_sem, hsc, en]
    exact findK.of e rfl
  | some u =>
    have hu := targetD_lt (by omega) h0 htg
    have en : decide ((u : Int) < 0) = false := by simp
    have eu : optI (some u) = u := rfl
    have e : hits d i (k + 1) p = true := by
      have : 1 + p.id % 12 = k + 1 := by omega
      simp [hits, htg, this]
    have em : memAt d i fl x.parts (k + 1) = some (mkMem d i fl (k + 1) p) := by
      unfold memAt
      rw [(hfd e).find]
      rfl
    have hx2 : d[u]? = some (nodeAt d u) := by
      unfold nodeAt
      rw [List.getElem?_eq_getElem hu]
      rfl
    have h322 := fun t => r322 t d u (p.flag / 4) (nodeAt d u) hx2 hu hl (by omega) (hok _ (List.mem_of_getElem? hx2))
    have hnm := nameM_add (k := k) (by omega)
    have hlen := partsD_len d i fl x.parts k
    simp (disch := omega) only [go_sem, hsc, en, eu, hnm]
    have hnext : (partsD d i fl x.parts (k + 1)).map Mem.c = (partsD d i fl x.parts k).map Mem.c ++ [(mkMem d i fl (k + 1) p).c] := by
      rw [partsD_succ, em, List.map_append]
      rfl
    have hml : ((partsD d i fl x.parts k).map Mem.c).length + 1 ≤ 2147483648 := by
      rw [List.length_map]
      omega
    have hbare : ∀ cr : Bool, mkMem d i fl (k + 1) p = ⟨(k + 1 : Nat), nameM (k + 1), u, cr, false, zeroVal⟩ → Thin [.pv (.int .i64 ((k + 1 : Nat) : Int)), .pv (.str (nameM (k + 1))), .pv (.int .i64 u), .pv (.bool cr), .pv (.bool false), .pv (.int .i64 0), .pv (.bool false), .pv (.int .i64 0), .pv (.str ⟨#[]⟩), .pv (.int .i64 0), .tl [], .tl [], .tl []] (mkMem d i fl (k + 1) p).c := fun cr he h d => by
      rw [he]
      rfl
    cases fl with
    | false =>
      have hm : mkMem d i false (k + 1) p = ⟨(k + 1 : Nat), nameM (k + 1), u, false, false, zeroVal⟩ := by simp [mkMem, htg, optI]
      obtain ⟨V1, T, ar', happ, hT, _, _, hO'⟩ := addLit hO hml rfl (hbare _ hm)
      have hsc1 := fun kb => hO'.same kb
      simp (disch := omega) only [go_sem, hsc, happ, hT, hsc1]
      refine ⟨(k + 1, ar', V1), ⟨by dsimp only; omega, by dsimp only; rw [hnext]; exact hO'⟩, by dsimp only; omega, rfl⟩
    | true =>
      simp (disch := omega) only [go_sem, hsc, rem4]
      refine Br.ofP (fun c2 => ?_) (fun c2 => ?_) <;> simp (disch := omega) only [go_sem, hsc, c2, rem4]
      · have hm : mkMem d i true (k + 1) p = ⟨(k + 1 : Nat), nameM (k + 1), u, true, false, zeroVal⟩ := by
          have e1 : p.flag % 4 = 1 := by omega
          simp [mkMem, htg, optI, e1]
        obtain ⟨V1, T, ar', happ, hT, _, _, hO'⟩ := addLit hO hml rfl (hbare _ hm)
        have hsc1 := fun kb => hO'.same kb
        simp (disch := omega) only [go_sem, happ, hT, hsc1]
        refine ⟨(k + 1, ar', V1), ⟨by dsimp only; omega, by dsimp only; rw [hnext]; exact hO'⟩, by dsimp only; omega, rfl⟩
      · refine Br.ofP (fun c3 => ?_) (fun c3 => ?_)
        · have hq := quo4 pf
          have e1 : ¬ p.flag % 4 = 1 := by omega
          have e2 : 2 ≤ p.flag % 4 := by omega
          have hm : mkMem d i true (k + 1) p = ⟨(k + 1 : Nat), nameM (k + 1), u, false, (dfltD d u p).2, (dfltD d u p).1⟩ := by
            simp [mkMem, htg, optI, e1, e2]
          have ed : dfltD d u p = initV (initK d u) (nodeAt d u) (p.flag / 4) := rfl
          rw [← ed] at h322
          generalize dfltD d u p = iv at hm h322
          unfold Val.c at h322
          have hthin : Thin ((mkMem d i true (k + 1) p).c.map .pv) (mkMem d i true (k + 1) p).c := fun h d => by
            rw [hm]
            rfl
          have hadd := addPlain hO hml rfl hthin
          rw [hm] at hadd
          unfold Mem.c at hadd
          dsimp only at hadd
          obtain ⟨V1, T, ar', happ, hT, _, _, hO'⟩ := hadd
          have hsc1 := fun kb => hO'.same kb
          simp (disch := omega) only [go_sem, hsc, hq, h322, happ, hT, hsc1]
          refine ⟨(k + 1, ar', V1), ⟨by dsimp only; omega, by dsimp only; rw [hnext, hm]; exact hO'⟩, by dsimp only; omega, rfl⟩
        · have hm : mkMem d i true (k + 1) p = ⟨(k + 1 : Nat), nameM (k + 1), u, false, false, zeroVal⟩ := by
            have e1 : ¬ p.flag % 4 = 1 := by omega
            have e2 : ¬ 2 ≤ p.flag % 4 := by omega
            simp [mkMem, htg, optI, e1, e2]
          obtain ⟨V1, T, ar', happ, hT, _, _, hO'⟩ := addLit hO hml rfl (hbare _ hm)
          have hsc1 := fun kb => hO'.same kb
          simp (disch := omega) only [go_sem, happ, hT, hsc1]
          refine ⟨(k + 1, ar', V1), ⟨by dsimp only; omega, by dsimp only; rw [hnext]; exact hO'⟩, by dsimp only; omega, rfl⟩
end Go.Pv

/-
  Chapter 07: a draft's schema.
-/
namespace Go.Pv

/-- A list of types that is being built, or not yet begun. -/
def OutW (ar : List Arr) (V0 : V) (ts : List Typ) : Prop := (V0 = .tl [] ∧ ts = []) ∨ ∃ o ver, V0 = .own o ver 0 ts.length ∧ OutRep ar o ver ts
theorem appTyp {ar X : List Arr} {V0 y : V} {ts : List Typ} {t : Typ} {new : Sum (List (List PV)) (List (List V))} {rd : Option Nat} {row : List V} (hO : OutW ar V0 ts) (hm : ts.length + 1 ≤ 2147483648)
    (hs : ∀ bx, srcRows ⟨bx, ar ++ X, []⟩ y = some (new, rd)) (hn : bodyV new = [row]) (hrd : ∀ o, rd = some o → ar.length ≤ o) (hr : ∀ o, o < ar.length ∨ (ar ++ X).length ≤ o → TRow (ar ++ X) o row t) :
    ∃ V1 T ar', (∀ bx, appendV ⟨bx, ar ++ X, []⟩ 10 V0 y = some (V1, T)) ∧ (∀ bx, T.apply ⟨bx, ar ++ X, []⟩ = ⟨bx, ar', []⟩) ∧ V1.cells = [V1] ∧ V1.calm = true ∧ OutW ar' V1 (ts ++ [t]) := by
  have hrow : row.length = 10 := (hr _ (.inr (Nat.le_refl _))).len
  rcases hO with ⟨rfl, rfl⟩ | ⟨o, ver, rfl, hrep⟩
  · refine ⟨_, _, (ar ++ X) ++ [⟨0, 10, catRows (.inl []) new⟩], fun bx => out_first (hs bx) hn hrow, fun bx => ?_, rfl, rfl, .inr ⟨(ar ++ X).length, 0, rfl, ?_⟩⟩
    · simp [Tn.apply]
    · refine ⟨by simp, catRows (.inl []) new, by simp, ?_⟩
      rw [bodyV_cat, hn]
      have h1 : TRows ((ar ++ X) ++ [⟨0, 10, catRows (.inl []) new⟩]) (ar ++ X).length (bodyV (.inl [])) [] := ⟨rfl, fun i r u h1 _ => by simp [bodyV] at h1⟩
      exact h1.snoc ((hr _ (.inr (Nat.le_refl _))).push _)
  · obtain ⟨body, hb1, hb2⟩ := hrep.it
    have hol := (List.getElem?_eq_some_iff.1 hb1).1
    have hb1' : (ar ++ X)[o]? = some ⟨ver, 10, body⟩ := by rw [List.getElem?_append_left hol]; exact hb1
    have hbl : rowsLen body = ts.length := by rw [← bodyV_len]; exact hb2.len
    have happ := fun bx => out_next (bx := bx) (mp := []) (hs bx) hn hrow hb1' hbl (fun e => by have := hrd o e; omega) hm
    rw [cut_all (ver := ver) hbl rfl] at happ
    refine ⟨_, _, (ar ++ X).set o ⟨ver + 1, 10, catRows body new⟩, happ, fun bx => ?_, rfl, rfl, .inr ⟨o, ver + 1, by simp, ?_⟩⟩
    · simp [Tn.apply]
    · refine ⟨by simp, catRows body new, ?_, ?_⟩
      · rw [List.getElem?_set_self (by rw [List.length_append]; omega)]
      · rw [bodyV_cat, hn]
        exact (((hb2.push X).set _).snoc ((hr o (.inl hol)).set _))
theorem appTypLit {ar X0 : List Arr} {V0 : V} {ts : List Typ} {t : Typ} {row : List V} {n : Nat} (hO : OutW ar V0 ts) (hm : ts.length + 1 ≤ 2147483648) (hl : (ar ++ X0).length = n)
    (hr : ∀ o, o < ar.length ∨ n + 1 ≤ o → TRow (ar ++ X0 ++ [⟨0, 10, .inr [row]⟩]) o row t) :
    ∃ V1 T ar', (∀ bx, appendV ⟨bx, ar ++ X0 ++ [⟨0, 10, .inr [row]⟩], []⟩ 10 V0 (.own n 0 0 1) = some (V1, T)) ∧ (∀ bx, T.apply ⟨bx, ar ++ X0 ++ [⟨0, 10, .inr [row]⟩], []⟩ = ⟨bx, ar', []⟩) ∧ V1.cells = [V1] ∧ V1.calm = true ∧ OutW ar' V1 (ts ++ [t]) := by
  rw [List.append_assoc] at hr ⊢
  refine appTyp (X := X0 ++ [⟨0, 10, .inr [row]⟩]) (new := .inr [row]) (rd := some n) hO hm (fun bx => ?_) rfl (fun o ho => ?_) (fun o ho => hr o ?_)
  · have hg : (ar ++ (X0 ++ [⟨0, 10, .inr [row]⟩]))[n]? = some ⟨0, 10, .inr [row]⟩ := by
      rw [← List.append_assoc, ← hl]
      simp
    simp [srcRows, ownArr, hg, cutRows]
  · injection ho with ho
    rw [← ho, ← hl, List.length_append]
    omega
  · rcases ho with ho | ho
    · exact .inl ho
    · rw [← List.append_assoc, List.length_append, hl] at ho
      exact .inr ho
theorem OutW.keep {ar : List Arr} {V0 : V} {ts : List Typ} (h : OutW ar V0 ts) (bx : List (Nat × List V)) (mp : List (List (PV × PV))) : keepc ⟨bx, ar, mp⟩ 4 V0 = some (.lst 0 (ts.map Typ.c)) := by
  rcases h with ⟨rfl, rfl⟩ | ⟨o, ver, rfl, hrep⟩
  · rfl
  · exact hrep.keep bx mp
/-- A row whose lists are empty, but for that of its members, which is kept. -/
theorem bare_row {ar : List Arr} {o : Nat} {t : Typ} (hs : t.syms = []) (hm : t.mems = []) : TRow ar o [.pv (.int .i64 t.kind), .pv (.str t.name), .pv (.int .i64 t.low), .pv (.int .i64 t.high), .pv (.int .i64 t.max), .tl [], .tl [], .pv (.int .i64 t.key), .pv (.int .i64 t.elem), .pv (.bool t.opn)] t :=
  ⟨.tl [], .tl [], rfl, .inr (.inr (by rw [hs]; rfl)), .inr (.inr (by rw [hm]; rfl))⟩
theorem mem_row {ar : List Arr} {o : Nat} {t : Typ} (hs : t.syms = []) : TRow ar o [.pv (.int .i64 t.kind), .pv (.str t.name), .pv (.int .i64 t.low), .pv (.int .i64 t.high), .pv (.int .i64 t.max), .tl [], .pv (.lst 0 (t.mems.map Mem.c)), .pv (.int .i64 t.key), .pv (.int .i64 t.elem), .pv (.bool t.opn)] t :=
  ⟨.tl [], _, rfl, .inr (.inr (by rw [hs]; rfl)), .inl rfl⟩
theorem OutW.quiet {ar : List Arr} {V0 : V} {ts : List Typ} (h : OutW ar V0 ts) : V0.calm = true ∧ V0.cells = [V0] := by
  rcases h with ⟨rfl, rfl⟩ | ⟨o, ver, rfl, _⟩ <;> exact ⟨rfl, rfl⟩
theorem addRow {ar : List Arr} {V0 : V} {ts : List Typ} {t : Typ} {row : List V} (hO : OutW ar V0 ts) (hm : ts.length + 1 ≤ 2147483648) (hr : ∀ ar o, TRow ar o row t) :
    ∃ V1 T ar', (∀ bx, appendV ⟨bx, ar ++ [⟨0, 10, .inr [row]⟩], []⟩ 10 V0 (.own ar.length 0 0 1) = some (V1, T)) ∧ (∀ bx, T.apply ⟨bx, ar ++ [⟨0, 10, .inr [row]⟩], []⟩ = ⟨bx, ar', []⟩) ∧ V1.cells = [V1] ∧ V1.calm = true ∧ OutW ar' V1 (ts ++ [t]) := by
  have := appTypLit (X0 := []) (row := row) (n := ar.length) hO hm (by simp) (fun o _ => hr _ o)
  simpa only [List.append_nil] using this
def typB (k : Int) (nm : ByteArray) : Typ := ⟨k, nm, 0, 0, 0, [], [], 0, 0, false⟩
def nameT (i : Nat) : ByteArray := Utf8.encode (65 + (i : Int))
def symD (n : Nat) : Sym := ⟨n, ⟨#[115]⟩ ++ Utf8.encode (97 + (n : Int))⟩
def symsD (a : Nat) : List Sym := (idsN a).map symD
theorem enc_size0 {n : Nat} (h : n ≤ 12) : (Utf8.encode (97 + (n : Int))).size = 1 := by
  have : ∀ k : Fin 13, (Utf8.encode (97 + ((k.val : Nat) : Int))).size = 1 := by decide
  exact this ⟨n, by omega⟩
theorem symD_add {n : Nat} (h : n ≤ 12) : binV .add (.pv (.str ⟨#[115]⟩)) (.pv (.str (Utf8.encode (97 + (n : Int))))) = some (.pv (.str (symD n).name)) := by
  have h1 : (⟨#[115]⟩ : ByteArray).size = 1 := rfl
  have h2 : (1 : Nat) + 1 ≤ 1099511627776 := by omega
  simp only [binV, strBin, h1, enc_size0 h, h2, if_true, Option.map_some]
  rfl
theorem idsN_range {a n : Nat} (h : n ∈ idsN a) : 1 ≤ n ∧ n ≤ 6 := by
  unfold idsN at h
  split at h
  · simp at h
    omega
  · obtain ⟨m, hm, rfl⟩ := List.mem_map.1 h
    unfold bitsN at hm
    have := List.mem_range.1 (List.mem_filter.1 hm).1
    omega
def symR (n : Nat) : List PV := [.int .i64 n, .str (symD n).name]
def symRs (l : List Nat) (j : Nat) : List (List PV) := (l.take j).map symR
theorem symRs_next {l : List Nat} {j n : Nat} (h : l[j]? = some n) : symRs l (j + 1) = symRs l j ++ [symR n] := by
  unfold symRs
  rw [List.take_add_one, h, List.map_append]
  rfl
theorem sym_home {ar X : List Arr} {o : Nat} {l : List Nat} (hl : l ≠ []) (ho : o < ar.length ∨ ar.length + 2 ≤ o) : Home (ar ++ grA 2 (symRs l l.length) ++ X) o 2 (grV ar.length (symRs l l.length)) ((l.map symD).map Sym.c) := by
  have e : symRs l l.length = (l.map symD).map Sym.c := by
    unfold symRs
    rw [List.take_length, List.map_map]
    rfl
  rw [e]
  cases l with
  | nil => exact absurd rfl hl
  | cons n l =>
    refine .inr (.inl ⟨ar.length, ((l.map symD).map Sym.c).length, rfl, by omega, ?_⟩)
    rw [List.append_assoc, List.getElem?_append_right (Nat.le_refl _), Nat.sub_self]
    rfl
def typD (d : List Node) (i : Nat) : Typ :=
  if kindD d i = 2 then { typB 2 ⟨#[]⟩ with low := lowN (nodeAt d i), high := highN (nodeAt d i) }
  else if kindD d i = 3 then { typB 3 ⟨#[]⟩ with max := ((nodeAt d i).a % 4 : Nat) }
  else if kindD d i = 4 then { typB 4 (nameT i) with syms := symsD (nodeAt d i).a, opn := decide ((nodeAt d i).b % 2 = 1) }
  else if kindD d i = 5 then { typB 5 (nameT i) with mems := partsD d i true (nodeAt d i).parts 12 }
  else if kindD d i = 6 then (if (partsD d i false (nodeAt d i).parts 12).length = 0 then typB 5 (nameT i) else { typB 6 (nameT i) with mems := partsD d i false (nodeAt d i).parts 12, opn := decide ((nodeAt d i).b % 2 = 1) })
  else if kindD d i = 7 then { typB 7 ⟨#[]⟩ with max := ((nodeAt d i).a % 4 : Nat), elem := ((nodeAt d i).c % d.length : Nat) }
  else if kindD d i = 8 then (if keyD d (nodeAt d i).b = none then { typB 7 ⟨#[]⟩ with max := ((nodeAt d i).a % 4 : Nat), elem := ((nodeAt d i).c % d.length : Nat) } else { typB 8 ⟨#[]⟩ with max := ((nodeAt d i).a % 4 : Nat), key := optI (keyD d (nodeAt d i).b), elem := ((nodeAt d i).c % d.length : Nat) })
  else if kindD d i = 9 then { typB 9 ⟨#[]⟩ with elem := ((nodeAt d i).c % d.length : Nat) }
  else typB 1 ⟨#[]⟩
def ofD (d : List Node) : List Typ × Bool := if d.length < 1 ∨ 5 < d.length then ([], false) else ((List.range d.length).map (typD d), true)
set_option maxHeartbeats 4000000 in
theorem r279 (t : Nat) (d : List Node) (hok : ∀ y ∈ d, y.ok) (hll : lenOk d) : res A PrA 279 [.agg [.lst t (d.map Node.cs)]] = some [.agg [.lst 0 ((ofD d).1.map Typ.c)], .bool (ofD d).2] := by
  refine res_of a279 rfl rfl ?_
  simp only [F279]
  unfold lenOk at hll
  simp (disch := omega) only [go_sem]
  unfold ofD
  refine Br.ofP (fun c => ?_) (fun c => ?_) <;> simp (disch := omega) only [go_sem, c]
  · rw [if_pos (.inl (by omega))]
    rfl
  refine Br.ofP (fun c2 => ?_) (fun c2 => ?_) <;> simp (disch := omega) only [go_sem, c2]
  · rw [if_pos (.inr (by omega))]
    rfl
  rw [if_neg (by omega)]
  refine W.loop (α := Nat × List Arr × V) (fun y => ⟨[(1, .ptr 1 0), (2, .ptr 2 0), (4, .pv (.int .i64 d.length)), (5, .ptr 5 0), (6, .pv (.int .i64 y.1))], ⟨[(1, [.pv (.lst t (d.map Node.cs))]), (2, [.tl []]), (5, [y.2.2])], y.2.1, []⟩⟩)
    (fun y => y.1 ≤ d.length ∧ OutW y.2.1 y.2.2 ((List.range y.1).map (typD d))) (fun y => d.length - y.1) (0, [], .tl []) rfl ⟨Nat.zero_le _, .inl ⟨rfl, rfl⟩⟩ fun y hy => ?_
  obtain ⟨i, ar, V0⟩ := y
  obtain ⟨hi, hO⟩ := hy
  dsimp only at hi hO
  simp (disch := omega) only [go_sem]
  refine Br.ofP (fun c3 => ?_) (fun c3 => ?_)
  rotate_left
  · obtain rfl : i = d.length := by omega
    have hkeep := fun bx => hO.keep bx []
    obtain ⟨hq1, hq2⟩ := hO.quiet
    simp (disch := omega) only [go_sem, hkeep, hq1]
  have hx : d[i]? = some (nodeAt d i) := by
    unfold nodeAt
    rw [List.getElem?_eq_getElem (by omega)]
    rfl
  have hidx : idxR 5 t (d.map Node.cs) (some (i : Int)) = some (V.pv (.ro t [.int .u8 (nodeAt d i).kind, .int .u8 (nodeAt d i).a, .int .u8 (nodeAt d i).b, .int .u8 (nodeAt d i).c, .lst 0 ((nodeAt d i).parts.map Part.c)])) := node_idx (t := t) hx
  have h298 := fun t => r298 t d i (by omega)
  have h286 := r286 (kindD d i : Int)
  obtain ⟨k1, k9⟩ := kindD_range d i
  have hk0 : (kindD d i : Int) = 1 ∨ (kindD d i : Int) = 2 ∨ (kindD d i : Int) = 3 ∨ (kindD d i : Int) = 4 ∨ (kindD d i : Int) = 5 ∨ (kindD d i : Int) = 6 ∨ (kindD d i : Int) = 7 ∨ (kindD d i : Int) = 8 ∨ (kindD d i : Int) = 9 := by omega
  have hnext : (List.range (i + 1)).map (typD d) = (List.range i).map (typD d) ++ [typD d i] := by
    rw [List.range_succ, List.map_append]
    rfl
  have hml : ((List.range i).map (typD d)).length + 1 ≤ 2147483648 := by simp; omega
  have hxo := hok _ (List.mem_of_getElem? hx)
  obtain ⟨⟨_, xa, xb, xc⟩, _⟩ := hxo
  have hcn : (nodeAt d i).c % d.length < d.length := Nat.mod_lt _ (by omega)
  have hrn := rem_u8 (k := .i64) (a := (nodeAt d i).c) (n := d.length) (by omega)
  have h4 : (nodeAt d i).a % 4 < 4 := Nat.mod_lt _ (by decide)
  have h299 := r299 (nodeAt d i)
  have h300 := r300 (nodeAt d i)
  have h301 := r301 (nodeAt d i)
  have h302 := fun t fl => r302 t d i fl _ hx (by omega) (by omega) hok
  have h303 := fun t => r303 t d (nodeAt d i).b (by omega) (by omega) xb
  unfold Node.cs at h299 h300 h301
  simp (disch := omega) only [go_sem, hidx, h298, h286]
  rcases hk0 with hk | hk | hk | hk | hk | hk | hk | hk | hk
  all_goals simp (disch := omega) only [go_sem, hk, rem2, rem4, hrn, h299, h300, h301, h302, h303, optI_neg, wrap_i32, dec1]
  · have e : kindD d i = 1 := by omega
    have hty : typD d i = typB 1 ⟨#[]⟩ := by simp only [typD, e]; rfl
    have hb := addRow (t := typB 1 ⟨#[]⟩) hO hml (fun ar o => bare_row rfl rfl)
    obtain ⟨V1, T, ar', happ, hT, hc1, hc2, hO'⟩ := hb
    dsimp only [typB, nameT] at happ hT
    simp (disch := omega) only [go_sem, happ, hT, hc1, hc2]
    refine ⟨(i + 1, ar', V1), ⟨by dsimp only; omega, by dsimp only; rw [hnext, hty]; exact hO'⟩, by dsimp only; omega, rfl⟩
  · have e : kindD d i = 2 := by omega
    have hty : typD d i = { typB 2 ⟨#[]⟩ with low := lowN (nodeAt d i), high := highN (nodeAt d i) } := by simp only [typD, e]; rfl
    have hb := addRow (t := { typB 2 ⟨#[]⟩ with low := lowN (nodeAt d i), high := highN (nodeAt d i) }) hO hml (fun ar o => bare_row rfl rfl)
    obtain ⟨V1, T, ar', happ, hT, hc1, hc2, hO'⟩ := hb
    dsimp only [typB, nameT] at happ hT
    simp (disch := omega) only [go_sem, happ, hT, hc1, hc2]
    refine ⟨(i + 1, ar', V1), ⟨by dsimp only; omega, by dsimp only; rw [hnext, hty]; exact hO'⟩, by dsimp only; omega, rfl⟩
  · have e : kindD d i = 3 := by omega
    have hty : typD d i = { typB 3 ⟨#[]⟩ with max := ((nodeAt d i).a % 4 : Nat) } := by simp only [typD, e]; rfl
    have hb := addRow (t := { typB 3 ⟨#[]⟩ with max := ((nodeAt d i).a % 4 : Nat) }) hO hml (fun ar o => bare_row rfl rfl)
    obtain ⟨V1, T, ar', happ, hT, hc1, hc2, hO'⟩ := hb
    dsimp only [typB, nameT] at happ hT
    simp (disch := omega) only [go_sem, happ, hT, hc1, hc2]
    refine ⟨(i + 1, ar', V1), ⟨by dsimp only; omega, by dsimp only; rw [hnext, hty]; exact hO'⟩, by dsimp only; omega, rfl⟩
  · have e : kindD d i = 4 := by omega
    have hty : typD d i = { typB 4 (nameT i) with syms := symsD (nodeAt d i).a, opn := decide ((nodeAt d i).b % 2 = 1) } := by simp only [typD, e]; rfl
    obtain ⟨n0, n6⟩ := idsN_len (nodeAt d i).a
    have hir := fun n (h : n ∈ idsN (nodeAt d i).a) => idsN_range h
    have hne : idsN (nodeAt d i).a ≠ [] := List.length_pos_iff.1 n0
    unfold symsD at hty
    generalize idsN (nodeAt d i).a = l at *
    have hnl : (nums l).length = l.length := List.length_map _
    refine W.upto l.length (fun j => ⟨[(1, .ptr 1 0), (2, .ptr 2 0), (4, .pv (.int .i64 d.length)), (5, .ptr 5 0), (6, .pv (.int .i64 i)), (8, .ptr 8 0), (9, .pv (.lst 0 (ints (nums l)))), (10, .pv (.int .i64 (j : Nat)))], ⟨[(1, [.pv (.lst t (d.map Node.cs))]), (2, [.tl []]), (5, [V0]), (8, [.pv (.int .i64 4), .pv (.str (Utf8.encode (65 + (i : Int)))), .pv (.int .i64 0), .pv (.int .i64 0), .pv (.int .i64 0), grV ar.length (symRs l j), .tl [], .pv (.int .i64 0), .pv (.int .i64 0), .pv (.bool (decide ((nodeAt d i).b % 2 = 1)))])], ar ++ grA 2 (symRs l j), []⟩⟩) (fun _ => True) ?_ trivial (fun j hj _ => ?_)
    · have e0 : symRs l 0 = [] := rfl
      rw [e0, grV_nil, grA_nil, List.append_nil]
      rfl
    simp (disch := omega) only [go_sem]
    refine Br.ofP (fun cj => ?_) (fun cj => ?_)
    · have hgj := List.getElem?_eq_getElem (l := l) (i := j) (by omega)
      generalize l[j]'(by omega) = n at hgj
      obtain ⟨g1, g6⟩ := hir n (List.mem_of_getElem? hgj)
      have hat : (nums l)[j]? = some ((n : Nat) : Int) := by
        rw [nums_at (by omega), hgj]
        rfl
      have hadd := symD_add (n := n) (by omega)
      have hrl : (symRs l j).length ≤ 6 := by unfold symRs; simp; omega
      have hgrow := fun bx => grow bx [] ar 2 (symRs l j) (symR n) rfl (by omega)
      have hgt := fun bx => grT_apply bx [] ar 2 (symRs l j) (symR n)
      rw [← symRs_next hgj] at hgrow hgt
      unfold symR at hgrow hgt
      simp (disch := omega) only [go_sem, hat, wrap_i32, hadd, hgrow, hgt]
      exact .of (by omega) rfl trivial
    · obtain rfl : j = l.length := by omega
      have hga : (grA 2 (symRs l l.length)).length = 1 := by
        cases l with
        | nil => exact absurd rfl hne
        | cons x l => rfl
      have hb := appTypLit (t := { typB 4 (nameT i) with syms := l.map symD, opn := decide ((nodeAt d i).b % 2 = 1) }) (X0 := grA 2 (symRs l l.length)) (n := ar.length + (grA 2 (symRs l l.length)).length) hO hml (by rw [List.length_append]) (fun o ho => ⟨grV ar.length (symRs l l.length), .tl [], rfl, sym_home hne (by omega), .inr (.inr rfl)⟩)
      obtain ⟨V1, T, ar', happ, hT, hc1, hc2, hO'⟩ := hb
      dsimp only [typB, nameT] at happ hT
      simp (disch := omega) only [go_sem, happ, hT, hc1, hc2]
      refine ⟨(i + 1, ar', V1), ⟨by dsimp only; omega, by dsimp only; rw [hnext, hty]; exact hO'⟩, by dsimp only; omega, rfl⟩
  · have e : kindD d i = 5 := by omega
    have hty : typD d i = { typB 5 (nameT i) with mems := partsD d i true (nodeAt d i).parts 12 } := by simp only [typD, e]; rfl
    have hb := addRow (t := { typB 5 (nameT i) with mems := partsD d i true (nodeAt d i).parts 12 }) hO hml (fun ar o => mem_row rfl)
    obtain ⟨V1, T, ar', happ, hT, hc1, hc2, hO'⟩ := hb
    dsimp only [typB, nameT] at happ hT
    simp (disch := omega) only [go_sem, happ, hT, hc1, hc2]
    refine ⟨(i + 1, ar', V1), ⟨by dsimp only; omega, by dsimp only; rw [hnext, hty]; exact hO'⟩, by dsimp only; omega, rfl⟩
  · have e : kindD d i = 6 := by omega
    have hty0 : typD d i = if (partsD d i false (nodeAt d i).parts 12).length = 0 then typB 5 (nameT i) else { typB 6 (nameT i) with mems := partsD d i false (nodeAt d i).parts 12, opn := decide ((nodeAt d i).b % 2 = 1) } := by simp only [typD, e]; rfl
    refine Br.ofP (fun c6 => ?_) (fun c6 => ?_) <;> simp (disch := omega) only [go_sem]
    · have hty : typD d i = typB 5 (nameT i) := by rw [hty0, if_pos (by omega)]
      have hb := addRow (t := typB 5 (nameT i)) hO hml (fun ar o => bare_row rfl rfl)
      obtain ⟨V1, T, ar', happ, hT, hc1, hc2, hO'⟩ := hb
      dsimp only [typB, nameT] at happ hT
      simp (disch := omega) only [go_sem, happ, hT, hc1, hc2]
      refine ⟨(i + 1, ar', V1), ⟨by dsimp only; omega, by dsimp only; rw [hnext, hty]; exact hO'⟩, by dsimp only; omega, rfl⟩
    · have hty : typD d i = { typB 6 (nameT i) with mems := partsD d i false (nodeAt d i).parts 12, opn := decide ((nodeAt d i).b % 2 = 1) } := by rw [hty0, if_neg (by omega)]
      have hb := addRow (t := { typB 6 (nameT i) with mems := partsD d i false (nodeAt d i).parts 12, opn := decide ((nodeAt d i).b % 2 = 1) }) hO hml (fun ar o => mem_row rfl)
      obtain ⟨V1, T, ar', happ, hT, hc1, hc2, hO'⟩ := hb
      dsimp only [typB, nameT] at happ hT
      simp (disch := omega) only [go_sem, happ, hT, hc1, hc2]
      refine ⟨(i + 1, ar', V1), ⟨by dsimp only; omega, by dsimp only; rw [hnext, hty]; exact hO'⟩, by dsimp only; omega, rfl⟩
  · have e : kindD d i = 7 := by omega
    have hty : typD d i = { typB 7 ⟨#[]⟩ with max := ((nodeAt d i).a % 4 : Nat), elem := ((nodeAt d i).c % d.length : Nat) } := by simp only [typD, e]; rfl
    have hb := addRow (t := { typB 7 ⟨#[]⟩ with max := ((nodeAt d i).a % 4 : Nat), elem := ((nodeAt d i).c % d.length : Nat) }) hO hml (fun ar o => bare_row rfl rfl)
    obtain ⟨V1, T, ar', happ, hT, hc1, hc2, hO'⟩ := hb
    dsimp only [typB, nameT] at happ hT
    simp (disch := omega) only [go_sem, happ, hT, hc1, hc2]
    refine ⟨(i + 1, ar', V1), ⟨by dsimp only; omega, by dsimp only; rw [hnext, hty]; exact hO'⟩, by dsimp only; omega, rfl⟩
  · have e : kindD d i = 8 := by omega
    have hty0 : typD d i = if keyD d (nodeAt d i).b = none then { typB 7 ⟨#[]⟩ with max := ((nodeAt d i).a % 4 : Nat), elem := ((nodeAt d i).c % d.length : Nat) } else { typB 8 ⟨#[]⟩ with max := ((nodeAt d i).a % 4 : Nat), key := optI (keyD d (nodeAt d i).b), elem := ((nodeAt d i).c % d.length : Nat) } := by simp only [typD, e]; rfl
    refine Br.ofP (fun c8 => ?_) (fun c8 => ?_) <;> simp (disch := omega) only [go_sem]
    · have hty : typD d i = { typB 7 ⟨#[]⟩ with max := ((nodeAt d i).a % 4 : Nat), elem := ((nodeAt d i).c % d.length : Nat) } := by rw [hty0, if_pos c8]
      have hb := addRow (t := { typB 7 ⟨#[]⟩ with max := ((nodeAt d i).a % 4 : Nat), elem := ((nodeAt d i).c % d.length : Nat) }) hO hml (fun ar o => bare_row rfl rfl)
      obtain ⟨V1, T, ar', happ, hT, hc1, hc2, hO'⟩ := hb
      dsimp only [typB, nameT] at happ hT
      simp (disch := omega) only [go_sem, happ, hT, hc1, hc2]
      refine ⟨(i + 1, ar', V1), ⟨by dsimp only; omega, by dsimp only; rw [hnext, hty]; exact hO'⟩, by dsimp only; omega, rfl⟩
    · have hty : typD d i = { typB 8 ⟨#[]⟩ with max := ((nodeAt d i).a % 4 : Nat), key := optI (keyD d (nodeAt d i).b), elem := ((nodeAt d i).c % d.length : Nat) } := by rw [hty0, if_neg c8]
      have hb := addRow (t := { typB 8 ⟨#[]⟩ with max := ((nodeAt d i).a % 4 : Nat), key := optI (keyD d (nodeAt d i).b), elem := ((nodeAt d i).c % d.length : Nat) }) hO hml (fun ar o => bare_row rfl rfl)
      obtain ⟨V1, T, ar', happ, hT, hc1, hc2, hO'⟩ := hb
      dsimp only [typB, nameT] at happ hT
      simp (disch := omega) only [go_sem, happ, hT, hc1, hc2]
      refine ⟨(i + 1, ar', V1), ⟨by dsimp only; omega, by dsimp only; rw [hnext, hty]; exact hO'⟩, by dsimp only; omega, rfl⟩
  · have e : kindD d i = 9 := by omega
    have hty : typD d i = { typB 9 ⟨#[]⟩ with elem := ((nodeAt d i).c % d.length : Nat) } := by simp only [typD, e]; rfl
    have hb := addRow (t := { typB 9 ⟨#[]⟩ with elem := ((nodeAt d i).c % d.length : Nat) }) hO hml (fun ar o => bare_row rfl rfl)
    obtain ⟨V1, T, ar', happ, hT, hc1, hc2, hO'⟩ := hb
    dsimp only [typB, nameT] at happ hT
    simp (disch := omega) only [go_sem, happ, hT, hc1, hc2]
    refine ⟨(i + 1, ar', V1), ⟨by dsimp only; omega, by dsimp only; rw [hnext, hty]; exact hO'⟩, by dsimp only; omega, rfl⟩
end Go.Pv

/-
  Chapter 07: a draft's schema is valid (plain).
-/
namespace Go.Pv

theorem isName_nameM : ∀ k : Fin 13, isName (nameM k.val) = true := by decide
theorem nameM_inj : ∀ j k : Fin 13, nameM j.val = nameM k.val → j = k := by decide
theorem isName_symD : ∀ k : Fin 13, isName (symD k.val).name = true := by decide
theorem symD_inj : ∀ j k : Fin 13, (symD j.val).name = (symD k.val).name → j = k := by decide
theorem isName_nameT : ∀ k : Fin 5, isName (nameT k.val) = true := by decide
theorem nameT_inj : ∀ j k : Fin 5, nameT j.val = nameT k.val → j = k := by decide
/-- Numbers that grow, with names apart. -/
theorem idsOk_grow {L : List Nat} {f : Nat → ByteArray} (hp : L.Pairwise (· < ·)) (h1 : ∀ n ∈ L, 1 ≤ n ∧ n ≤ 12) (hf : ∀ m n, m ≤ 12 → n ≤ 12 → f m = f n → m = n) (hn : ∀ n, n ≤ 12 → isName (f n) = true) : idsOk (L.map fun (n : Nat) => ((n : Int), f n)) = true := by
  unfold idsOk
  rw [Bool.not_eq_true', List.any_eq_false]
  intro k hk
  have hkl : k < L.length := by simpa using hk
  have hg := List.getElem?_eq_getElem hkl
  obtain ⟨g1, g2⟩ := h1 _ (List.getElem_mem hkl)
  have e : badAt (L.map fun (n : Nat) => ((n : Int), f n)) k = badNm (L.map fun (n : Nat) => ((n : Int), f n)) k ((L[k] : Int), f L[k]) := by
    unfold badAt
    rw [List.getElem?_map, hg]
    rfl
  rw [e]
  have d1 : decide (((L[k] : Nat) : Int) < 1) = false := by simp; omega
  have d2 : decide (1000 < ((L[k] : Nat) : Int)) = false := by simp; omega
  have d3 : (decide (0 < k) && decide (((L[k] : Nat) : Int) ≤ prevI (L.map fun (n : Nat) => ((n : Int), f n)) k)) = false := by
    by_cases h0 : 0 < k
    · have hlt := List.pairwise_iff_getElem.1 hp (k - 1) k (by omega) hkl (by omega)
      have hq : prevI (L.map fun (n : Nat) => ((n : Int), f n)) k = ((L[k - 1]'(by omega) : Nat) : Int) := by
        unfold prevI
        rw [List.getElem?_map, List.getElem?_eq_getElem (show k - 1 < L.length by omega)]
        rfl
      rw [hq]
      simp
      omega
    · simp [h0]
  have d4 : hasS (((L.map fun (n : Nat) => ((n : Int), f n)).map (·.2)).take k) (f L[k]) = false := by
    rw [Bool.eq_false_iff]
    intro h
    rw [hasS_iff, List.map_map, ← List.map_take] at h
    obtain ⟨m, hm, he⟩ := List.mem_map.1 h
    obtain ⟨j, hj⟩ := List.mem_iff_getElem?.1 hm
    rw [List.getElem?_take] at hj
    split at hj
    · rename_i hjk
      obtain ⟨hjl, hjm⟩ := List.getElem?_eq_some_iff.1 hj
      have hlt := List.pairwise_iff_getElem.1 hp j k hjl hkl hjk
      obtain ⟨m1, m2⟩ := h1 m (List.mem_of_getElem? hj)
      have := hf m L[k] m2 g2 he
      omega
    · cases hj
  unfold badNm
  rw [d1, d2, d3, d4, hn _ g2]
  simp
theorem symsD_ok (a : Nat) : symsOk (symsD a) = true := by
  have hp : (idsN a).Pairwise (· < ·) := by
    unfold idsN
    split
    · exact List.pairwise_singleton _ _
    · rw [List.pairwise_map]
      unfold bitsN
      exact ((List.pairwise_lt_range).filter _).imp (fun h => by omega)
  obtain ⟨n0, n6⟩ := idsN_len a
  have hi := idsOk_grow (f := fun n => (symD n).name) hp (fun n hn => by have := idsN_range hn; omega) (fun m n h1 h2 h => by have := symD_inj ⟨m, by omega⟩ ⟨n, by omega⟩ h; simpa using this) (fun n h => isName_symD ⟨n, by omega⟩)
  have e : (symsD a).map Sym.nm = (idsN a).map fun (n : Nat) => ((n : Int), (symD n).name) := by
    unfold symsD
    rw [List.map_map]
    rfl
  have el : (symsD a).length = (idsN a).length := List.length_map _
  unfold symsOk
  rw [e, hi, el]
  simp
  omega
theorem memAt_id {d : List Node} {i : Nat} {fl : Bool} {ps : List Part} {id : Nat} {m : Mem} (h : memAt d i fl ps id = some m) : ∃ p, mkMem d i fl id p = m ∧ hits d i id p = true ∧ p ∈ ps := by
  unfold memAt at h
  cases hf : ps.find? (hits d i id) with
  | none => simp [hf] at h
  | some p =>
    rw [hf] at h
    exact ⟨p, by simpa using h, List.find?_some hf, List.mem_of_find?_eq_some hf⟩
theorem initV_no {k : Nat} {x : Node} {code : Nat} (h : (initV k x code).2 = false) : (initV k x code).1 = zeroVal := by
  unfold initV at h ⊢
  repeat' split at h
  all_goals first
    | (cases h; done)
    | skip
  rename_i h1 h2 h3 h4 h5
  rw [if_neg h1, if_neg h2, if_neg h3, if_neg h4, if_pos h5]
theorem mkMem_good (d : List Node) (i : Nat) (fl : Bool) (id : Nat) (p : Part) : memBad fl (mkMem d i fl id p) = false := by
  cases fl with
  | false => simp [memBad, mkMem, eqv]
  | true =>
    unfold memBad mkMem
    dsimp only
    simp only [Bool.true_and, Bool.not_true, Bool.false_and, Bool.false_or]
    by_cases h1 : p.flag % 4 = 1
    · simp [h1, eqv]
    by_cases h2 : 2 ≤ p.flag % 4
    · cases hv : (dfltD d ((targetD d i p.type).getD 0) p).2 with
      | true => simp [h1, h2]
      | false =>
        have := initV_no hv
        have e : (dfltD d ((targetD d i p.type).getD 0) p).1 = zeroVal := this
        simp [h1, h2, eqv, e]
    · simp [h1, h2, eqv]
theorem nm_list {g : Nat → Option Mem} (h : ∀ j m, g j = some m → m.nm = (((j + 1 : Nat) : Int), nameM (j + 1))) : ∀ xs : List Nat, (xs.filterMap g).map Mem.nm = (((xs.filter fun j => (g j).isSome).map (· + 1)).map fun (n : Nat) => ((n : Int), nameM n))
  | [] => rfl
  | x :: xs => by
    have ih := nm_list h xs
    cases hg : g x with
    | none => simp [hg, ih]
    | some m =>
      have := h x m hg
      simp [hg, ih, this]
theorem memAt_nm {d : List Node} {i : Nat} {fl : Bool} {ps : List Part} {id : Nat} {m : Mem} (h : memAt d i fl ps id = some m) : m.nm = ((id : Int), nameM id) := by
  obtain ⟨p, rfl, _⟩ := memAt_id h
  rfl
theorem partsD_mem {d : List Node} {i : Nat} {fl : Bool} {ps : List Part} {k : Nat} {m : Mem} (h : m ∈ partsD d i fl ps k) : ∃ id p, mkMem d i fl id p = m ∧ hits d i id p = true ∧ p ∈ ps ∧ 1 ≤ id ∧ id ≤ k := by
  unfold partsD at h
  obtain ⟨j, hj, hm⟩ := List.mem_filterMap.1 h
  obtain ⟨p, h1, h2, h3⟩ := memAt_id hm
  exact ⟨j + 1, p, h1, h2, h3, by omega, by have := List.mem_range.1 hj; omega⟩
theorem partsD_ok (d : List Node) (i : Nat) (fl : Bool) (ps : List Part) (h : fl = true ∨ (partsD d i fl ps 12).length ≠ 0) : memsOk fl (partsD d i fl ps 12) = true := by
  have hl := partsD_len d i fl ps 12
  have e1 : (partsD d i fl ps 12).any (memBad fl) = false := by
    rw [List.any_eq_false]
    intro m hm
    obtain ⟨id, p, rfl, _⟩ := partsD_mem hm
    rw [mkMem_good]
    simp
  have e2 := nm_list (g := fun j => memAt d i fl ps (j + 1)) (fun j m h => memAt_nm h) (List.range 12)
  have e3 : idsOk ((partsD d i fl ps 12).map Mem.nm) = true := by
    unfold partsD
    rw [e2]
    refine idsOk_grow ?_ (fun n hn => ?_) (fun m n h1 h2 h => by have := nameM_inj ⟨m, by omega⟩ ⟨n, by omega⟩ h; simpa using this) (fun n h => isName_nameM ⟨n, by omega⟩)
    · rw [List.pairwise_map]
      exact ((List.pairwise_lt_range).filter _).imp (fun h => by omega)
    · obtain ⟨m, hm, rfl⟩ := List.mem_map.1 hn
      have := List.mem_range.1 (List.mem_filter.1 hm).1
      omega
  unfold memsOk
  rw [e1, e3]
  rcases h with rfl | h
  · simp
    omega
  · simp
    omega
theorem keyD_some {d : List Node} {code q : Nat} (h0 : 0 < d.length) (h : keyD d code = some q) : q < d.length ∧ kindD d q ≤ 4 := by
  unfold keyD at h
  cases hf : (List.range d.length).find? (fun k => decide (kindD d ((code + k) % d.length) ≤ 4)) with
  | none => simp [hf] at h
  | some k =>
    rw [hf] at h
    have hq : (code + k) % d.length = q := by simpa using h
    have := List.find?_some hf
    rw [hq] at this
    exact ⟨by rw [← hq]; exact Nat.mod_lt _ h0, by simpa using this⟩
/-- In which ways a type comes about. -/
theorem typD_own (d : List Node) (i : Nat) (hi : i < 5) : ownOk (typD d i) = true := by
  obtain ⟨k1, k9⟩ := kindD_range d i
  have hb6 : (nodeAt d i).b % 6 < 6 := Nat.mod_lt _ (by decide)
  have h4 : (nodeAt d i).a % 4 < 4 := Nat.mod_lt _ (by decide)
  have hhi : lowN (nodeAt d i) ≤ highN (nodeAt d i) := by unfold highN; omega
  have hn := isName_nameT ⟨i, hi⟩
  dsimp only at hn
  have hs := symsD_ok (nodeAt d i).a
  have p1 := partsD_ok d i true (nodeAt d i).parts (.inl rfl)
  have p2 := partsD_ok d i false (nodeAt d i).parts
  have hk0 : kindD d i = 1 ∨ kindD d i = 2 ∨ kindD d i = 3 ∨ kindD d i = 4 ∨ kindD d i = 5 ∨ kindD d i = 6 ∨ kindD d i = 7 ∨ kindD d i = 8 ∨ kindD d i = 9 := by omega
  rcases hk0 with hk | hk | hk | hk | hk | hk | hk | hk | hk
  · simp [typD, hk, ownOk, typB, plainTy, zeroTyp, eqv, kindOk]
  · simp [typD, hk, ownOk, typB, plainTy, zeroTyp, eqv, kindOk, hhi]
  · simp [typD, hk, ownOk, typB, plainTy, zeroTyp, eqv, kindOk]
    omega
  · simp [typD, hk, ownOk, typB, plainTy, zeroTyp, eqv, kindOk, hn, hs]
  · simp [typD, hk, ownOk, typB, plainTy, zeroTyp, eqv, kindOk, hn, p1]
  · have e : typD d i = if (partsD d i false (nodeAt d i).parts 12).length = 0 then typB 5 (nameT i) else { typB 6 (nameT i) with mems := partsD d i false (nodeAt d i).parts 12, opn := decide ((nodeAt d i).b % 2 = 1) } := by simp only [typD, hk]; rfl
    rw [e]
    split
    · have em : memsOk true [] = true := by simp [memsOk, idsOk]
      simp [ownOk, typB, plainTy, zeroTyp, eqv, kindOk, hn, em]
    · rename_i h0
      have := p2 (.inr h0)
      simp [ownOk, typB, plainTy, zeroTyp, eqv, kindOk, hn, this]
  · simp [typD, hk, ownOk, typB, plainTy, zeroTyp, eqv, kindOk]
    omega
  · simp only [typD, hk]
    simp
    split
    · simp [ownOk, typB, plainTy, zeroTyp, eqv, kindOk]
      omega
    · simp [ownOk, typB, plainTy, zeroTyp, eqv, kindOk]
      omega
  · simp [typD, hk, ownOk, typB, plainTy, zeroTyp, eqv, kindOk]
end Go.Pv

/-
  Chapter 07: a draft's schema is valid (plain), continued.
-/
namespace Go.Pv

theorem typD_6 {d : List Node} {i : Nat} (hk : kindD d i = 6) : typD d i = if (partsD d i false (nodeAt d i).parts 12).length = 0 then typB 5 (nameT i) else { typB 6 (nameT i) with mems := partsD d i false (nodeAt d i).parts 12, opn := decide ((nodeAt d i).b % 2 = 1) } := by simp only [typD, hk]; rfl
theorem typD_8 {d : List Node} {i : Nat} (hk : kindD d i = 8) : typD d i = if keyD d (nodeAt d i).b = none then { typB 7 ⟨#[]⟩ with max := ((nodeAt d i).a % 4 : Nat), elem := ((nodeAt d i).c % d.length : Nat) } else { typB 8 ⟨#[]⟩ with max := ((nodeAt d i).a % 4 : Nat), key := optI (keyD d (nodeAt d i).b), elem := ((nodeAt d i).c % d.length : Nat) } := by simp only [typD, hk]; rfl
theorem kindD_cases (d : List Node) (i : Nat) : kindD d i = 1 ∨ kindD d i = 2 ∨ kindD d i = 3 ∨ kindD d i = 4 ∨ kindD d i = 5 ∨ kindD d i = 6 ∨ kindD d i = 7 ∨ kindD d i = 8 ∨ kindD d i = 9 := by
  have := kindD_range d i
  omega
theorem typD_name (d : List Node) (i : Nat) : (typD d i).name = ⟨#[]⟩ ∨ (typD d i).name = nameT i := by
  rcases kindD_cases d i with hk | hk | hk | hk | hk | hk | hk | hk | hk
  case inr.inr.inr.inr.inr.inl =>
    rw [typD_6 hk]
    split <;> simp [typB]
  case inr.inr.inr.inr.inr.inr.inr.inl =>
    rw [typD_8 hk]
    split <;> simp [typB]
  all_goals simp [typD, hk, typB]
theorem typD_kind {d : List Node} {i : Nat} (h : kindD d i ≤ 4) : (typD d i).kind = kindD d i := by
  have := kindD_range d i
  have hk : kindD d i = 1 ∨ kindD d i = 2 ∨ kindD d i = 3 ∨ kindD d i = 4 := by omega
  rcases hk with hk | hk | hk | hk <;> simp [typD, hk, typB]
theorem partsD_type {d : List Node} {i : Nat} {fl : Bool} {ps : List Part} {k : Nat} (h0 : 0 < d.length) (hi : i < d.length) {m : Mem} (h : m ∈ partsD d i fl ps k) : 0 ≤ m.type ∧ m.type < d.length := by
  obtain ⟨id, p, rfl, hh, _⟩ := partsD_mem h
  unfold hits at hh
  cases ht : targetD d i p.type with
  | none => simp [ht] at hh
  | some u =>
    have := targetD_lt h0 hi ht
    show 0 ≤ optI (targetD d i p.type) ∧ optI (targetD d i p.type) < d.length
    rw [ht]
    unfold optI
    dsimp only
    omega
theorem typD_uses {d : List Node} {i : Nat} (h0 : 0 < d.length) (hi : i < d.length) : ∀ u ∈ usesT (typD d i), 0 ≤ u ∧ u < d.length := by
  have hc : (nodeAt d i).c % d.length < d.length := Nat.mod_lt _ h0
  have hp := fun fl m (h : m ∈ partsD d i fl (nodeAt d i).parts 12) => partsD_type h0 hi h
  have hm : ∀ fl, ∀ u : Int, u ∈ (partsD d i fl (nodeAt d i).parts 12).map (·.type) → 0 ≤ u ∧ u < d.length := fun fl u hu => by
    obtain ⟨m, hm, rfl⟩ := List.mem_map.1 hu
    exact hp fl m hm
  intro u hu
  rcases kindD_cases d i with hk | hk | hk | hk | hk | hk | hk | hk | hk
  case inr.inr.inr.inr.inr.inl =>
    rw [typD_6 hk] at hu
    split at hu
    · simp [usesT, keysT, elemsT, typB] at hu
    · refine hm false u ?_
      simpa [usesT, keysT, elemsT, typB] using hu
  case inr.inr.inr.inr.inl =>
    refine hm true u ?_
    simpa [typD, hk, usesT, keysT, elemsT, typB] using hu
  case inr.inr.inr.inr.inr.inr.inr.inl =>
    rw [typD_8 hk] at hu
    split at hu
    · simp only [usesT, keysT, elemsT, typB] at hu
      simp at hu
      omega
    · rename_i hq
      cases hkey : keyD d (nodeAt d i).b with
      | none => exact absurd hkey hq
      | some q =>
        have := keyD_some h0 hkey
        rw [hkey] at hu
        simp only [usesT, keysT, elemsT, typB, optI] at hu
        simp at hu
        omega
  case inr.inr.inr.inr.inr.inr.inl =>
    simp only [typD, hk, usesT, keysT, elemsT, typB] at hu
    simp at hu
    omega
  case inr.inr.inr.inr.inr.inr.inr.inr =>
    simp only [typD, hk, usesT, keysT, elemsT, typB] at hu
    simp at hu
    omega
  all_goals simp [typD, hk, usesT, keysT, elemsT, typB] at hu
theorem typD_key {d : List Node} {i : Nat} (h0 : 0 < d.length) (h : (typD d i).kind = 8) : ∃ q : Nat, (typD d i).key = q ∧ q < d.length ∧ kindD d q ≤ 4 := by
  rcases kindD_cases d i with hk | hk | hk | hk | hk | hk | hk | hk | hk
  case inr.inr.inr.inr.inr.inl =>
    rw [typD_6 hk] at h
    split at h <;> simp [typB] at h
  case inr.inr.inr.inr.inr.inr.inr.inl =>
    rw [typD_8 hk] at h ⊢
    split at h
    · simp [typB] at h
    · rename_i hq
      rw [if_neg hq]
      cases hkey : keyD d (nodeAt d i).b with
      | none => exact absurd hkey hq
      | some q => exact ⟨q, rfl, keyD_some h0 hkey⟩
  all_goals simp [typD, hk, typB] at h
theorem ofD_valid {d : List Node} (h0 : 0 < d.length) (h5 : d.length ≤ 5) : validR ((List.range d.length).map (typD d)) = 0 := by
  have hlen : ((List.range d.length).map (typD d)).length = d.length := by simp
  have hget : ∀ k, k < d.length → ((List.range d.length).map (typD d))[k]? = some (typD d k) := fun k hk => by
    rw [List.getElem?_map, List.getElem?_range hk]
    rfl
  unfold validR
  rw [if_neg (by omega)]
  have hz : ∀ k ∈ List.range ((List.range d.length).map (typD d)).length, ¬ decide (errIdx ((List.range d.length).map (typD d)) k ≠ 0) = true := by
    intro k hk
    have hk : k < d.length := by rw [hlen] at hk; simpa using hk
    have e1 := typD_own d k (by omega)
    have e2 : dupName ((List.range d.length).map (typD d)) k (typD d k) = false := by
      unfold dupName
      rcases typD_name d k with hn | hn
      · rw [hn]
        simp
      · have : hasS ((((List.range d.length).map (typD d)).take k).map (·.name)) (typD d k).name = false := by
          rw [Bool.eq_false_iff]
          intro h
          rw [hasS_iff] at h
          obtain ⟨t, ht, he⟩ := List.mem_map.1 h
          rw [← List.map_take] at ht
          obtain ⟨j, hj, rfl⟩ := List.mem_map.1 ht
          rw [List.take_range] at hj
          have hj := List.mem_range.1 hj
          rw [hn] at he
          rcases typD_name d j with hm | hm
          · rw [hm] at he
            have := isName_ne (isName_nameT ⟨k, by omega⟩)
            exact this he.symm
          · rw [hm] at he
            have := nameT_inj ⟨j, by omega⟩ ⟨k, by omega⟩ he
            simp at this
            omega
        rw [this]
        simp
    have e3 : (usesT (typD d k)).any (outR ((List.range d.length).map (typD d)).length) = false := by
      rw [List.any_eq_false]
      intro u hu
      have := typD_uses h0 hk u hu
      rw [hlen]
      simp [outR]
      omega
    have e4 : badKey ((List.range d.length).map (typD d)) (typD d k) = false := by
      unfold badKey
      by_cases h8 : (typD d k).kind = 8
      · obtain ⟨q, hq1, hq2, hq3⟩ := typD_key h0 h8
        have : kindAt ((List.range d.length).map (typD d)) (typD d k).key = kindD d q := by
          unfold kindAt
          rw [hq1, Int.toNat_natCast, hget q hq2, ← typD_kind hq3]
          rfl
        have hr := kindD_range d q
        have d1 : decide ((1 : Int) ≤ kindD d q) = true := by simp; omega
        have d2 : decide ((kindD d q : Int) ≤ 4) = true := by simp; omega
        rw [this, d1, d2]
        simp
      · simp [h8]
    have e5 : errIdx ((List.range d.length).map (typD d)) k = 0 := by
      simp only [errIdx, hget k hk, errAt, e1, e2, e3, e4]
      rfl
    rw [e5]
    decide
  rw [List.find?_eq_none.2 hz]
  rfl
end Go.Pv

/-
  Chapter 07: a draft's types are in bounds.
-/
namespace Go.Pv

theorem size_nameM : ∀ k : Fin 13, (nameM k.val).size ≤ 8 := by decide
theorem size_symD : ∀ k : Fin 13, (symD k.val).name.size ≤ 8 := by decide
theorem size_nameT : ∀ k : Fin 5, (nameT k.val).size ≤ 8 := by decide
theorem idAt_le (a code : Nat) : idAt a code ≤ 6 := by
  unfold idAt
  cases h : (idsN a)[code % (idsN a).length]? with
  | none => simp
  | some n => exact (idsN_range (List.mem_of_getElem? h)).2
theorem lowN_le (x : Node) : -3 ≤ lowN x ∧ lowN x ≤ 3 := by
  have : x.a % 7 < 7 := Nat.mod_lt _ (by decide)
  unfold lowN
  omega
/-- The values that members begin with. -/
theorem initV_ok (k : Nat) (hk : k ≤ 9) (x : Node) (code : Nat) : VOk 1 (initV k x code).1.c := by
  have hlo := lowN_le x
  have hm : code % (x.b % 6 + 1) < 6 + 1 := Nat.lt_of_lt_of_le (Nat.mod_lt _ (by omega)) (by have : x.b % 6 < 6 := Nat.mod_lt _ (by decide); omega)
  have hid := idAt_le x.a code
  refine ⟨(initV k x code).1, rfl, ?_, ?_, ?_, ?_, ?_⟩
  all_goals unfold initV
  all_goals generalize code % (x.b % 6 + 1) = r at hm ⊢
  all_goals repeat' split
  all_goals simp [zeroVal, I64, strOk, lenOk, ByteArray.size]
  all_goals first
    | omega
    | (split <;> simp; done)
    | skip
theorem zeroVal_ok : VOk 1 zeroVal.c := by
  refine ⟨zeroVal, rfl, ?_, ?_, ?_, ?_, ?_⟩ <;> simp [zeroVal, I64, strOk, lenOk, ByteArray.size]
theorem dfltD_ok (d : List Node) (u : Nat) (p : Part) : VOk 1 (dfltD d u p).1.c := by
  refine initV_ok _ ?_ _ _
  have := kindD_range d u
  unfold initK
  split <;> omega
theorem mkMem_ok {d : List Node} {i : Nat} {fl : Bool} {id : Nat} {p : Part} (h0 : 0 < d.length) (h5 : d.length ≤ 5) (hi : i < d.length) (h1 : id ≤ 12) (hh : hits d i id p = true) : (mkMem d i fl id p).ok := by
  have hs := size_nameM ⟨id, by omega⟩
  dsimp only at hs
  refine ⟨?_, ?_, ?_, 1, ?_⟩
  · show I64 (id : Int)
    unfold I64
    omega
  · show strOk (nameM id)
    unfold strOk
    omega
  · show I64 (optI (targetD d i p.type))
    unfold hits at hh
    cases ht : targetD d i p.type with
    | none => simp [ht] at hh
    | some u =>
      have := targetD_lt h0 hi ht
      unfold I64 optI
      dsimp only
      omega
  · unfold mkMem
    dsimp only
    split
    · exact dfltD_ok _ _ _
    · exact zeroVal_ok
theorem typD_okB {k : Int} {nm : ByteArray} {lo hi mx key el : Int} {sy : List Sym} {ms : List Mem} {op : Bool} (h1 : I64 k) (h2 : strOk nm) (h3 : I64 lo) (h4 : I64 hi) (h5 : I64 mx) (h6 : I64 key) (h7 : I64 el) (h8 : lenOk sy) (h9 : lenOk ms) (h10 : ∀ s ∈ sy, s.ok) (h11 : ∀ m ∈ ms, m.ok) : (⟨k, nm, lo, hi, mx, sy, ms, key, el, op⟩ : Typ).ok := ⟨⟨h1, h2, h3, h4, h5, h6, h7⟩, ⟨h8, h9⟩, h10, h11⟩
theorem typD_ok {d : List Node} {i : Nat} (h0 : 0 < d.length) (h5 : d.length ≤ 5) (hi : i < d.length) : (typD d i).ok ∧ (typD d i).short := by
  have hlo := lowN_le (nodeAt d i)
  have hb6 : (nodeAt d i).b % 6 < 6 := Nat.mod_lt _ (by decide)
  have hhi : highN (nodeAt d i) = lowN (nodeAt d i) + (((nodeAt d i).b % 6 : Nat) : Int) := rfl
  have hc : (nodeAt d i).c % d.length < d.length := Nat.mod_lt _ h0
  have h4 : (nodeAt d i).a % 4 < 4 := Nat.mod_lt _ (by decide)
  have hnm := size_nameT ⟨i, by omega⟩
  dsimp only at hnm
  have hT : strOk (nameT i) := by unfold strOk; omega
  have hE : strOk ⟨#[]⟩ := by unfold strOk; exact Nat.zero_le _
  have z : I64 0 := by unfold I64; omega
  have kk : ∀ k : Int, 0 ≤ k → k ≤ 9 → I64 k := fun k _ _ => by unfold I64; omega
  have iL : I64 (lowN (nodeAt d i)) := by unfold I64; omega
  have iH : I64 (highN (nodeAt d i)) := by unfold I64; omega
  have iC : I64 (((nodeAt d i).c % d.length : Nat) : Int) := by unfold I64; omega
  have iA : I64 (((nodeAt d i).a % 4 : Nat) : Int) := by unfold I64; omega
  have iK : I64 (optI (keyD d (nodeAt d i).b)) := by
    cases hk : keyD d (nodeAt d i).b with
    | none => unfold I64 optI; dsimp only; omega
    | some q =>
      have := keyD_some h0 hk
      unfold I64 optI
      dsimp only
      omega
  have n1 : lenOk ([] : List Sym) := by unfold lenOk; simp
  have n2 : lenOk ([] : List Mem) := by unfold lenOk; simp
  have n3 : ∀ s ∈ ([] : List Sym), s.ok := fun s hs => by simp at hs
  have n4 : ∀ s ∈ ([] : List Mem), s.ok := fun s hs => by simp at hs
  have hsl : (symsD (nodeAt d i).a).length ≤ 6 := by
    unfold symsD
    rw [List.length_map]
    exact (idsN_len _).2
  have sl : lenOk (symsD (nodeAt d i).a) := by unfold lenOk; omega
  have so : ∀ s ∈ symsD (nodeAt d i).a, s.ok := fun s hs => by
    obtain ⟨n, hn, rfl⟩ := List.mem_map.1 hs
    have h6 := idsN_range hn
    have hz := size_symD ⟨n, by omega⟩
    dsimp only at hz
    refine ⟨?_, ?_⟩
    · show I64 (n : Int)
      unfold I64
      omega
    · unfold strOk
      omega
  have hml := fun fl => partsD_len d i fl (nodeAt d i).parts 12
  have ml : ∀ fl, lenOk (partsD d i fl (nodeAt d i).parts 12) := fun fl => by have := hml fl; unfold lenOk; omega
  have mo : ∀ fl, ∀ m ∈ partsD d i fl (nodeAt d i).parts 12, m.ok := fun fl m hm => by
    obtain ⟨id, p, rfl, hh, _, _, h12⟩ := partsD_mem hm
    exact mkMem_ok h0 h5 hi h12 hh
  have hs0 : ∀ t : Typ, t.syms.length ≤ 12 → t.mems.length ≤ 12 → t.short := fun t a b => ⟨by omega, by omega⟩
  rcases kindD_cases d i with hk | hk | hk | hk | hk | hk | hk | hk | hk
  case inr.inr.inr.inr.inr.inl =>
    rw [typD_6 hk]
    split <;> dsimp only [typB]
    · exact ⟨typD_okB (kk 5 (by decide) (by decide)) hT z z z z z n1 n2 n3 n4, hs0 _ (Nat.zero_le _) (Nat.zero_le _)⟩
    · exact ⟨typD_okB (kk 6 (by decide) (by decide)) hT z z z z z n1 (ml false) n3 (mo false), hs0 _ (Nat.zero_le _) (hml false)⟩
  case inr.inr.inr.inr.inr.inr.inr.inl =>
    rw [typD_8 hk]
    split <;> dsimp only [typB]
    · exact ⟨typD_okB (kk 7 (by decide) (by decide)) hE z z iA z iC n1 n2 n3 n4, hs0 _ (Nat.zero_le _) (Nat.zero_le _)⟩
    · exact ⟨typD_okB (kk 8 (by decide) (by decide)) hE z z iA iK iC n1 n2 n3 n4, hs0 _ (Nat.zero_le _) (Nat.zero_le _)⟩
  all_goals simp only [typD, hk]
  all_goals dsimp -failIfUnchanged [typB]
  · exact ⟨typD_okB (kk 1 (by decide) (by decide)) hE z z z z z n1 n2 n3 n4, hs0 _ (Nat.zero_le _) (Nat.zero_le _)⟩
  · exact ⟨typD_okB (kk 2 (by decide) (by decide)) hE iL iH z z z n1 n2 n3 n4, hs0 _ (Nat.zero_le _) (Nat.zero_le _)⟩
  · exact ⟨typD_okB (kk 3 (by decide) (by decide)) hE z z iA z z n1 n2 n3 n4, hs0 _ (Nat.zero_le _) (Nat.zero_le _)⟩
  · exact ⟨typD_okB (kk 4 (by decide) (by decide)) hT z z z z z sl n2 so n4, hs0 _ (Nat.le_trans hsl (by decide)) (Nat.zero_le _)⟩
  · exact ⟨typD_okB (kk 5 (by decide) (by decide)) hT z z z z z n1 (ml true) n3 (mo true), hs0 _ (Nat.zero_le _) (hml true)⟩
  · exact ⟨typD_okB (kk 7 (by decide) (by decide)) hE z z iA z iC n1 n2 n3 n4, hs0 _ (Nat.zero_le _) (Nat.zero_le _)⟩
  · exact ⟨typD_okB (kk 9 (by decide) (by decide)) hE z z z z iC n1 n2 n3 n4, hs0 _ (Nat.zero_le _) (Nat.zero_le _)⟩
theorem ofD_ok {d : List Node} (h0 : 0 < d.length) (h5 : d.length ≤ 5) : (∀ t ∈ (List.range d.length).map (typD d), t.ok) ∧ ∀ t ∈ (List.range d.length).map (typD d), t.short := by
  constructor <;> intro t ht <;> obtain ⟨i, hi, rfl⟩ := List.mem_map.1 ht
  · exact (typD_ok h0 h5 (List.mem_range.1 hi)).1
  · exact (typD_ok h0 h5 (List.mem_range.1 hi)).2
end Go.Pv

/-
  Chapter 07: the law of Closed.
-/
namespace Go.Pv

theorem known_ok {l : List Typ} {i : Int} (hv : validR l = 0) (h0 : 0 ≤ i) (h1 : i < l.length) : knownR l i = 0 := by
  unfold knownR
  rw [hv]
  have : outR l.length i = false := by
    simp [outR]
    omega
  simp [this]
theorem reach_closed {l : List Typ} {i u x : Int} (hk : knownR l i = 0) (hu : u ∈ reachL l i) (hx : x ∈ usesT (typAt l u)) : x ∈ reachL l i := by
  obtain ⟨hv, h0, h1⟩ := known_zero hk
  have hP := (valid_sane hv).next
  unfold reachL at *
  rw [bfs_rch (P := inT l) hP inT_bound ⟨h0, h1⟩] at *
  exact .step hu hx
theorem valid_zero {l : List Typ} (h : validR l = 0) : ∀ k, k < l.length → errIdx l k = 0 := by
  unfold validR at h
  split at h
  · cases h
  · cases hf : (List.range l.length).find? (fun k => decide (errIdx l k ≠ 0)) with
    | none =>
      intro k hk
      have := List.find?_eq_none.1 hf k (List.mem_range.2 hk)
      simpa using this
    | some k =>
      rw [hf] at h
      have := List.find?_some hf
      simp only [errOf] at h
      simp [h] at this
theorem valid_dup {l : List Typ} {k : Nat} {t : Typ} (h : validR l = 0) (hk : l[k]? = some t) : dupName l k t = false := by
  have := valid_zero h k (List.getElem?_eq_some_iff.1 hk).1
  simp only [errIdx, hk, errAt] at this
  split at this
  · cases this
  · rename_i h1
    simp only [Bool.or_eq_true, Bool.not_eq_true', not_or] at h1
    simpa using h1.2
/-- A named type is found where it is. -/
theorem find_own {l : List Typ} {k : Nat} {t : Typ} (hv : validR l = 0) (hk : l[k]? = some t) (hn : (decide (4 ≤ t.kind) && decide (t.kind ≤ 6)) = true) : findR t.name l = [.int .i64 k, .int .i64 0] := by
  have hnm : isName t.name = true := by
    have ho := (valid_sane hv).own t (List.mem_of_getElem? hk)
    unfold ownOk at ho
    rw [hn] at ho
    simp only [Bool.and_eq_true] at ho
    simpa using ho.2.2.1
  have hd := valid_dup hv hk
  unfold dupName at hd
  have e0 : decide (t.name = ⟨#[]⟩) = false := by simpa using isName_ne hnm
  rw [e0] at hd
  have hd : hasS ((l.take k).map (·.name)) t.name = false := by simpa using hd
  have hp : findP t.name t = true := by
    unfold findP
    rw [hn]
    simp
  have hf : Found l (findP t.name) k t := found_of (fun j hj y hy => by
    rw [Bool.eq_false_iff]
    intro h
    unfold findP at h
    simp only [Bool.and_eq_true, decide_eq_true_eq] at h
    have : hasS ((l.take k).map (·.name)) t.name = true := by
      rw [hasS_iff]
      exact List.mem_map.2 ⟨y, List.mem_of_getElem? (i := j) (by rw [List.getElem?_take, if_pos hj]; exact hy), h.1⟩
    rw [this] at hd
    cases hd) hk hp
  unfold findR
  rw [hf.firstI, if_neg (by omega)]
end Go.Pv

/-
  Chapter 07: the law of Closed, continued.
-/
namespace Go.Pv

set_option maxHeartbeats 4000000 in
/-- SchemaClosed, given that the chapter is awake. -/
theorem r389 (r265 : res A PrA 265 [] = some [.bool true]) (d : List Node) (c : Nat) (hc : c ≤ 255) (hok : ∀ y ∈ d, y.ok) (hll : lenOk d) : res A PrA 389 [.agg [.lst 0 (d.map Node.cs)], .int .u8 c] = some [.bool true] := by
  refine res_of a389 rfl rfl ?_
  simp only [F389]
  have h279 := fun t => r279 t d hok hll
  simp (disch := omega) only [go_sem, h279, r265]
  by_cases hd : d.length < 1 ∨ 5 < d.length
  · have e : ofD d = ([], false) := by unfold ofD; rw [if_pos hd]
    simp (disch := omega) only [go_sem, e, r265]
  have e : ofD d = ((List.range d.length).map (typD d), true) := by unfold ofD; rw [if_neg hd]
  have hv := ofD_valid (d := d) (by omega) (by omega)
  obtain ⟨ho, hs⟩ := ofD_ok (d := d) (by omega) (by omega)
  have hlen : ((List.range d.length).map (typD d)).length = d.length := by simp
  rw [e]
  dsimp only
  generalize (List.range d.length).map (typD d) = l at *
  have hr := rem_u8 (k := .i64) (a := c) (n := l.length) (by omega)
  have hcm : c % l.length < l.length := Nat.mod_lt _ (by omega)
  have hk := known_ok hv (i := ((c % l.length : Nat) : Int)) (by omega) (by omega)
  have hR : reachR l ((c % l.length : Nat) : Int) = (isort ltI (reachL l ((c % l.length : Nat) : Int)), 0) := by
    unfold reachR
    rw [if_neg (fun h => h hk)]
  have h273 := fun v => r273 v l ((c % l.length : Nat) : Int) (by omega) ho hs
  rw [hR] at h273
  dsimp only at h273
  simp (disch := omega) only [go_sem, hr, h273]
  have hmem : ∀ u ∈ isort ltI (reachL l ((c % l.length : Nat) : Int)), u ∈ reachL l ((c % l.length : Nat) : Int) := fun u hu => (isort_perm ltI _).mem_iff.1 hu
  have hmem2 : ∀ u ∈ reachL l ((c % l.length : Nat) : Int), u ∈ isort ltI (reachL l ((c % l.length : Nat) : Int)) := fun u hu => (isort_perm ltI _).mem_iff.2 hu
  have hcl : ∀ u ∈ isort ltI (reachL l ((c % l.length : Nat) : Int)), ∀ x ∈ usesT (typAt l u), x ∈ isort ltI (reachL l ((c % l.length : Nat) : Int)) := fun u hu x hx => hmem2 _ (reach_closed hk (hmem u hu) hx)
  have hin : ∀ u ∈ isort ltI (reachL l ((c % l.length : Nat) : Int)), inT l u := fun u hu => (reachR_in hk).2 u (hmem u hu)
  have hRl := reachR_len (l := l) (i := ((c % l.length : Nat) : Int))
  rw [hR] at hRl
  dsimp only at hRl
  clear hR h273
  generalize isort ltI (reachL l ((c % l.length : Nat) : Int)) = L at *
  refine W.upto L.length (fun k => ⟨[(5, .ptr 5 0), (7, .pv (.lst 0 (ints L))), (44, .pv (.lst 0 (ints L))), (45, .pv (.int .i64 L.length)), (46, .pv (.int .i64 k))], ⟨[(5, [.pv (.lst 0 (l.map Typ.c))])], [], []⟩⟩) (fun _ => True) rfl trivial (fun k hk1 _ => ?_)
  simp (disch := omega) only [go_sem]
  refine Br.ofP (fun c1 => ?_) (fun c1 => ?_)
  · have hg := List.getElem?_eq_getElem (l := L) (i := k) (by omega)
    generalize L[k]'(by omega) = u at hg
    have hu := List.mem_of_getElem? hg
    obtain ⟨u0, u1⟩ := hin u hu
    have hku := known_ok hv u0 u1
    have h271 := fun v => r271 v l u (by omega) ho hs
    have eU : usesR l u = (addL [] (usesT (typAt l u)), 0) := by
      unfold usesR
      rw [if_neg (fun h => h hku)]
    rw [eU] at h271
    dsimp only at h271
    have hsub : ∀ x ∈ addL [] (usesT (typAt l u)), x ∈ L := fun x hx => hcl u hu x (by simpa using addL_mem.1 hx)
    simp (disch := omega) only [go_sem, hg, h271]
    have hML : (addL [] (usesT (typAt l u))).length ≤ l.length := inT_bound _ (addL_nodup (by simp)) (fun v hv => hin v (hsub v hv))
    generalize addL [] (usesT (typAt l u)) = M at *
    refine W.upto M.length (fun j => ⟨[(5, .ptr 5 0), (7, .pv (.lst 0 (ints L))), (44, .pv (.lst 0 (ints L))), (45, .pv (.int .i64 L.length)), (46, .pv (.int .i64 k)), (58, .pv (.lst 0 (ints M))), (59, .pv (.int .i64 M.length)), (60, .pv (.int .i64 j))], ⟨[(5, [.pv (.lst 0 (l.map Typ.c))])], [], []⟩⟩) (fun _ => True) rfl trivial (fun j hj _ => ?_)
    simp (disch := omega) only [go_sem]
    refine Br.ofP (fun c2 => ?_) (fun c2 => ?_)
    · have hgx := List.getElem?_eq_getElem (l := M) (i := j) (by omega)
      generalize M[j]'(by omega) = x at hgx
      have h293 := fun t => s293 t L x (by omega)
      have hx : decide (x ∈ L) = true := by simpa using hsub x (List.mem_of_getElem? hgx)
      simp (disch := omega) only [go_sem, hgx, h293, hx]
      exact .of (by omega) rfl trivial
    · simp (disch := omega) only [go_sem]
      exact .of (by omega) rfl trivial
  · obtain rfl : k = L.length := by omega
    simp (disch := omega) only [go_sem]
    refine W.upto l.length (fun k => ⟨[(5, .ptr 5 0), (71, .pv (.lst 0 (l.map Typ.c))), (72, .pv (.int .i64 l.length)), (73, .pv (.int .i64 k))], ⟨[(5, [.pv (.lst 0 (l.map Typ.c))])], [], []⟩⟩) (fun _ => True) rfl trivial (fun k hk2 _ => ?_)
    simp (disch := omega) only [go_sem]
    refine Br.ofP (fun c2 => ?_) (fun c2 => ?_)
    · have hg := List.getElem?_eq_getElem (l := l) (i := k) (by omega)
      generalize l[k]'(by omega) = t at hg
      have hidx : idxR 10 0 (l.map Typ.c) (some (k : Int)) = some (V.pv (.ro 0 [.int .i64 t.kind, .str t.name, .int .i64 t.low, .int .i64 t.high, .int .i64 t.max, .lst 0 (t.syms.map Sym.c), .lst 0 (t.mems.map Mem.c), .int .i64 t.key, .int .i64 t.elem, .bool t.opn])) := by
        rw [idxR_nat, List.getElem?_map, hg]
        rfl
      have h269 := fun v => r269 v t.name l (by omega)
      have h286 := r286 t.kind
      by_cases hn : (decide (4 ≤ t.kind) && decide (t.kind ≤ 6)) = true
      · have hf := find_own hv hg hn
        rw [hf] at h269
        rw [hn] at h286
        simp (disch := omega) only [go_sem, hidx, h269, h286]
        exact .of (by omega) rfl trivial
      · rw [Bool.not_eq_true] at hn
        rw [hn] at h286
        unfold findR at h269
        split at h269
        · simp (disch := omega) only [go_sem, hidx, h269, h286]
          exact .of (by omega) rfl trivial
        · simp (disch := omega) only [go_sem, hidx, h269, h286]
          exact .of (by omega) rfl trivial
    · simp (disch := omega) only [go_sem]
end Go.Pv

/-
  Chapter 07: a pruned schema is valid, and prunes to itself (plain).
-/
namespace Go.Pv

theorem idxI_mem {L : List Int} {u : Int} (h : u ∈ L) : 0 ≤ idxI L u ∧ idxI L u < L.length ∧ L[(idxI L u).toNat]? = some u := by
  unfold idxI firstI
  cases hf : L.findIdx? (fun y => decide (y = u)) with
  | none =>
    rw [List.findIdx?_eq_none_iff] at hf
    have := hf u h
    simp at this
  | some k =>
    rw [List.findIdx?_eq_some_iff_getElem] at hf
    obtain ⟨hk, hp, _⟩ := hf
    dsimp only
    refine ⟨by omega, by omega, ?_⟩
    rw [Int.toNat_natCast, List.getElem?_eq_getElem hk]
    simpa using hp
theorem idxI_at {L : List Int} (hd : L.Nodup) {k : Nat} {u : Int} (h : L[k]? = some u) : idxI L u = k := by
  obtain ⟨h0, h1, h2⟩ := idxI_mem (List.mem_of_getElem? h)
  have := (List.getElem?_inj (i := (idxI L u).toNat) (j := k) (by omega) hd).1 (h2.trans h.symm)
  omega
/-- A list of places that holds all that it uses. -/
structure Shut (l : List Typ) (L : List Int) : Prop where
  v : validR l = 0
  asc : L.Pairwise (· < ·)
  inn : ∀ u ∈ L, inT l u
  cl : ∀ u ∈ L, ∀ x ∈ usesT (typAt l u), x ∈ L
theorem Shut.nodup {l : List Typ} {L : List Int} (h : Shut l L) : L.Nodup := h.asc.imp (fun hlt => Int.ne_of_lt hlt)
theorem Shut.len {l : List Typ} {L : List Int} (h : Shut l L) : L.length ≤ 32 := Nat.le_trans (inT_bound L h.nodup h.inn) (valid_sane h.v).len
def cutL (l : List Typ) (L : List Int) : List Typ := L.map fun u => remapT L (typAt l u)
theorem cutL_get {l : List Typ} {L : List Int} {k : Nat} {u : Int} (h : L[k]? = some u) : (cutL l L)[k]? = some (remapT L (typAt l u)) := by
  unfold cutL
  rw [List.getElem?_map, h]
  rfl
theorem uses_remap (L : List Int) (t : Typ) : usesT (remapT L t) = (usesT t).map (idxI L) := by
  obtain ⟨k, a2, a3, a4, a5, a6, a7, a8, a9, a10⟩ := t
  have e1 : (a7.map (remapM L)).map (·.type) = (a7.map (·.type)).map (idxI L) := by
    rw [List.map_map, List.map_map]
    rfl
  unfold usesT keysT elemsT remapT
  dsimp only
  rw [e1]
  by_cases h8 : k = 8
  · subst h8
    simp
  · by_cases h7 : 7 ≤ k
    · simp [h8, h7]
    · simp [h8, h7]
theorem memsOk_remap (L : List Int) (b : Bool) (l : List Mem) : memsOk b (l.map (remapM L)) = memsOk b l := by
  have e1 : (l.map (remapM L)).any (memBad b) = l.any (memBad b) := by
    rw [List.any_map]
    rfl
  have e2 : (l.map (remapM L)).map Mem.nm = l.map Mem.nm := by
    rw [List.map_map]
    rfl
  unfold memsOk
  rw [e1, e2, List.length_map]
theorem kindOk_remap (L : List Int) (t : Typ) : kindOk (remapT L t) = kindOk t := by
  unfold kindOk
  have e : ∀ b, memsOk b (remapT L t).mems = memsOk b t.mems := fun b => memsOk_remap L b t.mems
  rw [e, e]
  rfl
theorem plain_remap (L : List Int) {t : Typ} (h : t = plainTy t) (_h9 : t.kind ≤ 9) : remapT L t = plainTy (remapT L t) := by
  have hk : (remapT L t).kind = t.kind := rfl
  rcases kind_cases t.kind with e | e | e | e | e | e | e | e | ⟨n1, n2, n3, n4, n5, n6, n7, n8⟩
  all_goals first
    | (unfold plainTy at h ⊢
       rw [hk]
       simp only [e] at h ⊢
       simp (decide := true) only [if_false, if_true] at h ⊢
       rw [h]
       simp [remapT, zeroTyp]
       done)
    | skip
  unfold plainTy at h ⊢
  rw [hk]
  simp only [n1, n2, n3, n4, n5, n6, n7, n8, if_false] at h ⊢
  rw [h]
  simp [remapT, zeroTyp, n8]
theorem own_remap (L : List Int) {t : Typ} (h : ownOk t = true) : ownOk (remapT L t) = true := by
  have h9 := own_kind h
  unfold ownOk at h ⊢
  simp only [Bool.and_eq_true] at h ⊢
  obtain ⟨h1, h2, h3, h4⟩ := h
  refine ⟨h1, ?_, h3, ?_⟩
  · rw [eqv_iff] at h2 ⊢
    exact plain_remap L h2 h9
  · rw [kindOk_remap]
    exact h4
theorem Shut.nodupName {l : List Typ} {L : List Int} (h : Shut l L) {k : Nat} {u : Int} (hu : L[k]? = some u) : dupName (cutL l L) k (remapT L (typAt l u)) = false := by
  obtain ⟨u0, u1⟩ := h.inn u (List.mem_of_getElem? hu)
  have hd := valid_dup h.v (typAt_get u0 u1)
  rw [Bool.eq_false_iff] at hd ⊢
  intro hh
  apply hd
  unfold dupName at hh ⊢
  simp only [Bool.and_eq_true] at hh ⊢
  refine ⟨hh.1, ?_⟩
  have h2 := hh.2
  rw [hasS_iff] at h2 ⊢
  obtain ⟨t, ht, he⟩ := List.mem_map.1 h2
  obtain ⟨j, hj⟩ := List.mem_iff_getElem?.1 ht
  rw [List.getElem?_take] at hj
  split at hj
  · rename_i hjk
    have hkl := (List.getElem?_eq_some_iff.1 hu).1
    have hw := List.getElem?_eq_getElem (l := L) (i := j) (by omega)
    have hlt : L[j]'(by omega) < u := by
      have := List.pairwise_iff_getElem.1 h.asc j k (by omega) hkl hjk
      rw [List.getElem?_eq_getElem hkl] at hu
      cases hu
      exact this
    generalize L[j]'(by omega) = w at hw hlt
    rw [cutL_get hw] at hj
    cases hj
    obtain ⟨w0, w1⟩ := h.inn w (List.mem_of_getElem? hw)
    refine List.mem_map.2 ⟨typAt l w, ?_, he⟩
    refine List.mem_of_getElem? (i := w.toNat) ?_
    rw [List.getElem?_take, if_pos (by omega)]
    exact typAt_get w0 w1
  · cases hj
theorem Shut.uses {l : List Typ} {L : List Int} (h : Shut l L) {u : Int} (hu : u ∈ L) : ∀ x ∈ usesT (remapT L (typAt l u)), 0 ≤ x ∧ x < L.length := by
  intro x hx
  rw [uses_remap] at hx
  obtain ⟨y, hy, rfl⟩ := List.mem_map.1 hx
  obtain ⟨h0, h1, _⟩ := idxI_mem (h.cl u hu y hy)
  exact ⟨h0, h1⟩
theorem valid_key {l : List Typ} {k : Nat} {t : Typ} (h : validR l = 0) (hk : l[k]? = some t) : badKey l t = false := by
  have := valid_zero h k (List.getElem?_eq_some_iff.1 hk).1
  simp only [errIdx, hk, errAt] at this
  split at this
  · cases this
  · split at this
    · cases this
    · split at this
      · cases this
      · rename_i h3
        simpa using h3
theorem Shut.key {l : List Typ} {L : List Int} (h : Shut l L) {u : Int} (hu : u ∈ L) : badKey (cutL l L) (remapT L (typAt l u)) = false := by
  obtain ⟨u0, u1⟩ := h.inn u hu
  have hb := valid_key h.v (typAt_get u0 u1)
  unfold badKey at hb ⊢
  by_cases h8 : (typAt l u).kind = 8
  · have hk := h.cl u hu _ (key_used h8)
    obtain ⟨i0, i1, i2⟩ := idxI_mem hk
    obtain ⟨k0, k1⟩ := h.inn _ hk
    have e1 : (remapT L (typAt l u)).key = idxI L (typAt l u).key := if_pos h8
    have e2 : kindAt (cutL l L) (idxI L (typAt l u).key) = kindAt l (typAt l u).key := by
      unfold kindAt
      rw [cutL_get i2, typAt_get k0 k1]
      rfl
    rw [e1, e2]
    exact hb
  · have : (remapT L (typAt l u)).kind = (typAt l u).kind := rfl
    rw [this]
    simp [h8]
theorem Shut.valid {l : List Typ} {L : List Int} (h : Shut l L) : validR (cutL l L) = 0 := by
  have hlen : (cutL l L).length = L.length := by simp [cutL]
  have h32 := h.len
  unfold validR
  rw [if_neg (by omega)]
  have hz : ∀ k ∈ List.range (cutL l L).length, ¬ decide (errIdx (cutL l L) k ≠ 0) = true := by
    intro k hk
    have hk : k < L.length := by rw [hlen] at hk; simpa using hk
    have hu := List.getElem?_eq_getElem hk
    generalize L[k] = u at hu
    have hm := List.mem_of_getElem? hu
    obtain ⟨u0, u1⟩ := h.inn u hm
    have e1 := own_remap L ((valid_sane h.v).own _ (List.mem_of_getElem? (typAt_get u0 u1)))
    have e2 := h.nodupName hu
    have e3 : (usesT (remapT L (typAt l u))).any (outR (cutL l L).length) = false := by
      rw [List.any_eq_false]
      intro x hx
      have := h.uses hm x hx
      rw [hlen]
      simp [outR]
      omega
    have e4 := h.key hm
    have e5 : errIdx (cutL l L) k = 0 := by
      simp only [errIdx, cutL_get hu, errAt, e1, e2, e3, e4]
      rfl
    rw [e5]
    decide
  rw [List.find?_eq_none.2 hz]
  rfl
/-- What is reached goes over. -/
theorem Shut.goes {l : List Typ} {L : List Int} (h : Shut l L) {i u : Int} (hi : i ∈ L) (hr : Rch (nxT l) i u) : u ∈ L ∧ Rch (nxT (cutL l L)) (idxI L i) (idxI L u) := by
  induction hr with
  | refl => exact ⟨hi, .refl⟩
  | @step v x _ hx ih =>
    obtain ⟨hv, hr⟩ := ih
    have hxL := h.cl v hv x hx
    refine ⟨hxL, .step hr ?_⟩
    obtain ⟨v0, v1, v2⟩ := idxI_mem hv
    have : typAt (cutL l L) (idxI L v) = remapT L (typAt l v) := by
      unfold typAt
      rw [cutL_get v2]
      rfl
    unfold nxT
    rw [this, uses_remap]
    exact List.mem_map_of_mem hx
def upI (m : Nat) : List Int := (List.range m).map fun (k : Nat) => (k : Int)
theorem upI_asc (m : Nat) : (upI m).Pairwise (· < ·) := by
  unfold upI
  rw [List.pairwise_map]
  have : (List.range m).Pairwise (· < ·) := List.pairwise_lt_range
  exact this.imp (fun h => by omega)
theorem upI_get {m k : Nat} (h : k < m) : (upI m)[k]? = some (k : Int) := by
  unfold upI
  rw [List.getElem?_map, List.getElem?_range h]
  rfl
theorem upI_idx {m : Nat} {x : Int} (h0 : 0 ≤ x) (h1 : x < m) : idxI (upI m) x = x := by
  have hn : (upI m).Nodup := (upI_asc m).imp (fun hlt => Int.ne_of_lt hlt)
  have := idxI_at hn (upI_get (m := m) (k := x.toNat) (by omega))
  rw [Int.toNat_of_nonneg h0] at this
  exact this
theorem remap_same {L : List Int} {t : Typ} (h : ∀ x ∈ usesT t, idxI L x = x) : remapT L t = t := by
  have e1 : t.mems.map (remapM L) = t.mems := by
    rw [List.map_congr_left (g := id) (fun m hm => by
      unfold remapM
      rw [h _ (mem_used hm)]
      rfl), List.map_id]
  have e2 : (if t.kind = 8 then idxI L t.key else t.key) = t.key := by
    split
    · rename_i h8
      exact h _ (key_used h8)
    · rfl
  have e3 : (if 7 ≤ t.kind then idxI L t.elem else t.elem) = t.elem := by
    split
    · rename_i h7
      exact h _ (elem_used h7)
    · rfl
  unfold remapT
  rw [e1, e2, e3]
/-- What is said of pruning twice. -/
structure Again (l : List Typ) (i : Int) : Prop where
  ok : reachR l i = (isort ltI (reachL l i), 0)
  pr : prunedL l i = cutL l (isort ltI (reachL l i))
  pl : placeL l i = plK (isort ltI (reachL l i)) l.length l.length
  mem : i ∈ isort ltI (reachL l i)
  shut : Shut l (isort ltI (reachL l i))
theorem again_of {l : List Typ} {i : Int} (hv : validR l = 0) (h0 : 0 ≤ i) (h1 : i < l.length) : Again l i := by
  have hk := known_ok hv h0 h1
  have hR : reachR l i = (isort ltI (reachL l i), 0) := by
    unfold reachR
    rw [if_neg (fun h => h hk)]
  have hP := (valid_sane hv).next
  have hm : ∀ u, u ∈ isort ltI (reachL l i) ↔ u ∈ reachL l i := fun u => (isort_perm ltI _).mem_iff
  have hz : (reachR l i).2 = 0 := by rw [hR]
  obtain ⟨_, h2, h3⟩ := reachR_ok hz
  rw [hR] at h2 h3
  dsimp only at h2 h3
  refine ⟨hR, ?_, ?_, ?_, hv, ?_, h3, fun u hu x hx => ?_⟩
  · unfold prunedL cutL
    rw [hR]
  · unfold placeL
    rw [hR]
    simp
  · rw [hm]
    unfold reachL
    rw [bfs_rch (P := inT l) hP inT_bound ⟨h0, h1⟩]
    exact .refl
  · exact isort_asc ((isort_perm ltI _).nodup_iff.1 h2)
  · rw [hm] at hu ⊢
    exact reach_closed hk hu hx
/-- Pruning what is whole changes nothing. -/
theorem again_same {l : List Typ} {i : Int} (h : Again l i) : reachR (prunedL l i) (idxI (isort ltI (reachL l i)) i) = (upI (prunedL l i).length, 0) ∧ prunedL (prunedL l i) (idxI (isort ltI (reachL l i)) i) = prunedL l i ∧ placeL (prunedL l i) (idxI (isort ltI (reachL l i)) i) = upI (prunedL l i).length := by
  have hR0 := h.ok
  obtain ⟨_, hpr, _, hmem, hshut⟩ := h
  rw [hpr]
  have hr : ∀ u ∈ isort ltI (reachL l i), Rch (nxT l) i u := fun u hu => by
    obtain ⟨h0, h1⟩ := hshut.inn i hmem
    have hu := (isort_perm ltI _).mem_iff.1 hu
    unfold reachL at hu
    rw [bfs_rch (P := inT l) (valid_sane hshut.v).next inT_bound ⟨h0, h1⟩] at hu
    exact hu
  clear hR0 hpr
  generalize isort ltI (reachL l i) = L at *
  have hlen : (cutL l L).length = L.length := by simp [cutL]
  obtain ⟨i0, i1, _⟩ := idxI_mem hmem
  have h2 := again_of hshut.valid i0 (by rw [hlen]; exact i1)
  obtain ⟨k1, k2, k3, k4, k5⟩ := h2
  have hup : isort ltI (reachL (cutL l L) (idxI L i)) = upI (cutL l L).length := by
    refine asc_ext k5.asc (upI_asc _) fun x => ?_
    constructor
    · intro hx
      obtain ⟨x0, x1⟩ := k5.inn x hx
      unfold upI
      exact List.mem_map.2 ⟨x.toNat, List.mem_range.2 (by omega), by omega⟩
    · intro hx
      unfold upI at hx
      obtain ⟨k, hk, rfl⟩ := List.mem_map.1 hx
      have hk : k < L.length := by rw [hlen] at hk; simpa using hk
      have hg := List.getElem?_eq_getElem hk
      generalize L[k] = u at hg
      have hgo := (hshut.goes hmem (hr u (List.mem_of_getElem? hg))).2
      rw [idxI_at hshut.nodup hg] at hgo
      rw [(isort_perm ltI _).mem_iff]
      unfold reachL
      rw [bfs_rch (P := inT (cutL l L)) (valid_sane k5.v).next inT_bound ⟨i0, by rw [hlen]; exact i1⟩]
      exact hgo
  rw [hup] at k1 k2 k3
  refine ⟨k1, ?_, ?_⟩
  · rw [k2]
    apply List.ext_getElem?
    intro k
    rcases Nat.lt_or_ge k (cutL l L).length with hk | hk
    · have hg := List.getElem?_eq_getElem hk
      rw [cutL_get (upI_get hk)]
      have ht : typAt (cutL l L) (k : Int) = (cutL l L)[k] := by
        unfold typAt
        rw [Int.toNat_natCast, hg]
        rfl
      rw [ht, hg, remap_same]
      intro x hx
      have hsane := valid_sane k5.v
      obtain ⟨x0, x1⟩ := hsane.uses _ (List.getElem_mem hk) x hx
      exact upI_idx x0 x1
    · rw [List.getElem?_eq_none hk, List.getElem?_eq_none]
      have e1 : (upI (cutL l L).length).length = (cutL l L).length := by simp [upI]
      show (List.map _ (upI (cutL l L).length)).length ≤ k
      rw [List.length_map, e1]
      exact hk
  · rw [k3]
    unfold plK upI
    apply List.map_congr_left
    intro j hj
    have hj := List.mem_range.1 hj
    rw [if_pos hj]
    exact upI_idx (m := (cutL l L).length) (by omega) (by omega)
end Go.Pv

/-
  Chapter 07: a draft's types are small; the law of Again.
-/
namespace Go.Pv

theorem smallB {M : Nat} {k : Int} {nm : ByteArray} {lo hi mx key el : Int} {sy : List Sym} {ms : List Mem} {op : Bool} (h1 : nm.size ≤ M) (h2 : sy.length ≤ M) (h3 : ms.length ≤ M) (h4 : ∀ s ∈ sy, s.name.size ≤ M) (h5 : ∀ m ∈ ms, ∀ c ∈ m.c, Small M c) : ∀ c ∈ (⟨k, nm, lo, hi, mx, sy, ms, key, el, op⟩ : Typ).c, Small M c := by
  intro c hc
  simp only [Typ.c, List.mem_cons, List.not_mem_nil, or_false] at hc
  rcases hc with rfl | rfl | rfl | rfl | rfl | rfl | rfl | rfl | rfl | rfl
  · exact .int _ _
  · exact .str _ h1
  · exact .int _ _
  · exact .int _ _
  · exact .int _ _
  · refine .lst _ _ (by simpa using h2) (fun r hr c hc => ?_)
    obtain ⟨s, hs, rfl⟩ := List.mem_map.1 hr
    simp only [Sym.c, List.mem_cons, List.not_mem_nil, or_false] at hc
    rcases hc with rfl | rfl
    · exact .int _ _
    · exact .str _ (h4 s hs)
  · refine .lst _ _ (by simpa using h3) (fun r hr c hc => ?_)
    obtain ⟨m, hm, rfl⟩ := List.mem_map.1 hr
    exact h5 m hm c hc
  · exact .int _ _
  · exact .int _ _
  · exact .bool _
theorem small_typ {M : Nat} {t : Typ} (h : ∀ c ∈ t.c, Small M c) : t.name.size ≤ M ∧ t.syms.length ≤ M ∧ t.mems.length ≤ M ∧ (∀ s ∈ t.syms, s.name.size ≤ M) ∧ ∀ m ∈ t.mems, ∀ c ∈ m.c, Small M c := by
  have h1 := h (.str t.name) (by simp [Typ.c])
  have h2 := lst_small (h (.lst 0 (t.syms.map Sym.c)) (by simp [Typ.c]))
  have h3 := lst_small (h (.lst 0 (t.mems.map Mem.c)) (by simp [Typ.c]))
  refine ⟨?_, by simpa using h2.1, by simpa using h3.1, fun s hs => ?_, fun m hm => h3.2 _ (List.mem_map_of_mem hm)⟩
  · cases h1 with
    | str _ h => exact h
  · have := h2.2 _ (List.mem_map_of_mem hs) (.str s.name) (by simp [Sym.c])
    cases this with
    | str _ h => exact h
theorem small_remapM {M : Nat} {L : List Int} {m : Mem} (h : ∀ c ∈ m.c, Small M c) : ∀ c ∈ (remapM L m).c, Small M c := by
  unfold remapM Mem.c at *
  simp only [List.forall_mem_cons] at h ⊢
  obtain ⟨h1, h2, _, h4⟩ := h
  exact ⟨h1, h2, .int _ _, h4⟩
theorem small_remapT {M : Nat} {L : List Int} {t : Typ} (h : ∀ c ∈ t.c, Small M c) : ∀ c ∈ (remapT L t).c, Small M c := by
  obtain ⟨h1, h2, h3, h4, h5⟩ := small_typ h
  refine smallB h1 h2 (by simpa using h3) h4 (fun m hm => ?_)
  obtain ⟨q, hq, rfl⟩ := List.mem_map.1 hm
  exact small_remapM (h5 q hq)
/-- Names and lists of a draft are short. -/
theorem initV_small (k : Nat) (x : Node) (code : Nat) : ∀ c ∈ (initV k x code).1.c, Small 1048576 c := by
  have key : ∀ v : Val, v.str.size ≤ 1048576 → v.keys = [] → v.items = [] → v.rest = [] → ∀ c ∈ v.c, Small 1048576 c := by
    intro v h1 h2 h3 h4 c hc
    simp only [Val.c, h2, h3, h4, List.map_nil, List.mem_cons, List.not_mem_nil, or_false] at hc
    have hn : ∀ t, Small 1048576 (.lst t []) := fun t => .lst t [] (Nat.zero_le _) (fun r hr => by simp at hr)
    rcases hc with rfl | rfl | rfl | rfl | rfl | rfl | rfl | rfl
    · exact .int _ _
    · exact .bool _
    · exact .int _ _
    · exact .str _ h1
    · exact .int _ _
    · exact hn 0
    · exact hn 0
    · exact hn 0
  unfold initV
  have z : (⟨#[]⟩ : ByteArray).size ≤ 1048576 := Nat.zero_le _
  split
  · exact key _ z rfl rfl rfl
  split
  · exact key _ z rfl rfl rfl
  split
  · refine key _ ?_ rfl rfl rfl
    dsimp only
    split
    · exact Nat.le_of_ble_eq_true rfl
    · exact z
  split
  · exact key _ z rfl rfl rfl
  split
  · exact key _ z rfl rfl rfl
  · exact key _ z rfl rfl rfl
theorem zeroVal_small : ∀ c ∈ zeroVal.c, Small 1048576 c := initV_small 5 noNode 0
theorem mkMem_small {d : List Node} {i : Nat} {fl : Bool} {id : Nat} {p : Part} (h1 : id ≤ 12) : ∀ c ∈ (mkMem d i fl id p).c, Small 1048576 c := by
  have hs := size_nameM ⟨id, by omega⟩
  dsimp only at hs
  have hv : ∀ c ∈ (mkMem d i fl id p).dflt.c, Small 1048576 c := by
    unfold mkMem
    dsimp only
    split
    · exact initV_small _ _ _
    · exact zeroVal_small
  have hn : (mkMem d i fl id p).name = nameM id := rfl
  generalize mkMem d i fl id p = m at *
  have e : m.c = [.int .i64 m.id, .str m.name, .int .i64 m.type, .bool m.crit, .bool m.has] ++ m.dflt.c := rfl
  rw [e]
  intro c hc
  rcases List.mem_append.1 hc with hc | hc
  · simp only [List.mem_cons, List.not_mem_nil, or_false] at hc
    rcases hc with rfl | rfl | rfl | rfl | rfl
    · exact .int _ _
    · refine .str _ ?_
      rw [hn]
      omega
    · exact .int _ _
    · exact .bool _
    · exact .bool _
  · exact hv c hc
theorem typD_small {d : List Node} {i : Nat} (h5 : d.length ≤ 5) (hi : i < d.length) : ∀ c ∈ (typD d i).c, Small 1048576 c := by
  have hnm := size_nameT ⟨i, by omega⟩
  dsimp only at hnm
  have hT : (nameT i).size ≤ 1048576 := by omega
  have hE : (⟨#[]⟩ : ByteArray).size ≤ 1048576 := Nat.zero_le _
  have n1 : ([] : List Sym).length ≤ 1048576 := Nat.zero_le _
  have n2 : ([] : List Mem).length ≤ 1048576 := Nat.zero_le _
  have n3 : ∀ s ∈ ([] : List Sym), s.name.size ≤ 1048576 := fun s hs => by simp at hs
  have n4 : ∀ m ∈ ([] : List Mem), ∀ c ∈ m.c, Small 1048576 c := fun s hs => by simp at hs
  have sl : (symsD (nodeAt d i).a).length ≤ 1048576 := by
    unfold symsD
    rw [List.length_map]
    have := (idsN_len (nodeAt d i).a).2
    omega
  have so : ∀ s ∈ symsD (nodeAt d i).a, s.name.size ≤ 1048576 := fun s hs => by
    obtain ⟨n, hn, rfl⟩ := List.mem_map.1 hs
    have h6 := idsN_range hn
    have hz := size_symD ⟨n, by omega⟩
    dsimp only at hz
    omega
  have ml : ∀ fl, (partsD d i fl (nodeAt d i).parts 12).length ≤ 1048576 := fun fl => by have := partsD_len d i fl (nodeAt d i).parts 12; omega
  have mo : ∀ fl, ∀ m ∈ partsD d i fl (nodeAt d i).parts 12, ∀ c ∈ m.c, Small 1048576 c := fun fl m hm => by
    obtain ⟨id, p, rfl, _, _, _, h12⟩ := partsD_mem hm
    exact mkMem_small h12
  rcases kindD_cases d i with hk | hk | hk | hk | hk | hk | hk | hk | hk
  case inr.inr.inr.inr.inr.inl =>
    rw [typD_6 hk]
    split <;> dsimp only [typB]
    · exact smallB hT n1 n2 n3 n4
    · exact smallB hT n1 (ml false) n3 (mo false)
  case inr.inr.inr.inr.inr.inr.inr.inl =>
    rw [typD_8 hk]
    split <;> dsimp only [typB]
    · exact smallB hE n1 n2 n3 n4
    · exact smallB hE n1 n2 n3 n4
  all_goals simp only [typD, hk]
  all_goals dsimp -failIfUnchanged [typB]
  · exact smallB hE n1 n2 n3 n4
  · exact smallB hE n1 n2 n3 n4
  · exact smallB hE n1 n2 n3 n4
  · exact smallB hT sl n2 so n4
  · exact smallB hT n1 (ml true) n3 (mo true)
  · exact smallB hE n1 n2 n3 n4
  · exact smallB hE n1 n2 n3 n4
theorem pruned_short {l : List Typ} {i : Int} (hs : ∀ t ∈ l, t.short) (hsm : ∀ t ∈ l, ∀ c ∈ t.c, Small 1048576 c) : (∀ t ∈ prunedL l i, t.short) ∧ ∀ t ∈ prunedL l i, ∀ c ∈ t.c, Small 1048576 c := by
  have key : ∀ t ∈ prunedL l i, ∃ u L, t = remapT L (typAt l u) ∧ typAt l u ∈ l := by
    intro t ht
    by_cases hz : (reachR l i).2 = 0
    · obtain ⟨h1, h2, h3⟩ := reachR_ok hz
      obtain ⟨u, hu, rfl⟩ := List.mem_map.1 ht
      obtain ⟨u0, u1⟩ := h3 u hu
      exact ⟨u, _, rfl, List.mem_of_getElem? (typAt_get u0 u1)⟩
    · unfold prunedL at ht
      rw [reachR_no hz] at ht
      simp at ht
  constructor
  · intro t ht
    obtain ⟨u, L, rfl, hm⟩ := key t ht
    obtain ⟨h1, h2⟩ := hs _ hm
    exact ⟨h1, by simpa [remapT] using h2⟩
  · intro t ht
    obtain ⟨u, L, rfl, hm⟩ := key t ht
    exact small_remapT (hsm _ hm)
set_option maxHeartbeats 4000000 in
/-- SchemaAgain, given that the chapter is awake. -/
theorem r264 (r265 : res A PrA 265 [] = some [.bool true]) (d : List Node) (c : Nat) (hc : c ≤ 255) (hok : ∀ y ∈ d, y.ok) (hll : lenOk d) : res A PrA 264 [.agg [.lst 0 (d.map Node.cs)], .int .u8 c] = some [.bool true] := by
  refine res_of a264 rfl rfl ?_
  simp only [F264]
  have h279 := fun t => r279 t d hok hll
  simp (disch := omega) only [go_sem, h279, r265]
  by_cases hd : d.length < 1 ∨ 5 < d.length
  · have e : ofD d = ([], false) := by unfold ofD; rw [if_pos hd]
    simp (disch := omega) only [go_sem, e, r265]
  have e : ofD d = ((List.range d.length).map (typD d), true) := by unfold ofD; rw [if_neg hd]
  have hv := ofD_valid (d := d) (by omega) (by omega)
  obtain ⟨ho, hs⟩ := ofD_ok (d := d) (by omega) (by omega)
  have hsm : ∀ t ∈ (List.range d.length).map (typD d), ∀ c ∈ t.c, Small 1048576 c := fun t ht => by
    obtain ⟨i, hi, rfl⟩ := List.mem_map.1 ht
    exact typD_small (by omega) (List.mem_range.1 hi)
  have hlen : ((List.range d.length).map (typD d)).length = d.length := by simp
  rw [e]
  dsimp only
  generalize (List.range d.length).map (typD d) = l at *
  have hr := rem_u8 (k := .i64) (a := c) (n := l.length) (by omega)
  have hcm : c % l.length < l.length := Nat.mod_lt _ (by omega)
  have hA := again_of hv (i := ((c % l.length : Nat) : Int)) (by omega) (by omega)
  obtain ⟨g1, g2, g3⟩ := again_same hA
  obtain ⟨p1, p2⟩ := pruned_ok (i := ((c % l.length : Nat) : Int)) ho
  obtain ⟨p3, p4⟩ := pruned_short (i := ((c % l.length : Nat) : Int)) hs hsm
  have e1 := fun t => r275 t l ((c % l.length : Nat) : Int) (by omega) ho hs hsm
  have e2 := fun t i => r275 t (prunedL l ((c % l.length : Nat) : Int)) i (by omega) p2 p3 p4
  have h267 := fun v => r267 v l (by omega) ho hs
  have h267b := fun v => r267 v (prunedL l ((c % l.length : Nat) : Int)) (by omega) p2 p3
  have hv2 : validR (prunedL l ((c % l.length : Nat) : Int)) = 0 := by rw [hA.pr]; exact hA.shut.valid
  rw [hv] at h267
  rw [hv2] at h267b
  have e2 := fun t => e2 t (idxI (isort ltI (reachL l ((c % l.length : Nat) : Int))) ((c % l.length : Nat) : Int))
  rw [g1, g2, g3] at e2
  have h277 := fun t u => r277 t u (prunedL l ((c % l.length : Nat) : Int)) (prunedL l ((c % l.length : Nat) : Int)) (by omega) (by omega) p2 p2
  rw [eqv_same] at h277
  rw [hA.ok, hA.pl] at e1
  obtain ⟨i0, _, _⟩ := idxI_mem hA.mem
  have hget : (plK (isort ltI (reachL l ((c % l.length : Nat) : Int))) l.length l.length)[c % l.length]? = some (idxI (isort ltI (reachL l ((c % l.length : Nat) : Int))) ((c % l.length : Nat) : Int)) := by
    have := plK_get (L := isort ltI (reachL l ((c % l.length : Nat) : Int))) (n := l.length) (u := ((c % l.length : Nat) : Int)) (by omega) (by omega)
    rw [Int.toNat_natCast] at this
    exact this
  have hpl := plK_len (isort ltI (reachL l ((c % l.length : Nat) : Int))) l.length l.length
  clear g1 g2 g3 hA hv hv2
  generalize idxI (isort ltI (reachL l ((c % l.length : Nat) : Int))) ((c % l.length : Nat) : Int) = w at *
  generalize plK (isort ltI (reachL l ((c % l.length : Nat) : Int))) l.length l.length = pl at *
  generalize prunedL l ((c % l.length : Nat) : Int) = a at *
  have hpl' : (ints pl).length = l.length := by rw [ints_length, hpl]
  have hw : ¬ w < 0 := by omega
  have hup : (upI a.length).length = a.length := by simp [upI]
  simp (disch := omega) only [go_sem, hr, e1, e2, h267, h267b, hget, hpl, hw]
  rw [hup]
  refine W.upto a.length (fun k => ⟨[(8, .ptr 8 0), (11, .ptr 11 0), (12, .pv (.lst 0 (ints (upI a.length)))), (13, .pv (.int .i64 0)), (78, .pv (.int .i64 a.length)), (79, .pv (.int .i64 k))], ⟨[(8, [.pv (.lst 0 (a.map Typ.c))]), (11, [.pv (.lst 0 (a.map Typ.c))])], [], []⟩⟩) (fun _ => True) rfl trivial (fun k hk _ => ?_)
  simp (disch := omega) only [go_sem]
  refine Br.ofP (fun c1 => ?_) (fun c1 => ?_)
  · have hg := upI_get (m := a.length) (k := k) (by omega)
    simp (disch := omega) only [go_sem, hg]
    exact .of (by omega) rfl trivial
  · simp (disch := omega) only [go_sem, hup, h277]
end Go.Pv

