/-
  What the functions of the law give.
-/
import Derived.Test.YthpgcipmnblhpaaDoorC2
import Derived.Shelf.Strings.Builder1
set_option linter.unusedSimpArgs false
set_option linter.unusedVariables false
/-
  Chapter 29: what is reached.
-/
namespace Go.Pv

def Cfg.c (c : Cfg) : List PV := [.int .i64 c.a, .int .i64 c.b, .lst 0 (ints c.toA), .lst 0 (ints c.toB)]
def cfgs (l : List Cfg) : List (List PV) := l.map Cfg.c
@[go_sem] theorem cfgs_length (l : List Cfg) : (cfgs l).length = l.length := List.length_map _
theorem cfgs_get (l : List Cfg) (i : Nat) : (cfgs l)[i]? = l[i]?.map Cfg.c := by simp [cfgs]
theorem cfgs_snoc (l : List Cfg) (c : Cfg) : cfgs l ++ [[.int .i64 c.a, .int .i64 c.b, .lst 0 (ints c.toA), .lst 0 (ints c.toB)]] = cfgs (l ++ [c]) := by simp [cfgs, Cfg.c]
theorem keyP_val {a b : Int} {l m : List Int} (t u : Nat) (h : Cfg.ok ⟨a, b, l, m⟩) (hp : Heap) : keyP [.agg [.pv (.int .i64 a), .pv (.int .i64 b), .pv (.lst t (ints l)), .pv (.lst u (ints m))]] hp = some (.pv (.str (Cfg.key ⟨a, b, l, m⟩)), {}) := by
  have h1 := ints_dec l
  have h2 := ints_dec m
  simp only [keyP, h1, h2]
  exact if_pos h
def sucC (a b : Auto) (cap : Int) (c : Cfg) : List Cfg := (movesC a b cap c.a c.b c.toA c.toB).map fun m => (afterC a b cap c.a c.b c.toA c.toB m).1
structure Runs29 (a b : Auto) (cap : Int) (p : Cfg → Prop) : Prop where
  st : p ⟨a.start, b.start, [], []⟩
  nx : ∀ c, p c → ∀ x ∈ sucC a b cap c, p x
  ok : ∀ c, p c → c.ok
  so : ∀ c, p c → (movesC a b cap c.a c.b c.toA c.toB).Pairwise (fun x y => Mov.lt x y = true)
def cfgStart (a b : Auto) : Cfg := ⟨a.start, b.start, [], []⟩
theorem addUs_snoc {lim : Nat} : ∀ {l out : List Cfg} {c : Cfg}, addUs lim out (l ++ [c]) = (addUs lim out l).bind fun o => if lim < (addU o c).length then none else some (addU o c)
  | [], out, c => by simp [addUs]
  | d :: l, out, c => by
    rw [List.cons_append]
    unfold addUs
    split
    · rfl
    · exact addUs_snoc
theorem addUs_none {lim : Nat} {out : List Cfg} : ∀ {l : List Cfg} (k : Nat), addUs lim out (l.take k) = none → addUs lim out l = none := by
  intro l k h
  have key : ∀ (l1 l2 : List Cfg) (out : List Cfg), addUs lim out l1 = none → addUs lim out (l1 ++ l2) = none := by
    intro l1
    induction l1 with
    | nil => intro l2 out h; cases h
    | cons c l1 ih =>
      intro l2 out h
      rw [List.cons_append]
      unfold addUs at h ⊢
      split
      · rfl
      · rename_i hc
        rw [if_neg hc] at h
        exact ih l2 _ h
  have := key (l.take k) (l.drop k) out h
  rwa [List.take_append_drop] at this
theorem cfgs_rows (l : List Cfg) : ∀ x ∈ cfgs l, x.length = 4 := by
  intro x hx
  obtain ⟨c, _, rfl⟩ := List.mem_map.1 hx
  rfl
set_option maxHeartbeats 8000000 in
theorem r165 (a b : Auto) (cap : Int) {p : Cfg → Prop} (hp : Runs29 a b cap p) (ha : a.edges.length ≤ 1000000) (hb : b.edges.length ≤ 1000000) (hs : sysErr a b cap = 0) : res A PrA 165 [.agg [.int .i64 a.states, .int .i64 a.start, .lst 0 (a.edges.map Edge.c), .int .i64 b.states, .int .i64 b.start, .lst 0 (b.edges.map Edge.c), .int .i64 cap]] = some (match bfsL (sucC a b cap) 5000 5002 [cfgStart a b] 0 with | some out => [.lst 0 (cfgs out), .int .i64 0] | none => [.lst 0 [], .int .i64 3]) := by
  refine res_of a165 rfl rfl ?_
  simp only [F165]
  have d1 : decide (sysErr a b cap = 0) = true := by simp [hs]
  have hk0 := keyP_val (a := a.start) (b := b.start) (l := []) (m := []) 0 0 (hp.ok _ hp.st)
  simp only [ints_nil] at hk0
  have hi0 : idxR 4 0 [[PV.int IntKind.i64 a.start, PV.int IntKind.i64 b.start, PV.lst 0 [], PV.lst 0 []]] (some 0) = some (.pv (.ro 0 [PV.int IntKind.i64 a.start, PV.int IntKind.i64 b.start, PV.lst 0 [], PV.lst 0 []])) := rfl
  have hu0 : updM false [2] (.str (Cfg.key ⟨a.start, b.start, [], []⟩)) (.bool true) 0 [] = some { mp := some (0, seenS [Cfg.key ⟨a.start, b.start, [], []⟩]) } := upd_seenS _ [] 0
  generalize hR : (match bfsL (sucC a b cap) 5000 5002 [cfgStart a b] 0 with | some out => [PV.lst 0 (cfgs out), .int .i64 0] | none => [.lst 0 [], .int .i64 3]) = R
  simp (disch := omega) only [go_sem, d1, hk0, hs, hi0, hu0]
  refine W.loop (fun x : List Cfg × Nat => ⟨[(1, .ptr 1 0), (5, glV 0 1 (cfgs x.1)), (6, .map 0), (7, .pv (.int .i64 x.2))], ⟨[(1, [.pv (.int .i64 a.states), .pv (.int .i64 a.start), .pv (.lst 0 (a.edges.map Edge.c)), .pv (.int .i64 b.states), .pv (.int .i64 b.start), .pv (.lst 0 (b.edges.map Edge.c)), .pv (.int .i64 cap)])], glA 4 1 (cfgs x.1), [seenS (x.1.map Cfg.key)]⟩⟩) (fun x => (∀ c ∈ x.1, p c) ∧ x.1.length ≤ 5000 ∧ 1 ≤ x.1.length ∧ x.2 ≤ x.1.length ∧ bfsL (sucC a b cap) 5000 5002 [cfgStart a b] 0 = bfsL (sucC a b cap) 5000 (5002 - x.2) x.1 x.2) (fun x => 5001 - x.2) ([cfgStart a b], 0) rfl ⟨?_, ?_, ?_, ?_, rfl⟩ (fun x hx => ?_)
  · intro c hc
    rw [List.mem_singleton.1 hc]
    exact hp.st
  · simp
  · simp
  · simp
  obtain ⟨out, i⟩ := x
  obtain ⟨x1, x2, x3, x4, x5⟩ := hx
  simp only at x1 x2 x3 x4 x5 ⊢
  simp (disch := omega) only [go_sem]
  refine Br.ofP (fun c1 => ?_) (fun c1 => ?_) <;> simp (disch := omega) only [go_sem, c1]
  · obtain ⟨c, hc⟩ := get_at (l := out) (k := i) (by omega)
    have hpc := x1 c (List.mem_of_getElem? hc)
    obtain ⟨k1, k2, k3, k4, k5, k6⟩ := hp.ok c hpc
    have h186 := r186 a b cap c.a c.b c.toA c.toB (by omega) (by omega) (by omega) (by omega) (hp.so c hpc)
    have hcg : (cfgs out)[i]? = some [.int .i64 c.a, .int .i64 c.b, .lst 0 (ints c.toA), .lst 0 (ints c.toB)] := by rw [cfgs_get, hc]; rfl
    have h182 := fun mv => r182 a b cap c.a c.b c.toA c.toB mv (by omega) (by omega) (by omega) (by omega)
    have hsuc : sucC a b cap c = (movesC a b cap c.a c.b c.toA c.toB).map fun m => (afterC a b cap c.a c.b c.toA c.toB m).1 := rfl
    have hml : (movesC a b cap c.a c.b c.toA c.toB).length ≤ 2000000 := by
      have h1 := mvsOf_len a b cap c.a c.b c.toA c.toB 0 c.a a.edges
      have h2 := mvsOf_len a b cap c.a c.b c.toA c.toB 1 c.b b.edges
      rw [movesC, List.length_append]
      omega
    generalize hms : movesC a b cap c.a c.b c.toA c.toB = ms at *
    have hol : out.length = (cfgs out).length := (cfgs_length out).symm
    rcases gl_cases (b := 1) (rows := cfgs out) with h | ⟨mm, h⟩
    case' inl =>
      rw [glV_lit h, glA_lit h]
      simp (disch := omega) only [go_sem, hcg, h186]
      rw [show V.tl (cfgs out) = glV 0 1 (cfgs out) from (glV_lit h).symm, show ([] : List Arr) = glA 4 1 (cfgs out) from (glA_lit h).symm]
    case' inr =>
      rw [glV_own h, glA_own h]
      simp (disch := omega) only [go_sem, hcg, h186]
      rw [show V.own 0 mm 0 (1 + mm + 1) = glV 0 1 (cfgs out) from (glV_own h).symm, show [⟨mm, 4, .inl (cfgs out)⟩] = glA 4 1 (cfgs out) from (glA_own h).symm]
    all_goals
      refine W.loop (fun x : List Cfg × Nat => ⟨[(1, .ptr 1 0), (5, glV 0 1 (cfgs x.1)), (6, .map 0), (7, .pv (.int .i64 i)), (38, .pv (.lst 0 (mvs3 ms))), (39, .pv (.int .i64 ms.length)), (40, .pv (.int .i64 x.2))], ⟨[(1, [.pv (.int .i64 a.states), .pv (.int .i64 a.start), .pv (.lst 0 (a.edges.map Edge.c)), .pv (.int .i64 b.states), .pv (.int .i64 b.start), .pv (.lst 0 (b.edges.map Edge.c)), .pv (.int .i64 cap)])], glA 4 1 (cfgs x.1), [seenS (x.1.map Cfg.key)]⟩⟩) (fun x => x.2 ≤ ms.length ∧ addUs 5000 out ((sucC a b cap c).take x.2) = some x.1) (fun x => ms.length - x.2) (out, 0) rfl ⟨Nat.zero_le _, rfl⟩ (fun x hx => ?_)
      obtain ⟨o, k⟩ := x
      obtain ⟨y1, y2⟩ := hx
      simp only at y1 y2 ⊢
      obtain ⟨z1, z2, z3, z4⟩ := addUs_some y2
      have z5 := z4 x2
      have hpo : ∀ x ∈ o, p x := fun x hx => ((z2 x).1 hx).elim (x1 x) fun hx => hp.nx c hpc x (List.mem_of_mem_take hx)
      have hol2 : o.length = (cfgs o).length := (cfgs_length o).symm
      have ho : o[i]? = some c := by
        obtain ⟨r, rfl⟩ := z1
        rw [List.getElem?_append_left (by omega)]
        exact hc
      have hio : i < o.length := (List.getElem?_eq_some_iff.1 ho).1
      simp (disch := omega) only [go_sem]
      refine Br.ofP (fun c2 => ?_) (fun c2 => ?_) <;> simp (disch := omega) only [go_sem, c2]
      · obtain ⟨mv, hmv⟩ := get_at (l := ms) (k := k) (by omega)
        have hog : (cfgs o)[i]? = some [.int .i64 c.a, .int .i64 c.b, .lst 0 (ints c.toA), .lst 0 (ints c.toB)] := by rw [cfgs_get, ho]; rfl
        have h182 := h182 mv
        have hdg : (sucC a b cap c)[k]? = some (afterC a b cap c.a c.b c.toA c.toB mv).1 := by rw [hsuc, List.getElem?_map, hmv]; rfl
        generalize (afterC a b cap c.a c.b c.toA c.toB mv).2 = okb at *
        generalize (afterC a b cap c.a c.b c.toA c.toB mv).1 = d at *
        have hpd := hp.nx c hpc d (List.mem_of_getElem? hdg)
        have hok := hp.ok d hpd
        have hk := keyP_val (a := d.a) (b := d.b) (l := d.toA) (m := d.toB) 0 0 hok
        have hkd : Cfg.key ⟨d.a, d.b, d.toA, d.toB⟩ = d.key := rfl
        rw [hkd] at hk
        have hhs : hasS (o.map Cfg.key) d.key = decide (d ∈ o) := hasS_key (fun x hx => hp.ok x (hpo x hx)) hok
        have hnext : addUs 5000 out ((sucC a b cap c).take (k + 1)) = if 5000 < (addU o d).length then none else some (addU o d) := by
          rw [List.take_add_one, hdg, Option.toList_some, addUs_snoc, y2]
          rfl
        by_cases hin : d ∈ o
        · have hau : addU o d = o := if_pos hin
          rw [hau, if_neg (by omega)] at hnext
          have hd1 : decide (d ∈ o) = true := decide_eq_true hin
          rw [hd1] at hhs
          rcases gl_cases (b := 1) (rows := cfgs o) with g | ⟨m2, g⟩
          case' inl => rw [glV_lit g, glA_lit g]
          case' inr => rw [glV_own g, glA_own g]
          all_goals
            simp (disch := omega) only [go_sem, hmv, hog, h182, hk, hhs]
            refine Br.ofP (fun c3 => by omega) (fun c3 => ?_)
            simp (disch := omega) only [go_sem, c3]
            refine ⟨(o, k + 1), ⟨by simp only; omega, hnext⟩, by simp only; omega, ?_⟩
            first
              | (simp only [glV_lit g, glA_lit g]; rfl)
              | (simp only [glV_own (n := 0) g, glA_own (k := 4) g]; rfl)
        · have hau : addU o d = o ++ [d] := if_neg hin
          rw [hau, List.length_append, List.length_singleton] at hnext
          have hd1 : decide (d ∈ o) = false := decide_eq_false hin
          rw [hd1] at hhs
          have hins : insS (o.map Cfg.key) d.key = (o ++ [d]).map Cfg.key := by
            unfold insS
            rw [hhs]
            simp
          have hret : 5000 < o.length + 1 → [PV.lst 0 [], PV.int .i64 3] = R := fun c3 => by
            rw [if_pos c3] at hnext
            rw [x5, show 5002 - i = (5001 - i) + 1 by omega, bfsL, hc] at hR
            simp only [addUs_none (k + 1) hnext] at hR
            exact hR
          have hon : ¬ 5000 < o.length + 1 → addUs 5000 out ((sucC a b cap c).take (k + 1)) = some (o ++ [d]) := fun c3 => by
            rw [hnext, if_neg c3]
          have hgs1 : glV 0 1 (cfgs (o ++ [d])) = .own 0 (o.length - 1) 0 (o.length + 1) := by
            rw [← cfgs_snoc, glV_snoc (by omega), cfgs_length]
          have hgs2 : glA 4 1 (cfgs (o ++ [d])) = [⟨o.length - 1, 4, .inl (cfgs (o ++ [d]))⟩] := by
            rw [← cfgs_snoc, glA_snoc (by omega), cfgs_length]
          rcases gl_cases (b := 1) (rows := cfgs o) with g | ⟨m2, g⟩
          · rw [glV_lit g, glA_lit g]
            have happ := fun h => app_tlr h 4 (cfgs o) [.int .i64 d.a, .int .i64 d.b, .lst 0 (ints d.toA), .lst 0 (ints d.toB)] rfl (cfgs_rows o) (by omega)
            simp (disch := omega) only [go_sem, hmv, hog, h182, hk, hhs, hins, happ, cfgs_snoc]
            refine Br.ofP (fun c3 => ?_) (fun c3 => ?_) <;> simp (disch := omega) only [go_sem, c3]
            · rw [hret (by omega)]
            · refine ⟨(o ++ [d], k + 1), ⟨by simp only; omega, hon (by omega)⟩, by simp only; omega, ?_⟩
              simp only [hgs1, hgs2, show o.length - 1 = 0 by omega]
              rfl
          · rw [glV_own g, glA_own g]
            have happ := fun h => app_ownr h 0 m2 0 (1 + m2 + 1) 4 [.int .i64 d.a, .int .i64 d.b, .lst 0 (ints d.toA), .lst 0 (ints d.toB)] rfl
            have hap := apR_ok (id := 0) (ver := m2) (len := 1 + m2 + 1) (k := 4) (r := [.int .i64 d.a, .int .i64 d.b, .lst 0 (ints d.toA), .lst 0 (ints d.toB)]) (l := cfgs o) (by omega) (by omega)
            simp (disch := omega) only [go_sem, hmv, hog, h182, hk, hhs, hins, happ, hap, cfgs_snoc]
            refine Br.ofP (fun c3 => ?_) (fun c3 => ?_) <;> simp (disch := omega) only [go_sem, c3]
            · rw [hret (by omega)]
            · refine ⟨(o ++ [d], k + 1), ⟨by simp only; omega, hon (by omega)⟩, by simp only; omega, ?_⟩
              simp only [hgs1, hgs2, show o.length - 1 = m2 + 1 by omega, show o.length + 1 = 1 + m2 + 1 + 1 by omega]
              rfl
      · have hkm : k = ms.length := by omega
        have hall : (sucC a b cap c).take k = sucC a b cap c := List.take_of_length_le (by rw [hsuc, List.length_map]; omega)
        rw [hall] at y2
        refine ⟨(o, i + 1), ⟨hpo, z5, by simp only; omega, by simp only; omega, ?_⟩, by simp only; omega, rfl⟩
        rw [x5, show 5002 - i = (5002 - (i + 1)) + 1 by omega, bfsL, hc]
        simp only [y2]
  · have hn : out[i]? = none := List.getElem?_eq_none_iff.2 (by omega)
    rw [x5, show 5002 - i = (5001 - i) + 1 by omega, bfsL, hn] at hR
    rw [← hR]
end Go.Pv

/-
  Chapter 29: what is reached, of the document; lists of configurations.
-/
namespace Go.Pv

end Go.Pv

/-
  Chapter 29: systems of drafts.
-/
namespace Go.Pv

def smallA (m : Int) (x : Arc) : Arc := ⟨x.fr % m, x.act % 4, x.to % m⟩
def smallL (m : Int) (l : List Arc) (k : Nat) : List Arc := (l.take k).map (smallA m)
def smallD (n : Int) (l : List Arc) : Draft := ⟨n % 3, smallL (n % 3 + 1) l 12⟩
def arcs (l : List Arc) : List (List PV) := l.map Arc.c
@[go_sem] theorem arcs_length (l : List Arc) : (arcs l).length = l.length := List.length_map _
@[go_sem] theorem arcs_get (l : List Arc) (i : Nat) : (arcs l)[i]? = l[i]?.map fun x => [.int .u8 x.fr, .int .u8 x.act, .int .u8 x.to] := by simp [arcs]; rfl
structure PDr where
  n : Int
  la : List Arc
  l : List Arc
  mirror : Bool
  skip : Int
  cap : Int
def PDr.ok (d : PDr) : Prop := (0 ≤ d.n ∧ d.n ≤ 255) ∧ (0 ≤ d.skip ∧ d.skip ≤ 255) ∧ (0 ≤ d.cap ∧ d.cap ≤ 255) ∧ d.la.length ≤ 2 ^ 63 - 1 ∧ d.l.length ≤ 2 ^ 63 - 1 ∧ (∀ x ∈ d.la, x.ok) ∧ ∀ x ∈ d.l, x.ok
def PDr.sh (d : PDr) (k : Nat) : Int := d.skip.fdiv (2 ^ (min ((k : Int) % 8).toNat IntKind.u8.bits))
def PDr.bit (d : PDr) (k : Nat) : Int := IntKind.u8.wrap (BitVec.ofInt IntKind.u8.bits (d.sh k) &&& BitVec.ofInt IntKind.u8.bits 1).toNat
def PDr.out (d : PDr) (k : Nat) : Bool := decide (d.bit k = 0)
def PDr.fit (d : PDr) : Bool := decide (d.la.length ≤ 12) && decide (d.l.length ≤ 12)
theorem smallD_ok {n : Int} {l : List Arc} (hn : 0 ≤ n ∧ n ≤ 255) (_ho : ∀ x ∈ l, x.ok) : (smallD n l).ok := by
  have hb := Int.emod_nonneg n (by decide : (3 : Int) ≠ 0)
  have hc := Int.emod_lt_of_pos n (by decide : (0 : Int) < 3)
  refine ⟨⟨hb, by show n % 3 ≤ 255; omega⟩, ?_, fun x hx => ?_⟩
  · show (smallL (n % 3 + 1) l 12).length ≤ _
    rw [smallL, List.length_map, List.length_take]
    omega
  · obtain ⟨y, _, rfl⟩ := List.mem_map.1 hx
    generalize n % 3 = s at *
    have f1 := Int.emod_nonneg y.fr (by omega : s + 1 ≠ 0)
    have f2 := Int.emod_lt_of_pos y.fr (by omega : 0 < s + 1)
    have f3 := Int.emod_nonneg y.to (by omega : s + 1 ≠ 0)
    have f4 := Int.emod_lt_of_pos y.to (by omega : 0 < s + 1)
    have f5 := Int.emod_nonneg y.act (by decide : (4 : Int) ≠ 0)
    have f6 := Int.emod_lt_of_pos y.act (by decide : (0 : Int) < 4)
    exact ⟨⟨f1, by show y.fr % (s + 1) ≤ 255; omega⟩, ⟨f5, by show y.act % 4 ≤ 255; omega⟩, f3, by show y.to % (s + 1) ≤ 255; omega⟩
theorem raw_from {st : Int} : ∀ (l : List Arc) (es : List Edge) (e : Edge), e ∈ l.foldl (fun es x => addE es (x.edge st)) es → e ∈ es ∨ ∃ x ∈ l, e = x.edge st
  | [], _, _, h => .inl h
  | x :: l, es, e, h => by
    rcases raw_from l (addE es (x.edge st)) e h with h | ⟨y, hy, rfl⟩
    · rcases addE_mem h with h | rfl
      · exact .inl h
      · exact .inr ⟨x, List.mem_cons_self .., rfl⟩
    · exact .inr ⟨y, List.mem_cons_of_mem _ hy, rfl⟩
theorem smallD_edges {n : Int} {l : List Arc} (hn : 0 ≤ n) : ∀ e ∈ (smallD n l).auto.edges, (0 ≤ e.fr ∧ e.fr ≤ 2) ∧ (0 ≤ e.to ∧ e.to ≤ 2) ∧ (1 ≤ e.label ∧ e.label ≤ 2) := by
  intro e he
  have he := (sortB_perm Edge.lt (smallD n l).raw).subset he
  have hb := Int.emod_nonneg n (by decide : (3 : Int) ≠ 0)
  have hc := Int.emod_lt_of_pos n (by decide : (0 : Int) < 3)
  have hst : (smallD n l).n = n % 3 := rfl
  rcases raw_from _ _ e he with h | ⟨x, hx, rfl⟩
  · cases h
  · have hx := List.mem_of_mem_take hx
    obtain ⟨y, _, rfl⟩ := List.mem_map.1 hx
    rw [hst]
    generalize n % 3 = s at *
    have hs4 : s % 4 = s := Int.emod_eq_of_lt hb (by omega)
    rw [hs4]
    have f1 := Int.emod_nonneg (smallA (s + 1) y).fr (by omega : 1 + s ≠ 0)
    have f2 := Int.emod_lt_of_pos (smallA (s + 1) y).fr (by omega : 0 < 1 + s)
    have f3 := Int.emod_nonneg (smallA (s + 1) y).to (by omega : 1 + s ≠ 0)
    have f4 := Int.emod_lt_of_pos (smallA (s + 1) y).to (by omega : 0 < 1 + s)
    have hl : (((smallA (s + 1) y).edge (1 + s)).label) = 1 + y.act % 4 / 2 % 3 := rfl
    refine ⟨⟨f1, ?_⟩, ⟨f3, ?_⟩, ?_⟩
    · show (smallA (s + 1) y).fr % (1 + s) ≤ 2
      omega
    · show (smallA (s + 1) y).to % (1 + s) ≤ 2
      omega
    · rw [hl]
      omega
def mirA (e : Edge) : Arc := ⟨e.fr, if e.send = true then 2 * (e.label - 1) else 2 * (e.label - 1) + 1, e.to⟩
def mirL (out : Nat → Bool) (es : List Edge) : Nat → List Arc
  | 0 => []
  | k + 1 => match es[k]? with
    | none => mirL out es k
    | some e => if out k = true then mirL out es k ++ [mirA e] else mirL out es k
def PDr.mir (d : PDr) : List Arc := mirL d.out (smallD d.n d.la).auto.edges (smallD d.n d.la).auto.edges.length
def PDr.n2 (d : PDr) : Int := if d.mirror = true then d.n else IntKind.u8.wrap (d.n + d.skip)
def PDr.l2 (d : PDr) : List Arc := (if d.mirror = true then d.mir else []) ++ d.l
def PDr.A (d : PDr) : Auto := (smallD d.n d.la).auto
def PDr.B (d : PDr) : Auto := (smallD d.n2 d.l2).auto
theorem mirL_ok {out : Nat → Bool} {es : List Edge} (h : ∀ e ∈ es, (0 ≤ e.fr ∧ e.fr ≤ 2) ∧ (0 ≤ e.to ∧ e.to ≤ 2) ∧ (1 ≤ e.label ∧ e.label ≤ 2)) : ∀ k, ∀ x ∈ mirL out es k, x.ok
  | 0, x, hx => by cases hx
  | k + 1, x, hx => by
    unfold mirL at hx
    split at hx
    · exact mirL_ok h k x hx
    · rename_i e he
      split at hx
      · rcases List.mem_append.1 hx with hx | hx
        · exact mirL_ok h k x hx
        · rw [List.mem_singleton.1 hx]
          obtain ⟨f1, f2, f3⟩ := h e (List.mem_of_getElem? he)
          refine ⟨⟨f1.1, by show e.fr ≤ 255; omega⟩, ?_, f2.1, by show e.to ≤ 255; omega⟩
          show 0 ≤ (if e.send = true then 2 * (e.label - 1) else 2 * (e.label - 1) + 1) ∧ (if e.send = true then 2 * (e.label - 1) else 2 * (e.label - 1) + 1) ≤ 255
          split <;> omega
      · exact mirL_ok h k x hx
theorem wrap_u8_in (x : Int) : 0 ≤ IntKind.wrap .u8 x ∧ IntKind.wrap .u8 x ≤ 255 := by
  have h : IntKind.wrap .u8 x = x % 256 := rfl
  rw [h]
  omega
end Go.Pv

/-
  Chapter 29: Moves, Apply; the laws of Valid, Fits, Moves, Apply.
-/
namespace Go.Pv
theorem fitsB_iff {a b : Auto} {cap x y : Int} {l m : List Int} : fitsB a b cap x y l m = true ↔ sysErr a b cap = 0 ∧ (0 ≤ x ∧ x < a.states) ∧ (0 ≤ y ∧ y < b.states) ∧ chanB l cap = true ∧ chanB m cap = true := by
  unfold fitsB
  simp only [Bool.and_eq_true, decide_eq_true_eq]
  constructor
  · rintro ⟨⟨⟨⟨⟨⟨h1, h2⟩, h3⟩, h4⟩, h5⟩, h6⟩, h7⟩
    exact ⟨h1, ⟨h2, h3⟩, ⟨h4, h5⟩, h6, h7⟩
  · rintro ⟨h1, ⟨h2, h3⟩, ⟨h4, h5⟩, h6, h7⟩
    exact ⟨⟨⟨⟨⟨⟨h1, h2⟩, h3⟩, h4⟩, h5⟩, h6⟩, h7⟩
theorem side_fits {a : Auto} (h : a.Good) {cap st : Int} {i o : List Int} {send : Bool} {label q : Int} {i' o' : List Int} (hi : chanB i cap = true) (ho : chanB o cap = true) (hs : sideC a.edges cap st i o send label = (some (q, i', o'), true)) : (0 ≤ q ∧ q < a.states) ∧ chanB i' cap = true ∧ chanB o' cap = true := by
  unfold sideC at hs
  cases hn : nextE st send label a.edges with
  | none => rw [hn] at hs; cases hs
  | some t =>
    rw [hn] at hs
    dsimp only at hs
    have hm := (nextE_some (h.asc.imp fun h => .inl h)).1 hn
    have hf := h.fit _ hm
    unfold Edge.fits at hf
    simp only [Bool.and_eq_true, decide_eq_true_eq] at hf
    split at hs
    · injection hs with h1 h2
      injection h1 with h1
      injection h1 with h1 h3
      injection h3 with h3 h4
      subst h1 h3 h4
      have h2 := of_decide_eq_true h2
      refine ⟨by omega, hi, ?_⟩
      unfold chanB at ho ⊢
      simp only [Bool.and_eq_true, decide_eq_true_eq, Bool.not_eq_true'] at ho ⊢
      refine ⟨by rw [List.length_append]; simp; omega, ?_⟩
      rw [List.any_append, ho.2]
      simp [badL]
      omega
    · cases i with
      | nil => cases hs
      | cons z r =>
        dsimp only at hs
        split at hs
        · injection hs with h1 h2
          injection h1 with h1
          injection h1 with h1 h3
          injection h3 with h3 h4
          subst h1 h3 h4
          refine ⟨by omega, ?_, ho⟩
          unfold chanB at hi ⊢
          simp only [Bool.and_eq_true, decide_eq_true_eq, Bool.not_eq_true', List.any_cons, Bool.or_eq_false_iff, List.length_cons] at hi ⊢
          exact ⟨by omega, hi.2.2⟩
        · cases hs
theorem fits_after {a b : Auto} {cap x y : Int} {l m : List Int} {mv : Mov} (h : fitsB a b cap x y l m = true) (ho : (afterC a b cap x y l m mv).2 = true) : fitsB a b cap (afterC a b cap x y l m mv).1.a (afterC a b cap x y l m mv).1.b (afterC a b cap x y l m mv).1.toA (afterC a b cap x y l m mv).1.toB = true := by
  obtain ⟨h1, h2, h3, h4, h5⟩ := fitsB_iff.1 h
  obtain ⟨ga, gb, _, _⟩ := sys_good h1
  rw [fitsB_iff]
  refine ⟨h1, ?_⟩
  revert ho
  unfold afterC
  split
  · cases hs : sideC a.edges cap x l m mv.send mv.label with
    | mk r ok =>
      cases r with
      | none =>
        intro ho
        exfalso
        have ho : ok = true := ho
        subst ho
        unfold sideC at hs
        cases hn : nextE x mv.send mv.label a.edges with
        | none => rw [hn] at hs; cases hs
        | some q =>
          rw [hn] at hs
          dsimp only at hs
          split at hs
          · cases hs
          · cases l with
            | nil => cases hs
            | cons z r => dsimp only at hs; split at hs <;> cases hs
      | some r =>
        obtain ⟨q, i, o⟩ := r
        intro ho
        have ho : ok = true := ho
        subst ho
        obtain ⟨g1, g2, g3⟩ := side_fits ga h4 h5 hs
        exact ⟨g1, h3, g2, g3⟩
  · split
    · cases hs : sideC b.edges cap y m l mv.send mv.label with
      | mk r ok =>
        cases r with
        | none =>
          intro ho
          exfalso
          have ho : ok = true := ho
          subst ho
          unfold sideC at hs
          cases hn : nextE y mv.send mv.label b.edges with
          | none => rw [hn] at hs; cases hs
          | some q =>
            rw [hn] at hs
            dsimp only at hs
            split at hs
            · cases hs
            · cases m with
              | nil => cases hs
              | cons z r => dsimp only at hs; split at hs <;> cases hs
        | some r =>
          obtain ⟨q, i, o⟩ := r
          intro ho
          have ho : ok = true := ho
          subst ho
          obtain ⟨g1, g2, g3⟩ := side_fits gb h5 h4 hs
          exact ⟨h2, g1, g3, g2⟩
    · intro ho
      cases ho

end Go.Pv

/-
  Chapter 29: systems whose configurations are small and few.
-/
namespace Go.Pv

theorem after_lab {P : Int → Prop} {a b : Auto} {cap x y : Int} {l m : List Int} {mv : Mov} (hl : ∀ z ∈ l, P z) (hm : ∀ z ∈ m, P z) (hv : P mv.label) : (∀ z ∈ (afterC a b cap x y l m mv).1.toA, P z) ∧ ∀ z ∈ (afterC a b cap x y l m mv).1.toB, P z := by
  have key : ∀ (es : List Edge) (st : Int) (i o : List Int), (∀ z ∈ i, P z) → (∀ z ∈ o, P z) → ∀ q i' o' ok, sideC es cap st i o mv.send mv.label = (some (q, i', o'), ok) → (∀ z ∈ i', P z) ∧ ∀ z ∈ o', P z := by
    intro es st i o hi ho q i' o' ok h
    unfold sideC at h
    split at h
    · cases h
    · split at h
      · cases h
        refine ⟨hi, fun z hz => ?_⟩
        rcases List.mem_append.1 hz with hz | hz
        · exact ho z hz
        · rw [List.mem_singleton.1 hz]
          exact hv
      · split at h
        · cases h
        · split at h
          · cases h
            exact ⟨fun z hz => hi z (List.mem_cons_of_mem _ hz), ho⟩
          · cases h
  have h0 : (∀ z ∈ cfg0.toA, P z) ∧ ∀ z ∈ cfg0.toB, P z := ⟨fun z hz => (by cases hz), fun z hz => (by cases hz)⟩
  unfold afterC
  split
  · split
    · exact h0
    · rename_i q i o ok h
      exact key _ _ _ _ hl hm q i o ok h
  · split
    · split
      · exact h0
      · rename_i q i o ok h
        obtain ⟨h1, h2⟩ := key _ _ _ _ hm hl q i o ok h
        exact ⟨h2, h1⟩
    · exact h0
theorem movesC_mem {a b : Auto} {cap x y : Int} {l m : List Int} {mv : Mov} (h : mv ∈ movesC a b cap x y l m) : (afterC a b cap x y l m mv).2 = true ∧ ∃ e ∈ a.edges ++ b.edges, mv.label = e.label := by
  unfold movesC at h
  rcases List.mem_append.1 h with h | h
  · obtain ⟨e, he, rfl⟩ := List.mem_map.1 h
    obtain ⟨h1, h2⟩ := List.mem_filter.1 he
    rw [Bool.and_eq_true] at h2
    exact ⟨h2.2, e, List.mem_append_left _ h1, rfl⟩
  · obtain ⟨e, he, rfl⟩ := List.mem_map.1 h
    obtain ⟨h1, h2⟩ := List.mem_filter.1 he
    rw [Bool.and_eq_true] at h2
    exact ⟨h2.2, e, List.mem_append_right _ h1, rfl⟩
def smC (a b : Auto) (cap : Int) (c : Cfg) : Prop := fitsB a b cap c.a c.b c.toA c.toB = true ∧ (∀ z ∈ c.toA, z ≤ 2) ∧ ∀ z ∈ c.toB, z ≤ 2
theorem chan_ok {l : List Int} {cap : Int} (h : chanB l cap = true) : (l.length : Int) ≤ cap ∧ ∀ z ∈ l, 1 ≤ z := by
  unfold chanB at h
  rw [Bool.and_eq_true, decide_eq_true_eq, Bool.not_eq_true'] at h
  refine ⟨h.1, fun z hz => ?_⟩
  have := h.2
  rw [List.any_eq_false] at this
  have := this z hz
  unfold badL at this
  simp at this
  omega
theorem smC_small {l : List Int} {cap : Int} (h : chanB l cap = true) (h2 : ∀ z ∈ l, z ≤ 2) : l.all smallI = true := by
  rw [List.all_eq_true]
  intro z hz
  have h3 := (chan_ok h).2 z hz
  have h4 := h2 z hz
  simp only [smallI, Bool.and_eq_true, decide_eq_true_eq]
  omega
theorem smC_runs {a b : Auto} {cap : Int} (hs : sysErr a b cap = 0) (hl : ∀ e ∈ a.edges ++ b.edges, e.label ≤ 2) : Runs29 a b cap (smC a b cap) := by
  obtain ⟨ga, gb, hc1, hc2⟩ := sys_good hs
  refine ⟨⟨?_, by simp, by simp⟩, ?_, ?_, ?_⟩
  · rw [fitsB_iff]
    refine ⟨hs, ga.st, gb.st, ?_, ?_⟩ <;> simp [chanB] <;> omega
  · intro c hc x hx
    obtain ⟨mv, hmv, rfl⟩ := List.mem_map.1 hx
    obtain ⟨h1, e, he, h2⟩ := movesC_mem hmv
    obtain ⟨h3, h4⟩ := after_lab (P := fun z => z ≤ 2) (a := a) (b := b) (cap := cap) (x := c.a) (y := c.b) (mv := mv) hc.2.1 hc.2.2 (by rw [h2]; exact hl e he)
    exact ⟨fits_after hc.1 h1, h3, h4⟩
  · intro c hc
    obtain ⟨h1, h2, h3⟩ := hc
    obtain ⟨_, h4, h5, h6, h7⟩ := fitsB_iff.1 h1
    have m1 := ga.mx
    have m2 := gb.mx
    have q1 := (chan_ok h6).1
    have q2 := (chan_ok h7).1
    refine ⟨?_, ?_, smC_small h6 h2, smC_small h7 h3, by omega, by omega⟩
    · simp only [smallI, Bool.and_eq_true, decide_eq_true_eq]
      omega
    · simp only [smallI, Bool.and_eq_true, decide_eq_true_eq]
      omega
  · intro c _
    exact movesC_asc ga.asc gb.asc
end Go.Pv

/-
  Chapter 29: the law of Reachable.
-/
namespace Go.Pv

def PDr.c2 (d : PDr) : Int := 1 + d.cap % 2
theorem PDr.l2_ok {d : PDr} (hd : d.ok) : ∀ x ∈ d.l2, x.ok := fun x hx => by
  obtain ⟨h1, h2, h3, h4, h5, h6, h7⟩ := hd
  rcases List.mem_append.1 hx with hx | hx
  · split at hx
    · exact mirL_ok (smallD_edges h1.1) _ x hx
    · cases hx
  · exact h7 x hx
theorem PDr.n2_in {d : PDr} (hd : d.ok) : 0 ≤ d.n2 ∧ d.n2 ≤ 255 := by
  unfold PDr.n2
  split
  · exact hd.1
  · exact wrap_u8_in _
theorem PDr.sys {d : PDr} (hd : d.ok) : sysErr d.A d.B d.c2 = 0 ∧ (∀ e ∈ d.A.edges ++ d.B.edges, e.label ≤ 2) ∧ d.A.states ≤ 3 ∧ d.B.states ≤ 3 ∧ d.c2 ≤ 2 ∧ d.A.edges.length ≤ 12 ∧ d.B.edges.length ≤ 12 := by
  have hA := smallD_ok hd.1 hd.2.2.2.2.2.1
  have hB := smallD_ok (PDr.n2_in hd) (PDr.l2_ok hd)
  have gA : d.A.Good := Draft.good hA (s := 0) (by have := (smallD d.n d.la).st; omega)
  have gB : d.B.Good := Draft.good hB (s := 0) (by have := (smallD d.n2 d.l2).st; omega)
  have hb := Int.emod_nonneg d.cap (by decide : (2 : Int) ≠ 0)
  have hc := Int.emod_lt_of_pos d.cap (by decide : (0 : Int) < 2)
  refine ⟨?_, fun e he => ?_, ?_, ?_, by unfold PDr.c2; omega, Draft.len hA, Draft.len hB⟩
  · unfold sysErr
    have e1 : d.A.err = 0 := Auto.good_iff.2 gA
    have e2 : d.B.err = 0 := Auto.good_iff.2 gB
    rw [if_neg (by simp [e1]), if_neg (by simp [e2]), if_neg (by unfold PDr.c2; omega)]
  · rcases List.mem_append.1 he with he | he
    · exact (smallD_edges hd.1.1 e he).2.2.2
    · exact (smallD_edges (PDr.n2_in hd).1 e he).2.2.2
  · show 1 + d.n % 3 % 4 ≤ 3
    omega
  · show 1 + d.n2 % 3 % 4 ≤ 3
    omega
end Go.Pv

/-
  Chapter 29: what is reached with a greater capacity, and with the parties exchanged.
-/
namespace Go.Pv

theorem Rbf.map {α β : Type} {succ : α → List α} {succ' : β → List β} {s : α} {s' : β} (f : α → β) (hs : Rbf succ' s' (f s)) (h : ∀ c, ∀ x ∈ succ c, f x ∈ succ' (f c)) {c : α} (hc : Rbf succ s c) : Rbf succ' s' (f c) := by
  induction hc with
  | start => exact hs
  | step _ hx ih => exact ih.step (h _ _ hx)
theorem sucC_swap {a b : Auto} {cap : Int} {c x : Cfg} (h : x ∈ sucC a b cap c) : swapC x ∈ sucC b a cap (swapC c) := by
  obtain ⟨mv, hmv, rfl⟩ := List.mem_map.1 h
  unfold movesC at hmv
  rcases List.mem_append.1 hmv with hmv | hmv
  · obtain ⟨e, he, rfl⟩ := List.mem_map.1 hmv
    obtain ⟨h1, h2⟩ := List.mem_filter.1 he
    rw [Bool.and_eq_true] at h2
    obtain ⟨g1, g2⟩ := after_swap b a cap c.b c.a c.toB c.toA e.send e.label
    refine List.mem_map.2 ⟨e.mv 1, List.mem_append_right _ (List.mem_map.2 ⟨e, List.mem_filter.2 ⟨h1, ?_⟩, rfl⟩), ?_⟩
    · rw [Bool.and_eq_true]
      exact ⟨h2.1, by rw [← h2.2]; exact g2.symm⟩
    · exact g1.symm
  · obtain ⟨e, he, rfl⟩ := List.mem_map.1 hmv
    obtain ⟨h1, h2⟩ := List.mem_filter.1 he
    rw [Bool.and_eq_true] at h2
    obtain ⟨g1, g2⟩ := after_swap a b cap c.a c.b c.toA c.toB e.send e.label
    refine List.mem_map.2 ⟨e.mv 0, List.mem_append_left _ (List.mem_map.2 ⟨e, List.mem_filter.2 ⟨h1, ?_⟩, rfl⟩), ?_⟩
    · rw [Bool.and_eq_true]
      exact ⟨h2.1, by rw [← h2.2]; exact g2⟩
    · have : swapC (swapC (afterC b a cap c.b c.a c.toB c.toA ⟨0, e.send, e.label⟩).1) = swapC (afterC a b cap c.a c.b c.toA c.toB ⟨1, e.send, e.label⟩).1 := by rw [g1]
      exact this
end Go.Pv

/-
  Chapter 29: the laws of Swapped and Capacity.
-/
namespace Go.Pv

theorem bfsL_len {succ : Cfg → List Cfg} {lim : Nat} : ∀ {n : Nat} {o o' : List Cfg} {i : Nat}, o.length ≤ lim → bfsL succ lim n o i = some o' → o'.length ≤ lim
  | 0, _, _, _, _, h => by cases h
  | n + 1, o, o', i, hl, h => by
    unfold bfsL at h
    split at h
    · cases h
      exact hl
    · split at h
      · cases h
      · rename_i o2 ha
        exact bfsL_len ((addUs_some ha).2.2.2 hl) h
theorem sysErr_of {a b : Auto} {cap : Int} (ga : a.Good) (gb : b.Good) (h1 : 1 ≤ cap) (h2 : cap ≤ 3) : sysErr a b cap = 0 := by
  unfold sysErr
  have e1 := Auto.good_iff.2 ga
  have e2 := Auto.good_iff.2 gb
  rw [if_neg (by simp [e1]), if_neg (by simp [e2]), if_neg (by omega)]
end Go.Pv

/-
  Chapter 29: rings.
-/
namespace Go.Pv

def ringE (n : Nat) : List Edge := (List.range n).flatMap fun i : Nat => [⟨i, false, 1, i⟩, ⟨i, false, 2, i⟩, ⟨i, true, 1, ((i + 1) % n : Nat)⟩, ⟨i, true, 2, i⟩]
def ringA (n : Nat) : Auto := ⟨n, 0, ringE n⟩
theorem ring_errs : ((List.range 12).all fun k => decide ((ringA (k + 1)).err = 0)) = true := by decide +kernel
theorem ring_good {k : Nat} (h : k < 12) : (ringA (k + 1)).Good := by
  have := List.all_eq_true.1 ring_errs k (List.mem_range.2 h)
  exact Auto.good_iff.1 (by simpa using this)
theorem ring_all : ((List.range 12).map fun k : Nat => callBy A (exec A PrA 400) 170 [.int .i64 ((k + 1 : Nat) : Int)]) = (List.range 12).map fun k : Nat => some [.agg [.int .i64 ((k + 1 : Nat) : Int), .int .i64 0, .lst 0 (edgs (ringE (k + 1)))]] := by kernel_rfl
theorem r170 {k : Nat} (h : k < 12) : res A PrA 170 [.int .i64 ((k + 1 : Nat) : Int)] = some [.agg [.int .i64 ((k + 1 : Nat) : Int), .int .i64 0, .lst 0 (edgs (ringE (k + 1)))]] := by
  have := congrArg (fun l => l[k]?) ring_all
  simp only [List.getElem?_map, List.getElem?_range h, Option.map_some] at this
  exact res_some.2 ⟨400, Option.some.inj this⟩
theorem ring_send1 {n i : Nat} (h : i < n) : (⟨i, true, 1, ((i + 1) % n : Nat)⟩ : Edge) ∈ ringE n := List.mem_flatMap.2 ⟨i, List.mem_range.2 h, by simp⟩
theorem ring_send2 {n i : Nat} (h : i < n) : (⟨i, true, 2, i⟩ : Edge) ∈ ringE n := List.mem_flatMap.2 ⟨i, List.mem_range.2 h, by simp⟩
theorem ring_recv1 {n i : Nat} (h : i < n) : (⟨i, false, 1, i⟩ : Edge) ∈ ringE n := List.mem_flatMap.2 ⟨i, List.mem_range.2 h, by simp⟩
end Go.Pv

/-
  Chapter 29: in rings everything is reached.
-/
namespace Go.Pv

theorem step_send {a b : Auto} {cap : Int} {e : Edge} {c : Cfg} (hg : a.Good) (he : e ∈ a.edges) (hs : e.send = true) (hc : c.a = e.fr) (hl : (c.toB.length : Int) < cap) : (⟨e.to, c.b, c.toA, c.toB ++ [e.label]⟩ : Cfg) ∈ sucC a b cap c := by
  obtain ⟨fr, send, label, to⟩ := e
  dsimp only at hs hc ⊢
  subst hs
  have hn : nextE c.a true label a.edges = some to := (nextE_some hg.apt).2 (hc ▸ he)
  have hA : afterC a b cap c.a c.b c.toA c.toB ⟨0, true, label⟩ = (⟨to, c.b, c.toA, c.toB ++ [label]⟩, decide ((c.toB.length : Int) < cap)) := by
    unfold afterC sideC
    simp only [if_true, hn]
  refine List.mem_map.2 ⟨⟨0, true, label⟩, List.mem_append_left _ (List.mem_map.2 ⟨⟨fr, true, label, to⟩, List.mem_filter.2 ⟨he, ?_⟩, rfl⟩), ?_⟩
  · have h2 : (afterC a b cap c.a c.b c.toA c.toB (Edge.mv 0 ⟨fr, true, label, to⟩)).2 = true := by
      show (afterC a b cap c.a c.b c.toA c.toB ⟨0, true, label⟩).2 = true
      rw [hA]
      simpa using hl
    rw [h2]
    simp [hc]
  · rw [hA]
theorem step_recv {a b : Auto} {cap : Int} {e : Edge} {c : Cfg} {r : List Int} (hg : a.Good) (he : e ∈ a.edges) (hs : e.send = false) (hc : c.a = e.fr) (hl : c.toA = e.label :: r) : (⟨e.to, c.b, r, c.toB⟩ : Cfg) ∈ sucC a b cap c := by
  obtain ⟨fr, send, label, to⟩ := e
  dsimp only at hs hc hl ⊢
  subst hs
  have hn : nextE c.a false label a.edges = some to := (nextE_some hg.apt).2 (hc ▸ he)
  have hA : afterC a b cap c.a c.b c.toA c.toB ⟨0, false, label⟩ = (⟨to, c.b, r, c.toB⟩, true) := by
    unfold afterC sideC
    simp [hn, hl]
  refine List.mem_map.2 ⟨⟨0, false, label⟩, List.mem_append_left _ (List.mem_map.2 ⟨⟨fr, false, label, to⟩, List.mem_filter.2 ⟨he, ?_⟩, rfl⟩), ?_⟩
  · have h2 : (afterC a b cap c.a c.b c.toA c.toB (Edge.mv 0 ⟨fr, false, label, to⟩)).2 = true := by
      show (afterC a b cap c.a c.b c.toA c.toB ⟨0, false, label⟩).2 = true
      rw [hA]
    rw [h2]
    simp [hc]
  · rw [hA]
theorem step_b {a b : Auto} {cap : Int} {c x : Cfg} (h : x ∈ sucC b a cap (swapC c)) : swapC x ∈ sucC a b cap c := sucC_swap h
theorem ring_before {n i : Nat} {x : Int} (hi : i < n) (hx : x = 1 ∨ x = 2) : ∃ q : Nat, q < n ∧ (⟨q, true, x, i⟩ : Edge) ∈ ringE n := by
  rcases hx with rfl | rfl
  · by_cases h0 : i = 0
    · refine ⟨n - 1, by omega, ?_⟩
      have := ring_send1 (n := n) (i := n - 1) (by omega)
      rw [show n - 1 + 1 = n by omega, Nat.mod_self] at this
      rw [h0]
      exact this
    · refine ⟨i - 1, by omega, ?_⟩
      have := ring_send1 (n := n) (i := i - 1) (by omega)
      rw [show i - 1 + 1 = i by omega, Nat.mod_eq_of_lt hi] at this
      exact this
  · exact ⟨i, hi, ring_send2 hi⟩
theorem ring_reach {n m : Nat} (hA : (ringA n).Good) (hB : (ringA m).Good) (hn : 0 < n) (hm : 0 < m) {i j : Nat} (hi : i < n) (hj : j < m) {l o : List Int} (hl : ∀ z ∈ l, z = 1 ∨ z = 2) (ho : ∀ z ∈ o, z = 1 ∨ z = 2) (hll : l.length ≤ 3) (hol : o.length ≤ 3) :
    Rbf (sucC (ringA n) (ringA m) 3) (cfgStart (ringA n) (ringA m)) ⟨i, j, l, o⟩ := by
  have base1 : ∀ i, i < n → Rbf (sucC (ringA n) (ringA m) 3) (cfgStart (ringA n) (ringA m)) ⟨(i : Nat), (0 : Nat), [], []⟩ := by
    intro i
    induction i with
    | zero => exact fun _ => .start
    | succ i ih =>
      intro hi
      have h1 := step_send (a := ringA n) (b := ringA m) (cap := 3) (e := ⟨i, true, 1, ((i + 1) % n : Nat)⟩) (c := ⟨(i : Nat), (0 : Nat), [], []⟩) hA (ring_send1 (by omega)) rfl rfl (by simp)
      rw [Nat.mod_eq_of_lt hi] at h1
      have h2 := step_recv (a := ringA m) (b := ringA n) (cap := 3) (e := ⟨(0 : Nat), false, 1, (0 : Nat)⟩) (c := ⟨(0 : Nat), (i + 1 : Nat), [1], []⟩) (r := []) hB (ring_recv1 hm) rfl rfl rfl
      exact ((ih (by omega)).step h1).step (step_b (c := ⟨(i + 1 : Nat), (0 : Nat), [], [1]⟩) h2)
  have base2 : ∀ i, i < n → ∀ j, j < m → Rbf (sucC (ringA n) (ringA m) 3) (cfgStart (ringA n) (ringA m)) ⟨(i : Nat), (j : Nat), [], []⟩ := by
    intro i hi j
    induction j with
    | zero => exact fun _ => base1 i hi
    | succ j ih =>
      intro hj
      have h1 := step_send (a := ringA m) (b := ringA n) (cap := 3) (e := ⟨j, true, 1, ((j + 1) % m : Nat)⟩) (c := ⟨(j : Nat), (i : Nat), [], []⟩) hB (ring_send1 (by omega)) rfl rfl (by simp)
      rw [Nat.mod_eq_of_lt hj] at h1
      have h2 := step_recv (a := ringA n) (b := ringA m) (cap := 3) (e := ⟨(i : Nat), false, 1, (i : Nat)⟩) (c := ⟨(i : Nat), (j + 1 : Nat), [1], []⟩) (r := []) hA (ring_recv1 hi) rfl rfl rfl
      exact ((ih (by omega)).step (step_b (c := ⟨(i : Nat), (j : Nat), [], []⟩) h1)).step h2
  have fillA : ∀ k (l : List Int), l.length = k → l.length ≤ 3 → (∀ z ∈ l, z = 1 ∨ z = 2) → ∀ i, i < n → ∀ j, j < m → Rbf (sucC (ringA n) (ringA m) 3) (cfgStart (ringA n) (ringA m)) ⟨(i : Nat), (j : Nat), l, []⟩ := by
    intro k
    induction k with
    | zero =>
      intro l h0 _ _ i hi j hj
      rw [List.eq_nil_of_length_eq_zero h0]
      exact base2 i hi j hj
    | succ k ih =>
      intro l hk h3 hl i hi j hj
      rcases List.eq_nil_or_concat l with rfl | ⟨q, x, rfl⟩
      · cases hk
      · rw [List.concat_eq_append] at hk h3 hl ⊢
        rw [List.length_append, List.length_singleton] at hk h3
        obtain ⟨j', hj', he⟩ := ring_before hj (hl x (by simp))
        have h1 := step_send (a := ringA m) (b := ringA n) (cap := 3) (c := ⟨(j' : Nat), (i : Nat), [], q⟩) hB he rfl rfl (by show (q.length : Int) < 3; omega)
        exact (ih q (by omega) (by omega) (fun z hz => hl z (by simp [hz])) i hi j' hj').step (step_b (c := ⟨(i : Nat), (j' : Nat), q, []⟩) h1)
  have fillB : ∀ k (o : List Int), o.length = k → o.length ≤ 3 → (∀ z ∈ o, z = 1 ∨ z = 2) → ∀ i, i < n → ∀ j, j < m → Rbf (sucC (ringA n) (ringA m) 3) (cfgStart (ringA n) (ringA m)) ⟨(i : Nat), (j : Nat), l, o⟩ := by
    intro k
    induction k with
    | zero =>
      intro o h0 _ _ i hi j hj
      rw [List.eq_nil_of_length_eq_zero h0]
      exact fillA _ l rfl hll hl i hi j hj
    | succ k ih =>
      intro o hk h3 ho i hi j hj
      rcases List.eq_nil_or_concat o with rfl | ⟨q, x, rfl⟩
      · cases hk
      · rw [List.concat_eq_append] at hk h3 ho ⊢
        rw [List.length_append, List.length_singleton] at hk h3
        obtain ⟨i', hi', he⟩ := ring_before hi (ho x (by simp))
        have h1 := step_send (a := ringA n) (b := ringA m) (cap := 3) (c := ⟨(i' : Nat), (j : Nat), l, q⟩) hA he rfl rfl (by show (q.length : Int) < 3; omega)
        exact (ih q (by omega) (by omega) (fun z hz => ho z (by simp [hz])) i' hi' j hj).step h1
  exact fillB _ o rfl hol ho i hi j hj
end Go.Pv

/-
  Chapter 29: how many configurations rings have.
-/
namespace Go.Pv

def chans3 : List (List Int) := [[], [1], [2], [1, 1], [1, 2], [2, 1], [2, 2], [1, 1, 1], [1, 1, 2], [1, 2, 1], [1, 2, 2], [2, 1, 1], [2, 1, 2], [2, 2, 1], [2, 2, 2]]
def fullU (n m : Nat) : List Cfg := (List.range n).flatMap fun i : Nat => (List.range m).flatMap fun j : Nat => chans3.flatMap fun l => chans3.map fun o => ⟨i, j, l, o⟩
theorem flatMap_len {α β : Type} {f : α → List β} {k : Nat} (h : ∀ x, (f x).length = k) : ∀ l : List α, (l.flatMap f).length = l.length * k
  | [] => by simp
  | x :: l => by
    rw [List.flatMap_cons, List.length_append, h, flatMap_len h l, List.length_cons, Nat.succ_mul]
    omega
theorem fullU_len (n m : Nat) : (fullU n m).length = n * m * 225 := by
  have h1 : ∀ (i j : Nat), (chans3.flatMap fun l => chans3.map fun o => (⟨i, j, l, o⟩ : Cfg)).length = 225 := fun i j => flatMap_len (k := 15) (fun _ => rfl) _
  have h2 : ∀ i : Nat, ((List.range m).flatMap fun j : Nat => chans3.flatMap fun l => chans3.map fun o => (⟨i, j, l, o⟩ : Cfg)).length = m * 225 := fun i => by
    rw [flatMap_len (k := 225) (fun j => h1 i j), List.length_range]
  unfold fullU
  rw [flatMap_len (k := m * 225) h2, List.length_range, Nat.mul_assoc]
theorem fullU_nodup (n m : Nat) : (fullU n m).Nodup := by
  have hc : chans3.Nodup := by decide
  have hr : ∀ k, (List.range k).Pairwise (· ≠ ·) := fun k => List.nodup_range
  unfold fullU List.Nodup
  rw [List.pairwise_flatMap]
  refine ⟨fun i _ => ?_, (hr n).imp fun hij x hx y hy e => ?_⟩
  · rw [List.pairwise_flatMap]
    refine ⟨fun j _ => ?_, (hr m).imp fun hij x hx y hy e => ?_⟩
    · rw [List.pairwise_flatMap]
      refine ⟨fun l _ => ?_, hc.imp fun hij x hx y hy e => ?_⟩
      · exact List.Pairwise.map _ (fun a b hab e => hab (congrArg Cfg.toB e)) hc
      · obtain ⟨_, _, rfl⟩ := List.mem_map.1 hx
        obtain ⟨_, _, rfl⟩ := List.mem_map.1 hy
        exact hij (congrArg Cfg.toA e)
    · obtain ⟨_, _, hx⟩ := List.mem_flatMap.1 hx
      obtain ⟨_, _, rfl⟩ := List.mem_map.1 hx
      obtain ⟨_, _, hy⟩ := List.mem_flatMap.1 hy
      obtain ⟨_, _, rfl⟩ := List.mem_map.1 hy
      exact hij (Int.ofNat.inj (congrArg Cfg.b e))
  · obtain ⟨_, _, hx⟩ := List.mem_flatMap.1 hx
    obtain ⟨_, _, hx⟩ := List.mem_flatMap.1 hx
    obtain ⟨_, _, rfl⟩ := List.mem_map.1 hx
    obtain ⟨_, _, hy⟩ := List.mem_flatMap.1 hy
    obtain ⟨_, _, hy⟩ := List.mem_flatMap.1 hy
    obtain ⟨_, _, rfl⟩ := List.mem_map.1 hy
    exact hij (Int.ofNat.inj (congrArg Cfg.a e))
end Go.Pv

/-
  Chapter 29: what is found in rings.
-/
namespace Go.Pv

theorem chans3_mem {l : List Int} (h : ∀ z ∈ l, z = 1 ∨ z = 2) (hl : l.length ≤ 3) : l ∈ chans3 := by
  match l, h, hl with
  | [], _, _ => simp [chans3]
  | [x], h, _ => rcases h x (by simp) with rfl | rfl <;> simp [chans3]
  | [x, y], h, _ => rcases h x (by simp) with rfl | rfl <;> rcases h y (by simp) with rfl | rfl <;> simp [chans3]
  | [x, y, z], h, _ => rcases h x (by simp) with rfl | rfl <;> rcases h y (by simp) with rfl | rfl <;> rcases h z (by simp) with rfl | rfl <;> simp [chans3]
  | x :: y :: z :: u :: r, _, hl => simp only [List.length_cons] at hl; omega
theorem chans3_ok : ∀ l ∈ chans3, (∀ z ∈ l, z = 1 ∨ z = 2) ∧ l.length ≤ 3 := by decide
theorem ring_label {n : Nat} : ∀ e ∈ ringE n, e.label ≤ 2 := by
  intro e he
  obtain ⟨i, _, hi⟩ := List.mem_flatMap.1 he
  simp only [List.mem_cons, List.not_mem_nil, or_false] at hi
  rcases hi with rfl | rfl | rfl | rfl <;> simp
theorem ring_sys {n m : Nat} (hA : (ringA n).Good) (hB : (ringA m).Good) : sysErr (ringA n) (ringA m) 3 = 0 := sysErr_of hA hB (by decide) (by decide)
theorem ring_runs {n m : Nat} (hA : (ringA n).Good) (hB : (ringA m).Good) : Runs29 (ringA n) (ringA m) 3 (smC (ringA n) (ringA m) 3) := smC_runs (ring_sys hA hB) fun e he => by
  rcases List.mem_append.1 he with he | he
  · exact ring_label e he
  · exact ring_label e he
theorem fullU_sm {n m : Nat} {c : Cfg} (h : smC (ringA n) (ringA m) 3 c) : c ∈ fullU n m := by
  obtain ⟨a, b, l, o⟩ := c
  obtain ⟨h1, h2, h3⟩ := h
  obtain ⟨_, ⟨p1, p2⟩, ⟨p3, p4⟩, h6, h7⟩ := fitsB_iff.1 h1
  dsimp only at p1 p2 p3 p4 h2 h3 h6 h7
  obtain ⟨i, rfl⟩ := Int.eq_ofNat_of_zero_le p1
  obtain ⟨j, rfl⟩ := Int.eq_ofNat_of_zero_le p3
  have hi : i < n := by have : (i : Int) < (n : Int) := p2; omega
  have hj : j < m := by have : (j : Int) < (m : Int) := p4; omega
  have k1 := chan_ok h6
  have k2 := chan_ok h7
  refine List.mem_flatMap.2 ⟨i, List.mem_range.2 hi, List.mem_flatMap.2 ⟨j, List.mem_range.2 hj, List.mem_flatMap.2 ⟨l, chans3_mem (fun z hz => ?_) (by omega), List.mem_map.2 ⟨o, chans3_mem (fun z hz => ?_) (by omega), rfl⟩⟩⟩⟩
  · have := h2 z hz
    have := k1.2 z hz
    omega
  · have := h3 z hz
    have := k2.2 z hz
    omega
theorem fullU_rbf {n m : Nat} (hA : (ringA n).Good) (hB : (ringA m).Good) {c : Cfg} (h : c ∈ fullU n m) : Rbf (sucC (ringA n) (ringA m) 3) (cfgStart (ringA n) (ringA m)) c := by
  obtain ⟨i, hi, h⟩ := List.mem_flatMap.1 h
  obtain ⟨j, hj, h⟩ := List.mem_flatMap.1 h
  obtain ⟨l, hl, h⟩ := List.mem_flatMap.1 h
  obtain ⟨o, ho, rfl⟩ := List.mem_map.1 h
  have hi := List.mem_range.1 hi
  have hj := List.mem_range.1 hj
  exact ring_reach hA hB (by omega) (by omega) hi hj (chans3_ok l hl).1 (chans3_ok o ho).1 (chans3_ok l hl).2 (chans3_ok o ho).2
theorem ring_found {n m k : Nat} (hA : (ringA n).Good) (hB : (ringA m).Good) {out : List Cfg} (h : bfsL (sucC (ringA n) (ringA m) 3) 5000 k [cfgStart (ringA n) (ringA m)] 0 = some out) : out.length = n * m * 225 := by
  have hr := ring_runs hA hB
  have hp := (bfsL_spec hr.nx (bfs0 _ _) (fun x hx => by
    rw [List.mem_singleton.1 hx]
    exact hr.st) h).2.1
  rw [← fullU_len]
  exact Nat.le_antisymm ((bfsL_nodup h).length_le_of_subset fun x hx => fullU_sm (hp x hx)) ((fullU_nodup n m).length_le_of_subset fun x hx => (bfsL_rbf h x).2 (fullU_rbf hA hB hx))
theorem ring_bfs {n m : Nat} (hA : (ringA n).Good) (hB : (ringA m).Good) (h : n * m * 225 ≤ 5000) : ∃ out, bfsL (sucC (ringA n) (ringA m) 3) 5000 5002 [cfgStart (ringA n) (ringA m)] 0 = some out ∧ out.length = n * m * 225 := by
  have hr := ring_runs hA hB
  obtain ⟨out, ho⟩ : ∃ out, bfsL (sucC (ringA n) (ringA m) 3) 5000 5002 [cfgStart (ringA n) (ringA m)] 0 = some out := by
    refine bfsL_total (U := fullU n m) (by rw [fullU_len]; exact h) (fun c hc x hx => ?_) (bfs0 _ _) (fun x hx => ?_) (Nat.zero_le _) (by omega)
    · have key : ∀ c, Rbf (sucC (ringA n) (ringA m) 3) (cfgStart (ringA n) (ringA m)) c → smC (ringA n) (ringA m) 3 c := fun c hc => by
        induction hc with
        | start => exact hr.st
        | step _ hx ih => exact hr.nx _ ih _ hx
      exact fullU_sm (key x ((fullU_rbf hA hB hc).step hx))
    · rw [List.mem_singleton.1 hx]
      exact fullU_sm hr.st
  exact ⟨out, ho, ring_found hA hB ho⟩
theorem ring_many {n m : Nat} (hA : (ringA n).Good) (hB : (ringA m).Good) (h : 5000 < n * m * 225) : bfsL (sucC (ringA n) (ringA m) 3) 5000 5002 [cfgStart (ringA n) (ringA m)] 0 = none := by
  cases ho : bfsL (sucC (ringA n) (ringA m) 3) 5000 5002 [cfgStart (ringA n) (ringA m)] 0 with
  | none => rfl
  | some out =>
    have h1 := ring_found hA hB ho
    have h2 := bfsL_len (by simp) ho
    omega
end Go.Pv

/-
  Chapter 29: the law of Large.
-/
namespace Go.Pv

set_option maxHeartbeats 2000000 in
theorem r147 (r150 : res A PrA 150 [] = some [.bool true]) (x y : Int) (hx : 0 ≤ x ∧ x ≤ 255) (hy : 0 ≤ y ∧ y ≤ 255) : res A PrA 147 [.int .u8 x, .int .u8 y] = some [.bool true] := by
  refine res_of a147 rfl rfl ?_
  simp only [F147]
  have e1 : x.tmod 12 = x % 12 := Int.tmod_eq_emod_of_nonneg hx.1
  have e2 : y.tmod 12 = y % 12 := Int.tmod_eq_emod_of_nonneg hy.1
  have b1 := Int.emod_nonneg x (by decide : (12 : Int) ≠ 0)
  have b2 := Int.emod_lt_of_pos x (by decide : (0 : Int) < 12)
  have b3 := Int.emod_nonneg y (by decide : (12 : Int) ≠ 0)
  have b4 := Int.emod_lt_of_pos y (by decide : (0 : Int) < 12)
  obtain ⟨k, hk⟩ := Int.eq_ofNat_of_zero_le b1
  obtain ⟨q, hq⟩ := Int.eq_ofNat_of_zero_le b3
  have hk12 : k < 12 := by omega
  have hq12 : q < 12 := by omega
  have hA := ring_good hk12
  have hB := ring_good hq12
  have h1 := r170 hk12
  have h2 := r170 hq12
  have c1 : (1 : Int) + (k : Int) = ((k + 1 : Nat) : Int) := by omega
  have c2 : (1 : Int) + (q : Int) = ((q + 1 : Nat) : Int) := by omega
  have hlA : (ringA (k + 1)).edges.length ≤ 1000000 := by have : (ringA (k + 1)).edges.length ≤ 100 := hA.len; omega
  have hlB : (ringA (q + 1)).edges.length ≤ 1000000 := by have : (ringA (q + 1)).edges.length ≤ 100 := hB.len; omega
  have h165 := r165 (ringA (k + 1)) (ringA (q + 1)) 3 (ring_runs hA hB) hlA hlB (ring_sys hA hB)
  have q4 : (ringA (k + 1)).start = 0 := rfl
  have q5 : (ringA (q + 1)).start = 0 := rfl
  have q6 : (ringA (k + 1)).edges.map Edge.c = edgs (ringE (k + 1)) := rfl
  have q7 : (ringA (q + 1)).edges.map Edge.c = edgs (ringE (q + 1)) := rfl
  have q8 : (ringA (k + 1)).states = ((k + 1 : Nat) : Int) := rfl
  have q9 : (ringA (q + 1)).states = ((q + 1 : Nat) : Int) := rfl
  have hmul : ((k + 1 : Nat) : Int) * ((q + 1 : Nat) : Int) = (((k + 1) * (q + 1) : Nat) : Int) := by simp
  have hP : (k + 1) * (q + 1) ≤ 12 * 12 := Nat.mul_le_mul (by omega) (by omega)
  rw [q4, q5, q6, q7, q8, q9] at h165
  by_cases hbig : 5000 < (k + 1) * (q + 1) * 225
  · rw [ring_many hA hB hbig] at h165
    generalize (k + 1) * (q + 1) = p at *
    simp (disch := omega) only [go_sem, r150, e1, e2, hk, hq, c1, c2, h1, h2, h165, hmul]
    refine Br.ofP (fun c3 => ?_) (fun c3 => by omega)
    simp (disch := omega) only [go_sem]
    rfl
  · obtain ⟨out, ho, hlen⟩ := ring_bfs hA hB (Nat.le_of_not_lt hbig)
    rw [ho] at h165
    generalize (k + 1) * (q + 1) = p at *
    simp (disch := omega) only [go_sem, r150, e1, e2, hk, hq, c1, c2, h1, h2, h165, hmul]
    have hoc : ((out.length : Nat) : Int) = (p : Int) * 225 := by omega
    refine Br.ofP (fun c3 => by omega) (fun c3 => ?_)
    have hd : decide ((out.length : Int) = (p : Int) * 225) = true := decide_eq_true hoc
    simp (disch := omega) only [go_sem, hd]
end Go.Pv

/-
  Chapter 29 is awake: computed.
-/
namespace Go.Pv
theorem r150 : res A PrA 150 [] = some [.bool true] := res_some.2 ⟨3000, by kernel_rfl⟩
end Go.Pv

/-
  Drafts and actions that a law is given.
-/
namespace Go.Pv
variable {P : Program}

theorem u8_min : IntKind.min .u8 = 0 := by decide
theorem u8_max : IntKind.max .u8 = 255 := by decide

end Go.Pv

/-
  strings.Builder: what its methods leave as it was, exactly.
-/
namespace Go.Pv
open Go.Shelf Go.RowKit Go.Proofs
variable {P : Program} {ρ : Ren}

structure Kept (b : Nat) (v : Value) (w w' : World) : Prop where
  os : w'.os = w.os
  tape : w'.tape = w.tape
  output : w'.output = w.output
  size : w.heap.size ≤ w'.heap.size
  block : ∀ k, k < w.heap.size → k ≠ b → some k ≠ v.ownBlock → w'.heap[k]? = w.heap[k]?
  drawn : w.drawn ≤ w'.drawn

theorem app_drawn {w : World} {base : Nat} {t u ty e : TypeId} {i : TypeInfo} (ht : P.underlying t = some (.slice e)) (hu : P.underlying u = some .string) (hi : P.info? e = some i) (hz : i.zero = some (.int .u8 0))
    (hsize : i.size = 1) (hby : i.bytes = 1) {v : Value} {n : Nat} {xs : List Value} (hown : w.ownsRow base e 1 v n xs) {s : ByteArray} (h63 : n + s.size ≤ maxLen) (hbytes : n + s.size ≤ 140737488355328) {v' : Value} {w' : World}
    (hr : (Builtin.append_ #[t, u] ty #[v, .string s]).run P w = .ok v' w') : w.drawn ≤ w'.drawn := by
  have hsmall : n + s.size ≤ 9223372036854775807 := by simp only [maxLen] at h63; omega
  have hxl : xs.length = n := by simpa using hown.1
  rcases hown.2 with ⟨rfl, rfl⟩ | ⟨g, cap, cur, rfl, _, hg, hnc, _, hcs, _⟩
  · by_cases hm : s.size = 0
    · have hf := Lib.run_firstCells_string (P := P) w 1 s
      rw [hm] at hf
      have h2 : (Builtin.append_ #[t, u] ty #[.slice none 0 0, .string s]).run P w = .ok (.slice none 0 0) w := by
        simp [Builtin.append_, run_underlying ht, run_underlying hu, sizeOf, typeInfo, hi, hsize, Builtin.lenOf, hm, hf]
      rw [h2] at hr
      cases hr
      exact Nat.le_refl _
    · have h2 := run_append_nil_string (P := P) w t u ty e i (.int .u8 0) ht hu hi hz s (by omega) (by omega) (by rw [hby]; omega)
      rw [h2] at hr
      cases hr
      exact Nat.le_succ _
  · by_cases hroom : n + s.size ≤ cap
    · have hcs' : cur.size = cap := by simpa using hcs
      have h2 := Lib.run_append_room_string (P := P) w t u ty e i ht hu hi hsize g n cap cur hg s hroom (by omega)
      rw [h2] at hr
      cases hr
      exact Nat.le_refl _
    · have holds : ∀ j u, xs[j]? = some u → w.cell? ((⟨g, 0, none⟩ : Addr).add j) = some u := hown.cells (g := g) rfl
      have h2 := Lib.run_append_grow_string (P := P) w t u ty e i (.int .u8 0) ht hu hi hz ⟨g, 0, none⟩ n cap xs (by rw [hsize]; simpa using hxl) holds s (by omega) (by omega) (by rw [hby]; exact growslice_fits (by omega) (by omega))
      rw [h2] at hr
      cases hr
      exact Nat.le_succ _

theorem app_block {w : World} {base : Nat} {t u ty e : TypeId} {i : TypeInfo} (ht : P.underlying t = some (.slice e)) (hu : P.underlying u = some .string) (hi : P.info? e = some i) (hz : i.zero = some (.int .u8 0))
    (hsize : i.size = 1) (hby : i.bytes = 1) {v : Value} {n : Nat} {xs : List Value} (hown : w.ownsRow base e 1 v n xs) {s : ByteArray} (h63 : n + s.size ≤ maxLen) (hbytes : n + s.size ≤ 140737488355328) {v' : Value} {w' : World}
    (hr : (Builtin.append_ #[t, u] ty #[v, .string s]).run P w = .ok v' w') : ∀ g, v'.ownBlock = some g → v.ownBlock = some g ∨ w.heap.size ≤ g := by
  have hsmall : n + s.size ≤ 9223372036854775807 := by simp only [maxLen] at h63; omega
  have hxl : xs.length = n := by simpa using hown.1
  rcases hown.2 with ⟨rfl, rfl⟩ | ⟨g, cap, cur, rfl, _, hg, hnc, _, hcs, _⟩
  · by_cases hm : s.size = 0
    · have hf := Lib.run_firstCells_string (P := P) w 1 s
      rw [hm] at hf
      have h2 : (Builtin.append_ #[t, u] ty #[.slice none 0 0, .string s]).run P w = .ok (.slice none 0 0) w := by
        simp [Builtin.append_, run_underlying ht, run_underlying hu, sizeOf, typeInfo, hi, hsize, Builtin.lenOf, hm, hf]
      rw [h2] at hr
      cases hr
      exact fun g h => .inl h
    · have h2 := run_append_nil_string (P := P) w t u ty e i (.int .u8 0) ht hu hi hz s (by omega) (by omega) (by rw [hby]; omega)
      rw [h2] at hr
      cases hr
      exact fun g' h => .inr (by cases h; exact Nat.le_refl _)
  · by_cases hroom : n + s.size ≤ cap
    · have hcs' : cur.size = cap := by simpa using hcs
      have h2 := Lib.run_append_room_string (P := P) w t u ty e i ht hu hi hsize g n cap cur hg s hroom (by omega)
      rw [h2] at hr
      cases hr
      exact fun g' h => .inl h
    · have holds : ∀ j u, xs[j]? = some u → w.cell? ((⟨g, 0, none⟩ : Addr).add j) = some u := hown.cells (g := g) rfl
      have h2 := Lib.run_append_grow_string (P := P) w t u ty e i (.int .u8 0) ht hu hi hz ⟨g, 0, none⟩ n cap xs (by rw [hsize]; simpa using hxl) holds s (by omega) (by omega) (by rw [hby]; exact growslice_fits (by omega) (by omega))
      rw [h2] at hr
      cases hr
      exact fun g' h => .inr (by cases h; exact Nat.le_refl _)

theorem heap_set_ne (w : World) (b k o : Nat) (x : Value) (h : k ≠ b) : (w.setCell ⟨b, o, none⟩ x).heap[k]? = w.heap[k]? := by
  simp only [World.setCell, Array.getElem?_modify]
  rw [if_neg (fun e => h e.symm)]

section
variable {w : World}
theorem wpList_str_own {ops : Array Oper} {rest : List Oper} {o : Oper} {a : Act} {Q : Exit → Act → World → Prop} (hgd : o.guard = none) (sl x : Operand) (t u : TypeId)
    (ho : o.op = .call { callee := .builtin .append, args := #[sl, x], argTypes := #[t, u] })
    (base : Nat) (e : TypeId) (i : TypeInfo) (ht : P.underlying t = some (.slice e)) (hu : P.underlying u = some .string) (hi : P.info? e = some i) (hz : i.zero = some (.int .u8 0))
    (hsize : i.size = 1) (hby : i.bytes = 1)
    (v : Value) (n : Nat) (xs : List Value) (hs : a.eval sl = v) (hown : w.ownsRow base e 1 v n xs) (s : ByteArray) (hx : a.eval x = .string s)
    (h63 : n + s.size ≤ maxLen) (hbytes : n + s.size ≤ 140737488355328) (hbase : base ≤ w.heap.size)
    (h : ∀ v' w', w'.ownsRow base e 1 v' (n + s.size) (xs ++ Lib.strCells s) → w.grownBy w' v.ownBlock → w.drawn ≤ w'.drawn → (∀ g, v'.ownBlock = some g → v.ownBlock = some g ∨ w.heap.size ≤ g) → wpList P ops Q rest (a.put o.dst v') w') : wpList P ops Q (o :: rest) a w := by
  refine wpList_plain hgd fun K hK => ?_
  obtain ⟨v', w', hr, h2, h3, h4⟩ := Lib.run_append_own_string (P := P) w base t u o.type e i ht hu hi hz hsize hby v n xs hown s h63 hbytes hbase
  have hdr := app_drawn ht hu hi hz hsize hby hown h63 hbytes hr
  have hblk := app_block ht hu hi hz hsize hby hown h63 hbytes hr
  unfold Oper.wp execOp
  simp only [ho, resolve, invoke, builtin, Sem.run_bind, Sem.run_pure, Result.andThen_ok, List.map_toArray, List.map_cons, List.map_nil, hs, hx, hr]
  exact hK _ _ (h v' w' h2 h3 hdr hblk)
end
theorem bld_check (L : Lays.n240 P ρ) (X : Builder.X72 P ρ) {b : Nat} {p v : Value} {w : World} (hb : w.heap[b]? = some (.cells #[p, v] (ρ.t 72) (0, 0))) (hp : p = .pointer none ∨ p = .pointer (some ⟨b, 0, none⟩)) :
    Calls P (ρ.f 240) #[.pointer (some ⟨b, 0, none⟩)] w fun e w' => e = .returned (.tuple #[]) ∧ (w'.heap[b]? = some (.cells #[.pointer (some ⟨b, 0, none⟩), v] (ρ.t 72) (0, 0)) ∧ (∀ k, k ≠ b → w'.heap[k]? = w.heap[k]?) ∧ w'.heap.size = w.heap.size ∧ w'.os = w.os ∧ w'.tape = w.tape ∧ w'.output = w.output ∧ w'.drawn = w.drawn) := by
  rcases hp with rfl | rfl
  · refine (Any.Builder_copyCheck_fresh L X b w (by rw [Lib.cell_of_heap hb]; rfl) (by simp [World.shape?, hb]) (Lib.frozen_of_heap hb 0)).mono ?_
    rintro e w' ⟨rfl, rfl⟩
    refine ⟨rfl, ?_, fun k hk => heap_set_ne w b k 0 _ hk, by simp [World.setCell], rfl, rfl, rfl, rfl⟩
    simp [World.setCell, Array.getElem?_modify, hb]
  · refine (Any.Builder_copyCheck_used L X b w (by rw [Lib.cell_of_heap hb]; rfl)).mono ?_
    rintro e w' ⟨rfl, rfl⟩
    exact ⟨rfl, hb, fun k hk => rfl, rfl, rfl, rfl, rfl, rfl⟩

set_option maxHeartbeats 4000000 in
set_option maxRecDepth 100000 in
theorem bld_write (L : Lays.n166 P ρ) (X : Builder.Extra P ρ) {K b : Nat} {bs : List Value} {s : ByteArray} {w : World} {p v : Value} (hb : w.heap[b]? = some (.cells #[p, v] (ρ.t 72) (0, 0))) (hp : p = .pointer none ∨ p = .pointer (some ⟨b, 0, none⟩))
    (hown : w.ownsRow K (ρ.t 5) 1 v bs.length bs) (hne : v.ownBlock ≠ some b) (hlen : bs.length + s.size ≤ 140737488355328) (hK : K ≤ w.heap.size) :
    Calls P (ρ.f 166) #[.pointer (some ⟨b, 0, none⟩), .string s] w fun e w' => e = .returned (.tuple #[.int .i64 s.size, .nilIface]) ∧ (∃ v', (w'.heap[b]? = some (.cells #[.pointer (some ⟨b, 0, none⟩), v'] (ρ.t 72) (0, 0)) ∧ w'.ownsRow K (ρ.t 5) 1 v' (bs ++ Lib.strCells s).length (bs ++ Lib.strCells s) ∧ v'.ownBlock ≠ some b) ∧ (∀ g, v'.ownBlock = some g → v.ownBlock = some g ∨ w.heap.size ≤ g)) ∧ Kept b v w w' := by
  obtain ⟨i0, hi, hz0, hz1, hz2⟩ := info_parts X.infoByte
  have hlt : b < w.heap.size := (Array.getElem?_eq_some_iff.1 hb).1
  have mixed := L.mixed
  have t72 := L.t72; have a72 := L.a72; have z72 := L.z72; have v72 := L.v72; have u72 := run_underlying L.t72
  have t70 := L.t70; have a70 := L.a70; have z70 := L.z70; have v70 := L.v70; have u70 := run_underlying L.t70
  have t37 := L.t37; have a37 := L.a37; have z37 := L.z37; have v37 := L.v37; have u37 := run_underlying L.t37
  have t3 := L.t3; have a3 := L.a3; have z3 := L.z3; have v3 := L.v3; have u3 := run_underlying L.t3
  have t9 := L.t9; have a9 := L.a9; have z9 := L.z9; have v9 := L.v9; have u9 := run_underlying L.t9
  have t4 := L.t4; have a4 := L.a4; have z4 := L.z4; have v4 := L.v4; have u4 := run_underlying L.t4
  have t164 := L.t164; have a164 := L.a164; have z164 := L.z164; have v164 := L.v164; have u164 := run_underlying L.t164
  have t5 := X.t5; have a5 := X.a5; have z5 := X.z5; have v5 := X.v5; have u5 := run_underlying X.t5
  have e240 : ∀ args w, (callFunc (ρ.f 240) args).run P w = .ok (.enter (ρ.f 240) args) w := enters_of L.f240 (by kernel_rfl) rfl
  go_enter L.f166, Body.n166_ntmps ρ
  go_wp2_with (go_at_fn (ρ.f 240); refine (bld_check { L with } X.toX72 hb hp).mono ?_)
  rintro e w1 ⟨rfl, hb1, hk1, hz1', ho1, ht1, hu1, hd1⟩
  have hown1 : w1.ownsRow K (ρ.t 5) 1 v bs.length bs := hown.kept (row := some b) ⟨ho1, ht1, hu1, by omega, fun k _ hk => hk1 k (fun e => hk (by rw [e]))⟩ (Or.inr hne)
  have c0 : w1.cell? ⟨b, 0, none⟩ = some (.pointer (some ⟨b, 0, none⟩)) := by rw [Lib.cell_of_heap hb1]; rfl
  have c1 : w1.cell? ⟨b, 1, none⟩ = some v := by rw [Lib.cell_of_heap hb1]; rfl
  go_wp2_with (at_builtin; refine wpList_str_own rfl _ _ (ρ.t 37) (ρ.t 9) rfl K (ρ.t 5) i0 L.t37 L.t9 hi hz0 hz1 hz2 _ _ _ rfl hown1 s rfl ?c3 ?c4 ?c5 ?_)
  case c3 => unfold maxLen; omega
  case c4 => omega
  case c5 => omega
  intro v' w2 hown' hgrow hdr hblk
  have hb2 : w2.heap[b]? = some (.cells #[.pointer (some ⟨b, 0, none⟩), v] (ρ.t 72) (0, 0)) := by
    rw [hgrow.block b (by omega) (fun e => hne e.symm)]
    exact hb1
  have d0 : w2.cell? ⟨b, 0, none⟩ = some (.pointer (some ⟨b, 0, none⟩)) := by rw [Lib.cell_of_heap hb2]; rfl
  have d1 : w2.cell? ⟨b, 1, none⟩ = some v := by rw [Lib.cell_of_heap hb2]; rfl
  have f1 : w2.frozen? ⟨b, 1, none⟩ = false := Lib.frozen_of_heap hb2 1
  obtain ⟨ao, n', cap, rfl⟩ : ∃ ao n' cap, v' = .slice ao n' cap := by
    rcases hown'.2 with ⟨hv, _⟩ | ⟨g, cap, cur, hv, _⟩
    · exact ⟨_, _, _, hv⟩
    · exact ⟨_, _, _, hv⟩
  go_wp2
  go_ret2
  have hTe : ρ.t 72 ≠ ρ.t 5 := X.neB5
  have hne' := Lib.ownBlock_ne hown' hb2 hTe
  refine ⟨rfl, ⟨.slice ao n' cap, ⟨?_, ?_, hne'⟩, fun g hg => ?_⟩, ⟨?_, ?_, ?_, ?_, fun k hk hkb hkv => ?_, ?_⟩⟩
  · simp [World.setCell, Array.getElem?_modify, hb2]
  · rw [List.length_append, Lib.strCells_length]
    exact hown'.kept (row := some b) ⟨rfl, rfl, rfl, by simp [World.setCell], fun k _ hk => heap_set_ne _ _ _ _ _ (fun e => hk (by rw [e]))⟩ (Or.inr hne')
  · rcases hblk g hg with h | h
    · exact .inl h
    · exact .inr (by omega)
  · exact hgrow.os.trans ho1
  · exact hgrow.tape.trans ht1
  · exact hgrow.output.trans hu1
  · have := hgrow.size
    simp [World.setCell]
    omega
  · rw [heap_set_ne _ _ _ _ _ hkb, hgrow.block k (by omega) hkv, hk1 k hkb]
  · show w.drawn ≤ w2.drawn
    omega

theorem heap_freeze_ne (w : World) (p : Addr) (n k : Nat) (h : k ≠ p.block) : (w.freeze p n).heap[k]? = w.heap[k]? := by
  unfold World.freeze
  split
  · rfl
  · simp only [Array.getElem?_modify]
    rw [if_neg (fun e => h e.symm)]
theorem freeze_size (w : World) (p : Addr) (n : Nat) : w.heap.size ≤ (w.drew.freeze p n).heap.size := by
  unfold World.freeze
  split
  · exact Nat.le_refl _
  · show w.heap.size ≤ (w.heap.modify _ _).size
    rw [Array.size_modify]
    exact Nat.le_refl _
set_option maxHeartbeats 4000000 in
set_option maxRecDepth 100000 in
theorem bld_string (L : Lays.n169 P ρ) (X : Builder.Extra P ρ) {K b : Nat} {l : List UInt8} {w : World} {p v : Value} (hbk : w.heap[b]? = some (.cells #[p, v] (ρ.t 72) (0, 0))) (hown : w.ownsRow K (ρ.t 5) 1 v (Lib.byteCells l).length (Lib.byteCells l)) (h0 : l ≠ []) :
    Calls P (ρ.f 169) #[.pointer (some ⟨b, 0, none⟩)] w fun e w' => e = .returned (.string ⟨l.toArray⟩) ∧ Kept b v w w' := by
  have hl0 : l.length ≠ 0 := by simpa using h0
  rw [Lib.byteCells_length] at hown
  obtain ⟨g, cap, cur, rfl, hbg, hg, hnc, hcm, hcs, htake⟩ : ∃ g cap cur, v = .slice (some ⟨g, 0, none⟩) l.length cap ∧ K ≤ g ∧ w.heap[g]? = some (.cells cur (ρ.t 5) (0, 0)) ∧ l.length ≤ cap ∧ cap ≤ maxLen ∧ cur.size = cap * 1 ∧ cur.toList.take (l.length * 1) = Lib.byteCells l := by
    rcases hown.2 with ⟨_, hz⟩ | ⟨g, cap, cur, hv, r⟩
    · exact absurd hz hl0
    · exact ⟨g, cap, cur, hv, r⟩
  have c1 : w.drew.cell? ⟨b, 1, none⟩ = some (.slice (some ⟨g, 0, none⟩) l.length cap) := by
    have : w.drew.heap[b]? = some (.cells #[p, .slice (some ⟨g, 0, none⟩) l.length cap] (ρ.t 72) (0, 0)) := hbk
    rw [Lib.cell_of_heap this]; rfl
  have hSD : (Builtin.unsafeSliceData_ #[(ρ.t 37)] (ρ.t 127) #[.slice (some ⟨g, 0, none⟩) l.length cap]).run P w.drew = .ok (.pointer (some ⟨g, 0, none⟩)) w.drew :=
    Lib.run_unsafeSliceData_row _ _ _ _ _ _ (by omega)
  have hUS : (Builtin.unsafeString_ #[(ρ.t 127), (ρ.t 3)] (ρ.t 9) #[.pointer (some ⟨g, 0, none⟩), .int .i64 l.length]).run P w.drew = .ok (.string ⟨l.toArray⟩) (w.drew.freeze ⟨g, 0, none⟩ l.length) := by
    refine Lib.run_unsafeString_row w.drew (ρ.t 127) (ρ.t 3) (ρ.t 9) (ρ.t 5) L.t127 X.cellsByte g cur.size (by have hg' : w.drew.heap[g]? = some (.cells cur (ρ.t 5) (0, 0)) := hg; simp [World.shape?, hg']) l h0 (by omega) (by unfold maxLen at hcm; omega) ?_
    intro j x hx
    have := hown.cells (g := g) rfl j (.int .u8 x.toNat) (by simp [Lib.byteCells, hx])
    exact this
  have mixed := L.mixed
  have t72 := L.t72; have a72 := L.a72; have z72 := L.z72; have v72 := L.v72; have u72 := run_underlying L.t72
  have t70 := L.t70; have a70 := L.a70; have z70 := L.z70; have v70 := L.v70; have u70 := run_underlying L.t70
  have t37 := L.t37; have a37 := L.a37; have z37 := L.z37; have v37 := L.v37; have u37 := run_underlying L.t37
  have t127 := L.t127; have a127 := L.a127; have z127 := L.z127; have v127 := L.v127; have u127 := run_underlying L.t127
  have t3 := L.t3; have a3 := L.a3; have z3 := L.z3; have v3 := L.v3; have u3 := run_underlying L.t3
  have t9 := L.t9; have a9 := L.a9; have z9 := L.z9; have v9 := L.v9; have u9 := run_underlying L.t9
  have t5 := X.t5; have a5 := X.a5; have z5 := X.z5; have v5 := X.v5; have u5 := run_underlying X.t5
  go_enter L.f169, Body.n169_ntmps ρ
  go_wp2
  go_region_o
  all_goals (go_wp2; go_ret; exact ⟨rfl, ⟨by simp [World.freeze]; split <;> rfl, by simp [World.freeze]; split <;> rfl, by simp [World.freeze]; split <;> rfl, freeze_size w _ _, fun k _ _ hkv => heap_freeze_ne _ _ _ _ (fun e => hkv (by rw [e]; rfl)), by unfold World.freeze; split <;> exact Nat.le_succ _⟩⟩)
end Go.Pv

/-
  Code that writes to a builder: stretches of it run as the interpreter has it, the builder's calls by their contracts; the builder's blocks are none of the interpreter's.
-/
namespace Go.Pv
variable {P : Program} {N M : Nat → Nat} {W : Nat → Prop} {L L' L0 : Lx} {e e' e0 : Emb} {h : Heap} {w w' w0 : World} {Φ : Nat → List PV → Option (List PV)} {Pr : Prims} {Tk : Nat → Bool} {pb : List Nat} {A : Nat → Option AFunc}

def Wx (W : Nat → Prop) (G : List Nat) : Nat → Prop := fun k => W k ∧ k ∉ G
theorem HR.foreign {G G' : List Nat} (hr : HR N L e (Wx W G) h w) (hLG : ∀ g ∈ G, ∀ t, ¬ L t g) (hk : ∀ k, k < w.heap.size → k ∉ G → w'.heap[k]? = w.heap[k]?) (hz : w.heap.size ≤ w'.heap.size)
    (hn : ∀ g ∈ G', g ∈ G ∨ w.heap.size ≤ g) (_hs : ∀ g ∈ G, g ∈ G') (hlt : ∀ g ∈ G', g < w'.heap.size) : HR N L e (Wx W G') h w' ∧ Ext L e w L e w' := by
  have hT : ∀ b, b ∈ G → ¬ owned e b ∧ (∀ t, ¬ L t b) ∧ ∀ id, id < e.nm → e.mp id ≠ b := fun b hb => by
    refine ⟨fun ho => ?_, hLG b hb, fun id hi he => ?_⟩
    · rcases ho with ⟨s, hs', rfl⟩ | ⟨id, hi, hk', rfl⟩
      · exact (hr.wbx s hs').1.2 hb
      · exact (hr.war id hi hk').1.2 hb
    · subst he
      exact (hr.wmp id hi).1.2 hb
  obtain ⟨h1, h2⟩ := hr.quiet2 (L' := L) (w' := w') (fun b => b ∈ G) hT hk hz (fun _ _ h => h) (fun _ _ h => .inl h)
  refine ⟨{ h1 with wbx := fun s hs' => ⟨⟨(hr.wbx s hs').1.1, fun hg => ?_⟩, (h1.wbx s hs').2⟩, war := fun id hi hk' => ⟨⟨(hr.war id hi hk').1.1, fun hg => ?_⟩, (h1.war id hi hk').2⟩, wmp := fun id hi => ⟨⟨(hr.wmp id hi).1.1, fun hg => ?_⟩, (h1.wmp id hi).2⟩, wide := fun b hb => ⟨(h1.wide b hb).1, fun hg => ?_⟩ }, h2⟩
  · rcases hn _ hg with hg | hg
    · exact (hr.wbx s hs').1.2 hg
    · have := hr.lt_bx hs'
      omega
  · rcases hn _ hg with hg | hg
    · exact (hr.war id hi hk').1.2 hg
    · have := hr.lt_ar hi hk'
      omega
  · rcases hn _ hg with hg | hg
    · exact (hr.wmp id hi).1.2 hg
    · have := hr.lt_mp hi
      omega
  · exact Nat.lt_irrefl _ (Nat.lt_of_lt_of_le (hlt b hg) hb)
def FSp (N : Nat → Nat) (W : Nat → Prop) (G : List Nat) (nt : Nat) (L0 : Lx) (e0 : Emb) (w0 : World) (b : Nat) (s : St) (a : Act) (w : World) : Prop :=
  ∃ L e, SR N (Wx W G) L e nt s a w ∧ Fr W w0 w ∧ (∀ t b, L0 t b → L t b) ∧ (∀ t b, L t b → L0 t b ∨ (t = 0 ∧ W b)) ∧ XExt L0 e0 w0 L e w ∧ (0 < e.na ∧ e.ar 0 = b ∧ e.ad 0 = 0) ∧ ∀ g ∈ G, (∀ t, ¬ L t g) ∧ w0.heap.size ≤ g ∧ g < w.heap.size
def BS (T E : TypeId) (K : Nat) (G : List Nat) (b : Nat) (bs : List Value) (w : World) : Prop :=
  b ∈ G ∧ ∃ p v, w.heap[b]? = some (.cells #[p, v] T (0, 0)) ∧ (p = .pointer none ∨ p = .pointer (some ⟨b, 0, none⟩)) ∧ w.ownsRow K E 1 v bs.length bs ∧ v.ownBlock ≠ some b ∧ ∀ g, v.ownBlock = some g → g ∈ G
theorem ownsRow_same {K : Nat} {E : TypeId} {v : Value} {n : Nat} {xs : List Value} (ho : w.ownsRow K E 1 v n xs) (hg : ∀ g, v.ownBlock = some g → w'.heap[g]? = w.heap[g]?) : w'.ownsRow K E 1 v n xs := by
  refine ⟨ho.1, ?_⟩
  rcases ho.2 with hn | ⟨g, cap, cur, rfl, hb, hgg, rest⟩
  · exact .inl hn
  · exact .inr ⟨g, cap, cur, rfl, hb, by rw [hg g rfl]; exact hgg, rest⟩
theorem BS.same {T E : TypeId} {K b : Nat} {G : List Nat} {bs : List Value} (hb : BS T E K G b bs w) (hk : ∀ g ∈ G, w'.heap[g]? = w.heap[g]?) : BS T E K G b bs w' := by
  obtain ⟨h1, p, v, h2, h3, h4, h5, h6⟩ := hb
  exact ⟨h1, p, v, by rw [hk b h1]; exact h2, h3, ownsRow_same h4 fun g hg => hk g (h6 g hg), h5, h6⟩
def tomb : Arr := ⟨0, 0, .inl []⟩
theorem FSp.next {G : List Nat} {nt b : Nat} {s s' : St} {a a' : Act} {T E : TypeId} {K : Nat} {bs : List Value} (hsr : SR N (Wx W G) L e nt s a w) (hf : Fr W w0 w) (hs1 : ∀ t b, L0 t b → L t b) (hs2 : ∀ t b, L t b → L0 t b ∨ (t = 0 ∧ W b)) (hx : XExt L0 e0 w0 L e w) (hp : 0 < e.na ∧ e.ar 0 = b ∧ e.ad 0 = 0) (hG : ∀ g ∈ G, (∀ t, ¬ L t g) ∧ w0.heap.size ≤ g ∧ g < w.heap.size)
    (hb : BS T E K G b bs w) (h0 : s.h.ar[0]? = some tomb) (h1 : s'.h.ar[0]? = some tomb) (hsr' : SR N (Wx W G) L' e' nt s' a' w') (hf' : Fr (Wx W G) w w') (g1 : ∀ t b, L t b → L' t b) (g2 : ∀ t b, L' t b → L t b ∨ (t = 0 ∧ Wx W G b)) (gx : XExt L e w L' e' w') : FSp N W G nt L0 e0 w0 b s' a' w' ∧ BS T E K G b bs w' := by
  have hfw : Fr W w w' := ⟨hf'.os, hf'.tape, hf'.output, hf'.size, fun k hk hw => hf'.kept k hk fun hc => hw hc.1, hf'.drawn⟩
  have e1 : e.av 0 = 0 := (hsr.hr.ver 0 _ h0).1
  have e2 : e'.av 0 = 0 := (hsr'.hr.ver 0 _ h1).1
  obtain ⟨_, k2⟩ := gx.av 0 hp.1
  obtain ⟨k3, k4, _⟩ := k2 (by omega)
  refine ⟨⟨L', e', hsr', hf.trans hfw, fun t b hb => g1 t b (hs1 t b hb), fun t b hb => ?_, hx.trans gx, ⟨Nat.lt_of_lt_of_le hp.1 gx.na, k3.trans hp.2.1, k4.trans hp.2.2⟩, fun g hg => ⟨fun t ht => ?_, (hG g hg).2.1, Nat.lt_of_lt_of_le (hG g hg).2.2 hf'.size⟩⟩, hb.same fun g hg => hf'.kept g (hG g hg).2.2 fun hc => hc.2 hg⟩
  · rcases g2 t b hb with hb | ⟨hb, hb'⟩
    · exact hs2 t b hb
    · exact .inr ⟨hb, hb'.1⟩
  · rcases g2 t g ht with ht | ⟨_, ht⟩
    · exact (hG g hg).1 t ht
    · exact ht.2 hg
theorem frag_wp {G : List Nat} {nt b n : Nat} {code : Code} {an an' : Ann} {ac : AC} {s s' : St} {ex : Ex} {a : Act} {T E : TypeId} {K : Nat} {bs : List Value} (hc : CodeOk P N M A Pr n) (htr : trCode P N M nt code an = some (ac, an')) (he : exec A Pr n ac s = some (ex, s'))
    (h0 : s.h.ar[0]? = some tomb) (h1 : s'.h.ar[0]? = some tomb) (hs : FSp N W G nt L0 e0 w0 b s a w) (hb : BS T E K G b bs w) :
    code.wp P (fun x a' w' => x = exitOf ex ∧ FSp N W G nt L0 e0 w0 b s' a' w' ∧ BS T E K G b bs w') a w := by
  obtain ⟨L, e, hsr, hf, hs1, hs2, hx, hp, hG⟩ := hs
  refine wp_mono (hc nt code an ac an' htr (Wx W G) L e w s ex s' a w he ⟨L, e, hsr, Fr.refl _ _, fun _ _ h => h, fun _ _ h => .inl h, (Ext.refl _ _ _).x⟩) fun x a' w' hq => ?_
  obtain ⟨rfl, L', e', hsr', hf', g1, g2, gx⟩ := hq
  exact ⟨rfl, FSp.next hsr hf hs1 hs2 hx hp hG hb h0 h1 hsr' hf' g1 g2 gx⟩
theorem ops_then (hΦ : ∀ f ps rs, Φ f ps = some rs → FnR P N f ps rs) (hPr : PrimOk P N Pr) {nt : Nat} {ops : Array Oper} {Q : Exit → Act → World → Prop} {s' : St} (r : Nat) : ∀ (l : List AOper) (j : Nat) (L : Lx) (e : Emb) (s : St) (a : Act) (w : World),
    (∀ (i : Nat) (q : AOper), l[i]? = some q → ∃ o, ops[j + i]? = some o ∧ trOper P N M nt pb ops o = some q) → SR N W L e nt s a w → execOps Φ Pr Tk l s = some s' →
    (∀ a' w' L' e', Nx N W L e w L' e' s'.h w' → SR N W L' e' nt s' a' w' → wpOps P ops Q (List.range' (j + l.length) r) a' w') → wpOps P ops Q (List.range' j (l.length + r)) a w
  | [], j, L, e, s, a, w, _, hs, he, hK => by
    simp [execOps] at he
    subst he
    simpa using hK a w L e (Nx.refl hs.hr) hs
  | q :: l, j, L, e, s, a, w, hl, hs, he, hK => by
    simp only [execOps] at he
    cases hst : stepOp Φ Pr Tk q s with
    | none => simp [hst] at he
    | some st =>
      obtain ⟨s1, t⟩ := st
      simp only [hst] at he
      obtain ⟨o, ho, hq⟩ := hl 0 q rfl
      rw [List.length_cons, show l.length + 1 + r = (l.length + r) + 1 by omega, List.range'_succ, wpOps_cons]
      refine step_wp hs hΦ hPr (by simpa using ho) hq (InsO.refl q) hst fun a1 w1 L1 e1 h1 hs1 => ?_
      refine ops_then hΦ hPr r l (j + 1) L1 e1 s1 a1 w1 (fun i q' hi => ?_) hs1 he (fun a' w' L' e' h2 hs2 => ?_)
      · obtain ⟨o', ho', hq'⟩ := hl (i + 1) q' (by simpa using hi)
        exact ⟨o', by rw [show j + 1 + i = j + (i + 1) by omega]; exact ho', hq'⟩
      · have := hK a' w' L' e' (h1.trans h2) hs2
        rwa [List.length_cons, show j + (l.length + 1) = j + 1 + l.length by omega] at this
theorem prefix_wp {G : List Nat} {nt b : Nat} {s s' : St} {a : Act} {T E : TypeId} {K : Nat} {bs : List Value} (hΦ : ∀ f ps rs, Φ f ps = some rs → FnR P N f ps rs) (hPr : PrimOk P N Pr) {ops : Array Oper} {Q : Exit → Act → World → Prop} (r j : Nat) (l : List AOper)
    (hl : ∀ (i : Nat) (q : AOper), l[i]? = some q → ∃ o, ops[j + i]? = some o ∧ trOper P N M nt pb ops o = some q) (he : execOps Φ Pr Tk l s = some s') (h0 : s.h.ar[0]? = some tomb) (h1 : s'.h.ar[0]? = some tomb)
    (hs : FSp N W G nt L0 e0 w0 b s a w) (hb : BS T E K G b bs w) (hK : ∀ a' w', FSp N W G nt L0 e0 w0 b s' a' w' → BS T E K G b bs w' → wpOps P ops Q (List.range' (j + l.length) r) a' w') : wpOps P ops Q (List.range' j (l.length + r)) a w := by
  obtain ⟨L, e, hsr, hf, hs1, hs2, hx, hp, hG⟩ := hs
  refine ops_then hΦ hPr r l j L e s a w hl hsr he fun a' w' L' e' hn hsr' => ?_
  obtain ⟨k1, k2⟩ := FSp.next hsr hf hs1 hs2 hx hp hG hb h0 h1 hsr' hn.fr hn.ext.sub hn.new hn.ext.x
  exact hK a' w' k1 k2
theorem FSp.ptr {G : List Nat} {nt b t : Nat} {s : St} {a : Act} (hs : FSp N W G nt L0 e0 w0 b s a w) (h0 : s.h.ar[0]? = some tomb) (ht : get s.env t = .aptr 0 0 0 0) : a.tmps.getD t undef = .pointer (some ⟨b, 0, none⟩) := by
  obtain ⟨L, e, hsr, _, _, _, _, hp, _⟩ := hs
  have hv := hsr.env t
  rw [ht] at hv
  generalize a.tmps.getD t undef = vv at hv ⊢
  cases hv with
  | aptr _ _ _ _ ad h1 h2 h3 =>
    have := h3 (hsr.hr.ver 0 _ h0).1.symm
    rw [hp.2.1, hp.2.2] at this
    rw [this]
    simp
theorem FSp.str {G : List Nat} {nt b t : Nat} {s : St} {a : Act} {x : ByteArray} (hs : FSp N W G nt L0 e0 w0 b s a w) (ht : get s.env t = .pv (.str x)) : a.tmps.getD t undef = .string x := by
  obtain ⟨L, e, hsr, _⟩ := hs
  have hv := hsr.env t
  rw [ht] at hv
  generalize a.tmps.getD t undef = vv at hv ⊢
  cases hv with
  | pv _ _ hp =>
    cases hp
    rfl
theorem FSp.built {G G' : List Nat} {nt b : Nat} {s : St} {a : Act} {d : Nat} {v' : Value} {x : V} (hs : FSp N W G nt L0 e0 w0 b s a w) (hd : d < nt) (hk : ∀ k, k < w.heap.size → k ∉ G → w'.heap[k]? = w.heap[k]?) (hz : w.heap.size ≤ w'.heap.size) (ho : w'.os = w.os) (htp : w'.tape = w.tape) (hu : w'.output = w.output) (hdr : w.drawn ≤ w'.drawn)
    (hn : ∀ g ∈ G', g ∈ G ∨ w.heap.size ≤ g) (hsub : ∀ g ∈ G, g ∈ G') (hlt : ∀ g ∈ G', g < w'.heap.size) (hv : ∀ L e, VR N L e w' x v') : FSp N W G' nt L0 e0 w0 b ⟨put s.env (some d) x, s.h⟩ (a.put (some d) v') w' := by
  obtain ⟨L, e, hsr, hf, hs1, hs2, hx, hp, hG⟩ := hs
  obtain ⟨h1, h2⟩ := HR.foreign hsr.hr (fun g hg => (hG g hg).1) hk hz hn hsub hlt
  have hsr1 : SR N (Wx W G') L e nt s a w' := ⟨h1, fun t => (hsr.env t).mono h2, hsr.size, hsr.defers⟩
  have hsr2 := hsr1.put (L' := L) (e' := e) (w' := w') (h' := s.h) (Ext.refl _ _ _) h1 (d := some d) (by simpa using hd) (hv L e)
  have hfw : Fr W w0 w' := ⟨ho.trans hf.os, htp.trans hf.tape, hu.trans hf.output, Nat.le_trans hf.size hz, fun k hk1 hw => by
    rw [hk k (Nat.lt_of_lt_of_le hk1 hf.size) fun hg => by have := (hG k hg).2.1; omega]
    exact hf.kept k hk1 hw, Nat.le_trans hf.drawn hdr⟩
  refine ⟨L, e, hsr2, hfw, hs1, hs2, hx.trans h2.x, hp, fun g hg => ⟨fun t ht => ?_, ?_, hlt g hg⟩⟩
  · rcases hn g hg with hg' | hg'
    · exact (hG g hg').1 t ht
    · have := hsr.hr.lsz t g ht
      omega
  · rcases hn g hg with hg' | hg'
    · exact (hG g hg').2.1
    · have := hf.size
      omega
end Go.Pv

/-
  The builder's calls, in the walk.
-/
namespace Go.Pv
open Go.Shelf Go.RowKit Go.Proofs
variable {P : Program} {N M : Nat → Nat} {W : Nat → Prop} {L L' L0 : Lx} {e e' e0 : Emb} {h : Heap} {w w' w0 : World} {ρ : Ren}

theorem write_wp (LL : Lays.n166 P ρ) (X : Builder.Extra P ρ) (hent : ∀ args w, (callFunc (ρ.f 166) args).run P w = .ok (.enter (ρ.f 166) args) w) {G : List Nat} {nt b i d : Nat} {s : St} {a : Act} {bs : List Value} {str : ByteArray} {ops : Array Oper} {o : Oper} {x : Operand} {ats : Array TypeId} {Q : Exit → Act → World → Prop} {KK : Act → World → Prop}
    (hi : ops[i]? = some o) (hg : o.guard = none) (hop : o.op = .call { callee := .value (.func (ρ.f 166)), args := #[.tmp 3, x], argTypes := ats }) (hd : o.dst = some d) (hdn : d < nt)
    (hs : FSp N W G nt L0 e0 w0 b s a w) (hb : BS (ρ.t 72) (ρ.t 5) w0.heap.size G b bs w) (h0 : s.h.ar[0]? = some tomb) (h3 : get s.env 3 = .aptr 0 0 0 0) (hx : a.eval x = .string str) (hlen : bs.length + str.size ≤ 140737488355328)
    (hK : ∀ a' w' G', FSp N W G' nt L0 e0 w0 b ⟨put s.env (some d) .any, s.h⟩ a' w' → BS (ρ.t 72) (ρ.t 5) w0.heap.size G' b (bs ++ Lib.strCells str) w' → KK a' w') : wpOp P ops Q i KK a w := by
  have hp := hs.ptr h0 h3
  have hsz : w0.heap.size ≤ w.heap.size := by obtain ⟨_, _, _, hf, _⟩ := hs; exact hf.size
  have hGl : ∀ g ∈ G, g < w.heap.size := by obtain ⟨_, _, _, _, _, _, _, _, hG⟩ := hs; exact fun g hg => (hG g hg).2.2
  obtain ⟨hbG, p, v, b1, b2, b3, b4, b5⟩ := hb
  unfold wpOp
  simp only [hi]
  rw [if_pos (by simp [Region.wanted, hg])]
  refine .inl ?_
  unfold Oper.wp
  have hrun : (execOp a.eval o).run P w = (callFunc (ρ.f 166) #[.pointer (some ⟨b, 0, none⟩), .string str]).run P w := by
    have e3 : a.eval (.tmp 3) = .pointer (some ⟨b, 0, none⟩) := hp
    have ef : a.eval (.func (ρ.f 166)) = .func (.func (ρ.f 166)) #[] #[] := rfl
    simp [execOp, hop, resolve, Deferred.ofValue, ef, e3, hx, invoke]
  rw [hrun, hent, Oper.upon_enter]
  refine Calls.mono (bld_write LL X b1 b2 b3 b4 hlen hsz) fun en w' hh => ?_
  obtain ⟨rfl, ⟨v', ⟨c1, c2, c3⟩, c4⟩, kp⟩ := hh
  rw [hd]
  have hkk : ∀ k, k < w.heap.size → k ∉ G → w'.heap[k]? = w.heap[k]? := fun k hk hkG => kp.block k hk (fun e => hkG (e ▸ hbG)) fun e => hkG (b5 k e.symm)
  have hGl' : ∀ g, v'.ownBlock = some g → g < w'.heap.size := fun g hg => by
    rcases c2.2 with ⟨rfl, _⟩ | ⟨g', cap, cur, rfl, _, hgg, _⟩
    · cases hg
    · cases hg
      exact (Array.getElem?_eq_some_iff.1 hgg).1
  cases hv' : v'.ownBlock with
  | none =>
    refine hK _ _ G (hs.built hdn hkk kp.size kp.os kp.tape kp.output kp.drawn (fun g hg => .inl hg) (fun g hg => hg) (fun g hg => Nat.lt_of_lt_of_le (hGl g hg) kp.size) (fun _ _ => .any _)) ⟨hbG, _, _, c1, .inr rfl, c2, c3, fun g hg => by rw [hv'] at hg; cases hg⟩
  | some g0 =>
    refine hK _ _ (g0 :: G) (hs.built hdn hkk kp.size kp.os kp.tape kp.output kp.drawn (fun g hg => ?_) (fun g hg => List.mem_cons_of_mem _ hg) (fun g hg => ?_) (fun _ _ => .any _)) ⟨List.mem_cons_of_mem _ hbG, _, _, c1, .inr rfl, c2, c3, fun g hg => by rw [hv'] at hg; cases hg; exact List.mem_cons_self ..⟩
    · rcases List.mem_cons.1 hg with rfl | hg
      · rcases c4 g hv' with h | h
        · exact .inl (b5 g h)
        · exact .inr h
      · exact .inl hg
    · rcases List.mem_cons.1 hg with rfl | hg
      · exact hGl' g hv'
      · exact Nat.lt_of_lt_of_le (hGl g hg) kp.size
theorem string_wp (LL : Lays.n169 P ρ) (X : Builder.Extra P ρ) (hent : ∀ args w, (callFunc (ρ.f 169) args).run P w = .ok (.enter (ρ.f 169) args) w) {G : List Nat} {nt b i d : Nat} {s : St} {a : Act} {l : List UInt8} {ops : Array Oper} {o : Oper} {ats : Array TypeId} {Q : Exit → Act → World → Prop} {KK : Act → World → Prop}
    (hi : ops[i]? = some o) (hg : o.guard = none) (hop : o.op = .call { callee := .value (.func (ρ.f 169)), args := #[.tmp 3], argTypes := ats }) (hd : o.dst = some d) (hdn : d < nt)
    (hs : FSp N W G nt L0 e0 w0 b s a w) (hb : BS (ρ.t 72) (ρ.t 5) w0.heap.size G b (Lib.byteCells l) w) (hl0 : l ≠ []) (h0 : s.h.ar[0]? = some tomb) (h3 : get s.env 3 = .aptr 0 0 0 0)
    (hK : ∀ a' w', FSp N W G nt L0 e0 w0 b ⟨put s.env (some d) (.pv (.str ⟨l.toArray⟩)), s.h⟩ a' w' → KK a' w') : wpOp P ops Q i KK a w := by
  have hp := hs.ptr h0 h3
  have hGl : ∀ g ∈ G, g < w.heap.size := by obtain ⟨_, _, _, _, _, _, _, _, hG⟩ := hs; exact fun g hg => (hG g hg).2.2
  obtain ⟨hbG, p, v, b1, b2, b3, b4, b5⟩ := hb
  unfold wpOp
  simp only [hi]
  rw [if_pos (by simp [Region.wanted, hg])]
  refine .inl ?_
  unfold Oper.wp
  have hrun : (execOp a.eval o).run P w = (callFunc (ρ.f 169) #[.pointer (some ⟨b, 0, none⟩)]).run P w := by
    have e3 : a.eval (.tmp 3) = .pointer (some ⟨b, 0, none⟩) := hp
    have ef : a.eval (.func (ρ.f 169)) = .func (.func (ρ.f 169)) #[] #[] := rfl
    simp [execOp, hop, resolve, Deferred.ofValue, ef, e3, invoke]
  rw [hrun, hent, Oper.upon_enter]
  refine Calls.mono (bld_string LL X b1 b3 hl0) fun en w' hh => ?_
  obtain ⟨rfl, kp⟩ := hh
  rw [hd]
  have hkk : ∀ k, k < w.heap.size → k ∉ G → w'.heap[k]? = w.heap[k]? := fun k hk hkG => kp.block k hk (fun e => hkG (e ▸ hbG)) fun e => hkG (b5 k e.symm)
  exact hK _ _ (hs.built hdn hkk kp.size kp.os kp.tape kp.output kp.drawn (fun g hg => .inl hg) (fun g hg => hg) (fun g hg => Nat.lt_of_lt_of_le (hGl g hg) kp.size) (fun _ _ => .pv _ _ (.str _)))
theorem new_wp {nt i d : Nat} {s : St} {a : Act} {T E : TypeId} {ops : Array Oper} {o : Oper} {Q : Exit → Act → World → Prop} {KK : Act → World → Prop}
    (hi : ops[i]? = some o) (hg : o.guard = none) (hrun : ∀ w, (execOp a.eval o).run P w = .ok (.value (.pointer (some ⟨w.heap.size, 0, none⟩))) (w.alloc (.cells #[.pointer none, .slice none 0 0] T))) (hd : o.dst = some d) (hdn : d < nt)
    (hs : FrS N W nt L0 e0 w0 s a w) (har : s.h.ar = [])
    (hK : ∀ a' w' b, FSp N W [b] nt L0 e0 w0 b ⟨put s.env (some d) (.aptr 0 0 0 0), { s.h with ar := [tomb] }⟩ a' w' → BS T E w0.heap.size [b] b [] w' → KK a' w') : wpOp P ops Q i KK a w := by
  unfold wpOp
  simp only [hi]
  rw [if_pos (by simp [Region.wanted, hg])]
  refine .inl ?_
  unfold Oper.wp
  rw [hrun w, Oper.upon_value, hd]
  obtain ⟨L, e, hsr, hf, h1, h2, hx⟩ := hs
  have hna : e.na = 0 := by rw [hsr.hr.na, har]; rfl
  have hsz : (w.alloc (.cells #[.pointer none, .slice none 0 0] T)).heap.size = w.heap.size + 1 := by simp
  have hold : ∀ k, k < w.heap.size → (w.alloc (.cells #[.pointer none, .slice none 0 0] T)).heap[k]? = w.heap[k]? := fun k hk => Lib.alloc_old w _ k hk
  have hnew : (w.alloc (.cells #[.pointer none, .slice none 0 0] T)).heap[w.heap.size]? = some (.cells #[.pointer none, .slice none 0 0] T (0, 0)) := heap_alloc_new w _
  have hr0 : HR N L e (Wx W []) s.h w := by
    have hr := hsr.hr
    exact { hr with wbx := fun s hs => ⟨⟨(hr.wbx s hs).1, by simp⟩, (hr.wbx s hs).2⟩, war := fun id hi hk => ⟨⟨(hr.war id hi hk).1, by simp⟩, (hr.war id hi hk).2⟩, wmp := fun id hi => ⟨⟨(hr.wmp id hi).1, by simp⟩, (hr.wmp id hi).2⟩, wide := fun b hb => ⟨hr.wide b hb, by simp⟩ }
  obtain ⟨g1, g2⟩ := hr0.foreign (G' := [w.heap.size]) (w' := w.alloc (.cells #[.pointer none, .slice none 0 0] T)) (fun g hg => by simp at hg) (fun k hk _ => hold k hk) (by omega) (fun g hg => .inr (Nat.le_of_eq (List.mem_singleton.1 hg).symm)) (fun g hg => by simp at hg) (fun g hg => by rw [List.mem_singleton.1 hg]; omega)
  have ho1 : (w.alloc (.cells #[.pointer none, .slice none 0 0] T)).os = w.os := rfl
  have ho2 : (w.alloc (.cells #[.pointer none, .slice none 0 0] T)).tape = w.tape := rfl
  have ho3 : (w.alloc (.cells #[.pointer none, .slice none 0 0] T)).output = w.output := rfl
  have ho4 : (w.alloc (.cells #[.pointer none, .slice none 0 0] T)).drawn = w.drawn := rfl
  generalize w.alloc (.cells #[.pointer none, .slice none 0 0] T) = w1 at *
  have hx1 : Ext L e w1 L { e with ar := fun _ => w.heap.size, ad := fun _ => 0 } w1 := { Ext.refl L e w1 with av := fun id hid => by rw [hna] at hid; omega }
  have hr1 : HR N L { e with ar := fun _ => w.heap.size, ad := fun _ => 0 } (Wx W [w.heap.size]) s.h w1 := by
    refine { g1 with bx := fun s cs hc => ⟨(g1.bx s cs hc).1, fun j c hj => ?_⟩, ar := fun id a ha => ?_, war := fun id hi => ?_, dba := fun s id _ hi => ?_, daa := fun i j hi => ?_ }
    · obtain ⟨k1, v, k2, k3⟩ := (g1.bx s cs hc).2 j c hj
      exact ⟨k1, v, k2, k3.mono hx1⟩
    · rw [har] at ha
      simp at ha
    · have hi : id < e.na := hi
      omega
    · have hi : id < e.na := hi
      omega
    · have hi : i < e.na := hi
      omega
  have nr := Nx.room hr1 1
  have hh : s.h.room 1 = { s.h with ar := [tomb] } := by
    unfold Heap.room
    rw [har]
    rfl
  rw [hh] at nr
  have hpin : 0 < (({ e with ar := fun _ => w.heap.size, ad := fun _ => 0 } : Emb).room 1).na := by
    show 0 < e.na + 1
    omega
  have hav : (({ e with ar := fun _ => w.heap.size, ad := fun _ => 0 } : Emb).room 1).av 0 = 0 := (nr.hr.ver 0 tomb rfl).1
  have hextA : Ext L e w L (({ e with ar := fun _ => w.heap.size, ad := fun _ => 0 } : Emb).room 1) w1 := (g2.trans hx1).trans nr.ext
  have hsr1 : SR N (Wx W [w.heap.size]) L (({ e with ar := fun _ => w.heap.size, ad := fun _ => 0 } : Emb).room 1) nt ⟨s.env, { s.h with ar := [tomb] }⟩ a w1 := ⟨nr.hr, fun t => (hsr.env t).mono hextA, hsr.size, hsr.defers⟩
  have hsr2 := hsr1.put (L' := L) (w' := w1) (h' := { s.h with ar := [tomb] }) (Ext.refl _ _ _) nr.hr (d := some d) (by simpa using hdn) (v := .aptr 0 0 0 0) (v' := .pointer (some ⟨w.heap.size, 0, none⟩)) (.aptr 0 0 0 0 _ hpin (by omega) fun _ => by simp [Emb.room])
  have hw0 := hf.size
  refine hK _ _ w.heap.size ⟨L, _, hsr2, ?_, h1, h2, hx.trans hextA.x, ⟨hpin, rfl, rfl⟩, fun g hg => ?_⟩ ⟨by simp, _, _, hnew, .inl rfl, World.ownsRow_nil _ _ _ _, by simp [Value.ownBlock], fun g hg => by simp [Value.ownBlock] at hg⟩
  · exact ⟨ho1.trans hf.os, ho2.trans hf.tape, ho3.trans hf.output, by omega, fun k hk hw => (hold k (Nat.lt_of_lt_of_le hk hw0)).trans (hf.kept k hk hw), by rw [ho4]; exact hf.drawn⟩
  · rw [List.mem_singleton.1 hg]
    exact ⟨fun t ht => by have := hsr.hr.lsz t _ ht; omega, hw0, by omega⟩
end Go.Pv

/-
  A function that writes the texts of small numbers to a builder: the whole walk, over the pieces of its code.
-/
namespace Go.Pv
open Go.Shelf Go.RowKit Go.Proofs
variable {P : Program} {N M : Nat → Nat} {W : Nat → Prop} {L L' L0 : Lx} {e e' e0 : Emb} {h : Heap} {w w' w0 : World} {ρ : Ren} {A : Nat → Option AFunc} {Pr : Prims}

theorem fnr_of_wp {f : Nat} {go : Func} {code : Code} {fn : AFunc} {ps rs : List PV} {s' : St} (f1 : P.funcs[N f]? = some go) (f2 : go.body = some code) (f3 : (go.name == "runtime.NumGoroutine") = false) (f4 : ps.length ≤ go.ntmps) (f6 : mapO (trRes P) go.results.toList = some fn.results)
    (hw : ∀ (T : Option Nat) (L : Lx) (e : Emb) (w : World) (a : Act), FrS N (Wc w T) go.ntmps L e w ⟨entry 0 ps, entryHeap ps⟩ a w → code.wp P (QQ N (Wc w T) go.ntmps L e w .ret s') a w) (hl : leave fn s' = some rs) : FnR P N f ps rs := by
  intro L w T args hlsz har
  refine .inr ⟨by simp only [beq_eq_false_iff_ne, ne_eq] at f3; simp [callFunc, f1, f2, f3], ?_⟩
  refine calls_of_wp f1 f2 ?_
  obtain ⟨e, e1, e2⟩ := entry_rel hlsz har
  have hlen : args.size = ps.length := by
    have : args.toList.length = ps.length := by
      generalize args.toList = al at har
      cases har with
      | plain _ _ hl _ => exact hl
      | take _ _ _ _ _ _ _ hl _ => simp [hl]
    simpa using this
  have hst : FrS N (Wc w T) go.ntmps L e w ⟨entry 0 ps, entryHeap ps⟩ { tmps := args ++ Array.replicate (go.ntmps - args.size) undef, defers := [] } w := by
    refine ⟨L, e, ⟨e1, fun t => ?_, ?_, rfl⟩, Fr.refl _ _, fun _ _ hb => hb, fun _ _ hb => .inl hb, (Ext.refl _ _ _).x⟩
    · rw [get_entry]
      simp only [Nat.zero_le, if_true, Nat.sub_zero]
      cases hp : ps[t]? with
      | none => exact .any _
      | some p =>
        obtain ⟨v, h1, h2⟩ := e2 t p hp
        have hlt : t < args.size := by rw [hlen]; exact (List.getElem?_eq_some_iff.1 hp).1
        have : (args ++ Array.replicate (go.ntmps - args.size) undef).getD t undef = v := by
          apply arr_getD_toList
          rw [Array.toList_append, List.getElem?_append_left (by simpa using hlt)]
          exact h1
        show VR N L e w (V.ofArg p) _
        rw [this]
        exact h2
    · simp
      omega
  refine wp_mono (hw T L e w _ hst) fun xx a1 w1 hq => ?_
  obtain ⟨rfl, hs1⟩ := hq
  obtain ⟨v, r1, r2⟩ := leave_sound hs1 f6 hl
  exact ⟨hs1.choose_spec.choose_spec.1.defers, v, r1, r2⟩

def FB (N : Nat → Nat) (W : Nat → Prop) (T E : TypeId) (nt : Nat) (L0 : Lx) (e0 : Emb) (w0 : World) (b : Nat) (s : St) (bs : List Value) (a : Act) (w : World) : Prop :=
  ∃ G, FSp N W G nt L0 e0 w0 b s a w ∧ BS T E w0.heap.size G b bs w
def Piece (P : Program) (N M : Nat → Nat) (nt : Nat) (code : Code) (ac : AC) : Prop := ∃ an an', trCode P N M nt code an = some (ac, an')
theorem piece_wp (hc : ∀ n, CodeOk P N M A Pr n) {T E : TypeId} {nt b : Nat} {code : Code} {ac : AC} {s s' : St} {ex : Ex} {bs : List Value} {a : Act} {Q : Exit → Act → World → Prop} (hp : Piece P N M nt code ac) (he : Runs A Pr ac s ex s') (h0 : s.h.ar[0]? = some tomb) (h1 : s'.h.ar[0]? = some tomb)
    (hs : FB N W T E nt L0 e0 w0 b s bs a w) (hK : ∀ a' w', FB N W T E nt L0 e0 w0 b s' bs a' w' → Q (exitOf ex) a' w') : code.wp P Q a w := by
  obtain ⟨an, an', htr⟩ := hp
  obtain ⟨n, he⟩ := he
  obtain ⟨G, h2, h3⟩ := hs
  refine wp_mono (frag_wp (hc n) htr he h0 h1 h2 h3) fun x a' w' hq => ?_
  obtain ⟨rfl, k1, k2⟩ := hq
  exact hK a' w' ⟨G, k1, k2⟩

end Go.Pv

