/-
  What the functions of the law give.
-/
import Derived.Test.YtdeoikfaclbniaaC3
namespace Go.Pv
set_option maxHeartbeats 4000000 in
theorem r277 (t u : Nat) (l m : List Typ) (hl : l.length ≤ 2 ^ 63 - 1) (_hm : m.length ≤ 2 ^ 63 - 1) (vl : ∀ r ∈ l,r.ok) (vm : ∀ r ∈ m,r.ok) : res A PrA 277 [.agg [.lst t (l.map Typ.c)],.agg [.lst u (m.map Typ.c)]] = some [.bool (eqv l m)] := by
  refine res_of a277 rfl rfl ?_
  simp only [F277]
  simp (disch := omega) only [go_sem]
  refine Br.ofP (fun h => ?_) (fun h => ?_) <;> simp (disch := omega) only [go_sem]
  · refine W.find (l.zip m) (fun q => !eqv q.1 q.2) (fun k => ⟨[(2,.ptr 2 0),(3,.ptr 3 0),(5,.pv (.int .i64 k))],⟨[(2,[.pv (.lst t (l.map Typ.c))]),(3,[.pv (.lst u (m.map Typ.c))])],[],[]⟩⟩) rfl (fun k q hq hk hfd => ?_) (fun hn => ?_)
    · obtain ⟨h1,h2⟩ := zip_get hq
      rw [zip_len (by omega)] at hk
      have hc := r295 q.1 q.2 (vl q.1 (List.mem_of_getElem? h1)) (vm q.2 (List.mem_of_getElem? h2))
      unfold Typ.c at hc
      simp (disch := omega) only [go_sem]
      refine Br.ofP (fun c => ?_) (fun c => (c (by omega)).elim)
      simp (disch := omega) only [go_sem,h1,h2,Typ.c,hc]
      refine Br.of (fun g => ?_) (fun g => ?_) <;> simp (disch := omega) only [go_sem]
      · exact findK.of (by rw [g]; rfl) rfl
      · rw [(hfd (by rw [g]; rfl)).ne]
    · have hz : (l.zip m).length = l.length := zip_len (by omega)
      rw [hz]
      simp (disch := omega) only [go_sem]
      rw [hn.eq (by omega),eqv_same]
  · rw [eqv_ne (fun e => h (by rw [e]))]
end Go.Pv
namespace Go.Pv
theorem idxI_small {L : List Int} (h : L.length ≤ 32) (j : Int) : I64 (idxI L j) := by
  have := firstI_ge (fun y => decide (y = j)) L
  unfold idxI I64
  omega
theorem remapT_ok {L : List Int} (h : L.length ≤ 32) {t : Typ} (ht : t.ok) : (remapT L t).ok := by
  obtain ⟨⟨h1,h2,h3,h4,h5,h6,h7⟩,⟨h8,h9⟩,h10,h11⟩ := ht
  refine ⟨⟨h1,h2,h3,h4,h5,?_,?_⟩,⟨h8,?_⟩,h10,?_⟩
  · show I64 (if t.kind = 8 then idxI L t.key else t.key)
    split
    · exact idxI_small h _
    · exact h6
  · show I64 (if 7 ≤ t.kind then idxI L t.elem else t.elem)
    split
    · exact idxI_small h _
    · exact h7
  · show lenOk (t.mems.map (remapM L))
    unfold lenOk at *
    rw [List.length_map]
    exact h9
  · intro m hm
    obtain ⟨q,hq,rfl⟩ := List.mem_map.1 hm
    obtain ⟨g1,g2,g3,g4⟩ := h11 q hq
    exact ⟨g1,g2,idxI_small h _,g4⟩
theorem pruned_ok {l : List Typ} {i : Int} (ho : ∀ t ∈ l,t.ok) : (prunedL l i).length ≤ l.length ∧ ∀ t ∈ prunedL l i,t.ok := by
  have hlen := reachR_len (l := l) (i := i)
  refine ⟨by unfold prunedL; rw [List.length_map]; exact hlen,fun t ht => ?_⟩
  by_cases hz : (reachR l i).2 = 0
  · obtain ⟨h1,h2,h3⟩ := reachR_ok hz
    obtain ⟨u,hu,rfl⟩ := List.mem_map.1 ht
    obtain ⟨u0,u1⟩ := h3 u hu
    exact remapT_ok (Nat.le_trans hlen h1.len) (ho _ (List.mem_of_getElem? (typAt_get u0 u1)))
  · unfold prunedL at ht
    rw [reachR_no hz] at ht
    simp at ht
theorem placeL_len (l : List Typ) (i : Int) : (placeL l i).length ≤ l.length := by
  unfold placeL
  split
  · exact Nat.zero_le _
  · rw [plK_len]
    exact Nat.le_refl _
set_option maxHeartbeats 1000000 in
theorem r262 (r265 : res A PrA 265 [] = some [.bool true]) (l : List Typ) (i : Int) (hl : l.length ≤ 8000000000000) (ho : ∀ t ∈ l,t.ok) (hs : ∀ t ∈ l,t.held) (hf : ∀ t ∈ l,∀ m ∈ t.mems,∀ n,VFit n m.dflt.c) : res A PrA 262 [.agg [.lst 0 (l.map Typ.c)],.int .i64 i] = some [.bool true] := by
  refine res_of a262 rfl rfl ?_
  simp only [F262]
  have h266 := fun u => r266 u l ho
  obtain ⟨p1,p2⟩ := pruned_ok (i := i) ho
  have p3 := placeL_len l i
  have h94 := fun t u => s94 t u (placeL l i) (placeL l i) (by omega) (by omega)
  have h277 := fun t u => r277 t u (prunedL l i) (prunedL l i) (by omega) (by omega) p2 p2
  rw [eqv_same] at h94 h277
  simp (disch := omega) only [go_sem,r265,h266]
  cases h40 : few l with
  | false => simp (disch := omega) only [go_sem,r265]
  | true =>
    have h40 := few_len h40
    have e1 := fun t => r275 t l i (by omega) ho hs hf
    have e2 := fun t => r276 t l i (by omega) ho hs
    simp (disch := omega) only [go_sem,e1,e2,h94,h277]
end Go.Pv
namespace Go.Pv
variable {P : Program}
def typesB (P : Program) (M n : Nat) : List TypeId → List PV → Prop
  | [],cs => cs = []
  | t :: ts,cs => ∃ r q,cs = r ++ q ∧ typedB P M n t r ∧ typesB P M n ts q
theorem structB {M n : Nat} {t : TypeId} {fs : Array Field} {ts : List TypeId} {cs : List PV} (hu : P.underlying t = some (.struct fs)) (hts : fs.toList.map (·.type) = ts) (h : typedB P M (n + 1) t cs) : typesB P M n ts cs := by
  simp only [typedB,hu] at h
  obtain ⟨parts,h1,rfl,h3⟩ := h
  subst hts
  have key : ∀ (l : List Field) (parts : List (List PV)),parts.length = l.length → (∀ (i : Nat) (f : Field) (r : List PV),l[i]? = some f → parts[i]? = some r → typedB P M n f.type r) → typesB P M n (l.map (·.type)) parts.flatten := by
    intro l
    induction l with
    | nil => intro parts hl _; simp [List.eq_nil_of_length_eq_zero hl,typesB]
    | cons f l ih =>
      intro parts hl hp
      match parts,hl with
      | r :: parts,hl => exact ⟨r,parts.flatten,rfl,hp 0 f r rfl rfl,ih parts (by simpa using hl) (fun i g q hg hq => hp (i + 1) g q (by simpa using hg) (by simpa using hq))⟩
  exact key fs.toList parts (by simpa using h1) (fun i f r hf hr => h3 i f r (by simpa using hf) hr)
theorem sliceB {M n : Nat} {t el : TypeId} {cs : List PV} (hu : P.underlying t = some (.slice el)) (h : typedB P M n t cs) : ∃ rows,cs = [.lst 0 rows] ∧ rows.length * P.bytesOf el ≤ M ∧ ∀ r ∈ rows,typedB P M (n - 1) el r := by
  cases n with
  | zero => exact h.elim
  | succ n =>
    simp only [typedB,hu] at h
    obtain ⟨rows,h1,h2,h3⟩ := h
    exact ⟨rows,h1,h2.2,h3⟩
theorem intB {M n : Nat} {t : TypeId} {k : IntKind} {cs : List PV} (hu : P.underlying t = some (.int k)) (h : typedB P M n t cs) : ∃ c,cs = [c] := by
  cases n with
  | zero => exact h.elim
  | succ n =>
    simp only [typedB,hu] at h
    obtain ⟨x,rfl,_⟩ := h
    exact ⟨_,rfl⟩
theorem strB {M n : Nat} {t : TypeId} {cs : List PV} (hu : P.underlying t = some .string) (h : typedB P M n t cs) : ∃ c,cs = [c] := by
  cases n with
  | zero => exact h.elim
  | succ n =>
    simp only [typedB,hu] at h
    obtain ⟨x,rfl,_⟩ := h
    exact ⟨_,rfl⟩
theorem boolB {M n : Nat} {t : TypeId} {cs : List PV} (hu : P.underlying t = some .bool) (h : typedB P M n t cs) : ∃ c,cs = [c] := by
  cases n with
  | zero => exact h.elim
  | succ n =>
    simp only [typedB,hu] at h
    obtain ⟨x,rfl⟩ := h
    exact ⟨_,rfl⟩
section
variable {sch typ sym mem val raw ls lsym lmem lval lraw tx ti t64 tb : TypeId}
theorem typ_held (T : SchT P sch typ sym mem val raw ls lsym lmem lval lraw tx ti t64 tb) (hy : 24 ≤ P.bytesOf sym) (hm : 24 ≤ P.bytesOf mem) {M n : Nat} (hM : M ≤ 140737488351232) {x : Typ} (h : typedB P M n typ x.c) : x.held := by
  cases n with
  | zero => exact h.elim
  | succ n =>
    obtain ⟨fs,hu,hts⟩ := T.t
    obtain ⟨r0,q0,e0,h0,r1,q1,rfl,h1,r2,q2,rfl,h2,r3,q3,rfl,h3,r4,q4,rfl,h4,r5,q5,rfl,h5,r6,q6,rfl,h6,_⟩ := structB hu hts h
    obtain ⟨x0,rfl⟩ := intB T.i h0
    obtain ⟨x1,rfl⟩ := strB T.x h1
    obtain ⟨x2,rfl⟩ := intB T.i64 h2
    obtain ⟨x3,rfl⟩ := intB T.i64 h3
    obtain ⟨x4,rfl⟩ := intB T.i h4
    obtain ⟨a,rfl,ha,_⟩ := sliceB T.ly h5
    obtain ⟨b,rfl,hb,_⟩ := sliceB T.lm h6
    simp only [Typ.c,List.cons_append,List.nil_append,List.cons.injEq,PV.lst.injEq] at e0
    have e1 := congrArg List.length e0.2.2.2.2.2.1.2
    have e2 := congrArg List.length e0.2.2.2.2.2.2.1.2
    rw [List.length_map] at e1 e2
    have a1 := Nat.mul_le_mul_left a.length hy
    have b1 := Nat.mul_le_mul_left b.length hm
    exact ⟨by omega,by omega⟩
theorem sch_held (T : SchT P sch typ sym mem val raw ls lsym lmem lval lraw tx ti t64 tb) (hy : 24 ≤ P.bytesOf sym) (hm : 24 ≤ P.bytesOf mem) {M n : Nat} (hM : M ≤ 140737488351232) {l : List Typ} (h : typedB P M n sch [.lst 0 (l.map Typ.c)]) : ∀ t ∈ l,t.held := by
  cases n with
  | zero => exact h.elim
  | succ n =>
    obtain ⟨fs,hu,hts⟩ := T.s
    obtain ⟨r0,q0,e0,h0,rfl⟩ := structB hu hts h
    obtain ⟨a,rfl,_,ha⟩ := sliceB T.l h0
    simp only [List.cons_append,List.nil_append,List.cons.injEq,PV.lst.injEq] at e0
    obtain ⟨⟨_,rfl⟩,_⟩ := e0
    exact fun t ht => typ_held T hy hm hM (ha _ (List.mem_map_of_mem ht))
theorem sch_len (T : SchT P sch typ sym mem val raw ls lsym lmem lval lraw tx ti t64 tb) (ht : 24 ≤ P.bytesOf typ) {M n : Nat} (hM : M ≤ 140737488351232) {l : List Typ} (h : typedB P M n sch [.lst 0 (l.map Typ.c)]) : l.length ≤ 8000000000000 := by
  cases n with
  | zero => exact h.elim
  | succ n =>
    obtain ⟨fs,hu,hts⟩ := T.s
    obtain ⟨r0,q0,e0,h0,rfl⟩ := structB hu hts h
    obtain ⟨a,rfl,ha,_⟩ := sliceB T.l h0
    simp only [List.cons_append,List.nil_append,List.cons.injEq,PV.lst.injEq] at e0
    have e1 := congrArg List.length e0.1.2
    rw [List.length_map] at e1
    have a1 := Nat.mul_le_mul_left a.length ht
    omega
theorem val_fits (T : SchT P sch typ sym mem val raw ls lsym lmem lval lraw tx ti t64 tb) (hv : 120 ≤ P.bytesOf val) (hr : 24 ≤ P.bytesOf raw) {M : Nat} (hM : M ≤ 140737488351232) : ∀ (n m : Nat) {cs : List PV},typedB P M m val cs → VFit n cs
  | 0,_,_,_ => trivial
  | _ + 1,0,_,h => h.elim
  | n + 1,m + 1,cs,h => fun v e => by
    subst e
    obtain ⟨fs,hu,hts⟩ := T.v
    obtain ⟨r0,q0,e0,h0,r1,q1,rfl,h1,r2,q2,rfl,h2,r3,q3,rfl,h3,r4,q4,rfl,h4,r5,q5,rfl,h5,r6,q6,rfl,h6,r7,q7,rfl,h7,rfl⟩ := structB hu hts h
    obtain ⟨x0,rfl⟩ := intB T.i h0
    obtain ⟨x1,rfl⟩ := boolB T.b h1
    obtain ⟨x2,rfl⟩ := intB T.i64 h2
    obtain ⟨x3,rfl⟩ := strB T.x h3
    obtain ⟨x4,rfl⟩ := intB T.i h4
    obtain ⟨a,rfl,ha,ka⟩ := sliceB T.lv h5
    obtain ⟨b,rfl,hb,kb⟩ := sliceB T.lv h6
    obtain ⟨c,rfl,hc,_⟩ := sliceB T.lr h7
    simp only [Val.c,List.cons_append,List.nil_append,List.append_nil,List.cons.injEq,PV.lst.injEq] at e0
    have ea := e0.2.2.2.2.2.1.2
    have eb := e0.2.2.2.2.2.2.1.2
    have ec := congrArg List.length e0.2.2.2.2.2.2.2.1.2
    rw [List.length_map] at ec
    rw [← ea] at ha ka
    rw [← eb] at hb kb
    have a1 := Nat.mul_le_mul_left v.keys.length hv
    have b1 := Nat.mul_le_mul_left v.items.length hv
    have c1 := Nat.mul_le_mul_left c.length hr
    exact ⟨⟨by omega,by omega,by omega⟩,fun r h => val_fits T hv hr hM n _ (ka r h),fun r h => val_fits T hv hr hM n _ (kb r h)⟩
theorem typ_fits (T : SchT P sch typ sym mem val raw ls lsym lmem lval lraw tx ti t64 tb) (hv : 120 ≤ P.bytesOf val) (hr : 24 ≤ P.bytesOf raw) {M n : Nat} (hM : M ≤ 140737488351232) {x : Typ} (h : typedB P M n typ x.c) : ∀ m ∈ x.mems,∀ k,VFit k m.dflt.c := by
  cases n with
  | zero => exact h.elim
  | succ n =>
    obtain ⟨fs,hu,hts⟩ := T.t
    obtain ⟨r0,q0,e0,h0,r1,q1,rfl,h1,r2,q2,rfl,h2,r3,q3,rfl,h3,r4,q4,rfl,h4,r5,q5,rfl,h5,r6,q6,rfl,h6,_⟩ := structB hu hts h
    obtain ⟨x0,rfl⟩ := intB T.i h0
    obtain ⟨x1,rfl⟩ := strB T.x h1
    obtain ⟨x2,rfl⟩ := intB T.i64 h2
    obtain ⟨x3,rfl⟩ := intB T.i64 h3
    obtain ⟨x4,rfl⟩ := intB T.i h4
    obtain ⟨a,rfl,_,_⟩ := sliceB T.ly h5
    obtain ⟨b,rfl,_,kb⟩ := sliceB T.lm h6
    simp only [Typ.c,List.cons_append,List.nil_append,List.cons.injEq,PV.lst.injEq] at e0
    have eb := e0.2.2.2.2.2.2.1.2
    rw [← eb] at kb
    intro m hm k
    have h := kb _ (List.mem_map_of_mem hm)
    cases hn : n + 1 - 1 - 1 with
    | zero =>
      rw [show n - 1 = 0 by omega] at h
      exact h.elim
    | succ j =>
      rw [show n - 1 = j + 1 by omega] at h
      obtain ⟨fs,hu,hts⟩ := T.m
      obtain ⟨s0,q0,e1,g0,s1,q1,rfl,g1,s2,q2,rfl,g2,s3,q3,rfl,g3,s4,q4,rfl,g4,s5,q5,rfl,g5,rfl⟩ := structB hu hts h
      obtain ⟨y0,rfl⟩ := intB T.i g0
      obtain ⟨y1,rfl⟩ := strB T.x g1
      obtain ⟨y2,rfl⟩ := intB T.i g2
      obtain ⟨y3,rfl⟩ := boolB T.b g3
      obtain ⟨y4,rfl⟩ := boolB T.b g4
      simp only [Mem.c,List.cons_append,List.nil_append,List.append_nil,List.cons.injEq] at e1
      have := e1.2.2.2.2.2
      rw [← this] at g5
      exact val_fits T hv hr hM k _ g5
theorem sch_fits (T : SchT P sch typ sym mem val raw ls lsym lmem lval lraw tx ti t64 tb) (hv : 120 ≤ P.bytesOf val) (hr : 24 ≤ P.bytesOf raw) {M n : Nat} (hM : M ≤ 140737488351232) {l : List Typ} (h : typedB P M n sch [.lst 0 (l.map Typ.c)]) : ∀ t ∈ l,∀ m ∈ t.mems,∀ k,VFit k m.dflt.c := by
  cases n with
  | zero => exact h.elim
  | succ n =>
    obtain ⟨fs,hu,hts⟩ := T.s
    obtain ⟨r0,q0,e0,h0,rfl⟩ := structB hu hts h
    obtain ⟨a,rfl,_,ha⟩ := sliceB T.l h0
    simp only [List.cons_append,List.nil_append,List.cons.injEq,PV.lst.injEq] at e0
    obtain ⟨⟨_,rfl⟩,_⟩ := e0
    exact fun t ht => typ_fits T hv hr hM (ha _ (List.mem_map_of_mem ht))
end
end Go.Pv
namespace Go.Pv
end Go.Pv
namespace Go.Pv
theorem r265 : res A PrA 265 [] = some [.bool true] := res_some.2 ⟨3000,by kernel_rfl⟩
end Go.Pv
