/-
  What the functions of the law give.
-/
import Derived.Test.YtdeoikfaclbniaaC2
namespace Go.Pv
def pickI (o : List Int) (n : Nat) : List Int := ((List.range n).filter fun (k : Nat) => decide ((k : Int) ∈ o)).map fun (k : Nat) => (k : Int)
theorem pickI_len (o : List Int) (n : Nat) : (pickI o n).length ≤ n := by
  unfold pickI
  rw [List.length_map]
  exact Nat.le_trans (List.length_filter_le _ _) (by simp)
theorem pickI_succ (o : List Int) (n : Nat) : pickI o (n + 1) = if (n : Int) ∈ o then pickI o n ++ [(n : Int)] else pickI o n := by
  unfold pickI
  rw [List.range_succ,List.filter_append,List.map_append]
  by_cases h : (n : Int) ∈ o
  · simp [h]
  · simp [h]
theorem pickI_mem {o : List Int} {n : Nat} {x : Int} : x ∈ pickI o n ↔ x ∈ o ∧ 0 ≤ x ∧ x < n := by
  unfold pickI
  simp only [List.mem_map,List.mem_filter,List.mem_range,decide_eq_true_eq]
  constructor
  · rintro ⟨k,⟨h1,h2⟩,rfl⟩
    exact ⟨h2,by omega,by omega⟩
  · rintro ⟨h1,h2,h3⟩
    exact ⟨x.toNat,⟨by omega,by rw [Int.toNat_of_nonneg h2]; exact h1⟩,by omega⟩
theorem pickI_asc (o : List Int) (n : Nat) : (pickI o n).Pairwise (· < ·) := by
  unfold pickI
  rw [List.pairwise_map]
  have : (List.range n).Pairwise (· < ·) := List.pairwise_lt_range
  exact (this.filter _).imp (fun h => by omega)
theorem isort_asc {o : List Int} (hd : o.Nodup) : (isort ltI o).Pairwise (· < ·) := by
  have h1 := isort_sorted o
  have h2 : (isort ltI o).Nodup := (isort_perm ltI o).nodup_iff.2 hd
  exact List.Pairwise.imp₂ (fun a b h h' => by omega) h1 h2
theorem pickI_all {l : List Typ} {o : List Int} (hd : o.Nodup) (hin : ∀ v ∈ o,inT l v) : pickI o l.length = isort ltI o := by
  refine asc_ext (pickI_asc o _) (isort_asc hd) fun x => ?_
  rw [pickI_mem,(isort_perm ltI o).mem_iff]
  exact ⟨fun h => h.1,fun h => ⟨h,hin x h⟩⟩
set_option maxHeartbeats 4000000 in
theorem r274 (v : Nat) (l : List Typ) (i : Int) (hl : l.length ≤ 2147483648) (ho : ∀ t ∈ l,t.ok) (hs : ∀ t ∈ l,t.held) : res A PrA 274 [.agg [.lst v (l.map Typ.c)],.int .i64 i] = some [.lst 0 (ints (reachR l i).1),.int .i64 (reachR l i).2] := by
  refine res_of a274 rfl rfl ?_
  simp only [F274]
  have h292 := fun v => r292 v l i hl ho hs
  unfold reachR
  simp (disch := omega) only [go_sem,h292]
  refine Br.ofP (fun c => ?_) (fun c => ?_) <;> simp (disch := omega) only [go_sem,c]
  rotate_left
  · simp [c,ints]
  obtain ⟨hv,hi0,hin⟩ := known_zero c
  have hs : ∀ t ∈ l,t.short := fun t ht => own_short ((valid_sane hv).own t ht)
  rw [if_neg (by simp [c])]
  have hsane := valid_sane hv
  have h32 := hsane.len
  refine W.loop (α := Nat × List Int) (fun x => ⟨[(2,.ptr 2 0),(7,glV 0 1 (ints x.2)),(8,.pv (.int .i64 x.1))],⟨[(2,[.pv (.lst v (l.map Typ.c))])],glA 1 1 (ints x.2),[]⟩⟩)
    (fun x => x.2.Nodup ∧ (∀ v ∈ x.2,inT l v) ∧ 1 ≤ x.2.length ∧ x.1 ≤ x.2.length ∧ bfs (nxT l) (l.length - x.1) x.1 x.2 = reachL l i) (fun x => l.length - x.1) (0,[i]) rfl ⟨by simp,fun w hw => (List.mem_singleton.1 hw) ▸ ⟨hi0,hin⟩,by simp,by simp,rfl⟩ fun x hx => ?_
  obtain ⟨j,o⟩ := x
  obtain ⟨hd,hin',h1,h2,hb⟩ := hx
  dsimp only at hd hin' h1 h2 hb
  have hlen := inT_bound o hd hin'
  simp (disch := omega) only [go_sem]
  refine Br.ofP (fun h => ?_) (fun h => ?_)
  · have hw := List.getElem?_eq_getElem (l := o) (i := j) (by omega)
    generalize o[j]'(by omega) = w at hw
    obtain ⟨hw0,hw1⟩ := hin' w (List.mem_of_getElem? hw)
    have hget := typAt_get hw0 hw1
    have hidx := idx_typ (v := v) hw0 hw1
    have h287 := r287 (typAt l w) (hs _ (List.mem_of_getElem? hget)) (own_kind (hsane.own _ (List.mem_of_getElem? hget)))
    have hul := uses_len (hs _ (List.mem_of_getElem? hget))
    have hnx : nxT l w = usesT (typAt l w) := rfl
    have huses := hsane.uses _ (List.mem_of_getElem? hget)
    generalize typAt l w = p at *
    unfold Typ.c at h287 hidx
    unfold Typ.c at *
    have inner : ∀ (k : Nat) (o : List Int),(o.Nodup ∧ (∀ v ∈ o,inT l v) ∧ 1 ≤ o.length ∧ j < o.length) → ∀ u ∈ usesT p,(addN o u).Nodup ∧ (∀ v ∈ addN o u,inT l v) ∧ 1 ≤ (addN o u).length ∧ j < (addN o u).length := by
      rintro k o ⟨g1,g2,g3,g4⟩ u hu
      obtain ⟨r,hr⟩ := addN_pre o u
      refine ⟨addN_nodup g1,fun x hx => (addN_mem.1 hx).elim (g2 x) (fun q => q ▸ huses u hu),by rw [← hr,List.length_append]; omega,by rw [← hr,List.length_append]; omega⟩
    have hgl := gl_cases (b := 1) (rows := ints o)
    have hVA : ∃ V0 A0,glV 0 1 (ints o) = V0 ∧ glA 1 1 (ints o) = A0 ∧ ((V0 = .tl (ints o) ∧ A0 = []) ∨ ∃ m,(ints o).length = 1 + m + 1 ∧ V0 = .own 0 m 0 (1 + m + 1) ∧ A0 = [⟨m,1,.inl (ints o)⟩]) := by
      rcases hgl with hc | ⟨m,hc⟩
      · exact ⟨_,_,glV_lit hc,glA_lit hc,.inl ⟨rfl,rfl⟩⟩
      · exact ⟨_,_,glV_own hc,glA_own hc,.inr ⟨m,hc,rfl,rfl⟩⟩
    obtain ⟨V0,A0,hV0,hA0,hcase⟩ := hVA
    rw [hV0,hA0]
    rcases hcase with ⟨e1,e2⟩ | ⟨m,hc,e1,e2⟩
    all_goals rw [e1] at hV0 ⊢
    all_goals rw [e2] at hA0 ⊢
    all_goals try rw [ints_length] at hc
    all_goals simp (disch := omega) only [go_sem,hw,hidx,h287]
    all_goals
      refine W.fold (usesT p) addN o (fun k o => ⟨[(2,.ptr 2 0),(7,glV 0 1 (ints o)),(8,.pv (.int .i64 j)),(9,.pv (.lst 0 (ints (usesT p)))),(10,.pv (.int .i64 k))],⟨[(2,[.pv (.lst v (l.map Typ.c))])],glA 1 1 (ints o),[]⟩⟩)
        (fun _ o => o.Nodup ∧ (∀ v ∈ o,inT l v) ∧ 1 ≤ o.length ∧ j < o.length) ?_ ⟨hd,hin',h1,by omega⟩ (fun k u o hu hk _ hI => ?_) (fun o hacc hI => ?_)
      · show _ = St.mk _ _
        rw [hV0,hA0]
        rfl
      · have hI2 := inner k o hI u (List.mem_of_getElem? hu)
        obtain ⟨g1,g2,g3,g4⟩ := hI
        have hlen := inT_bound o g1 g2
        have h293 := fun t => s293 t o u (by omega)
        simp (disch := omega) only [go_sem]
        refine Br.ofP (fun c => ?_) (fun c => (c (by omega)).elim)
        simp (disch := omega) only [go_sem,hu,h293]
        refine Br.ofP (fun c2 => ?_) (fun c2 => ?_) <;> simp (disch := omega) only [go_sem,c2]
        · refine foldK.of ?_ hI2
          show _ = St.mk _ _
          rw [addN,if_pos c2]
          rfl
        · rcases gl_cases (b := 1) (rows := ints o) with hc | ⟨m,hc⟩
          · rw [glV_lit hc,glA_lit hc]
            rw [ints_length] at hc
            simp (disch := omega) only [go_sem,hu]
            refine foldK.of ?_ hI2
            show _ = St.mk _ _
            rw [addN,if_neg c2,glV_intsS g3,glA_intsS g3,show o.length - 1 = 0 by omega]
            rfl
          · rw [glV_own hc,glA_own hc]
            rw [ints_length] at hc
            simp (disch := omega) only [go_sem,hu]
            refine foldK.of ?_ hI2
            show _ = St.mk _ _
            rw [addN,if_neg c2,glV_intsS g3,glA_intsS g3,show o.length - 1 = m + 1 by omega,hc]
            rfl
      · obtain ⟨g1,g2,g3,g4⟩ := hI
        simp (disch := omega) only [go_sem]
        refine ⟨(j + 1,o),⟨g1,g2,g3,g4,?_⟩,by dsimp only; omega,rfl⟩
        dsimp only
        rw [← hb,hacc]
        obtain ⟨q,hq⟩ : ∃ q,l.length - j = q + 1 := ⟨l.length - j - 1,by omega⟩
        rw [hq,bfs_step hw,hnx]
        congr 1
        omega
  · rw [bfs_end (by omega)] at hb
    rw [← hb]
    rcases gl_cases (b := 1) (rows := ints o) with hc | ⟨m,hc⟩
    · rw [glV_lit hc,glA_lit hc]
      rw [ints_length] at hc
      simp (disch := omega) only [go_sem]
      refine W.upto l.length (fun k => ⟨[(2,.ptr 2 0),(7,.tl (ints o)),(11,grV 0 (ints (pickI o k))),(12,.pv (.int .i64 k))],⟨[(2,[.pv (.lst v (l.map Typ.c))])],grA 1 (ints (pickI o k)),[]⟩⟩) (fun _ => True) rfl trivial (fun k hk _ => ?_)
      have hpl := pickI_len o k
      have hps := pickI_succ o k
      have h293 := fun t => s293 t o (k : Int) (by omega)
      simp (disch := omega) only [go_sem]
      refine Br.ofP (fun c => ?_) (fun c => ?_) <;> simp (disch := omega) only [go_sem,h293]
      · refine Br.ofP (fun c2 => ?_) (fun c2 => ?_) <;> simp (disch := omega) only [go_sem,c2]
        · refine .of (by omega) ?_ trivial
          rw [hps,if_pos c2]
          rfl
        · refine .of (by omega) ?_ trivial
          rw [hps,if_neg c2]
          rfl
      · obtain rfl : k = l.length := by omega
        rw [pickI_all hd hin']
    · rw [glV_own hc,glA_own hc]
      rw [ints_length] at hc
      simp (disch := omega) only [go_sem]
      refine W.upto l.length (fun k => ⟨[(2,.ptr 2 0),(7,.own 0 m 0 (1 + m + 1)),(11,grV 1 (ints (pickI o k))),(12,.pv (.int .i64 k))],⟨[(2,[.pv (.lst v (l.map Typ.c))])],⟨m,1,.inl (ints o)⟩ :: grA 1 (ints (pickI o k)),[]⟩⟩) (fun _ => True) rfl trivial (fun k hk _ => ?_)
      have hpl := pickI_len o k
      have hps := pickI_succ o k
      have h293 := fun t => s293 t o (k : Int) (by omega)
      have ht : o.take (1 + m + 1) = o := List.take_of_length_le (by omega)
      simp (disch := omega) only [go_sem]
      refine Br.ofP (fun c => ?_) (fun c => ?_) <;> simp (disch := omega) only [go_sem,h293,ht]
      · refine Br.ofP (fun c2 => ?_) (fun c2 => ?_) <;> simp (disch := omega) only [go_sem,c2]
        · refine .of (by omega) ?_ trivial
          rw [hps,if_pos c2]
          rfl
        · refine .of (by omega) ?_ trivial
          rw [hps,if_neg c2]
          rfl
      · obtain rfl : k = l.length := by omega
        rw [pickI_all hd hin']
theorem addL_len : ∀ (l o : List Int),(addL o l).length ≤ o.length + l.length
  | [],o => Nat.le_refl _
  | x :: l,o => by
    rw [addL_cons]
    have h1 := addL_len l (addN o x)
    have h2 := addN_len o x
    rw [List.length_cons]
    omega
theorem usesR_len {l : List Typ} {i : Int} : (usesR l i).1.length ≤ 1048578 := by
  unfold usesR
  split
  · exact Nat.zero_le _
  · rename_i h
    obtain ⟨hv,h0,h1⟩ := known_zero (l := l) (i := i) (by simpa using h)
    have := addL_len (usesT (typAt l i)) []
    have h2 := uses_len (own_short ((valid_sane hv).own _ (List.mem_of_getElem? (typAt_get h0 h1))))
    simp only [List.length_nil] at this
    show (addL [] (usesT (typAt l i))).length ≤ _
    omega
theorem reachR_in {l : List Typ} {i : Int} (h : knownR l i = 0) : (reachL l i).Nodup ∧ ∀ v ∈ reachL l i,inT l v := by
  obtain ⟨hv,h0,h1⟩ := known_zero h
  exact ⟨bfs_nodup _ _ (by simp),bfs_all (valid_sane hv).next _ _ (fun v hv => (List.mem_singleton.1 hv) ▸ ⟨h0,h1⟩)⟩
theorem reachR_len {l : List Typ} {i : Int} : (reachR l i).1.length ≤ l.length := by
  unfold reachR
  split
  · exact Nat.zero_le _
  · rename_i h
    obtain ⟨h1,h2⟩ := reachR_in (l := l) (i := i) (by simpa using h)
    show (isort ltI (reachL l i)).length ≤ _
    rw [isort_lenS]
    exact inT_bound _ h1 h2
set_option maxHeartbeats 1000000 in
theorem r261 (r265 : res A PrA 265 [] = some [.bool true]) (l : List Typ) (i : Int) (hl : l.length ≤ 8000000000000) (ho : ∀ t ∈ l,t.ok) (hs : ∀ t ∈ l,t.held) : res A PrA 261 [.agg [.lst 0 (l.map Typ.c)],.int .i64 i] = some [.bool true] := by
  refine res_of a261 rfl rfl ?_
  simp only [F261]
  have h266 := fun u => r266 u l ho
  have l1 : (usesR l i).1.length ≤ 2 ^ 63 - 1 := Nat.le_trans (usesR_len) (by decide)
  have l2 : (reachR l i).1.length ≤ 2 ^ 63 - 1 := Nat.le_trans reachR_len (by omega)
  have h94 := fun t u => s94 t u (usesR l i).1 (usesR l i).1 l1 l1
  have h94' := fun t u => s94 t u (reachR l i).1 (reachR l i).1 l2 l2
  rw [eqv_same] at h94 h94'
  simp (disch := omega) only [go_sem,r265,h266]
  cases hf : few l with
  | false => simp (disch := omega) only [go_sem,r265]
  | true =>
    have h40 := few_len hf
    have e1 := fun t => r271 t l i (by omega) ho hs
    have e2 := fun t => r272 t l i (by omega) ho hs
    have e3 := fun t => r273 t l i (by omega) ho hs
    have e4 := fun t => r274 t l i (by omega) ho hs
    generalize usesR l i = u at e1 e2 h94
    generalize reachR l i = w at e3 e4 h94'
    simp (disch := omega) only [go_sem,e1,e2,e3,e4,h94,h94']
end Go.Pv
namespace Go.Pv
variable {P : Program}
theorem VOk.up : ∀ {n : Nat} {cs : List PV},VOk n cs → VOk (n + 1) cs
  | 0,_,h => h.elim
  | n + 1,_,h => by
    obtain ⟨v,h1,h2,h3,h4,h5,h6⟩ := h
    exact ⟨v,h1,h2,h3,fun r hr => VOk.up (h4 r hr),fun r hr => VOk.up (h5 r hr),h6⟩
theorem ty_int {n : Nat} {t : TypeId} {cs : List PV} (hu : P.underlying t = some (.int .i64)) (h : typed P n t cs) : ∃ x,cs = [.int .i64 x] ∧ I64 x := by
  cases n with
  | zero => exact h.elim
  | succ n =>
    obtain ⟨x,rfl,h1,h2⟩ := typed_int hu h
    exact ⟨x,rfl,h1,h2⟩
theorem ty_bool {n : Nat} {t : TypeId} {cs : List PV} (hu : P.underlying t = some .bool) (h : typed P n t cs) : ∃ x,cs = [.bool x] := by
  cases n with
  | zero => exact h.elim
  | succ n => exact typed_bool hu h
theorem ty_str {n : Nat} {t : TypeId} {cs : List PV} (hu : P.underlying t = some .string) (h : typed P n t cs) : ∃ s,cs = [.str s] ∧ strOk s := by
  cases n with
  | zero => exact h.elim
  | succ n =>
    simp only [typed,hu] at h
    exact h
theorem ty_slice {α : Type} {c : α → List PV} {ok : α → Prop} {n : Nat} {t el : TypeId} {cs : List PV} (hu : P.underlying t = some (.slice el)) (he : ∀ m cs,m + 1 = n → typed P m el cs → ∃ x,cs = c x ∧ ok x) (h : typed P n t cs) : ∃ l : List α,cs = [.lst 0 (l.map c)] ∧ lenOk l ∧ ∀ x ∈ l,ok x := by
  cases n with
  | zero => exact h.elim
  | succ n =>
    obtain ⟨rows,rfl,hl,hr⟩ := typed_slice hu h
    obtain ⟨l,rfl⟩ := rows_map (c := fun x : {x : α // ok x} => c x.1) (rows := rows) (fun r hr' => by
      obtain ⟨x,rfl,hx⟩ := he n r rfl (hr r hr')
      exact ⟨⟨x,hx⟩,rfl⟩)
    refine ⟨l.map (·.1),by simp,by simpa [lenOk,maxLen] using hl,fun x hx => ?_⟩
    obtain ⟨y,_,rfl⟩ := List.mem_map.1 hx
    exact y.2
structure SchT (P : Program) (sch typ sym mem val raw ls lsym lmem lval lraw tx ti t64 tb : TypeId) : Prop where
  i : P.underlying ti = some (.int .i64)
  i64 : P.underlying t64 = some (.int .i64)
  b : P.underlying tb = some .bool
  x : P.underlying tx = some .string
  l : P.underlying ls = some (.slice typ)
  ly : P.underlying lsym = some (.slice sym)
  lm : P.underlying lmem = some (.slice mem)
  lv : P.underlying lval = some (.slice val)
  lr : P.underlying lraw = some (.slice raw)
  s : ∃ fs,P.underlying sch = some (.struct fs) ∧ fs.toList.map (·.type) = [ls]
  t : ∃ fs,P.underlying typ = some (.struct fs) ∧ fs.toList.map (·.type) = [ti,tx,t64,t64,ti,lsym,lmem,ti,ti,tb]
  y : ∃ fs,P.underlying sym = some (.struct fs) ∧ fs.toList.map (·.type) = [ti,tx]
  m : ∃ fs,P.underlying mem = some (.struct fs) ∧ fs.toList.map (·.type) = [ti,tx,ti,tb,tb,val]
  v : ∃ fs,P.underlying val = some (.struct fs) ∧ fs.toList.map (·.type) = [ti,tb,t64,tx,ti,lval,lval,lraw]
  r : ∃ fs,P.underlying raw = some (.struct fs) ∧ fs.toList.map (·.type) = [ti,tx]
section
variable {sch typ sym mem val raw ls lsym lmem lval lraw tx ti t64 tb : TypeId}
theorem raw_typed (T : SchT P sch typ sym mem val raw ls lsym lmem lval lraw tx ti t64 tb) {n : Nat} {cs : List PV} (h : typed P n raw cs) : ∃ r : Raw,cs = r.c ∧ r.ok := by
  cases n with
  | zero => exact h.elim
  | succ n =>
    obtain ⟨fs,hu,hts⟩ := T.r
    obtain ⟨r0,q0,rfl,h0,r1,q1,rfl,h1,rfl⟩ := typed_struct hu hts h
    obtain ⟨x,rfl,hx⟩ := ty_int T.i h0
    obtain ⟨s,rfl,hs⟩ := ty_str T.x h1
    exact ⟨⟨x,s⟩,rfl,hx,hs⟩
theorem sym_typed (T : SchT P sch typ sym mem val raw ls lsym lmem lval lraw tx ti t64 tb) {n : Nat} {cs : List PV} (h : typed P n sym cs) : ∃ r : Sym,cs = r.c ∧ r.ok := by
  cases n with
  | zero => exact h.elim
  | succ n =>
    obtain ⟨fs,hu,hts⟩ := T.y
    obtain ⟨r0,q0,rfl,h0,r1,q1,rfl,h1,rfl⟩ := typed_struct hu hts h
    obtain ⟨x,rfl,hx⟩ := ty_int T.i h0
    obtain ⟨s,rfl,hs⟩ := ty_str T.x h1
    exact ⟨⟨x,s⟩,rfl,hx,hs⟩
theorem val_typed (T : SchT P sch typ sym mem val raw ls lsym lmem lval lraw tx ti t64 tb) : ∀ (n : Nat) {cs : List PV},typed P n val cs → VOk n cs
  | 0,_,h => h.elim
  | 1,cs,h => by
    obtain ⟨fs,hu,hts⟩ := T.v
    obtain ⟨r0,q0,rfl,h0,_⟩ := typed_struct hu hts h
    exact h0.elim
  | n + 2,cs,h => by
    obtain ⟨fs,hu,hts⟩ := T.v
    obtain ⟨r0,q0,rfl,h0,r1,q1,rfl,h1,r2,q2,rfl,h2,r3,q3,rfl,h3,r4,q4,rfl,h4,r5,q5,rfl,h5,r6,q6,rfl,h6,r7,q7,rfl,h7,rfl⟩ := typed_struct hu hts h
    obtain ⟨kind,rfl,k1⟩ := ty_int T.i h0
    obtain ⟨b,rfl⟩ := ty_bool T.b h1
    obtain ⟨i,rfl,k2⟩ := ty_int T.i64 h2
    obtain ⟨s,rfl,k3⟩ := ty_str T.x h3
    obtain ⟨id,rfl,k4⟩ := ty_int T.i h4
    obtain ⟨keys,rfl,l1,g1⟩ := typed_slice T.lv h5
    obtain ⟨items,rfl,l2,g2⟩ := typed_slice T.lv h6
    obtain ⟨rest,rfl,l3,g3⟩ := ty_slice T.lr (fun m cs _ hh => raw_typed T hh) h7
    exact ⟨⟨kind,b,i,s,id,keys,items,rest⟩,rfl,⟨k1,k2,k3,k4⟩,⟨by simpa [lenOk,maxLen] using l1,by simpa [lenOk,maxLen] using l2,l3⟩,fun r hr => (val_typed T n (g1 r hr)).up,fun r hr => (val_typed T n (g2 r hr)).up,g3⟩
theorem mem_typed (T : SchT P sch typ sym mem val raw ls lsym lmem lval lraw tx ti t64 tb) {n : Nat} {cs : List PV} (h : typed P n mem cs) : ∃ r : Mem,cs = r.c ∧ r.ok := by
  cases n with
  | zero => exact h.elim
  | succ n =>
    obtain ⟨fs,hu,hts⟩ := T.m
    obtain ⟨r0,q0,rfl,h0,r1,q1,rfl,h1,r2,q2,rfl,h2,r3,q3,rfl,h3,r4,q4,rfl,h4,r5,q5,rfl,h5,rfl⟩ := typed_struct hu hts h
    obtain ⟨id,rfl,k1⟩ := ty_int T.i h0
    obtain ⟨s,rfl,k2⟩ := ty_str T.x h1
    obtain ⟨t,rfl,k3⟩ := ty_int T.i h2
    obtain ⟨c,rfl⟩ := ty_bool T.b h3
    obtain ⟨hd,rfl⟩ := ty_bool T.b h4
    have hv := val_typed T n h5
    cases n with
    | zero => exact hv.elim
    | succ n =>
      have hv' := hv
      obtain ⟨v,rfl,_⟩ := hv'
      exact ⟨⟨id,s,t,c,hd,v⟩,by simp [Mem.c,Val.c],k1,k2,k3,_,hv⟩
theorem typ_typed (T : SchT P sch typ sym mem val raw ls lsym lmem lval lraw tx ti t64 tb) {n : Nat} {cs : List PV} (h : typed P n typ cs) : ∃ r : Typ,cs = r.c ∧ r.ok := by
  cases n with
  | zero => exact h.elim
  | succ n =>
    obtain ⟨fs,hu,hts⟩ := T.t
    obtain ⟨r0,q0,rfl,h0,r1,q1,rfl,h1,r2,q2,rfl,h2,r3,q3,rfl,h3,r4,q4,rfl,h4,r5,q5,rfl,h5,r6,q6,rfl,h6,r7,q7,rfl,h7,r8,q8,rfl,h8,r9,q9,rfl,h9,rfl⟩ := typed_struct hu hts h
    obtain ⟨kind,rfl,k0⟩ := ty_int T.i h0
    obtain ⟨s,rfl,k1⟩ := ty_str T.x h1
    obtain ⟨lo,rfl,k2⟩ := ty_int T.i64 h2
    obtain ⟨hi,rfl,k3⟩ := ty_int T.i64 h3
    obtain ⟨mx,rfl,k4⟩ := ty_int T.i h4
    obtain ⟨syms,rfl,k5,g5⟩ := ty_slice T.ly (fun m cs _ hh => sym_typed T hh) h5
    obtain ⟨mems,rfl,k6,g6⟩ := ty_slice T.lm (fun m cs _ hh => mem_typed T hh) h6
    obtain ⟨key,rfl,k7⟩ := ty_int T.i h7
    obtain ⟨el,rfl,k8⟩ := ty_int T.i h8
    obtain ⟨op,rfl⟩ := ty_bool T.b h9
    exact ⟨⟨kind,s,lo,hi,mx,syms,mems,key,el,op⟩,rfl,⟨k0,k1,k2,k3,k4,k7,k8⟩,⟨k5,k6⟩,g5,g6⟩
theorem sch_typed (T : SchT P sch typ sym mem val raw ls lsym lmem lval lraw tx ti t64 tb) {n : Nat} {cs : List PV} (h : typed P n sch cs) : ∃ l : List Typ,cs = [.lst 0 (l.map Typ.c)] ∧ lenOk l ∧ ∀ t ∈ l,t.ok := by
  cases n with
  | zero => exact h.elim
  | succ n =>
    obtain ⟨fs,hu,hts⟩ := T.s
    obtain ⟨r0,q0,rfl,h0,rfl⟩ := typed_struct hu hts h
    obtain ⟨l,rfl,k,g⟩ := ty_slice T.l (fun m cs _ hh => typ_typed T hh) h0
    exact ⟨l,by simp,k,g⟩
end
end Go.Pv
namespace Go.Pv
end Go.Pv
namespace Go.Pv
theorem rowsFit_all {k : Nat} {rows : List (List PV)} (h : ∀ r ∈ rows,r.length = k) : rowsFit k (.inl rows) = true := by
  simp only [rowsFit,List.all_eq_true,beq_iff_eq]
  exact h
theorem set_same {α : Type} {l : List α} {k : Nat} {x : α} (h : l[k]? = some x) : l.set k x = l := by
  obtain ⟨hk,rfl⟩ := List.getElem?_eq_some_iff.1 h
  exact List.set_getElem_self hk
theorem over_same {rows : List (List PV)} {row c n : Nat} {r : List PV} (hr : rows[row]? = some r) (hn : c + n ≤ r.length) : over row c ((r.drop c).take n) rows = rows := by
  unfold over
  have hd : rows.getD row [] = r := by rw [List.getD_eq_getElem?_getD,hr]; rfl
  have hl : ((r.drop c).take n).length = n := by rw [List.length_take,List.length_drop]; omega
  rw [hd,hl,List.append_assoc,← List.drop_drop,List.take_append_drop,List.take_append_drop]
  exact set_same hr
theorem mapO_pure : ∀ {l : List PV},(∀ c ∈ l,c.perm = true) → mapO V.purec (l.map V.pv) = some l
  | [],_ => rfl
  | x :: l,h => by
    have h1 := mapO_pure (l := l) (fun c hc => h c (by simp [hc]))
    simp only [List.map_cons,mapO,V.purec,h x (by simp),if_true,h1]
theorem store_same {id row c n ver k : Nat} {rows : List (List PV)} {r : List PV} (hr : rows[row]? = some r) (hp : ∀ x ∈ (r.drop c).take n,x.perm = true) (hn : c + n ≤ r.length) (hk : r.length = k) : storeRow id row c (((r.drop c).take n).map V.pv) ⟨ver,k,.inl rows⟩ = some { ar := some (id,⟨ver,k,.inl rows⟩) } := by
  have hl : ((r.drop c).take n).length = n := by rw [List.length_take,List.length_drop]; omega
  rw [storeRow_inl (List.getElem?_eq_some_iff.1 hr).1 (mapO_pure hp) (by rw [List.length_map,hl]; omega) (by
    rw [List.all_eq_true]
    intro x hx
    obtain ⟨y,hy,rfl⟩ := List.mem_map.1 hx
    exact PV.perm_calm (hp y hy)),over_same hr hn]
theorem clone_nil (k : Nat) (h : Heap) : cloneP k [.pv (.lst 0 [])] h = some (.tl [],{}) := by
  simp [cloneP,srcRows,rowsFit,mostRows]
theorem clone_lst {k t : Nat} {rows : List (List PV)} {h : Heap} (ht : t ≤ 1) (hr : ∀ r ∈ rows,r.length = k) (h0 : rows ≠ []) (hm : rows.length ≤ 2147483648) : cloneP k [.pv (.lst t rows)] h = some (.own h.ar.length 0 0 rows.length,{ push := [⟨0,k,.inl rows⟩],base := h.ar.length }) := by
  have hl : ¬ rows.length = 0 := fun e => h0 (List.eq_nil_of_length_eq_zero e)
  simp only [cloneP,srcRows,ht,if_true,rowsFit_all hr,mostRows,hm,and_self,if_neg hl]
theorem clone_two {k : Nat} {rows : List (List PV)} (hr : ∀ r ∈ rows,r.length = k) (hm : rows.length ≤ 2147483648) : (rows = [] ∧ ∀ h,cloneP k [.pv (.lst 0 rows)] h = some (.tl [],{})) ∨ (rows ≠ [] ∧ ∀ h,cloneP k [.pv (.lst 0 rows)] h = some (.own h.ar.length 0 0 rows.length,{ push := [⟨0,k,.inl rows⟩],base := h.ar.length })) := by
  by_cases h0 : rows = []
  · subst h0
    exact .inl ⟨rfl,fun h => clone_nil k h⟩
  · exact .inr ⟨h0,fun h => clone_lst (by decide) hr h0 hm⟩
theorem clone_twoX {k lim : Nat} {rows : List (List PV)} (hr : ∀ r ∈ rows,r.length = k) (hm : rows.length ≤ lim) : (rows = [] ∧ ∀ h,cloneX k lim [.pv (.lst 0 rows)] h = some (.tl [],{})) ∨ (rows ≠ [] ∧ ∀ h,cloneX k lim [.pv (.lst 0 rows)] h = some (.own h.ar.length 0 0 rows.length,{ push := [⟨0,k,.inl rows⟩],base := h.ar.length })) := by
  have h01 : (0 : Nat) ≤ 1 := by decide
  by_cases h0 : rows = []
  · subst h0
    exact .inl ⟨rfl,fun h => by simp [cloneX,srcRows,rowsFit]⟩
  · have hl : ¬ rows.length = 0 := fun e => h0 (List.eq_nil_of_length_eq_zero e)
    exact .inr ⟨h0,fun h => by simp only [cloneX,srcRows,h01,if_true,rowsFit_all hr,hm,and_self,if_neg hl]⟩
def VFit : Nat → List PV → Prop
  | 0,_ => True
  | n + 1,cs => ∀ v : Val,cs = v.c → (v.keys.length ≤ 1172812402961 ∧ v.items.length ≤ 1172812402961 ∧ v.rest.length ≤ 5864062014805) ∧ (∀ r ∈ v.keys,VFit n r) ∧ ∀ r ∈ v.items,VFit n r
set_option maxHeartbeats 8000000 in
theorem r315 : ∀ (n : Nat) (cs : List PV),VOk n cs → VFit n cs → res A PrA 315 [.agg cs] = some [.agg cs]
  | 0,cs,h,_ => h.elim
  | n + 1,cs,h,hsm => by
    obtain ⟨v,rfl,⟨h1,h2,h3,h4⟩,⟨h5,h6,h7⟩,h8,h9,h10⟩ := h
    have ih := r315 n
    obtain ⟨⟨m5,m6,m7⟩,n5,n6⟩ := hsm v rfl
    obtain ⟨kind,bool,int,str,id,keys,items,rest⟩ := v
    unfold Val.c at *
    dsimp only at *
    have hk : ∀ r ∈ keys,res A PrA 315 [.agg r] = some [.agg r] := fun r hr => ih r (h8 r hr) (n5 r hr)
    have hi : ∀ r ∈ items,res A PrA 315 [.agg r] = some [.agg r] := fun r hr => ih r (h9 r hr) (n6 r hr)
    have vk : ∀ r ∈ keys,∃ w : Val,r = w.c := fun r hr => (h8 r hr).val
    have vi : ∀ r ∈ items,∃ w : Val,r = w.c := fun r hr => (h9 r hr).val
    clear ih n5 n6 hsm
    have lk : ∀ r ∈ keys,r.length = 8 := fun r hr => (h8 r hr).len
    have li : ∀ r ∈ items,r.length = 8 := fun r hr => (h9 r hr).len
    have lr : ∀ r ∈ rest.map Raw.c,r.length = 2 := fun r hr => by
      obtain ⟨x,_,rfl⟩ := List.mem_map.1 hr
      rfl
    refine res_of a315 rfl rfl ?_
    simp only [F315]
    simp (disch := omega) only [go_sem]
    have ck := clone_twoX (lim := 1172812402961) lk m5
    have ci := clone_twoX (lim := 1172812402961) li m6
    have cr := clone_twoX (lim := 5864062014805) lr (by rw [List.length_map]; exact m7)
    generalize rest.map Raw.c = rs at cr lr
    have hkl : keys.length ≤ 1172812402961 := m5
    have hil : items.length ≤ 1172812402961 := m6
    rcases ck with ⟨ek,ck⟩ | ⟨ek,ck⟩ <;> rcases ci with ⟨ei,ci⟩ | ⟨ei,ci⟩ <;> rcases cr with ⟨er,cr⟩ | ⟨er,cr⟩
    all_goals simp (disch := omega) only [go_sem,ck,ci,cr]
    all_goals first
      | (subst ek
         refine W.once ?_
         simp (disch := omega) only [go_sem]
         refine Br.ofP (fun c => absurd c (by omega)) (fun _ => ?_)
         simp (disch := omega) only [go_sem])
      | (refine W.upto keys.length ((fun h0 => fun k => ⟨[(1,.ptr 1 0),(2,.ptr 2 0),(19,.pv (.int .i64 keys.length)),(20,.pv (.int .i64 (k : Nat)))],h0⟩) _) (fun _ => True) rfl trivial (fun k hk' _ => ?_)
         simp (disch := omega) only [go_sem]
         refine Br.ofP (fun c => ?_) (fun c => ?_)
         · have hr := List.getElem?_eq_getElem (l := keys) (i := k) (by omega)
           generalize keys[k]'(by omega) = r at hr
           have hc := hk r (List.mem_of_getElem? hr)
           have hset := set_same hr
           obtain ⟨w,rfl⟩ := vk r (List.mem_of_getElem? hr)
           unfold Val.c at hr hc hset
           have hst := fun id => store_same (id := id) (c := 0) (n := 8) (ver := 0) (k := 8) hr (by simp [PV.perm]) (by simp) (by simp)
           simp only [List.drop_zero,List.take_succ_cons,List.take_zero,List.map_cons,List.map_nil] at hst
           simp (disch := omega) only [go_sem,hr,hc,hst]
           refine .of (by omega) ?_ trivial
           rfl
         simp (disch := omega) only [go_sem])
    all_goals first
      | (subst ei
         refine W.once ?_
         simp (disch := omega) only [go_sem]
         refine Br.ofP (fun c => absurd c (by omega)) (fun _ => ?_)
         simp (disch := omega) only [go_sem])
      | (refine W.upto items.length ((fun h0 => fun k => ⟨[(1,.ptr 1 0),(2,.ptr 2 0),(36,.pv (.int .i64 items.length)),(37,.pv (.int .i64 (k : Nat)))],h0⟩) _) (fun _ => True) rfl trivial (fun k hk' _ => ?_)
         simp (disch := omega) only [go_sem]
         refine Br.ofP (fun c => ?_) (fun c => ?_)
         · have hr := List.getElem?_eq_getElem (l := items) (i := k) (by omega)
           generalize items[k]'(by omega) = r at hr
           have hc := hi r (List.mem_of_getElem? hr)
           have hset := set_same hr
           obtain ⟨w,rfl⟩ := vi r (List.mem_of_getElem? hr)
           unfold Val.c at hr hc hset
           have hst := fun id => store_same (id := id) (c := 0) (n := 8) (ver := 0) (k := 8) hr (by simp [PV.perm]) (by simp) (by simp)
           simp only [List.drop_zero,List.take_succ_cons,List.take_zero,List.map_cons,List.map_nil] at hst
           simp (disch := omega) only [go_sem,hr,hc,hst]
           refine .of (by omega) ?_ trivial
           rfl
         simp (disch := omega) only [go_sem])
    all_goals first
      | (simp only [List.take_length]
         done)
      | (simp only [List.take_length,er]
         done)
      | (simp only [er]
         done)
end Go.Pv
namespace Go.Pv
def frL (k : Nat) (rows : List (List PV)) : PV := match rows with
  | [] => .lst 0 []
  | x :: r => .fr k (x :: r)
theorem frL_cons {k : Nat} {rows : List (List PV)} (h : rows ≠ []) : frL k rows = .fr k rows := by
  cases rows with
  | nil => exact (h rfl).elim
  | cons x r => rfl
theorem frL_nil {k : Nat} : frL k [] = .lst 0 [] := rfl
def copC (t : Typ) : List PV := [.int .i64 t.kind,.str t.name,.int .i64 t.low,.int .i64 t.high,.int .i64 t.max,frL 2 (t.syms.map Sym.c),frL 13 (t.mems.map Mem.c),.int .i64 t.key,.int .i64 t.elem,.bool t.opn]
set_option maxHeartbeats 8000000 in
theorem r294 (t : Typ) (ht : t.ok) (hs : t.short) (hf : ∀ m ∈ t.mems,∀ n,VFit n m.dflt.c) : res A PrA 294 [.agg t.c] = some [.agg (copC t)] := by
  obtain ⟨_,_,_,ho⟩ := ht
  have m6 := hs.syms
  have m7 := hs.mems
  clear hs
  obtain ⟨k,a2,a3,a4,a5,a6,l,a8,a9,a10⟩ := t
  unfold copC
  unfold Typ.c at *
  dsimp only at *
  have hcl : ∀ m ∈ l,res A PrA 315 [.agg m.dflt.c] = some [.agg m.dflt.c] := fun m hm => by
    obtain ⟨n,hn⟩ := (ho m hm).2.2.2
    exact r315 n _ hn (hf m hm n)
  have ls : ∀ r ∈ a6.map Sym.c,r.length = 2 := fun r hr => by
    obtain ⟨x,_,rfl⟩ := List.mem_map.1 hr
    rfl
  have lm : ∀ r ∈ l.map Mem.c,r.length = 13 := fun r hr => by
    obtain ⟨x,_,rfl⟩ := List.mem_map.1 hr
    rfl
  have cs := clone_two ls (by rw [List.length_map]; omega)
  have cm := clone_two lm (by rw [List.length_map]; omega)
  clear hf ho
  refine res_of a294 rfl rfl ?_
  simp only [F294]
  simp (disch := omega) only [go_sem]
  generalize a6.map Sym.c = rs at cs ls
  have hlen : (l.map Mem.c).length = l.length := List.length_map ..
  rcases cs with ⟨es,cs⟩ | ⟨es,cs⟩ <;> rcases cm with ⟨em,cm⟩ | ⟨em,cm⟩
  all_goals simp (disch := omega) only [go_sem,cs,cm]
  all_goals first
    | (have hl0 : l = [] := List.map_eq_nil_iff.1 em
       subst hl0
       refine W.once ?_
       simp (disch := omega) only [go_sem]
       refine Br.ofP (fun c => absurd c (by omega)) (fun _ => ?_)
       simp (disch := omega) only [go_sem,leaveL_true])
    | (refine W.upto l.length ((fun h0 => fun k => ⟨[(1,.ptr 1 0),(2,.ptr 2 0),(14,.pv (.int .i64 l.length)),(15,.pv (.int .i64 (k : Nat)))],h0⟩) _) (fun _ => True) rfl trivial (fun k hk' _ => ?_)
       simp (disch := omega) only [go_sem]
       refine Br.ofP (fun c => ?_) (fun c => ?_)
       · have hr := List.getElem?_eq_getElem (l := l) (i := k) (by omega)
         generalize l[k]'(by omega) = r at hr
         have hc := hcl r (List.mem_of_getElem? hr)
         have hrr : (l.map Mem.c)[k]? = some r.c := by rw [List.getElem?_map,hr]; rfl
         have hst : ∀ id,storeRow id k 5 [.pv (.int .i64 r.dflt.kind),.pv (.bool r.dflt.bool),.pv (.int .i64 r.dflt.int),.pv (.str r.dflt.str),.pv (.int .i64 r.dflt.id),.pv (.lst 0 r.dflt.keys),.pv (.lst 0 r.dflt.items),.pv (.lst 0 (r.dflt.rest.map Raw.c))] ⟨0,13,.inl (l.map Mem.c)⟩ = some { ar := some (id,⟨0,13,.inl (l.map Mem.c)⟩) } :=
           fun id => store_same (id := id) (c := 5) (n := 8) (ver := 0) (k := 13) hrr (by simp [PV.perm,Mem.c]) (by simp [Mem.c]) (by simp [Mem.c])
         unfold Val.c at hc
         simp (disch := omega) only [go_sem,hr,Mem.c,hc,hst]
         refine .of (by omega) ?_ trivial
         rfl
       simp (disch := omega) only [go_sem,leaveL_true])
  all_goals simp [ownIds,V.cells,keep,mapO,freshc,ownArr,keepc,PV.perm,frL_cons,es,em]
  all_goals first
    | exact ⟨rfl,rfl,rfl⟩
    | exact ⟨rfl,rfl,List.take_of_length_le (by rw [List.length_map]; exact Nat.le_refl _)⟩
    | exact ⟨rfl,rfl⟩
    | exact ⟨rfl,List.take_of_length_le (by rw [List.length_map]; exact Nat.le_refl _)⟩
end Go.Pv
namespace Go.Pv
def Holds (ar : List Arr) (id ver k : Nat) (rows : List (List PV)) : Prop := ∃ R,ar[id]? = some ⟨ver,k,.inl R⟩ ∧ R.take rows.length = rows
theorem Holds.whole {ar : List Arr} {id ver k : Nat} {rows : List (List PV)} (h : ar[id]? = some ⟨ver,k,.inl rows⟩) : Holds ar id ver k rows := ⟨_,h,List.take_length⟩
theorem Holds.lt {ar : List Arr} {id ver k : Nat} {rows : List (List PV)} (h : Holds ar id ver k rows) : id < ar.length := by
  obtain ⟨R,h,_⟩ := h
  exact (List.getElem?_eq_some_iff.1 h).1
theorem Holds.move {a b : List Arr} {id ver k : Nat} {rows : List (List PV)} (h : Holds a id ver k rows) (e : b[id]? = a[id]?) : Holds b id ver k rows := by
  obtain ⟨R,h,h2⟩ := h
  exact ⟨R,e.trans h,h2⟩
def Home (ar : List Arr) (o k : Nat) (v : V) (rows : List (List PV)) : Prop := v = .pv (.lst 0 rows) ∨ (∃ id ver,v = .own id ver 0 rows.length ∧ id ≠ o ∧ Holds ar id ver k rows) ∨ v = .tl rows
theorem Home.push {ar : List Arr} {o k : Nat} {v : V} {rows : List (List PV)} (h : Home ar o k v rows) (x : List Arr) : Home (ar ++ x) o k v rows := by
  rcases h with h | ⟨id,ver,h1,h2,h3⟩ | h
  · exact .inl h
  · exact .inr (.inl ⟨id,ver,h1,h2,h3.move (List.getElem?_append_left h3.lt)⟩)
  · exact .inr (.inr h)
theorem Home.set {ar : List Arr} {o k : Nat} {v : V} {rows : List (List PV)} (h : Home ar o k v rows) (a : Arr) : Home (ar.set o a) o k v rows := by
  rcases h with h | ⟨id,ver,h1,h2,h3⟩ | h
  · exact .inl h
  · exact .inr (.inl ⟨id,ver,h1,h2,h3.move (List.getElem?_set_ne (fun e => h2 e.symm))⟩)
  · exact .inr (.inr h)
theorem Home.keep {ar : List Arr} {o k : Nat} {v : V} {rows : List (List PV)} (h : Home ar o k v rows) (bx : List (Nat × List V)) (mp : List (List (PV × PV))) (d : Nat) : keepc ⟨bx,ar,mp⟩ (d + 1) v = some (.lst 0 rows) := by
  rcases h with rfl | ⟨id,ver,rfl,h2,R,h3,h4⟩ | rfl
  · rfl
  · rw [keepc_own,ownArr_mk,h3]
    simp only [Option.bind_some,if_true,cutRows,keepRows,List.drop_zero,h4]
  · rfl
def TRow (ar : List Arr) (o : Nat) (row : List V) (t : Typ) : Prop := ∃ sv mv,row = [.pv (.int .i64 t.kind),.pv (.str t.name),.pv (.int .i64 t.low),.pv (.int .i64 t.high),.pv (.int .i64 t.max),sv,mv,.pv (.int .i64 t.key),.pv (.int .i64 t.elem),.pv (.bool t.opn)] ∧
  Home ar o 2 sv (t.syms.map Sym.c) ∧ Home ar o 13 mv (t.mems.map Mem.c)
theorem TRow.push {ar : List Arr} {o : Nat} {row : List V} {t : Typ} (h : TRow ar o row t) (x : List Arr) : TRow (ar ++ x) o row t := by
  obtain ⟨sv,mv,h1,h2,h3⟩ := h
  exact ⟨sv,mv,h1,h2.push x,h3.push x⟩
theorem TRow.set {ar : List Arr} {o : Nat} {row : List V} {t : Typ} (h : TRow ar o row t) (a : Arr) : TRow (ar.set o a) o row t := by
  obtain ⟨sv,mv,h1,h2,h3⟩ := h
  exact ⟨sv,mv,h1,h2.set a,h3.set a⟩
theorem TRow.len {ar : List Arr} {o : Nat} {row : List V} {t : Typ} (h : TRow ar o row t) : row.length = 10 := by
  obtain ⟨sv,mv,rfl,_⟩ := h
  rfl
theorem TRow.keep {ar : List Arr} {o : Nat} {row : List V} {t : Typ} (h : TRow ar o row t) (bx : List (Nat × List V)) (mp : List (List (PV × PV))) (d : Nat) : mapO (keepc ⟨bx,ar,mp⟩ (d + 1)) row = some t.c := by
  obtain ⟨sv,mv,rfl,h2,h3⟩ := h
  simp only [mapO,h2.keep bx mp d,h3.keep bx mp d,keepc_pv,PV.perm,if_true]
  rfl
def bodyV : Sum (List (List PV)) (List (List V)) → List (List V)
  | .inl x => x.map (·.map .pv)
  | .inr x => x
theorem bodyV_len (b : Sum (List (List PV)) (List (List V))) : (bodyV b).length = rowsLen b := by cases b <;> simp [bodyV,rowsLen]
theorem bodyV_cat (a b : Sum (List (List PV)) (List (List V))) : bodyV (catRows a b) = bodyV a ++ bodyV b := by
  cases a <;> cases b <;> simp [bodyV,catRows]
structure TRows (ar : List Arr) (o : Nat) (rows : List (List V)) (ts : List Typ) : Prop where
  len : rows.length = ts.length
  row : ∀ (i : Nat) row t,rows[i]? = some row → ts[i]? = some t → TRow ar o row t
theorem TRows.push {ar : List Arr} {o : Nat} {rows : List (List V)} {ts : List Typ} (h : TRows ar o rows ts) (x : List Arr) : TRows (ar ++ x) o rows ts := ⟨h.len,fun i row t h1 h2 => (h.row i row t h1 h2).push x⟩
theorem TRows.set {ar : List Arr} {o : Nat} {rows : List (List V)} {ts : List Typ} (h : TRows ar o rows ts) (a : Arr) : TRows (ar.set o a) o rows ts := ⟨h.len,fun i row t h1 h2 => (h.row i row t h1 h2).set a⟩
theorem TRows.snoc {ar : List Arr} {o : Nat} {rows : List (List V)} {ts : List Typ} {row : List V} {t : Typ} (h : TRows ar o rows ts) (hr : TRow ar o row t) : TRows ar o (rows ++ [row]) (ts ++ [t]) := by
  refine ⟨by simp [h.len],fun i r u h1 h2 => ?_⟩
  rcases Nat.lt_or_ge i rows.length with hi | hi
  · rw [List.getElem?_append_left hi] at h1
    rw [List.getElem?_append_left (by rw [← h.len]; exact hi)] at h2
    exact h.row i r u h1 h2
  · rw [List.getElem?_append_right hi] at h1
    rw [List.getElem?_append_right (by rw [← h.len]; exact hi)] at h2
    rw [h.len] at h1
    cases hj : i - ts.length with
    | zero =>
      rw [hj] at h1 h2
      cases h1
      cases h2
      exact hr
    | succ j =>
      rw [hj] at h1
      simp at h1
theorem mapO_rows {α β γ : Type} {f : α → Option β} : ∀ {rows : List (List α)} {ts : List γ} {c : γ → List β},rows.length = ts.length → (∀ (i : Nat) row t,rows[i]? = some row → ts[i]? = some t → mapO f row = some (c t)) → mapO (mapO f) rows = some (ts.map c)
  | [],[],_,_,_ => rfl
  | r :: rows,t :: ts,c,hl,h => by
    have h1 := h 0 r t rfl rfl
    have h2 := mapO_rows (f := f) (rows := rows) (ts := ts) (c := c) (by simpa using hl) (fun i row u hi hu => h (i + 1) row u (by simpa using hi) (by simpa using hu))
    simp only [mapO,h1,h2,List.map_cons]
theorem mapO_pvs {h : Heap} {d : Nat} : ∀ {l r : List PV},mapO (keepc h d) (l.map V.pv) = some r → r = l
  | [],r,he => by
    cases he
    rfl
  | x :: l,r,he => by
    simp only [List.map_cons,mapO_cons',keepc_pv] at he
    split at he
    · cases hm : mapO (keepc h d) (l.map V.pv) with
      | none => simp [hm] at he
      | some y =>
        simp [hm] at he
        rw [← he,mapO_pvs hm]
    · simp at he
structure OutRep (ar : List Arr) (o ver : Nat) (ts : List Typ) : Prop where
  pos : ts ≠ []
  it : ∃ body,ar[o]? = some ⟨ver,10,body⟩ ∧ TRows ar o (bodyV body) ts
theorem OutRep.keep {ar : List Arr} {o ver : Nat} {ts : List Typ} (h : OutRep ar o ver ts) (bx : List (Nat × List V)) (mp : List (List (PV × PV))) : keepc ⟨bx,ar,mp⟩ 4 (.own o ver 0 ts.length) = some (.lst 0 (ts.map Typ.c)) := by
  obtain ⟨body,h1,h2⟩ := h.it
  rw [keepc_own,ownArr_mk,h1]
  simp only [Option.bind_some,if_true]
  have hk := mapO_rows (f := keepc ⟨bx,ar,mp⟩ 3) (c := Typ.c) h2.len (fun i row t hi ht => (h2.row i row t hi ht).keep bx mp 2)
  cases body with
  | inl R =>
    have hl : R.length = ts.length := by have := h2.len; simpa [bodyV] using this
    simp only [cutRows,keepRows,List.drop_zero]
    rw [← hl,List.take_length]
    congr 1
    congr 1
    apply List.ext_getElem?
    intro i
    rcases Nat.lt_or_ge i R.length with hi | hi
    · have e1 := List.getElem?_eq_getElem hi
      have e2 := List.getElem?_eq_getElem (l := ts) (i := i) (by omega)
      rw [List.getElem?_map,e1,e2]
      have := (h2.row i (R[i].map V.pv) (ts[i]'(by omega)) (by simp [bodyV,e1]) e2).keep bx mp 2
      have := mapO_pvs this
      rw [Option.map_some,this]
    · rw [List.getElem?_eq_none hi,List.getElem?_map,List.getElem?_eq_none (by omega)]
      rfl
  | inr R =>
    have hl : R.length = ts.length := by have := h2.len; simpa [bodyV] using this
    simp only [cutRows,keepRows,List.drop_zero]
    rw [← hl,List.take_length]
    have hk' : mapO (mapO (keepc ⟨bx,ar,mp⟩ 3)) R = some (ts.map Typ.c) := hk
    rw [hk']
    rfl
end Go.Pv
namespace Go.Pv
def idxI (L : List Int) (j : Int) : Int := firstI (fun y => decide (y = j)) L
def plK (L : List Int) (n k : Nat) : List Int := (List.range n).map fun (j : Nat) => if j < k then idxI L (j : Int) else 0
theorem plK_len (L : List Int) (n k : Nat) : (plK L n k).length = n := by simp [plK]
theorem plK_zero (L : List Int) (n : Nat) : plK L n 0 = List.replicate n 0 := by
  apply List.ext_getElem
  · simp [plK]
  · intro i h1 h2
    simp [plK]
theorem plK_set (L : List Int) (n k : Nat) (_hk : k < n) : (plK L n k).set k (idxI L (k : Int)) = plK L n (k + 1) := by
  apply List.ext_getElem
  · simp [plK]
  · intro i h1 h2
    rw [List.getElem_set]
    by_cases h : k = i
    · subst h
      simp [plK]
    · have : (i < k + 1) = (i < k) := by rw [eq_iff_iff]; omega
      simp [plK,h,this]
theorem plK_get {L : List Int} {n : Nat} {u : Int} (h0 : 0 ≤ u) (h1 : u < n) : (plK L n n)[u.toNat]? = some (idxI L u) := by
  have hu : u.toNat < n := by omega
  have e : ((u.toNat : Nat) : Int) = u := Int.toNat_of_nonneg h0
  unfold plK
  rw [List.getElem?_map,List.getElem?_range hu,Option.map_some,if_pos hu,e]
def remapM (L : List Int) (m : Mem) : Mem := { m with type := idxI L m.type }
def remapT (L : List Int) (t : Typ) : Typ := { t with mems := t.mems.map (remapM L),key := if t.kind = 8 then idxI L t.key else t.key,elem := if 7 ≤ t.kind then idxI L t.elem else t.elem }
theorem drop_atS {α : Type} {l : List α} {k : Nat} {x : α} (h : l[k]? = some x) : l.drop k = x :: l.drop (k + 1) := by
  obtain ⟨hk,rfl⟩ := List.getElem?_eq_some_iff.1 h
  exact List.drop_eq_getElem_cons hk
theorem body_fit {k : Nat} {b : Sum (List (List PV)) (List (List V))} (h : ∀ r ∈ bodyV b,r.length = k) : rowsFit k b = true := by
  cases b with
  | inl x =>
    simp only [rowsFit,List.all_eq_true,beq_iff_eq]
    intro r hr
    have := h (r.map .pv) (List.mem_map_of_mem hr)
    simpa using this
  | inr x =>
    simp only [rowsFit,List.all_eq_true,beq_iff_eq]
    exact h
def mixJ (L : List Int) (l : List Mem) (j : Nat) : List Mem := (l.take j).map (remapM L) ++ l.drop j
theorem mixJ_zero (L : List Int) (l : List Mem) : mixJ L l 0 = l := by simp [mixJ]
theorem mixJ_all (L : List Int) (l : List Mem) : mixJ L l l.length = l.map (remapM L) := by simp [mixJ]
theorem mixJ_len (L : List Int) (l : List Mem) (j : Nat) : (mixJ L l j).length = l.length := by
  simp only [mixJ,List.length_append,List.length_map,List.length_take,List.length_drop]
  omega
theorem mixJ_get {L : List Int} {l : List Mem} {j : Nat} {m : Mem} (h : l[j]? = some m) : (mixJ L l j)[j]? = some m := by
  have hj := (List.getElem?_eq_some_iff.1 h).1
  have hl : ((l.take j).map (remapM L)).length = j := by simp; omega
  unfold mixJ
  rw [List.getElem?_append_right (by omega),hl,Nat.sub_self,List.getElem?_drop,Nat.add_zero]
  exact h
theorem mixJ_set {L : List Int} {l : List Mem} {j : Nat} {m : Mem} (h : l[j]? = some m) : (mixJ L l j).set j (remapM L m) = mixJ L l (j + 1) := by
  have hj := (List.getElem?_eq_some_iff.1 h).1
  have hl : ((l.take j).map (remapM L)).length = j := by simp; omega
  unfold mixJ
  rw [List.set_append_right _ _ (by omega),hl,Nat.sub_self,drop_atS h,List.set_cons_zero,List.take_add_one,h]
  simp
theorem out_first {bx : List (Nat × List V)} {ar : List Arr} {mp : List (List (PV × PV))} {y : V} {new : Sum (List (List PV)) (List (List V))} {rd : Option Nat} {row : List V} (hs : srcRows ⟨bx,ar,mp⟩ y = some (new,rd)) (hn : bodyV new = [row]) (hr : row.length = 10) :
    appendV ⟨bx,ar,mp⟩ 10 (.tl []) y = some (.own ar.length 0 0 1,{ push := [⟨0,10,catRows (.inl []) new⟩],ra := rd,base := ar.length }) := by
  have h1 : rowsLen new = 1 := by rw [← bodyV_len,hn]; rfl
  have h2 : rowsFit 10 new = true := body_fit (by rw [hn]; intro r hr'; rw [List.mem_singleton] at hr'; rw [hr']; exact hr)
  simp only [appendV,hs,h2,h1,if_true]
  simp [rowsFit,mostRows]
theorem out_next {bx : List (Nat × List V)} {ar : List Arr} {mp : List (List (PV × PV))} {y : V} {new : Sum (List (List PV)) (List (List V))} {rd : Option Nat} {row : List V} {o ver n : Nat} {body : Sum (List (List PV)) (List (List V))} (hs : srcRows ⟨bx,ar,mp⟩ y = some (new,rd)) (hn : bodyV new = [row]) (hr : row.length = 10)
    (ho : ar[o]? = some ⟨ver,10,body⟩) (hb : rowsLen body = n) (_hrd : rd ≠ some o) (hm : n + 1 ≤ 2147483648) :
    appendV ⟨bx,ar,mp⟩ 10 (.own o ver 0 n) y = some (.own o (ver + 1) 0 (n + 1),{ ar := some (o,⟨ver + 1,10,catRows (cutRows 0 n body) new⟩),ra := rd }) := by
  have h1 : rowsLen new = 1 := by rw [← bodyV_len,hn]; rfl
  have h2 : rowsFit 10 new = true := body_fit (by rw [hn]; intro r hr'; rw [List.mem_singleton] at hr'; rw [hr']; exact hr)
  have h3 : ownArr ⟨bx,ar,mp⟩ o ver = some ⟨ver,10,body⟩ := by rw [ownArr_mk,ho]; simp
  have h4 : (⟨ver,10,body⟩ : Arr).size = n := by rw [← hb]; cases body <;> rfl
  simp only [appendV,hs,h2,h1,h3,if_true,h4]
  simp [mostRows,hm]
end Go.Pv
namespace Go.Pv
noncomputable def prunedL (l : List Typ) (i : Int) : List Typ := (reachR l i).1.map fun u => remapT (reachR l i).1 (typAt l u)
noncomputable def placeL (l : List Typ) (i : Int) : List Int := if (reachR l i).2 ≠ 0 then [] else plK (reachR l i).1 l.length l.length
theorem reachR_ok {l : List Typ} {i : Int} (h : (reachR l i).2 = 0) : Sane l ∧ (reachR l i).1.Nodup ∧ ∀ u ∈ (reachR l i).1,inT l u := by
  unfold reachR at h ⊢
  split at h
  · rename_i h1
    exact absurd h h1
  · rename_i h1
    have hk : knownR l i = 0 := by simpa using h1
    rw [if_neg (by simp [hk])]
    obtain ⟨a,b⟩ := reachR_in hk
    exact ⟨valid_sane (known_zero hk).1,(isort_perm ltI _).nodup_iff.2 a,fun u hu => b u ((isort_perm ltI _).mem_iff.1 hu)⟩
theorem reachR_no {l : List Typ} {i : Int} (h : (reachR l i).2 ≠ 0) : (reachR l i).1 = [] := by
  unfold reachR at h ⊢
  split
  · rfl
  · rename_i h1
    rw [if_neg h1] at h
    exact absurd rfl h
def OutV (ar : List Arr) (V0 : V) (ts : List Typ) : Prop := (V0 = .tl [] ∧ ts = []) ∨ ∃ o ver,V0 = .own o ver 0 ts.length ∧ o ≠ 0 ∧ OutRep ar o ver ts
theorem cut_all {ver n : Nat} {b : Sum (List (List PV)) (List (List V))} (_h : rowsLen b = n) (_hv : ver = ver) : cutRows 0 n b = b := by
  subst _h
  cases b <;> simp [cutRows,rowsLen]
theorem mem_used {t : Typ} {m : Mem} (h : m ∈ t.mems) : m.type ∈ usesT t := by
  unfold usesT
  exact List.mem_append_left _ (List.mem_append_left _ (List.mem_map_of_mem h))
theorem elem_used {t : Typ} (h : 7 ≤ t.kind) : t.elem ∈ usesT t := by simp [usesT,elemsT,h]
theorem mixJ_store {L : List Int} {l : List Mem} {j : Nat} {m : Mem} (h : l[j]? = some m) (id : Nat) : storeRow id j 2 [.pv (.int .i64 (idxI L m.type))] ⟨0,13,.inl ((mixJ L l j).map Mem.c)⟩ = some { ar := some (id,⟨0,13,.inl ((mixJ L l (j + 1)).map Mem.c)⟩) } := by
  have hj := (List.getElem?_eq_some_iff.1 h).1
  rw [storeRow_inl (l := [.int .i64 (idxI L m.type)]) (by rw [List.length_map,mixJ_len]; exact hj) rfl (by simp) rfl,← mixJ_set h,List.map_set]
  unfold over
  have hd : ((mixJ L l j).map Mem.c).getD j [] = m.c := by rw [List.getD_eq_getElem?_getD,List.getElem?_map,mixJ_get h]; rfl
  rw [hd]
  rfl
theorem appOut {ar X : List Arr} {V0 y : V} {ts : List Typ} {t : Typ} {new : Sum (List (List PV)) (List (List V))} {rd : Option Nat} {row : List V} (hO : OutV ar V0 ts) (h0 : 0 < ar.length) (hm : ts.length + 1 ≤ 2147483648)
    (hs : ∀ bx,srcRows ⟨bx,ar ++ X,[]⟩ y = some (new,rd)) (hn : bodyV new = [row]) (hrd : ∀ o,rd = some o → ar.length ≤ o) (hr : ∀ o,o < ar.length ∨ (ar ++ X).length ≤ o → TRow (ar ++ X) o row t) :
    ∃ V1 T ar',(∀ bx,appendV ⟨bx,ar ++ X,[]⟩ 10 V0 y = some (V1,T)) ∧ (∀ bx,T.apply ⟨bx,ar ++ X,[]⟩ = ⟨bx,ar',[]⟩) ∧ V1.cells = [V1] ∧ V1.calm = true ∧ ar'[0]? = ar[0]? ∧ OutV ar' V1 (ts ++ [t]) := by
  have hrow : row.length = 10 := (hr _ (.inr (Nat.le_refl _))).len
  rcases hO with ⟨rfl,rfl⟩ | ⟨o,ver,rfl,ho,hrep⟩
  · refine ⟨_,_,(ar ++ X) ++ [⟨0,10,catRows (.inl []) new⟩],fun bx => out_first (hs bx) hn hrow,fun bx => ?_,rfl,rfl,?_,.inr ⟨(ar ++ X).length,0,rfl,?_,?_⟩⟩
    · simp [Tn.apply]
    · rw [List.append_assoc,List.getElem?_append_left h0]
    · show (ar ++ X).length ≠ 0
      rw [List.length_append]
      omega
    · refine ⟨by simp,catRows (.inl []) new,by simp,?_⟩
      rw [bodyV_cat,hn]
      have h1 : TRows ((ar ++ X) ++ [⟨0,10,catRows (.inl []) new⟩]) (ar ++ X).length (bodyV (.inl [])) [] := ⟨rfl,fun i r u h1 _ => by simp [bodyV] at h1⟩
      exact h1.snoc ((hr _ (.inr (Nat.le_refl _))).push _)
  · obtain ⟨body,hb1,hb2⟩ := hrep.it
    have hol := (List.getElem?_eq_some_iff.1 hb1).1
    have hb1' : (ar ++ X)[o]? = some ⟨ver,10,body⟩ := by rw [List.getElem?_append_left hol]; exact hb1
    have hbl : rowsLen body = ts.length := by rw [← bodyV_len]; exact hb2.len
    have happ := fun bx => out_next (bx := bx) (mp := []) (hs bx) hn hrow hb1' hbl (fun e => by have := hrd o e; omega) hm
    rw [cut_all (ver := ver) hbl rfl] at happ
    refine ⟨_,_,(ar ++ X).set o ⟨ver + 1,10,catRows body new⟩,happ,fun bx => ?_,rfl,rfl,?_,.inr ⟨o,ver + 1,by simp,ho,?_⟩⟩
    · simp [Tn.apply]
    · rw [List.getElem?_set_ne ho,List.getElem?_append_left h0]
    · refine ⟨by simp,catRows body new,?_,?_⟩
      · rw [List.getElem?_set_self (by rw [List.length_append]; omega)]
      · rw [bodyV_cat,hn]
        exact (((hb2.push X).set _).snoc ((hr o (.inl hol)).set _))
theorem appLit {ar X0 : List Arr} {V0 : V} {ts : List Typ} {t : Typ} {row : List V} {n : Nat} (hO : OutV ar V0 ts) (h0 : 0 < ar.length) (hm : ts.length + 1 ≤ 2147483648) (hl : (ar ++ X0).length = n)
    (hr : ∀ o,o < ar.length ∨ n + 1 ≤ o → TRow (ar ++ X0 ++ [⟨0,10,.inr [row]⟩]) o row t) :
    ∃ V1 T ar',(∀ bx,appendV ⟨bx,ar ++ X0 ++ [⟨0,10,.inr [row]⟩],[]⟩ 10 V0 (.own n 0 0 1) = some (V1,T)) ∧ (∀ bx,T.apply ⟨bx,ar ++ X0 ++ [⟨0,10,.inr [row]⟩],[]⟩ = ⟨bx,ar',[]⟩) ∧ V1.cells = [V1] ∧ V1.calm = true ∧ ar'[0]? = ar[0]? ∧ OutV ar' V1 (ts ++ [t]) := by
  rw [List.append_assoc] at hr ⊢
  refine appOut (X := X0 ++ [⟨0,10,.inr [row]⟩]) (new := .inr [row]) (rd := some n) hO h0 hm (fun bx => ?_) rfl (fun o ho => ?_) (fun o ho => hr o ?_)
  · have hg : (ar ++ (X0 ++ [⟨0,10,.inr [row]⟩]))[n]? = some ⟨0,10,.inr [row]⟩ := by
      rw [← List.append_assoc,← hl]
      simp
    simp [srcRows,ownArr,hg,cutRows]
  · injection ho with ho
    rw [← ho,← hl,List.length_append]
    omega
  · rcases ho with ho | ho
    · exact .inl ho
    · rw [← List.append_assoc,List.length_append,hl] at ho
      exact .inr ho
set_option maxHeartbeats 16000000 in
theorem r275 (v : Nat) (l : List Typ) (i : Int) (hl : l.length ≤ 2147483648) (ho : ∀ t ∈ l,t.ok) (hs : ∀ t ∈ l,t.held) (hf : ∀ t ∈ l,∀ m ∈ t.mems,∀ n,VFit n m.dflt.c) :
    res A PrA 275 [.agg [.lst v (l.map Typ.c)],.int .i64 i] = some [.agg [.lst 0 ((prunedL l i).map Typ.c)],.lst 0 (ints (placeL l i)),.int .i64 (reachR l i).2] := by
  refine res_of a275 rfl rfl ?_
  simp only [F275]
  have h273 := fun v => r273 v l i hl ho hs
  have hlen := reachR_len (l := l) (i := i)
  have hok := reachR_ok (l := l) (i := i)
  have hno := reachR_no (l := l) (i := i)
  unfold prunedL placeL
  generalize (reachR l i).1 = L at *
  generalize (reachR l i).2 = e at *
  simp (disch := omega) only [go_sem,h273]
  refine Br.ofP (fun c => ?_) (fun c => ?_) <;> simp (disch := omega) only [go_sem,c]
  rotate_left
  · rw [hno c,if_pos c]
    rfl
  subst c
  obtain ⟨hsane,hnd,hin⟩ := hok rfl
  have h32 := hsane.len
  have hs : ∀ t ∈ l,t.short := fun t ht => own_short (hsane.own t ht)
  rw [if_neg (by simp)]
  refine W.upto l.length (fun k => ⟨[(2,.ptr 2 0),(4,.ptr 4 0),(7,.pv (.lst 0 (ints L))),(9,.own 0 0 0 l.length),(31,.pv (.int .i64 l.length)),(32,.pv (.int .i64 k))],⟨[(2,[.pv (.lst v (l.map Typ.c))]),(4,[.tl []])],[⟨0,1,.inl (ints (plK L l.length k))⟩],[]⟩⟩) (fun _ => True) ?_ trivial (fun k hk _ => ?_)
  · rw [plK_zero]
    rfl
  have hpk := plK_len L l.length k
  simp (disch := omega) only [go_sem]
  refine Br.ofP (fun c => ?_) (fun c => ?_)
  · have h118 := fun t => s118 t L (k : Int) (by omega)
    have hset := plK_set L l.length k (by omega)
    unfold idxI at hset
    simp (disch := omega) only [go_sem,h118]
    refine .of (by omega) ?_ trivial
    rw [hset]
    rfl
  obtain rfl : k = l.length := by omega
  simp (disch := omega) only [go_sem]
  have hpg : ∀ u : Int,0 ≤ u → u < l.length → (plK L l.length l.length)[u.toNat]? = some (idxI L u) := fun u h0 h1 => plK_get h0 h1
  clear hk c
  generalize plK L l.length l.length = pl at hpk hpg
  refine W.loop (α := Nat × List Arr × V) (fun x => ⟨[(2,.ptr 2 0),(4,.ptr 4 0),(9,.own 0 0 0 l.length),(11,.ptr 11 0),(42,.pv (.lst 0 (ints L))),(43,.pv (.int .i64 L.length)),(44,.pv (.int .i64 x.1))],⟨[(2,[.pv (.lst v (l.map Typ.c))]),(4,[.tl []]),(11,[x.2.2])],x.2.1,[]⟩⟩)
    (fun x => x.1 ≤ L.length ∧ x.2.1[0]? = some ⟨0,1,.inl (ints pl)⟩ ∧ OutV x.2.1 x.2.2 ((L.take x.1).map fun u => remapT L (typAt l u))) (fun x => L.length - x.1) (0,[⟨0,1,.inl (ints pl)⟩],.tl []) rfl ⟨Nat.zero_le _,rfl,.inl ⟨rfl,by simp⟩⟩ fun x hx => ?_
  obtain ⟨k,ar,V0⟩ := x
  obtain ⟨hk,hP,hO⟩ := hx
  dsimp only at hk hP hO
  simp (disch := omega) only [go_sem]
  refine Br.ofP (fun c => ?_) (fun c => ?_)
  rotate_left
  · obtain rfl : k = L.length := by omega
    rw [List.take_length] at hO
    rcases hO with ⟨rfl,h1⟩ | ⟨o,ver,rfl,h0,h1⟩
    · simp (disch := omega) only [go_sem,hP]
      rw [h1,List.take_of_length_le (by omega)]
      rfl
    · have hkeep := h1.keep [(4,[V.own o ver 0 (L.map fun u => remapT L (typAt l u)).length])] []
      simp only [keepc_own4,ownArr_mk,List.length_map] at hkeep
      simp (disch := omega) only [go_sem,hP]
      rw [hkeep,List.take_of_length_le (by omega)]
      rfl
  have hu := List.getElem?_eq_getElem (l := L) (i := k) (by omega)
  generalize L[k]'(by omega) = u at hu
  obtain ⟨hu0,hu1⟩ := hin u (List.mem_of_getElem? hu)
  have hget := typAt_get hu0 hu1
  have hidx := idx_typ (v := v) hu0 hu1
  have hm := List.mem_of_getElem? hget
  have h294 := r294 (typAt l u) (ho _ hm) (hs _ hm) (hf _ hm)
  have huses := hsane.uses _ hm
  have hsh := hs _ hm
  have hnext : (L.take (k + 1)).map (fun u => remapT L (typAt l u)) = (L.take k).map (fun u => remapT L (typAt l u)) ++ [remapT L (typAt l u)] := by
    rw [List.take_add_one,hu,List.map_append]
    rfl
  generalize typAt l u = p at *
  have hap : 0 < ar.length := (List.getElem?_eq_some_iff.1 hP).1
  unfold copC Typ.c at h294
  unfold Typ.c at hidx
  by_cases es : p.syms.map Sym.c = []
  · by_cases em : p.mems.map Mem.c = []
    · have fin : ∀ (kv ev : Int),(remapT L p).key = kv → (remapT L p).elem = ev → ∃ V1 T ar',(∀ bx,appendV ⟨bx,ar,[]⟩ 10 V0 (.tl [[.int .i64 p.kind,.str p.name,.int .i64 p.low,.int .i64 p.high,.int .i64 p.max,.lst 0 [],.lst 0 [],.int .i64 kv,.int .i64 ev,.bool p.opn]]) = some (V1,T)) ∧ (∀ bx,T.apply ⟨bx,ar,[]⟩ = ⟨bx,ar',[]⟩) ∧ V1.cells = [V1] ∧ V1.calm = true ∧ ar'[0]? = ar[0]? ∧ OutV ar' V1 ((L.take k).map (fun u => remapT L (typAt l u)) ++ [remapT L p]) := fun kv ev e1 e2 => by
        have := appOut (X := []) (t := remapT L p) (rd := none) (new := .inl [[.int .i64 p.kind,.str p.name,.int .i64 p.low,.int .i64 p.high,.int .i64 p.max,.lst 0 [],.lst 0 [],.int .i64 kv,.int .i64 ev,.bool p.opn]]) (y := .tl [[.int .i64 p.kind,.str p.name,.int .i64 p.low,.int .i64 p.high,.int .i64 p.max,.lst 0 [],.lst 0 [],.int .i64 kv,.int .i64 ev,.bool p.opn]]) hO hap (by simp; omega) (fun bx => rfl) rfl (fun o h => by cases h) (fun o _ => ⟨.pv (.lst 0 []),.pv (.lst 0 []),by rw [e1,e2]; rfl,.inl (by rw [show (remapT L p).syms = p.syms from rfl,es]),.inl (by rw [show (remapT L p).mems = p.mems.map (remapM L) from rfl,List.map_eq_nil_iff.1 em]; rfl)⟩)
        simpa only [List.append_nil] using this
      rw [es,em,frL_nil,frL_nil] at h294
      rw [es,em] at hidx
      unfold Typ.c
      simp (disch := omega) only [go_sem,hu,hidx,h294]
      refine W.once ?_
      simp (disch := omega) only [go_sem]
      refine Br.ofP (fun c => absurd c (by omega)) (fun _ => ?_)
      simp (disch := omega) only [go_sem]
      refine Br.ofP (fun c8 => ?_) (fun c8 => ?_)
      · obtain ⟨hk0,hk1⟩ := huses p.key (key_used c8)
        have h7 : 7 ≤ p.kind := by omega
        obtain ⟨he0,he1⟩ := huses p.elem (elem_used h7)
        have hpk := hpg p.key hk0 hk1
        have hpe := hpg p.elem he0 he1
        simp (disch := omega) only [go_sem,hP,hpk]
        refine Br.ofP (fun _ => ?_) (fun c7 => absurd h7 c7)
        simp (disch := omega) only [go_sem,hP,hpe]
        obtain ⟨V1,T,ar',happ,hT,hc1,hc2,hz,hO'⟩ := fin _ _ (if_pos c8) (if_pos h7)
        simp (disch := omega) only [go_sem,happ,hT,hc1,hc2]
        refine ⟨(k + 1,ar',V1),⟨by dsimp only; omega,by dsimp only; rw [hz,hP],by dsimp only; rw [hnext]; exact hO'⟩,by dsimp only; omega,rfl⟩
      simp (disch := omega) only [go_sem]
      refine Br.ofP (fun c7 => ?_) (fun c7 => ?_)
      · obtain ⟨he0,he1⟩ := huses p.elem (elem_used c7)
        have hpe := hpg p.elem he0 he1
        simp (disch := omega) only [go_sem,hP,hpe]
        obtain ⟨V1,T,ar',happ,hT,hc1,hc2,hz,hO'⟩ := fin _ _ (if_neg c8) (if_pos c7)
        simp (disch := omega) only [go_sem,happ,hT,hc1,hc2]
        refine ⟨(k + 1,ar',V1),⟨by dsimp only; omega,by dsimp only; rw [hz,hP],by dsimp only; rw [hnext]; exact hO'⟩,by dsimp only; omega,rfl⟩
      · simp (disch := omega) only [go_sem]
        obtain ⟨V1,T,ar',happ,hT,hc1,hc2,hz,hO'⟩ := fin _ _ (if_neg c8) (if_neg c7)
        simp (disch := omega) only [go_sem,happ,hT,hc1,hc2]
        refine ⟨(k + 1,ar',V1),⟨by dsimp only; omega,by dsimp only; rw [hz,hP],by dsimp only; rw [hnext]; exact hO'⟩,by dsimp only; omega,rfl⟩
    · have hml := hsh.mems
      have fin : ∀ (kv ev : Int),(remapT L p).key = kv → (remapT L p).elem = ev → ∃ V1 T ar',(∀ bx,appendV ⟨bx,ar ++ [⟨0,13,.inl ((p.mems.map (remapM L)).map Mem.c)⟩] ++ [⟨0,10,.inr [[.pv (.int .i64 p.kind),.pv (.str p.name),.pv (.int .i64 p.low),.pv (.int .i64 p.high),.pv (.int .i64 p.max),.pv (.lst 0 []),.own ar.length 0 0 p.mems.length,.pv (.int .i64 kv),.pv (.int .i64 ev),.pv (.bool p.opn)]]⟩],[]⟩ 10 V0 (.own (ar.length + 1) 0 0 1) = some (V1,T)) ∧ (∀ bx,T.apply ⟨bx,ar ++ [⟨0,13,.inl ((p.mems.map (remapM L)).map Mem.c)⟩] ++ [⟨0,10,.inr [[.pv (.int .i64 p.kind),.pv (.str p.name),.pv (.int .i64 p.low),.pv (.int .i64 p.high),.pv (.int .i64 p.max),.pv (.lst 0 []),.own ar.length 0 0 p.mems.length,.pv (.int .i64 kv),.pv (.int .i64 ev),.pv (.bool p.opn)]]⟩],[]⟩ = ⟨bx,ar',[]⟩) ∧ V1.cells = [V1] ∧ V1.calm = true ∧ ar'[0]? = ar[0]? ∧ OutV ar' V1 ((L.take k).map (fun u => remapT L (typAt l u)) ++ [remapT L p]) := fun kv ev e1 e2 =>
        appLit (X0 := [⟨0,13,.inl ((p.mems.map (remapM L)).map Mem.c)⟩]) hO hap (by simp; omega) (by simp) fun o ho => ⟨.pv (.lst 0 []),.own ar.length 0 0 p.mems.length,by rw [e1,e2]; rfl,.inl (by rw [show (remapT L p).syms = p.syms from rfl,es]),.inr (.inl ⟨ar.length,0,by simp [remapT],by omega,.whole (by simp [remapT])⟩)⟩
      have hne : p.mems.map Mem.c ≠ [] := em
      rw [es,frL_nil,show frL 13 (p.mems.map Mem.c) = .fr 13 ((mixJ L p.mems 0).map Mem.c) by rw [frL_cons hne,mixJ_zero]] at h294
      have hm0 := mixJ_len L p.mems 0
      rw [es] at hidx
      have gM : ∀ a : Arr,(ar ++ [a])[ar.length]? = some a := fun a => by simp
      have gP : ∀ a : Arr,(ar ++ [a])[0]? = some ⟨0,1,.inl (ints pl)⟩ := fun a => by rw [List.getElem?_append_left hap]; exact hP
      have sM : ∀ a b : Arr,(ar ++ [a]).set ar.length b = ar ++ [b] := fun a b => by simp
      unfold Typ.c
      simp (disch := omega) only [go_sem,hu,hidx,h294,hm0]
      refine W.upto p.mems.length ((fun (bx0 : List (Nat × List V)) => fun j => ⟨[(2,.ptr 2 0),(4,.ptr 4 0),(9,.own 0 0 0 l.length),(11,.ptr 11 0),(14,.ptr 14 0),(42,.pv (.lst 0 (ints L))),(43,.pv (.int .i64 L.length)),(44,.pv (.int .i64 k)),(56,.pv (.int .i64 p.mems.length)),(57,.pv (.int .i64 (j : Nat)))],⟨bx0,ar ++ [⟨0,13,.inl ((mixJ L p.mems j).map Mem.c)⟩],[]⟩⟩) _) (fun _ => True) rfl trivial (fun j hj _ => ?_)
      simp (disch := omega) only [go_sem]
      refine Br.ofP (fun c => ?_) (fun c => ?_)
      · have hr := List.getElem?_eq_getElem (l := p.mems) (i := j) (by omega)
        generalize p.mems[j]'(by omega) = m at hr
        have hmg := mixJ_get (L := L) hr
        have hms := mixJ_set (L := L) hr
        obtain ⟨ht0,ht1⟩ := huses m.type (mem_used (List.mem_of_getElem? hr))
        have hpt := hpg m.type ht0 ht1
        have hmj := mixJ_len L p.mems j
        have hst := fun id => mixJ_store (L := L) hr id
        simp (disch := omega) only [go_sem,gM,gP,sM,hmg,hpt,Mem.c,hst]
        exact .of (by omega) rfl trivial
      obtain rfl : j = p.mems.length := by omega
      rw [mixJ_all]
      simp (disch := omega) only [go_sem]
      refine Br.ofP (fun c8 => ?_) (fun c8 => ?_)
      · obtain ⟨hk0,hk1⟩ := huses p.key (key_used c8)
        have h7 : 7 ≤ p.kind := by omega
        obtain ⟨he0,he1⟩ := huses p.elem (elem_used h7)
        have hpk := hpg p.key hk0 hk1
        have hpe := hpg p.elem he0 he1
        simp (disch := omega) only [go_sem,gP,hpk]
        refine Br.ofP (fun _ => ?_) (fun c7 => absurd h7 c7)
        simp (disch := omega) only [go_sem,gP,hpe]
        obtain ⟨V1,T,ar',happ,hT,hc1,hc2,hz,hO'⟩ := fin _ _ (if_pos c8) (if_pos h7)
        simp (disch := omega) only [go_sem,happ,hT,hc1,hc2]
        refine ⟨(k + 1,ar',V1),⟨by dsimp only; omega,by dsimp only; rw [hz,hP],by dsimp only; rw [hnext]; exact hO'⟩,by dsimp only; omega,rfl⟩
      simp (disch := omega) only [go_sem]
      refine Br.ofP (fun c7 => ?_) (fun c7 => ?_)
      · obtain ⟨he0,he1⟩ := huses p.elem (elem_used c7)
        have hpe := hpg p.elem he0 he1
        simp (disch := omega) only [go_sem,gP,hpe]
        obtain ⟨V1,T,ar',happ,hT,hc1,hc2,hz,hO'⟩ := fin _ _ (if_neg c8) (if_pos c7)
        simp (disch := omega) only [go_sem,happ,hT,hc1,hc2]
        refine ⟨(k + 1,ar',V1),⟨by dsimp only; omega,by dsimp only; rw [hz,hP],by dsimp only; rw [hnext]; exact hO'⟩,by dsimp only; omega,rfl⟩
      · simp (disch := omega) only [go_sem]
        obtain ⟨V1,T,ar',happ,hT,hc1,hc2,hz,hO'⟩ := fin _ _ (if_neg c8) (if_neg c7)
        simp (disch := omega) only [go_sem,happ,hT,hc1,hc2]
        refine ⟨(k + 1,ar',V1),⟨by dsimp only; omega,by dsimp only; rw [hz,hP],by dsimp only; rw [hnext]; exact hO'⟩,by dsimp only; omega,rfl⟩
  · by_cases em : p.mems.map Mem.c = []
    · have fin : ∀ (kv ev : Int),(remapT L p).key = kv → (remapT L p).elem = ev → ∃ V1 T ar',(∀ bx,appendV ⟨bx,ar ++ [⟨0,2,.inl (p.syms.map Sym.c)⟩] ++ [⟨0,10,.inr [[.pv (.int .i64 p.kind),.pv (.str p.name),.pv (.int .i64 p.low),.pv (.int .i64 p.high),.pv (.int .i64 p.max),.own ar.length 0 0 p.syms.length,.pv (.lst 0 []),.pv (.int .i64 kv),.pv (.int .i64 ev),.pv (.bool p.opn)]]⟩],[]⟩ 10 V0 (.own (ar.length + 1) 0 0 1) = some (V1,T)) ∧ (∀ bx,T.apply ⟨bx,ar ++ [⟨0,2,.inl (p.syms.map Sym.c)⟩] ++ [⟨0,10,.inr [[.pv (.int .i64 p.kind),.pv (.str p.name),.pv (.int .i64 p.low),.pv (.int .i64 p.high),.pv (.int .i64 p.max),.own ar.length 0 0 p.syms.length,.pv (.lst 0 []),.pv (.int .i64 kv),.pv (.int .i64 ev),.pv (.bool p.opn)]]⟩],[]⟩ = ⟨bx,ar',[]⟩) ∧ V1.cells = [V1] ∧ V1.calm = true ∧ ar'[0]? = ar[0]? ∧ OutV ar' V1 ((L.take k).map (fun u => remapT L (typAt l u)) ++ [remapT L p]) := fun kv ev e1 e2 =>
        appLit (X0 := [⟨0,2,.inl (p.syms.map Sym.c)⟩]) hO hap (by simp; omega) (by simp) fun o ho => ⟨.own ar.length 0 0 p.syms.length,.pv (.lst 0 []),by rw [e1,e2]; rfl,.inr (.inl ⟨ar.length,0,by simp [remapT],by omega,.whole (by simp [remapT])⟩),.inl (by rw [show (remapT L p).mems = p.mems.map (remapM L) from rfl,List.map_eq_nil_iff.1 em]; rfl)⟩
      have hns : p.syms.map Sym.c ≠ [] := es
      rw [frL_cons hns,em,frL_nil] at h294
      rw [em] at hidx
      have hsl := hsh.syms
      have gP : ∀ a : Arr,(ar ++ [a])[0]? = some ⟨0,1,.inl (ints pl)⟩ := fun a => by rw [List.getElem?_append_left hap]; exact hP
      unfold Typ.c
      simp (disch := omega) only [go_sem,hu,hidx,h294]
      refine W.once ?_
      simp (disch := omega) only [go_sem]
      refine Br.ofP (fun c => absurd c (by omega)) (fun _ => ?_)
      simp (disch := omega) only [go_sem]
      refine Br.ofP (fun c8 => ?_) (fun c8 => ?_)
      · obtain ⟨hk0,hk1⟩ := huses p.key (key_used c8)
        have h7 : 7 ≤ p.kind := by omega
        obtain ⟨he0,he1⟩ := huses p.elem (elem_used h7)
        have hpk := hpg p.key hk0 hk1
        have hpe := hpg p.elem he0 he1
        simp (disch := omega) only [go_sem,gP,hpk]
        refine Br.ofP (fun _ => ?_) (fun c7 => absurd h7 c7)
        simp (disch := omega) only [go_sem,gP,hpe]
        obtain ⟨V1,T,ar',happ,hT,hc1,hc2,hz,hO'⟩ := fin _ _ (if_pos c8) (if_pos h7)
        simp (disch := omega) only [go_sem,happ,hT,hc1,hc2]
        refine ⟨(k + 1,ar',V1),⟨by dsimp only; omega,by dsimp only; rw [hz,hP],by dsimp only; rw [hnext]; exact hO'⟩,by dsimp only; omega,rfl⟩
      simp (disch := omega) only [go_sem]
      refine Br.ofP (fun c7 => ?_) (fun c7 => ?_)
      · obtain ⟨he0,he1⟩ := huses p.elem (elem_used c7)
        have hpe := hpg p.elem he0 he1
        simp (disch := omega) only [go_sem,gP,hpe]
        obtain ⟨V1,T,ar',happ,hT,hc1,hc2,hz,hO'⟩ := fin _ _ (if_neg c8) (if_pos c7)
        simp (disch := omega) only [go_sem,happ,hT,hc1,hc2]
        refine ⟨(k + 1,ar',V1),⟨by dsimp only; omega,by dsimp only; rw [hz,hP],by dsimp only; rw [hnext]; exact hO'⟩,by dsimp only; omega,rfl⟩
      · simp (disch := omega) only [go_sem]
        obtain ⟨V1,T,ar',happ,hT,hc1,hc2,hz,hO'⟩ := fin _ _ (if_neg c8) (if_neg c7)
        simp (disch := omega) only [go_sem,happ,hT,hc1,hc2]
        refine ⟨(k + 1,ar',V1),⟨by dsimp only; omega,by dsimp only; rw [hz,hP],by dsimp only; rw [hnext]; exact hO'⟩,by dsimp only; omega,rfl⟩
    · have hml := hsh.mems
      have hsl := hsh.syms
      have fin : ∀ (kv ev : Int),(remapT L p).key = kv → (remapT L p).elem = ev → ∃ V1 T ar',(∀ bx,appendV ⟨bx,ar ++ [⟨0,2,.inl (p.syms.map Sym.c)⟩,⟨0,13,.inl ((p.mems.map (remapM L)).map Mem.c)⟩] ++ [⟨0,10,.inr [[.pv (.int .i64 p.kind),.pv (.str p.name),.pv (.int .i64 p.low),.pv (.int .i64 p.high),.pv (.int .i64 p.max),.own ar.length 0 0 p.syms.length,.own (ar.length + 1) 0 0 p.mems.length,.pv (.int .i64 kv),.pv (.int .i64 ev),.pv (.bool p.opn)]]⟩],[]⟩ 10 V0 (.own (ar.length + 2) 0 0 1) = some (V1,T)) ∧ (∀ bx,T.apply ⟨bx,ar ++ [⟨0,2,.inl (p.syms.map Sym.c)⟩,⟨0,13,.inl ((p.mems.map (remapM L)).map Mem.c)⟩] ++ [⟨0,10,.inr [[.pv (.int .i64 p.kind),.pv (.str p.name),.pv (.int .i64 p.low),.pv (.int .i64 p.high),.pv (.int .i64 p.max),.own ar.length 0 0 p.syms.length,.own (ar.length + 1) 0 0 p.mems.length,.pv (.int .i64 kv),.pv (.int .i64 ev),.pv (.bool p.opn)]]⟩],[]⟩ = ⟨bx,ar',[]⟩) ∧ V1.cells = [V1] ∧ V1.calm = true ∧ ar'[0]? = ar[0]? ∧ OutV ar' V1 ((L.take k).map (fun u => remapT L (typAt l u)) ++ [remapT L p]) := fun kv ev e1 e2 =>
        appLit (X0 := [⟨0,2,.inl (p.syms.map Sym.c)⟩,⟨0,13,.inl ((p.mems.map (remapM L)).map Mem.c)⟩]) hO hap (by simp; omega) (by simp) fun o ho => ⟨.own ar.length 0 0 p.syms.length,.own (ar.length + 1) 0 0 p.mems.length,by rw [e1,e2]; rfl,.inr (.inl ⟨ar.length,0,by simp [remapT],by omega,.whole (by simp [remapT])⟩),.inr (.inl ⟨ar.length + 1,0,by simp [remapT],by omega,.whole (by simp [remapT])⟩)⟩
      have hne : p.mems.map Mem.c ≠ [] := em
      have hns : p.syms.map Sym.c ≠ [] := es
      rw [frL_cons hns,show frL 13 (p.mems.map Mem.c) = .fr 13 ((mixJ L p.mems 0).map Mem.c) by rw [frL_cons hne,mixJ_zero]] at h294
      have hm0 := mixJ_len L p.mems 0
      have gM : ∀ a : Arr,(ar ++ [⟨0,2,.inl (p.syms.map Sym.c)⟩,a])[ar.length + 1]? = some a := fun a => by simp
      have gP : ∀ a b : Arr,(ar ++ [b,a])[0]? = some ⟨0,1,.inl (ints pl)⟩ := fun a b => by rw [List.getElem?_append_left hap]; exact hP
      have sM : ∀ a b : Arr,(ar ++ [⟨0,2,.inl (p.syms.map Sym.c)⟩,a]).set (ar.length + 1) b = ar ++ [⟨0,2,.inl (p.syms.map Sym.c)⟩,b] := fun a b => by simp
      unfold Typ.c
      simp (disch := omega) only [go_sem,hu,hidx,h294,hm0]
      refine W.upto p.mems.length ((fun (bx0 : List (Nat × List V)) => fun j => ⟨[(2,.ptr 2 0),(4,.ptr 4 0),(9,.own 0 0 0 l.length),(11,.ptr 11 0),(14,.ptr 14 0),(42,.pv (.lst 0 (ints L))),(43,.pv (.int .i64 L.length)),(44,.pv (.int .i64 k)),(56,.pv (.int .i64 p.mems.length)),(57,.pv (.int .i64 (j : Nat)))],⟨bx0,ar ++ [⟨0,2,.inl (p.syms.map Sym.c)⟩,⟨0,13,.inl ((mixJ L p.mems j).map Mem.c)⟩],[]⟩⟩) _) (fun _ => True) rfl trivial (fun j hj _ => ?_)
      simp (disch := omega) only [go_sem]
      refine Br.ofP (fun c => ?_) (fun c => ?_)
      · have hr := List.getElem?_eq_getElem (l := p.mems) (i := j) (by omega)
        generalize p.mems[j]'(by omega) = m at hr
        have hmg := mixJ_get (L := L) hr
        have hms := mixJ_set (L := L) hr
        obtain ⟨ht0,ht1⟩ := huses m.type (mem_used (List.mem_of_getElem? hr))
        have hpt := hpg m.type ht0 ht1
        have hmj := mixJ_len L p.mems j
        have hst := fun id => mixJ_store (L := L) hr id
        simp (disch := omega) only [go_sem,gM,gP,sM,hmg,hpt,Mem.c,hst]
        exact .of (by omega) rfl trivial
      obtain rfl : j = p.mems.length := by omega
      rw [mixJ_all]
      simp (disch := omega) only [go_sem]
      refine Br.ofP (fun c8 => ?_) (fun c8 => ?_)
      · obtain ⟨hk0,hk1⟩ := huses p.key (key_used c8)
        have h7 : 7 ≤ p.kind := by omega
        obtain ⟨he0,he1⟩ := huses p.elem (elem_used h7)
        have hpk := hpg p.key hk0 hk1
        have hpe := hpg p.elem he0 he1
        simp (disch := omega) only [go_sem,gP,hpk]
        refine Br.ofP (fun _ => ?_) (fun c7 => absurd h7 c7)
        simp (disch := omega) only [go_sem,gP,hpe]
        obtain ⟨V1,T,ar',happ,hT,hc1,hc2,hz,hO'⟩ := fin _ _ (if_pos c8) (if_pos h7)
        simp (disch := omega) only [go_sem,happ,hT,hc1,hc2]
        refine ⟨(k + 1,ar',V1),⟨by dsimp only; omega,by dsimp only; rw [hz,hP],by dsimp only; rw [hnext]; exact hO'⟩,by dsimp only; omega,rfl⟩
      simp (disch := omega) only [go_sem]
      refine Br.ofP (fun c7 => ?_) (fun c7 => ?_)
      · obtain ⟨he0,he1⟩ := huses p.elem (elem_used c7)
        have hpe := hpg p.elem he0 he1
        simp (disch := omega) only [go_sem,gP,hpe]
        obtain ⟨V1,T,ar',happ,hT,hc1,hc2,hz,hO'⟩ := fin _ _ (if_neg c8) (if_pos c7)
        simp (disch := omega) only [go_sem,happ,hT,hc1,hc2]
        refine ⟨(k + 1,ar',V1),⟨by dsimp only; omega,by dsimp only; rw [hz,hP],by dsimp only; rw [hnext]; exact hO'⟩,by dsimp only; omega,rfl⟩
      · simp (disch := omega) only [go_sem]
        obtain ⟨V1,T,ar',happ,hT,hc1,hc2,hz,hO'⟩ := fin _ _ (if_neg c8) (if_neg c7)
        simp (disch := omega) only [go_sem,happ,hT,hc1,hc2]
        refine ⟨(k + 1,ar',V1),⟨by dsimp only; omega,by dsimp only; rw [hz,hP],by dsimp only; rw [hnext]; exact hO'⟩,by dsimp only; omega,rfl⟩
end Go.Pv
namespace Go.Pv
def mK (n k : Nat) : List Int := List.replicate k (-1) ++ List.replicate (n - k) 0
theorem mK_len {n k : Nat} (h : k ≤ n) : (mK n k).length = n := by
  simp [mK]
  omega
theorem mK_zero (n : Nat) : mK n 0 = List.replicate n 0 := by simp [mK]
theorem mK_set {n k : Nat} (h : k < n) : (mK n k).set k (-1) = mK n (k + 1) := by
  unfold mK
  have e : n - k = (n - (k + 1)) + 1 := by omega
  rw [List.set_append_right _ _ (by simp),List.length_replicate,Nat.sub_self,e,List.replicate_succ,List.set_cons_zero,List.replicate_succ',List.append_assoc]
  rfl
def plB (L : List Int) (n k : Nat) : List Int := (List.range n).map fun (j : Nat) => idxI (L.take k) (j : Int)
theorem plB_len (L : List Int) (n k : Nat) : (plB L n k).length = n := by simp [plB]
theorem plB_zero (L : List Int) (n : Nat) : plB L n 0 = mK n n := by
  apply List.ext_getElem
  · rw [plB_len,mK_len (Nat.le_refl n)]
  · intro i h1 h2
    rw [plB_len] at h1
    simp [plB,mK,idxI,firstI]
theorem plB_all (L : List Int) (n : Nat) : plB L n L.length = plK L n n := by
  unfold plB plK
  rw [List.take_length]
  apply List.map_congr_left
  intro j hj
  rw [if_pos (List.mem_range.1 hj)]
theorem idxI_snoc_ne {L : List Int} {u j : Int} (h : u ≠ j) : idxI (L ++ [u]) j = idxI L j := by
  unfold idxI firstI
  rw [List.findIdx?_append]
  have : List.findIdx? (fun y => decide (y = j)) [u] = none := by simp [List.findIdx?_cons,h]
  rw [this]
  cases L.findIdx? (fun y => decide (y = j)) <;> rfl
theorem idxI_snoc {L : List Int} {u : Int} (h : ¬ u ∈ L) : idxI (L ++ [u]) u = L.length := by
  unfold idxI firstI
  rw [List.findIdx?_append]
  have h1 : L.findIdx? (fun y => decide (y = u)) = none := by
    rw [List.findIdx?_eq_none_iff]
    intro x hx
    simp only [decide_eq_false_iff_not]
    exact fun e => h (e ▸ hx)
  have h2 : List.findIdx? (fun y => decide (y = u)) [u] = some 0 := by simp [List.findIdx?_cons]
  rw [h1,h2]
  simp
theorem plB_set {L : List Int} {n k : Nat} {u : Int} (hu : L[k]? = some u) (hd : L.Nodup) (h0 : 0 ≤ u) (_h1 : u < n) : (plB L n k).set u.toNat (k : Int) = plB L n (k + 1) := by
  have hk := (List.getElem?_eq_some_iff.1 hu).1
  have ht : L.take (k + 1) = L.take k ++ [u] := by rw [List.take_add_one,hu]; rfl
  have hn : ¬ u ∈ L.take k := by
    rw [← List.take_append_drop k L,List.nodup_append] at hd
    intro hm
    have hdr : u ∈ L.drop k := by
      rw [drop_atS hu]
      exact List.mem_cons_self ..
    exact hd.2.2 u hm u hdr rfl
  apply List.ext_getElem
  · simp [plB]
  · intro i h2 h3
    rw [List.getElem_set]
    have hi : i < n := by rw [plB_len] at h3; exact h3
    by_cases e : u.toNat = i
    · rw [if_pos e]
      have hu' : ((i : Nat) : Int) = u := by omega
      simp only [plB,List.getElem_map,List.getElem_range,hu',ht]
      rw [idxI_snoc hn,List.length_take]
      omega
    · rw [if_neg e]
      have hu' : u ≠ ((i : Nat) : Int) := by omega
      simp only [plB,List.getElem_map,List.getElem_range,ht]
      rw [idxI_snoc_ne hu']
theorem app_lst0 (h : Heap) (k : Nat) : appendV h k (.tl []) (.pv (.lst 0 [])) = some (.tl [],{}) := by
  simp [appendV,srcRows,rowsFit,rowsLen]
theorem app_lst {h : Heap} {k : Nat} {rows : List (List PV)} (h0 : rows ≠ []) (hr : ∀ r ∈ rows,r.length = k) (hm : rows.length ≤ 2147483648) : appendV h k (.tl []) (.pv (.lst 0 rows)) = some (.own h.ar.length 0 0 rows.length,{ push := [⟨0,k,.inl rows⟩],base := h.ar.length }) := by
  have hl : ¬ rows.length = 0 := fun e => h0 (List.eq_nil_of_length_eq_zero e)
  have hf := rowsFit_all hr
  have h01 : (0 : Nat) ≤ 1 := by decide
  simp only [appendV,srcRows,h01,if_true,hf,rowsLen,if_neg hl,catRows,List.nil_append,List.length_nil,Nat.zero_add,mostRows]
  simp only [hm,rowsFit,List.all_nil,and_self,if_true]
set_option maxHeartbeats 16000000 in
theorem r276 (v : Nat) (l : List Typ) (i : Int) (hl : l.length ≤ 2147483648) (ho : ∀ t ∈ l,t.ok) (hs : ∀ t ∈ l,t.held) :
    res A PrA 276 [.agg [.lst v (l.map Typ.c)],.int .i64 i] = some [.agg [.lst 0 ((prunedL l i).map Typ.c)],.lst 0 (ints (placeL l i)),.int .i64 (reachR l i).2] := by
  refine res_of a276 rfl rfl ?_
  simp only [F276]
  have h274 := fun v => r274 v l i hl ho hs
  have hlen := reachR_len (l := l) (i := i)
  have hok := reachR_ok (l := l) (i := i)
  have hno := reachR_no (l := l) (i := i)
  unfold prunedL placeL
  generalize (reachR l i).1 = L at *
  generalize (reachR l i).2 = e at *
  simp (disch := omega) only [go_sem,h274]
  refine Br.ofP (fun c => ?_) (fun c => ?_) <;> simp (disch := omega) only [go_sem,c]
  rotate_left
  · rw [hno c,if_pos c]
    rfl
  subst c
  obtain ⟨hsane,hnd,hin⟩ := hok rfl
  have h32 := hsane.len
  have hs : ∀ t ∈ l,t.short := fun t ht => own_short (hsane.own t ht)
  rw [if_neg (by simp)]
  refine W.upto l.length (fun k => ⟨[(2,.ptr 2 0),(4,.ptr 4 0),(7,.pv (.lst 0 (ints L))),(9,.own 0 0 0 l.length),(10,.pv (.int .i64 k))],⟨[(2,[.pv (.lst v (l.map Typ.c))]),(4,[.tl []])],[⟨0,1,.inl (ints (mK l.length k))⟩],[]⟩⟩) (fun _ => True) ?_ trivial (fun k hk _ => ?_)
  · rw [mK_zero]
    rfl
  have hpk := mK_len hk
  simp (disch := omega) only [go_sem]
  refine Br.ofP (fun c => ?_) (fun c => ?_)
  · have hset := mK_set (n := l.length) (k := k) (by omega)
    simp (disch := omega) only [go_sem]
    refine .of (by omega) ?_ trivial
    rw [hset]
    rfl
  obtain rfl : k = l.length := by omega
  rw [← plB_zero L]
  clear hk c hpk
  simp (disch := omega) only [go_sem]
  refine W.upto L.length (fun k => ⟨[(2,.ptr 2 0),(4,.ptr 4 0),(7,.pv (.lst 0 (ints L))),(9,.own 0 0 0 l.length),(11,.pv (.int .i64 k))],⟨[(2,[.pv (.lst v (l.map Typ.c))]),(4,[.tl []])],[⟨0,1,.inl (ints (plB L l.length k))⟩],[]⟩⟩) (fun _ => True) rfl trivial (fun k hk _ => ?_)
  have hpk := plB_len L l.length k
  simp (disch := omega) only [go_sem]
  refine Br.ofP (fun c => ?_) (fun c => ?_)
  · have hu := List.getElem?_eq_getElem (l := L) (i := k) (by omega)
    generalize L[k]'(by omega) = u at hu
    obtain ⟨hu0,hu1⟩ := hin u (List.mem_of_getElem? hu)
    have hset := plB_set hu hnd hu0 hu1
    simp (disch := omega) only [go_sem,hu]
    refine .of (by omega) ?_ trivial
    rw [hset]
    rfl
  obtain rfl : k = L.length := by omega
  rw [plB_all] at *
  simp (disch := omega) only [go_sem]
  have hpg : ∀ u : Int,0 ≤ u → u < l.length → (plK L l.length l.length)[u.toNat]? = some (idxI L u) := fun u h0 h1 => plK_get h0 h1
  clear hk c
  generalize plK L l.length l.length = pl at hpk hpg
  refine W.loop (α := Nat × List Arr × V) (fun x => ⟨[(2,.ptr 2 0),(4,.ptr 4 0),(7,.pv (.lst 0 (ints L))),(9,.own 0 0 0 l.length),(12,.ptr 12 0),(13,.pv (.int .i64 x.1))],⟨[(2,[.pv (.lst v (l.map Typ.c))]),(4,[.tl []]),(12,[x.2.2])],x.2.1,[]⟩⟩)
    (fun x => x.1 ≤ L.length ∧ x.2.1[0]? = some ⟨0,1,.inl (ints pl)⟩ ∧ OutV x.2.1 x.2.2 ((L.take x.1).map fun u => remapT L (typAt l u))) (fun x => L.length - x.1) (0,[⟨0,1,.inl (ints pl)⟩],.tl []) rfl ⟨Nat.zero_le _,rfl,.inl ⟨rfl,by simp⟩⟩ fun x hx => ?_
  obtain ⟨k,ar,V0⟩ := x
  obtain ⟨hk,hP,hO⟩ := hx
  dsimp only at hk hP hO
  simp (disch := omega) only [go_sem]
  refine Br.ofP (fun c => ?_) (fun c => ?_)
  rotate_left
  · obtain rfl : k = L.length := by omega
    rw [List.take_length] at hO
    rcases hO with ⟨rfl,h1⟩ | ⟨o,ver,rfl,h0,h1⟩
    · simp (disch := omega) only [go_sem,hP]
      rw [h1,List.take_of_length_le (by omega)]
      rfl
    · have hkeep := h1.keep [(4,[V.own o ver 0 (L.map fun u => remapT L (typAt l u)).length])] []
      simp only [keepc_own4,ownArr_mk,List.length_map] at hkeep
      simp (disch := omega) only [go_sem,hP]
      rw [hkeep,List.take_of_length_le (by omega)]
      rfl
  have hu := List.getElem?_eq_getElem (l := L) (i := k) (by omega)
  generalize L[k]'(by omega) = u at hu
  obtain ⟨hu0,hu1⟩ := hin u (List.mem_of_getElem? hu)
  have hget := typAt_get hu0 hu1
  have hidx := idx_typ (v := v) hu0 hu1
  have hm := List.mem_of_getElem? hget
  have hk9 := own_kind (hsane.own _ hm)
  have huses := hsane.uses _ hm
  have hsh := hs _ hm
  have hml := hsh.mems
  have hnext : (L.take (k + 1)).map (fun u => remapT L (typAt l u)) = (L.take k).map (fun u => remapT L (typAt l u)) ++ [remapT L (typAt l u)] := by
    rw [List.take_add_one,hu,List.map_append]
    rfl
  generalize typAt l u = p at *
  have hap : 0 < ar.length := (List.getElem?_eq_some_iff.1 hP).1
  unfold Typ.c at hidx
  by_cases em : p.mems.map Mem.c = []
  · have fin : ∀ (kv ev : Int),(remapT L p).key = kv → (remapT L p).elem = ev → ∃ V1 T ar',(∀ bx,appendV ⟨bx,ar ++ [⟨0,10,.inr [[.pv (.int .i64 p.kind),.pv (.str p.name),.pv (.int .i64 p.low),.pv (.int .i64 p.high),.pv (.int .i64 p.max),.pv (.lst 0 (p.syms.map Sym.c)),.tl [],.pv (.int .i64 kv),.pv (.int .i64 ev),.pv (.bool p.opn)]]⟩],[]⟩ 10 V0 (.own ar.length 0 0 1) = some (V1,T)) ∧ (∀ bx,T.apply ⟨bx,ar ++ [⟨0,10,.inr [[.pv (.int .i64 p.kind),.pv (.str p.name),.pv (.int .i64 p.low),.pv (.int .i64 p.high),.pv (.int .i64 p.max),.pv (.lst 0 (p.syms.map Sym.c)),.tl [],.pv (.int .i64 kv),.pv (.int .i64 ev),.pv (.bool p.opn)]]⟩],[]⟩ = ⟨bx,ar',[]⟩) ∧ V1.cells = [V1] ∧ V1.calm = true ∧ ar'[0]? = ar[0]? ∧ OutV ar' V1 ((L.take k).map (fun u => remapT L (typAt l u)) ++ [remapT L p]) := fun kv ev e1 e2 => by
      have := appLit (X0 := []) (row := [.pv (.int .i64 p.kind),.pv (.str p.name),.pv (.int .i64 p.low),.pv (.int .i64 p.high),.pv (.int .i64 p.max),.pv (.lst 0 (p.syms.map Sym.c)),.tl [],.pv (.int .i64 kv),.pv (.int .i64 ev),.pv (.bool p.opn)]) (n := ar.length) (t := remapT L p) hO hap (by simp; omega) (by simp) fun o ho => ⟨.pv (.lst 0 (p.syms.map Sym.c)),.tl [],by rw [e1,e2]; rfl,.inl rfl,.inr (.inr (by rw [show (remapT L p).mems = p.mems.map (remapM L) from rfl,List.map_eq_nil_iff.1 em]; rfl))⟩
      simpa only [List.append_nil] using this
    rw [em] at hidx
    unfold Typ.c
    simp (disch := omega) only [go_sem,hu,hidx,app_lst0]
    refine W.once ?_
    simp (disch := omega) only [go_sem]
    refine Br.ofP (fun c => absurd c (by omega)) (fun _ => ?_)
    simp (disch := omega) only [go_sem]
    refine Br.ofP (fun c8 => ?_) (fun c8 => ?_)
    · obtain ⟨hk0,hk1⟩ := huses p.key (key_used c8)
      have h7 : 7 ≤ p.kind := by omega
      obtain ⟨he0,he1⟩ := huses p.elem (elem_used h7)
      have hpk := hpg p.key hk0 hk1
      have hpe := hpg p.elem he0 he1
      simp (disch := omega) only [go_sem,hP,hpk]
      refine Br.ofP (fun c7 => absurd c7 (by omega)) (fun c7 => ?_)
      have d7 : decide (p.kind = 7) = false := by simp [c7]
      simp (disch := omega) only [go_sem,d7]
      refine Br.ofP (fun _ => ?_) (fun c => absurd c8 c)
      have d8 : decide (p.kind = 8) = true := by simp [c8]
      simp (disch := omega) only [go_sem,hP,hpe,d8]
      obtain ⟨V1,T,ar',happ,hT,hc1,hc2,hz,hO'⟩ := fin _ _ (if_pos c8) (if_pos h7)
      simp (disch := omega) only [go_sem,happ,hT,hc1,hc2]
      exact ⟨(k + 1,ar',V1),⟨by dsimp only; omega,by dsimp only; rw [hz,hP],by dsimp only; rw [hnext]; exact hO'⟩,by dsimp only; omega,rfl⟩
    simp (disch := omega) only [go_sem]
    refine Br.ofP (fun c7 => ?_) (fun c7 => ?_)
    · have h7 : 7 ≤ p.kind := by omega
      obtain ⟨he0,he1⟩ := huses p.elem (elem_used h7)
      have hpe := hpg p.elem he0 he1
      have d7 : decide (p.kind = 7) = true := by simp [c7]
      simp (disch := omega) only [go_sem,hP,hpe,d7]
      obtain ⟨V1,T,ar',happ,hT,hc1,hc2,hz,hO'⟩ := fin _ _ (if_neg c8) (if_pos h7)
      simp (disch := omega) only [go_sem,happ,hT,hc1,hc2]
      exact ⟨(k + 1,ar',V1),⟨by dsimp only; omega,by dsimp only; rw [hz,hP],by dsimp only; rw [hnext]; exact hO'⟩,by dsimp only; omega,rfl⟩
    have d7 : decide (p.kind = 7) = false := by simp [c7]
    have d8 : decide (p.kind = 8) = false := by simp [c8]
    simp (disch := omega) only [go_sem,d7,d8]
    refine Br.ofP (fun c9 => ?_) (fun c9 => ?_)
    · have h7 : 7 ≤ p.kind := by omega
      obtain ⟨he0,he1⟩ := huses p.elem (elem_used h7)
      have hpe := hpg p.elem he0 he1
      simp (disch := omega) only [go_sem,hP,hpe]
      obtain ⟨V1,T,ar',happ,hT,hc1,hc2,hz,hO'⟩ := fin _ _ (if_neg c8) (if_pos h7)
      simp (disch := omega) only [go_sem,happ,hT,hc1,hc2]
      exact ⟨(k + 1,ar',V1),⟨by dsimp only; omega,by dsimp only; rw [hz,hP],by dsimp only; rw [hnext]; exact hO'⟩,by dsimp only; omega,rfl⟩
    · have h7 : ¬ 7 ≤ p.kind := by omega
      simp (disch := omega) only [go_sem]
      obtain ⟨V1,T,ar',happ,hT,hc1,hc2,hz,hO'⟩ := fin _ _ (if_neg c8) (if_neg h7)
      simp (disch := omega) only [go_sem,happ,hT,hc1,hc2]
      exact ⟨(k + 1,ar',V1),⟨by dsimp only; omega,by dsimp only; rw [hz,hP],by dsimp only; rw [hnext]; exact hO'⟩,by dsimp only; omega,rfl⟩
  · have fin : ∀ (kv ev : Int),(remapT L p).key = kv → (remapT L p).elem = ev → ∃ V1 T ar',(∀ bx,appendV ⟨bx,ar ++ [⟨0,13,.inl ((p.mems.map (remapM L)).map Mem.c)⟩] ++ [⟨0,10,.inr [[.pv (.int .i64 p.kind),.pv (.str p.name),.pv (.int .i64 p.low),.pv (.int .i64 p.high),.pv (.int .i64 p.max),.pv (.lst 0 (p.syms.map Sym.c)),.own ar.length 0 0 p.mems.length,.pv (.int .i64 kv),.pv (.int .i64 ev),.pv (.bool p.opn)]]⟩],[]⟩ 10 V0 (.own (ar.length + 1) 0 0 1) = some (V1,T)) ∧ (∀ bx,T.apply ⟨bx,ar ++ [⟨0,13,.inl ((p.mems.map (remapM L)).map Mem.c)⟩] ++ [⟨0,10,.inr [[.pv (.int .i64 p.kind),.pv (.str p.name),.pv (.int .i64 p.low),.pv (.int .i64 p.high),.pv (.int .i64 p.max),.pv (.lst 0 (p.syms.map Sym.c)),.own ar.length 0 0 p.mems.length,.pv (.int .i64 kv),.pv (.int .i64 ev),.pv (.bool p.opn)]]⟩],[]⟩ = ⟨bx,ar',[]⟩) ∧ V1.cells = [V1] ∧ V1.calm = true ∧ ar'[0]? = ar[0]? ∧ OutV ar' V1 ((L.take k).map (fun u => remapT L (typAt l u)) ++ [remapT L p]) := fun kv ev e1 e2 =>
      appLit (X0 := [⟨0,13,.inl ((p.mems.map (remapM L)).map Mem.c)⟩]) hO hap (by simp; omega) (by simp) fun o ho => ⟨.pv (.lst 0 (p.syms.map Sym.c)),.own ar.length 0 0 p.mems.length,by rw [e1,e2]; rfl,.inl rfl,.inr (.inl ⟨ar.length,0,by simp [remapT],by omega,.whole (by simp [remapT])⟩)⟩
    have hne : p.mems.map Mem.c ≠ [] := em
    have happ0 : ∀ bx,appendV ⟨bx,ar,[]⟩ 13 (.tl []) (.pv (.lst 0 (p.mems.map Mem.c))) = some (.own ar.length 0 0 p.mems.length,{ push := [⟨0,13,.inl ((mixJ L p.mems 0).map Mem.c)⟩],base := ar.length }) := fun bx => by
      rw [app_lst hne (fun r hr => by
        obtain ⟨x,_,rfl⟩ := List.mem_map.1 hr
        rfl) (by rw [List.length_map]; omega),mixJ_zero,List.length_map]
    have gM : ∀ a : Arr,(ar ++ [a])[ar.length]? = some a := fun a => by simp
    have gP : ∀ a : Arr,(ar ++ [a])[0]? = some ⟨0,1,.inl (ints pl)⟩ := fun a => by rw [List.getElem?_append_left hap]; exact hP
    have sM : ∀ a b : Arr,(ar ++ [a]).set ar.length b = ar ++ [b] := fun a b => by simp
    unfold Typ.c
    simp (disch := omega) only [go_sem,hu,hidx,happ0]
    refine W.upto p.mems.length ((fun (bx0 : List (Nat × List V)) => fun j => ⟨[(2,.ptr 2 0),(4,.ptr 4 0),(7,.pv (.lst 0 (ints L))),(9,.own 0 0 0 l.length),(12,.ptr 12 0),(13,.pv (.int .i64 k)),(14,.ptr 14 0),(15,.pv (.int .i64 (j : Nat)))],⟨bx0,ar ++ [⟨0,13,.inl ((mixJ L p.mems j).map Mem.c)⟩],[]⟩⟩) _) (fun _ => True) rfl trivial (fun j hj _ => ?_)
    simp (disch := omega) only [go_sem]
    refine Br.ofP (fun c => ?_) (fun c => ?_)
    · have hr := List.getElem?_eq_getElem (l := p.mems) (i := j) (by omega)
      generalize p.mems[j]'(by omega) = m at hr
      have hmg := mixJ_get (L := L) hr
      obtain ⟨ht0,ht1⟩ := huses m.type (mem_used (List.mem_of_getElem? hr))
      have hpt := hpg m.type ht0 ht1
      have hmj := mixJ_len L p.mems j
      have hst := fun id => mixJ_store (L := L) hr id
      simp (disch := omega) only [go_sem,gM,gP,sM,hmg,hpt,Mem.c,hst]
      exact .of (by omega) rfl trivial
    obtain rfl : j = p.mems.length := by omega
    rw [mixJ_all]
    simp (disch := omega) only [go_sem]
    refine Br.ofP (fun c8 => ?_) (fun c8 => ?_)
    · obtain ⟨hk0,hk1⟩ := huses p.key (key_used c8)
      have h7 : 7 ≤ p.kind := by omega
      obtain ⟨he0,he1⟩ := huses p.elem (elem_used h7)
      have hpk := hpg p.key hk0 hk1
      have hpe := hpg p.elem he0 he1
      simp (disch := omega) only [go_sem,gP,hpk]
      refine Br.ofP (fun c7 => absurd c7 (by omega)) (fun c7 => ?_)
      have d7 : decide (p.kind = 7) = false := by simp [c7]
      simp (disch := omega) only [go_sem,d7]
      refine Br.ofP (fun _ => ?_) (fun c => absurd c8 c)
      have d8 : decide (p.kind = 8) = true := by simp [c8]
      simp (disch := omega) only [go_sem,gP,hpe,d8]
      obtain ⟨V1,T,ar',happ,hT,hc1,hc2,hz,hO'⟩ := fin _ _ (if_pos c8) (if_pos h7)
      simp (disch := omega) only [go_sem,happ,hT,hc1,hc2]
      exact ⟨(k + 1,ar',V1),⟨by dsimp only; omega,by dsimp only; rw [hz,hP],by dsimp only; rw [hnext]; exact hO'⟩,by dsimp only; omega,rfl⟩
    simp (disch := omega) only [go_sem]
    refine Br.ofP (fun c7 => ?_) (fun c7 => ?_)
    · have h7 : 7 ≤ p.kind := by omega
      obtain ⟨he0,he1⟩ := huses p.elem (elem_used h7)
      have hpe := hpg p.elem he0 he1
      have d7 : decide (p.kind = 7) = true := by simp [c7]
      simp (disch := omega) only [go_sem,gP,hpe,d7]
      obtain ⟨V1,T,ar',happ,hT,hc1,hc2,hz,hO'⟩ := fin _ _ (if_neg c8) (if_pos h7)
      simp (disch := omega) only [go_sem,happ,hT,hc1,hc2]
      exact ⟨(k + 1,ar',V1),⟨by dsimp only; omega,by dsimp only; rw [hz,hP],by dsimp only; rw [hnext]; exact hO'⟩,by dsimp only; omega,rfl⟩
    have d7 : decide (p.kind = 7) = false := by simp [c7]
    have d8 : decide (p.kind = 8) = false := by simp [c8]
    simp (disch := omega) only [go_sem,d7,d8]
    refine Br.ofP (fun c9 => ?_) (fun c9 => ?_)
    · have h7 : 7 ≤ p.kind := by omega
      obtain ⟨he0,he1⟩ := huses p.elem (elem_used h7)
      have hpe := hpg p.elem he0 he1
      simp (disch := omega) only [go_sem,gP,hpe]
      obtain ⟨V1,T,ar',happ,hT,hc1,hc2,hz,hO'⟩ := fin _ _ (if_neg c8) (if_pos h7)
      simp (disch := omega) only [go_sem,happ,hT,hc1,hc2]
      exact ⟨(k + 1,ar',V1),⟨by dsimp only; omega,by dsimp only; rw [hz,hP],by dsimp only; rw [hnext]; exact hO'⟩,by dsimp only; omega,rfl⟩
    · have h7 : ¬ 7 ≤ p.kind := by omega
      simp (disch := omega) only [go_sem]
      obtain ⟨V1,T,ar',happ,hT,hc1,hc2,hz,hO'⟩ := fin _ _ (if_neg c8) (if_neg h7)
      simp (disch := omega) only [go_sem,happ,hT,hc1,hc2]
      exact ⟨(k + 1,ar',V1),⟨by dsimp only; omega,by dsimp only; rw [hz,hP],by dsimp only; rw [hnext]; exact hO'⟩,by dsimp only; omega,rfl⟩
end Go.Pv
