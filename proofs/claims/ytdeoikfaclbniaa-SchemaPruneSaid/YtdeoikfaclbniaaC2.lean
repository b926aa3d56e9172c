/-
  What the functions of the law give.
-/
import Derived.Test.YtdeoikfaclbniaaC1
namespace Go.Pv
@[go_sem] theorem cw265 (vs : List V) (h : Heap) (K : V → Tn → Prop) : CW A PrA 265 vs h K = CN A PrA false 265 vs h K := cwO vs h K
end Go.Pv
namespace Go.Pv
set_option maxHeartbeats 4000000 in
theorem r319 (x y : Mem) (hx : x.ok) (hy : y.ok) : res A PrA 319 [.agg x.c,.agg y.c] = some [.bool (eqv x y)] := by
  have hv := r320v hx.2.2.2 hy.2.2.2
  rw [eqv_val] at hv
  obtain ⟨a1,a2,a3,a4,a5,v⟩ := x
  obtain ⟨b1,b2,b3,b4,b5,w⟩ := y
  unfold Mem.c
  unfold Val.c at hv
  dsimp only at *
  have no : ∀ {p q : Mem},p ≠ q → (some [PV.bool false] : Option (List PV)) = some [PV.bool (eqv p q)] := fun h => by rw [eqv_ne h]
  refine res_of a319 rfl rfl ?_
  simp only [F319]
  simp (disch := omega) only [go_sem]
  refine Br.ofP (fun e => ?_) (fun e => ?_) <;> simp (disch := omega) only [go_sem,e]
  rotate_left
  · exact no (fun q => e (by cases q; rfl))
  subst e
  refine Br.ofP (fun e => ?_) (fun e => ?_) <;> simp (disch := omega) only [go_sem,e]
  rotate_left
  · exact no (fun q => e (by cases q; rfl))
  subst e
  refine Br.ofP (fun e => ?_) (fun e => ?_) <;> simp (disch := omega) only [go_sem,e]
  rotate_left
  · exact no (fun q => e (by cases q; rfl))
  subst e
  refine Br.ofP (fun e => ?_) (fun e => ?_) <;> simp (disch := omega) only [go_sem,e]
  rotate_left
  · exact no (fun q => e (by cases q; rfl))
  subst e
  refine Br.ofP (fun e => ?_) (fun e => ?_) <;> simp (disch := omega) only [go_sem,e]
  rotate_left
  · exact no (fun q => e (by cases q; rfl))
  subst e
  simp (disch := omega) only [go_sem,hv]
  congr 3
  rw [Bool.eq_iff_iff,eqv_iff,eqv_iff]
  exact ⟨fun e => by rw [e],fun q => by cases q; rfl⟩
set_option maxHeartbeats 4000000 in
theorem r316 (x y : Mem) (hx : x.ok) (hy : y.ok) : res A PrA 316 [.agg x.c,.agg y.c] = some [.bool (eqv x y)] := by
  have hv := r330v hx.2.2.2 hy.2.2.2
  rw [eqv_val] at hv
  obtain ⟨a1,a2,a3,a4,a5,v⟩ := x
  obtain ⟨b1,b2,b3,b4,b5,w⟩ := y
  unfold Mem.c
  unfold Val.c at hv
  dsimp only at *
  have no : ∀ {p q : Mem},p ≠ q → (some [PV.bool false] : Option (List PV)) = some [PV.bool (eqv p q)] := fun h => by rw [eqv_ne h]
  refine res_of a316 rfl rfl ?_
  simp only [F316]
  simp (disch := omega) only [go_sem]
  refine Br.ofP (fun e => ?_) (fun e => ?_) <;> simp (disch := omega) only [go_sem,e]
  rotate_left
  · exact no (fun q => e (by cases q; rfl))
  subst e
  refine Br.ofP (fun e => ?_) (fun e => ?_) <;> simp (disch := omega) only [go_sem,e]
  rotate_left
  · exact no (fun q => e (by cases q; rfl))
  subst e
  refine Br.ofP (fun e => ?_) (fun e => ?_) <;> simp (disch := omega) only [go_sem,e]
  rotate_left
  · exact no (fun q => e (by cases q; rfl))
  subst e
  refine Br.ofP (fun e => ?_) (fun e => ?_) <;> simp (disch := omega) only [go_sem,e]
  rotate_left
  · exact no (fun q => e (by cases q; rfl))
  subst e
  refine Br.ofP (fun e => ?_) (fun e => ?_) <;> simp (disch := omega) only [go_sem,e]
  rotate_left
  · exact no (fun q => e (by cases q; rfl))
  subst e
  simp (disch := omega) only [go_sem,hv]
  congr 3
  rw [Bool.eq_iff_iff,eqv_iff,eqv_iff]
  exact ⟨fun e => by rw [e],fun q => by cases q; rfl⟩
set_option maxHeartbeats 4000000 in
theorem r318 (t u : Nat) (l m : List Mem) (hl : l.length ≤ 2 ^ 63 - 1) (_hm : m.length ≤ 2 ^ 63 - 1) (vl : ∀ r ∈ l,r.ok) (vm : ∀ r ∈ m,r.ok) : res A PrA 318 [.lst t (l.map Mem.c),.lst u (m.map Mem.c),.func 319 []] = some [.bool (eqv l m)] := by
  refine res_of a318 rfl rfl ?_
  simp only [F318]
  simp (disch := omega) only [go_sem]
  refine Br.ofP (fun h => ?_) (fun h => ?_) <;> simp (disch := omega) only [go_sem]
  · refine W.find (l.zip m) (fun q => !eqv q.1 q.2) (fun k => ⟨[(1,.pv (.lst u (m.map Mem.c))),(2,.pv (.func 319 [])),(15,.pv (.lst t (l.map Mem.c))),(16,.pv (.int .i64 l.length)),(17,.pv (.int .i64 k))],⟨[],[],[]⟩⟩) rfl (fun k q hq hk hfd => ?_) (fun hn => ?_)
    · obtain ⟨h1,h2⟩ := zip_get hq
      rw [zip_len (by omega)] at hk
      have hc := r319 q.1 q.2 (vl q.1 (List.mem_of_getElem? h1)) (vm q.2 (List.mem_of_getElem? h2))
      unfold Mem.c at hc
      simp (disch := omega) only [go_sem]
      refine Br.ofP (fun c => ?_) (fun c => (c (by omega)).elim)
      simp (disch := omega) only [go_sem,h1,h2,Mem.c,hc]
      refine Br.of (fun g => ?_) (fun g => ?_) <;> simp (disch := omega) only [go_sem]
      · exact findK.of (by rw [g]; rfl) rfl
      · rw [(hfd (by rw [g]; rfl)).ne]
    · have hz : (l.zip m).length = l.length := zip_len (by omega)
      rw [hz]
      simp (disch := omega) only [go_sem]
      rw [hn.eq (by omega),eqv_same]
  · rw [eqv_ne (fun e => h (by rw [e]))]
set_option maxHeartbeats 8000000 in
theorem r297 (x y : Typ) (hx : x.ok) (hy : y.ok) : res A PrA 297 [.agg x.c,.agg y.c] = some [.bool (eqv x y)] := by
  obtain ⟨_,⟨lx1,lx2⟩,_,lx3⟩ := hx
  obtain ⟨_,⟨ly1,ly2⟩,_,ly3⟩ := hy
  unfold lenOk at *
  have hs := fun t u => r317 t u x.syms y.syms (by omega) (by omega)
  have hm := fun t u => r318 t u x.mems y.mems (by omega) (by omega) lx3 ly3
  obtain ⟨a1,a2,a3,a4,a5,a6,a7,a8,a9,a10⟩ := x
  obtain ⟨b1,b2,b3,b4,b5,b6,b7,b8,b9,b10⟩ := y
  unfold Typ.c
  dsimp only at *
  have no : ∀ {p q : Typ},p ≠ q → (some [PV.bool false] : Option (List PV)) = some [PV.bool (eqv p q)] := fun h => by rw [eqv_ne h]
  refine res_of a297 rfl rfl ?_
  simp only [F297]
  simp (disch := omega) only [go_sem]
  refine Br.ofP (fun e => ?_) (fun e => ?_) <;> simp (disch := omega) only [go_sem,e]
  rotate_left
  · exact no (fun q => e (by cases q; rfl))
  subst e
  refine Br.ofP (fun e => ?_) (fun e => ?_) <;> simp (disch := omega) only [go_sem,e]
  rotate_left
  · exact no (fun q => e (by cases q; rfl))
  subst e
  refine Br.ofP (fun e => ?_) (fun e => ?_) <;> simp (disch := omega) only [go_sem,e]
  rotate_left
  · exact no (fun q => e (by cases q; rfl))
  subst e
  refine Br.ofP (fun e => ?_) (fun e => ?_) <;> simp (disch := omega) only [go_sem,e]
  rotate_left
  · exact no (fun q => e (by cases q; rfl))
  subst e
  refine Br.ofP (fun e => ?_) (fun e => ?_) <;> simp (disch := omega) only [go_sem,e]
  rotate_left
  · exact no (fun q => e (by cases q; rfl))
  subst e
  refine Br.ofP (fun e => ?_) (fun e => ?_) <;> simp (disch := omega) only [go_sem,e]
  rotate_left
  · exact no (fun q => e (by cases q; rfl))
  subst e
  refine Br.ofP (fun e => ?_) (fun e => ?_) <;> simp (disch := omega) only [go_sem,e]
  rotate_left
  · exact no (fun q => e (by cases q; rfl))
  subst e
  refine Br.ofP (fun e => ?_) (fun e => ?_) <;> simp (disch := omega) only [go_sem,e]
  rotate_left
  · exact no (fun q => e (by cases q; rfl))
  subst e
  simp (disch := omega) only [go_sem,hs]
  refine Br.of (fun e => ?_) (fun e => ?_) <;> simp (disch := omega) only [go_sem,e]
  rotate_left
  · exact no (fun q => eqv_no.1 e (by cases q; rfl))
  have e := eqv_iff.1 e
  subst e
  simp (disch := omega) only [go_sem,hm]
  congr 3
  rw [Bool.eq_iff_iff,eqv_iff,eqv_iff]
  exact ⟨fun e => by rw [e],fun q => by cases q; rfl⟩
set_option maxHeartbeats 8000000 in
theorem r295 (x y : Typ) (hx : x.ok) (hy : y.ok) : res A PrA 295 [.agg x.c,.agg y.c] = some [.bool (eqv x y)] := by
  obtain ⟨_,⟨lx1,lx2⟩,_,lx3⟩ := hx
  obtain ⟨_,⟨ly1,ly2⟩,_,ly3⟩ := hy
  unfold lenOk at *
  obtain ⟨a1,a2,a3,a4,a5,a6,a7,a8,a9,a10⟩ := x
  obtain ⟨b1,b2,b3,b4,b5,b6,b7,b8,b9,b10⟩ := y
  unfold Typ.c
  dsimp only at *
  have no : ∀ {p q : Typ},p ≠ q → (some [PV.bool false] : Option (List PV)) = some [PV.bool (eqv p q)] := fun h => by rw [eqv_ne h]
  refine res_of a295 rfl rfl ?_
  simp only [F295]
  simp (disch := omega) only [go_sem]
  refine Br.ofP (fun e => ?_) (fun e => ?_) <;> simp (disch := omega) only [go_sem,e]
  rotate_left
  · exact no (fun q => e (by cases q; rfl))
  subst e
  refine Br.ofP (fun e => ?_) (fun e => ?_) <;> simp (disch := omega) only [go_sem,e]
  rotate_left
  · exact no (fun q => e (by cases q; rfl))
  subst e
  refine Br.ofP (fun e => ?_) (fun e => ?_) <;> simp (disch := omega) only [go_sem,e]
  rotate_left
  · exact no (fun q => e (by cases q; rfl))
  subst e
  refine Br.ofP (fun e => ?_) (fun e => ?_) <;> simp (disch := omega) only [go_sem,e]
  rotate_left
  · exact no (fun q => e (by cases q; rfl))
  subst e
  refine Br.ofP (fun e => ?_) (fun e => ?_) <;> simp (disch := omega) only [go_sem,e]
  rotate_left
  · exact no (fun q => e (by cases q; rfl))
  subst e
  refine Br.ofP (fun e => ?_) (fun e => ?_) <;> simp (disch := omega) only [go_sem,e]
  rotate_left
  · exact no (fun q => e (by cases q; rfl))
  subst e
  refine Br.ofP (fun e => ?_) (fun e => ?_) <;> simp (disch := omega) only [go_sem,e]
  rotate_left
  · exact no (fun q => e (by cases q; rfl))
  subst e
  refine Br.ofP (fun e => ?_) (fun e => ?_) <;> simp (disch := omega) only [go_sem,e]
  rotate_left
  · exact no (fun q => e (by cases q; rfl))
  subst e
  refine Br.ofP (fun e => ?_) (fun e => ?_) <;> simp (disch := omega) only [go_sem,e]
  rotate_left
  · exact no (fun q => e (by cases q; rfl))
  refine Br.ofP (fun e2 => ?_) (fun e2 => ?_) <;> simp (disch := omega) only [go_sem,e2]
  rotate_left
  · exact no (fun q => e2 (by cases q; rfl))
  refine W.find (a6.zip b6) (fun q => !eqv q.1 q.2) (fun k => ⟨[(2,.ptr 2 0),(3,.ptr 3 0),(5,.pv (.int .i64 k))],⟨[(2,[.pv (.int .i64 a1),.pv (.str a2),.pv (.int .i64 a3),.pv (.int .i64 a4),.pv (.int .i64 a5),.pv (.lst 0 (a6.map Sym.c)),.pv (.lst 0 (a7.map Mem.c)),.pv (.int .i64 a8),.pv (.int .i64 a9),.pv (.bool a10)]),(3,[.pv (.int .i64 a1),.pv (.str a2),.pv (.int .i64 a3),.pv (.int .i64 a4),.pv (.int .i64 a5),.pv (.lst 0 (b6.map Sym.c)),.pv (.lst 0 (b7.map Mem.c)),.pv (.int .i64 a8),.pv (.int .i64 a9),.pv (.bool a10)])],[],[]⟩⟩) rfl (fun k q hq hk hfd => ?_) (fun hn => ?_)
  · obtain ⟨h1,h2⟩ := zip_get hq
    rw [zip_len (by omega)] at hk
    simp (disch := omega) only [go_sem]
    refine Br.ofP (fun c => ?_) (fun c => (c (by omega)).elim)
    simp (disch := omega) only [go_sem,h1,h2,Sym.c]
    rw [← eqv_sym]
    refine Br.of (fun g => ?_) (fun g => ?_) <;> simp (disch := omega) only [go_sem]
    · exact findK.of (by rw [g]; rfl) rfl
    · exact no (fun q => eqv_no.1 (hfd (by rw [g]; rfl)).ne (by cases q; rfl))
  · have hz : (a6.zip b6).length = a6.length := zip_len (by omega)
    rw [hz]
    have e := hn.eq (by omega)
    subst e
    simp (disch := omega) only [go_sem]
    refine W.find (a7.zip b7) (fun q => !eqv q.1 q.2) (fun k => ⟨[(2,.ptr 2 0),(3,.ptr 3 0),(6,.pv (.int .i64 k))],⟨[(2,[.pv (.int .i64 a1),.pv (.str a2),.pv (.int .i64 a3),.pv (.int .i64 a4),.pv (.int .i64 a5),.pv (.lst 0 (a6.map Sym.c)),.pv (.lst 0 (a7.map Mem.c)),.pv (.int .i64 a8),.pv (.int .i64 a9),.pv (.bool a10)]),(3,[.pv (.int .i64 a1),.pv (.str a2),.pv (.int .i64 a3),.pv (.int .i64 a4),.pv (.int .i64 a5),.pv (.lst 0 (a6.map Sym.c)),.pv (.lst 0 (b7.map Mem.c)),.pv (.int .i64 a8),.pv (.int .i64 a9),.pv (.bool a10)])],[],[]⟩⟩) rfl (fun k q hq hk hfd => ?_) (fun hn => ?_)
    · obtain ⟨h1,h2⟩ := zip_get hq
      rw [zip_len (by omega)] at hk
      have hc := r316 q.1 q.2 (lx3 q.1 (List.mem_of_getElem? h1)) (ly3 q.2 (List.mem_of_getElem? h2))
      unfold Mem.c at hc
      simp (disch := omega) only [go_sem]
      refine Br.ofP (fun c => ?_) (fun c => (c (by omega)).elim)
      simp (disch := omega) only [go_sem,h1,h2,Mem.c,hc]
      refine Br.of (fun g => ?_) (fun g => ?_) <;> simp (disch := omega) only [go_sem]
      · exact findK.of (by rw [g]; rfl) rfl
      · exact no (fun q => eqv_no.1 (hfd (by rw [g]; rfl)).ne (by cases q; rfl))
    · have hz : (a7.zip b7).length = a7.length := zip_len (by omega)
      rw [hz]
      have e := hn.eq (by omega)
      subst e
      simp (disch := omega) only [go_sem]
      rw [eqv_same]
end Go.Pv
namespace Go.Pv
def firstI {α : Type} (p : α → Bool) (l : List α) : Int := match l.findIdx? p with
  | some k => (k : Int)
  | none => -1
theorem Found.firstI {α : Type} {l : List α} {p : α → Bool} {k : Nat} {x : α} (h : Found l p k x) : Pv.firstI p l = k := by
  unfold Pv.firstI
  rw [h.idx]
theorem Nowhere.firstI {α : Type} {l : List α} {p : α → Bool} (h : Nowhere l p) : Pv.firstI p l = -1 := by
  unfold Pv.firstI
  rw [h.idx]
end Go.Pv
namespace Go.Pv
theorem firstI_ge {α : Type} (p : α → Bool) (l : List α) : -1 ≤ firstI p l ∧ firstI p l < l.length := by
  unfold firstI
  cases h : l.findIdx? p with
  | none =>
    dsimp only
    omega
  | some k =>
    have := List.findIdx?_eq_some_iff_getElem.1 h
    obtain ⟨hk,_⟩ := this
    dsimp only
    omega
end Go.Pv
namespace Go.Pv
theorem r286 (k : Int) : res A PrA 286 [.int .i64 k] = some [.bool (decide (4 ≤ k) && decide (k ≤ 6))] := by
  refine res_of a286 rfl rfl ?_
  simp only [F286]
  simp (disch := omega) only [go_sem]
  have hk : (decide (4 ≤ k) && decide (k ≤ 6)) = decide (k = 4 ∨ k = 5 ∨ k = 6) := by
    rw [Bool.eq_iff_iff]
    simp only [Bool.and_eq_true,decide_eq_true_eq]
    omega
  rw [hk]
  refine Br.ofP (fun h1 => ?_) (fun h1 => ?_)
  · have : decide (k = 4 ∨ k = 5 ∨ k = 6) = true := by simp [h1]
    rw [this]
    simp (disch := omega) only [go_sem,h1]
  · by_cases h2 : k = 5
    · have : decide (k = 4 ∨ k = 5 ∨ k = 6) = true := by simp [h2]
      rw [this]
      simp (disch := omega) only [go_sem,h2]
    · have : decide (k = 4 ∨ k = 5 ∨ k = 6) = decide (k = 6) := by simp [h1,h2]
      rw [this]
      simp (disch := omega) only [go_sem,h1]
      refine Br.ofP (fun h3 => (h2 h3).elim) (fun h3 => ?_)
      simp (disch := omega) only [go_sem,h3]
end Go.Pv
namespace Go.Pv
def zeroTyp : Typ := ⟨0,⟨#[]⟩,0,0,0,[],[],0,0,false⟩
def plainTy (t : Typ) : Typ :=
  if t.kind = 1 then { zeroTyp with kind := 1 }
  else if t.kind = 2 then { zeroTyp with kind := 2,low := t.low,high := t.high }
  else if t.kind = 3 then { zeroTyp with kind := 3,max := t.max }
  else if t.kind = 4 then { zeroTyp with kind := 4,name := t.name,syms := t.syms,opn := t.opn }
  else if t.kind = 5 then { zeroTyp with kind := 5,name := t.name,mems := t.mems }
  else if t.kind = 6 then { zeroTyp with kind := 6,name := t.name,mems := t.mems,opn := t.opn }
  else if t.kind = 7 then { zeroTyp with kind := 7,max := t.max,elem := t.elem }
  else if t.kind = 8 then { zeroTyp with kind := 8,max := t.max,key := t.key,elem := t.elem }
  else { zeroTyp with kind := t.kind,elem := t.elem }
theorem kind_cases (k : Int) : k = 1 ∨ k = 2 ∨ k = 3 ∨ k = 4 ∨ k = 5 ∨ k = 6 ∨ k = 7 ∨ k = 8 ∨ (k ≠ 1 ∧ k ≠ 2 ∧ k ≠ 3 ∧ k ≠ 4 ∧ k ≠ 5 ∧ k ≠ 6 ∧ k ≠ 7 ∧ k ≠ 8) := by omega
theorem zeroTyp_ok : zeroTyp.ok := by
  refine ⟨?_,?_,fun s hs => (List.not_mem_nil hs).elim,fun s hs => (List.not_mem_nil hs).elim⟩ <;> simp [zeroTyp,I64,strOk,lenOk]
  exact Nat.zero_le _
theorem plainT_ok {t : Typ} (h : t.ok) : (plainTy t).ok := by
  obtain ⟨⟨h0,h1,h2,h3,h4,h5,h6⟩,⟨h7,h8⟩,h9,h10⟩ := h
  obtain ⟨⟨z0,z1,z2,z3,z4,z5,z6⟩,⟨z7,z8⟩,z9,z10⟩ := zeroTyp_ok
  have kk : I64 1 ∧ I64 2 ∧ I64 3 ∧ I64 4 ∧ I64 5 ∧ I64 6 ∧ I64 7 ∧ I64 8 := by simp [I64]
  obtain ⟨k1,k2,k3,k4,k5,k6,k7,k8⟩ := kk
  unfold plainTy
  repeat' split
  all_goals exact ⟨⟨by assumption,by assumption,by assumption,by assumption,by assumption,by assumption,by assumption⟩,⟨by assumption,by assumption⟩,by assumption,by assumption⟩
set_option maxHeartbeats 4000000 in
theorem r309 (t : Typ) : res A PrA 309 [.agg t.c] = some [.agg (plainTy t).c] := by
  obtain ⟨k,a2,a3,a4,a5,a6,a7,a8,a9,a10⟩ := t
  refine res_of a309 rfl rfl ?_
  simp only [F309]
  unfold plainTy Typ.c zeroTyp
  dsimp only
  rcases kind_cases k with rfl | rfl | rfl | rfl | rfl | rfl | rfl | rfl | ⟨n1,n2,n3,n4,n5,n6,n7,n8⟩
  all_goals simp (disch := omega) only [*,go_sem]
  all_goals simp
end Go.Pv
namespace Go.Pv
noncomputable def kindOk (t : Typ) : Bool :=
  if t.kind = 2 then decide (t.low ≤ t.high)
  else if t.kind = 3 then decide (0 ≤ t.max) && decide (t.max ≤ 200)
  else if t.kind = 4 then symsOk t.syms
  else if t.kind = 5 then memsOk true t.mems
  else if t.kind = 6 then memsOk false t.mems
  else if t.kind = 7 then decide (0 ≤ t.max) && decide (t.max ≤ 50)
  else if t.kind = 8 then decide (0 ≤ t.max) && decide (t.max ≤ 50)
  else true
noncomputable def ownOk (t : Typ) : Bool := (decide (1 ≤ t.kind) && decide (t.kind ≤ 9)) && (eqv t (plainTy t) && ((!(decide (4 ≤ t.kind) && decide (t.kind ≤ 6)) || isName t.name) && kindOk t))
structure Typ.short (t : Typ) : Prop where
  syms : t.syms.length ≤ 1048576
  mems : t.mems.length ≤ 1048576
structure Typ.held (t : Typ) : Prop where
  syms : t.syms.length ≤ 8000000000000
  mems : t.mems.length ≤ 8000000000000
theorem own_short {t : Typ} (h : ownOk t = true) : t.short := by
  unfold ownOk at h
  simp only [Bool.and_eq_true,decide_eq_true_eq] at h
  obtain ⟨⟨_,_⟩,he,_,hk⟩ := h
  have e := eqv_iff.1 he
  have em := congrArg Typ.mems e
  have es := congrArg Typ.syms e
  rcases kind_cases t.kind with g | g | g | g | g | g | g | g | ⟨g1,g2,g3,g4,g5,g6,g7,g8⟩
  case inr.inr.inr.inl =>
    simp [plainTy,g,zeroTyp] at em
    simp [kindOk,g,symsOk] at hk
    exact ⟨by omega,by rw [em]; simp⟩
  case inr.inr.inr.inr.inl =>
    simp [plainTy,g,zeroTyp] at es
    simp [kindOk,g,memsOk] at hk
    exact ⟨by rw [es]; simp,by omega⟩
  case inr.inr.inr.inr.inr.inl =>
    simp [plainTy,g,zeroTyp] at es
    simp [kindOk,g,memsOk] at hk
    exact ⟨by rw [es]; simp,by omega⟩
  case inr.inr.inr.inr.inr.inr.inr.inr =>
    simp [plainTy,g1,g2,g3,g4,g5,g6,g7,g8,zeroTyp] at em es
    exact ⟨by rw [es]; simp,by rw [em]; simp⟩
  all_goals
    simp [plainTy,g,zeroTyp] at em es
    exact ⟨by rw [es]; simp,by rw [em]; simp⟩
set_option maxHeartbeats 4000000 in
theorem r285 (t : Typ) (ht : t.ok) (hs : t.held) : res A PrA 285 [.agg t.c] = some [.bool (ownOk t)] := by
  have h309 := r309 t
  have h295 := r295 t (plainTy t) ht (plainT_ok ht)
  obtain ⟨⟨o0,o1,_⟩,⟨_,_⟩,oS,oM⟩ := ht
  have h310 := r310 t.name o1
  have h286 := r286 t.kind
  have h311 := fun u => r311 u t.syms (by have := hs.syms; omega) (fun p hp => (oS p hp).2)
  have h312 := fun u b => r312 u t.mems b (by have := hs.mems; omega) oM
  unfold ownOk
  generalize eqv t (plainTy t) = e at h295
  generalize plainTy t = p at h295 h309
  have hnm : ∀ b,e = false → (some [PV.bool false] : Option (List PV)) = some [PV.bool (b && (e && ((!(decide (4 ≤ t.kind) && decide (t.kind ≤ 6)) || isName t.name) && kindOk t)))] := fun b h => by
    rw [h,Bool.false_and,Bool.and_false]
  unfold Typ.c at *
  refine res_of a285 rfl rfl ?_
  simp only [F285]
  simp (disch := omega) only [go_sem]
  refine Br.ofP (fun c1 => ?_) (fun c1 => ?_) <;> simp (disch := omega) only [go_sem,c1]
  · have : ¬ 1 ≤ t.kind := by omega
    simp [this]
  refine Br.ofP (fun c2 => ?_) (fun c2 => ?_) <;> simp (disch := omega) only [go_sem,c2]
  · have : ¬ t.kind ≤ 9 := by omega
    simp [this]
  have k1 : decide (1 ≤ t.kind) = true := by simp; omega
  have k2 : decide (t.kind ≤ 9) = true := by simp; omega
  rw [k1,k2]
  simp (disch := omega) only [go_sem,h309,h295]
  refine Br.of (fun c3 => ?_) (fun c3 => ?_) <;> simp (disch := omega) only [go_sem,c3,h286]
  subst c3
  unfold kindOk
  by_cases hn : 4 ≤ t.kind ∧ t.kind ≤ 6
  · have c4 : (decide (4 ≤ t.kind) && decide (t.kind ≤ 6)) = true := by simp [hn]
    rw [c4]
    simp (disch := omega) only [go_sem,h310]
    refine Br.of (fun c5 => ?_) (fun c5 => ?_) <;> simp (disch := omega) only [go_sem,c5]
    have hk : t.kind = 4 ∨ t.kind = 5 ∨ t.kind = 6 := by omega
    rcases hk with hk | hk | hk
    all_goals simp (disch := omega) only [go_sem,hk,h311,h312]
    all_goals simp [c5]
  · have c4 : (decide (4 ≤ t.kind) && decide (t.kind ≤ 6)) = false := by
      rw [Bool.eq_false_iff]
      simp
      omega
    rw [c4]
    simp (disch := omega) only [go_sem]
    have hk : t.kind = 1 ∨ t.kind = 2 ∨ t.kind = 3 ∨ t.kind = 7 ∨ t.kind = 8 ∨ t.kind = 9 := by omega
    rcases hk with hk | hk | hk | hk | hk | hk
    all_goals simp (disch := omega) only [go_sem,hk]
    all_goals first
      | (simp [hk]
         done)
      | (refine Br.ofP (fun c6 => ?_) (fun c6 => ?_) <;> simp (disch := omega) only [go_sem,c6]
         all_goals simp [hk])
set_option maxHeartbeats 8000000 in
theorem r283 (t : Typ) (ht : t.ok) (hs : t.held) : res A PrA 283 [.agg t.c] = some [.bool (ownOk t)] := by
  have h297 := fun z hz => r297 z zeroTyp hz zeroTyp_ok
  have h308 := r308 t ht (by have := hs.mems; omega)
  have ht' := ht
  obtain ⟨⟨o0,o1,o2,o3,o4,o5,o6⟩,⟨l1,l2⟩,oS,oM⟩ := ht
  have h306 := r306 t.name o1
  have h307 := fun u => r307 u t.syms (by have := hs.syms; omega) (fun p hp => (oS p hp).2)
  obtain ⟨k,a2,a3,a4,a5,a6,a7,a8,a9,a10⟩ := t
  unfold ownOk plainTy kindOk
  unfold zeroTyp Typ.c at *
  dsimp only at *
  refine res_of a283 rfl rfl ?_
  simp only [F283]
  simp (disch := omega) only [go_sem]
  have no : ∀ {z : Bool},z = false → (some [PV.bool false] : Option (List PV)) = some [PV.bool z] := fun h => by rw [h]
  have ze : ∀ {x y z p : Typ},(x = y ↔ z = p) → eqv x y = eqv z p := fun {x y z p} h => by
    rw [Bool.eq_iff_iff,eqv_iff,eqv_iff]
    exact h
  have okz : ∀ (k : Int) (a2 : ByteArray) (a3 a4 a5 : Int) (a6 : List Sym) (a7 : List Mem) (a8 a9 : Int) (a10 : Bool),I64 k → strOk a2 → I64 a3 → I64 a4 → I64 a5 → lenOk a6 → lenOk a7 → (∀ s ∈ a6,s.ok) → (∀ m ∈ a7,m.ok) → I64 a8 → I64 a9 → (⟨k,a2,a3,a4,a5,a6,a7,a8,a9,a10⟩ : Typ).ok :=
    fun k a2 a3 a4 a5 a6 a7 a8 a9 a10 h1 h2 h3 h4 h5 h6 h7 h8 h9 h10 h11 => ⟨⟨h1,h2,h3,h4,h5,h10,h11⟩,⟨h6,h7⟩,h8,h9⟩
  have i0 : I64 0 := by simp [I64]
  have s0 : strOk ⟨#[]⟩ := by simp [strOk]; exact Nat.zero_le _
  have y0 : lenOk ([] : List Sym) := by simp [lenOk]
  have m0 : lenOk ([] : List Mem) := by simp [lenOk]
  have y1 : ∀ s ∈ ([] : List Sym),s.ok := fun s hs => (List.not_mem_nil hs).elim
  have m1 : ∀ s ∈ ([] : List Mem),s.ok := fun s hs => (List.not_mem_nil hs).elim
  rcases kind_cases k with rfl | rfl | rfl | rfl | rfl | rfl | rfl | rfl | ⟨n1,n2,n3,n4,n5,n6,n7,n8⟩
  · have hz := h297 ⟨0,a2,a3,a4,a5,a6,a7,a8,a9,a10⟩ (okz _ _ _ _ _ _ _ _ _ _ i0 o1 o2 o3 o4 l1 l2 oS oM o5 o6)
    simp only [List.map_nil] at hz
    simp (disch := omega) only [go_sem,hz]
    rw [ze (z := ⟨1,a2,a3,a4,a5,a6,a7,a8,a9,a10⟩) (p := ⟨1,⟨#[]⟩,0,0,0,[],[],0,0,false⟩) (by simp)]
  · have hz := h297 ⟨0,a2,0,0,a5,a6,a7,a8,a9,a10⟩ (okz _ _ _ _ _ _ _ _ _ _ i0 o1 i0 i0 o4 l1 l2 oS oM o5 o6)
    simp only [List.map_nil] at hz
    simp (disch := omega) only [go_sem]
    refine Br.ofP (fun c => ?_) (fun c => ?_) <;> simp (disch := omega) only [go_sem,c,hz]
    · rw [ze (z := ⟨2,a2,a3,a4,a5,a6,a7,a8,a9,a10⟩) (p := ⟨2,⟨#[]⟩,a3,a4,0,[],[],0,0,false⟩) (by simp)]
  · have hz := h297 ⟨0,a2,a3,a4,0,a6,a7,a8,a9,a10⟩ (okz _ _ _ _ _ _ _ _ _ _ i0 o1 o2 o3 i0 l1 l2 oS oM o5 o6)
    simp only [List.map_nil] at hz
    simp (disch := omega) only [go_sem]
    refine Br.ofP (fun c => ?_) (fun c => ?_) <;> simp (disch := omega) only [go_sem,c]
    · refine Br.ofP (fun c2 => ?_) (fun c2 => ?_) <;> simp (disch := omega) only [go_sem,c2,hz]
      · rw [ze (z := ⟨3,a2,a3,a4,a5,a6,a7,a8,a9,a10⟩) (p := ⟨3,⟨#[]⟩,0,0,a5,[],[],0,0,false⟩) (by simp)]
        simp [c]
  · have hz := h297 ⟨0,⟨#[]⟩,a3,a4,a5,[],a7,a8,a9,false⟩ (okz _ _ _ _ _ _ _ _ _ _ i0 s0 o2 o3 o4 y0 l2 y1 oM o5 o6)
    simp only [List.map_nil] at hz
    simp (disch := omega) only [go_sem,h306]
    refine Br.of (fun c => ?_) (fun c => ?_) <;> simp (disch := omega) only [go_sem,c,h307]
    · refine Br.of (fun c2 => ?_) (fun c2 => ?_) <;> simp (disch := omega) only [go_sem,c2,hz]
      · rw [ze (z := ⟨4,a2,a3,a4,a5,a6,a7,a8,a9,a10⟩) (p := ⟨4,a2,0,0,0,a6,[],0,0,a10⟩) (by simp)]
        simp [c]
  · have hz := h297 ⟨0,⟨#[]⟩,a3,a4,a5,a6,[],a8,a9,a10⟩ (okz _ _ _ _ _ _ _ _ _ _ i0 s0 o2 o3 o4 l1 m0 oS m1 o5 o6)
    simp only [List.map_nil] at hz
    have h308 := h308 (by simp)
    simp (disch := omega) only [go_sem,h306]
    refine Br.of (fun c => ?_) (fun c => ?_) <;> simp (disch := omega) only [go_sem,c,h308]
    · cases a10 with
      | false =>
        simp (disch := omega) only [go_sem]
        refine Br.of (fun c2 => ?_) (fun c2 => ?_) <;> simp (disch := omega) only [go_sem,c2,hz]
        rw [ze (z := ⟨5,a2,a3,a4,a5,a6,a7,a8,a9,false⟩) (p := ⟨5,a2,0,0,0,[],a7,0,0,false⟩) (by simp)]
        have c2' : memsOk true a7 = true := by simpa using c2
        simp [c]
      | true =>
        simp (disch := omega) only [go_sem]
        refine Br.of (fun c2 => ?_) (fun c2 => ?_) <;> simp (disch := omega) only [go_sem,c2,hz]
        rw [ze (z := ⟨5,a2,a3,a4,a5,a6,a7,a8,a9,true⟩) (p := ⟨5,a2,0,0,0,[],a7,0,0,false⟩) (by simp)]
        have c2' : memsOk true a7 = true := by simpa using c2
        simp [c]
    · cases a10 <;> simp (disch := omega) only [go_sem] <;> exact no (by simp [c])
  · have hz := h297 ⟨0,⟨#[]⟩,a3,a4,a5,a6,[],a8,a9,false⟩ (okz _ _ _ _ _ _ _ _ _ _ i0 s0 o2 o3 o4 l1 m0 oS m1 o5 o6)
    simp only [List.map_nil] at hz
    have h308 := h308 (by simp)
    simp (disch := omega) only [go_sem,h306]
    refine Br.of (fun c => ?_) (fun c => ?_) <;> simp (disch := omega) only [go_sem,c,h308]
    · cases a10 with
      | false =>
        simp (disch := omega) only [go_sem]
        refine Br.of (fun c2 => ?_) (fun c2 => ?_) <;> simp (disch := omega) only [go_sem,c2,hz]
        rw [ze (z := ⟨6,a2,a3,a4,a5,a6,a7,a8,a9,false⟩) (p := ⟨6,a2,0,0,0,[],a7,0,0,false⟩) (by simp)]
        have c2' : memsOk false a7 = true := by simpa using c2
        simp [c]
      | true =>
        simp (disch := omega) only [go_sem]
        refine Br.of (fun c2 => ?_) (fun c2 => ?_) <;> simp (disch := omega) only [go_sem,c2,hz]
        rw [ze (z := ⟨6,a2,a3,a4,a5,a6,a7,a8,a9,true⟩) (p := ⟨6,a2,0,0,0,[],a7,0,0,true⟩) (by simp)]
        have c2' : memsOk false a7 = true := by simpa using c2
        simp [c]
    · cases a10 <;> simp (disch := omega) only [go_sem] <;> exact no (by simp [c])
  · have hz := h297 ⟨0,a2,a3,a4,0,a6,a7,a8,0,a10⟩ (okz _ _ _ _ _ _ _ _ _ _ i0 o1 o2 o3 i0 l1 l2 oS oM o5 i0)
    simp only [List.map_nil] at hz
    simp (disch := omega) only [go_sem]
    refine Br.ofP (fun c => ?_) (fun c => ?_) <;> simp (disch := omega) only [go_sem,c]
    · refine Br.ofP (fun c2 => ?_) (fun c2 => ?_) <;> simp (disch := omega) only [go_sem,c2,hz]
      · rw [ze (z := ⟨7,a2,a3,a4,a5,a6,a7,a8,a9,a10⟩) (p := ⟨7,⟨#[]⟩,0,0,a5,[],[],0,a9,false⟩) (by simp)]
        simp [c]
  · have hz := h297 ⟨0,a2,a3,a4,0,a6,a7,0,0,a10⟩ (okz _ _ _ _ _ _ _ _ _ _ i0 o1 o2 o3 i0 l1 l2 oS oM i0 i0)
    simp only [List.map_nil] at hz
    simp (disch := omega) only [go_sem]
    refine Br.ofP (fun c => ?_) (fun c => ?_) <;> simp (disch := omega) only [go_sem,c]
    · refine Br.ofP (fun c2 => ?_) (fun c2 => ?_) <;> simp (disch := omega) only [go_sem,c2,hz]
      · rw [ze (z := ⟨8,a2,a3,a4,a5,a6,a7,a8,a9,a10⟩) (p := ⟨8,⟨#[]⟩,0,0,a5,[],[],a8,a9,false⟩) (by simp)]
        simp [c]
  · have hz := h297 ⟨0,a2,a3,a4,a5,a6,a7,a8,0,a10⟩ (okz _ _ _ _ _ _ _ _ _ _ i0 o1 o2 o3 o4 l1 l2 oS oM o5 i0)
    simp only [List.map_nil] at hz
    simp (disch := omega) only [go_sem,n1,n2,n3,n4,n5,n6,n7,n8]
    refine Br.ofP (fun c => ?_) (fun c => ?_) <;> simp (disch := omega) only [go_sem,c,hz]
    · rw [ze (z := ⟨k,a2,a3,a4,a5,a6,a7,a8,a9,a10⟩) (p := ⟨k,⟨#[]⟩,0,0,0,[],[],0,a9,false⟩) (by simp)]
      simp [c]
    · refine no ?_
      have : (decide (1 ≤ k) && decide (k ≤ 9)) = false := by
        rw [Bool.eq_false_iff]
        simp
        omega
      rw [this,Bool.false_and]
end Go.Pv
namespace Go.Pv
def keysT (t : Typ) : List Int := if t.kind = 8 then [t.key] else []
def elemsT (t : Typ) : List Int := if 7 ≤ t.kind then [t.elem] else []
def usesT (t : Typ) : List Int := t.mems.map (·.type) ++ keysT t ++ elemsT t
set_option maxHeartbeats 2000000 in
theorem r284 (t : Typ) (hs : t.short) : res A PrA 284 [.agg t.c] = some [.lst 0 (ints (usesT t))] := by
  have hl := hs.mems
  obtain ⟨k,a2,a3,a4,a5,a6,l,a8,a9,a10⟩ := t
  unfold usesT keysT elemsT Typ.c
  dsimp only at *
  refine res_of a284 rfl rfl ?_
  simp only [F284]
  simp (disch := omega) only [go_sem]
  refine W.upto l.length (fun j => ⟨[(1,.ptr 1 0),(3,grV 0 (ints ((l.take j).map (·.type)))),(7,.pv (.lst 0 (l.map Mem.c))),(8,.pv (.int .i64 l.length)),(9,.pv (.int .i64 j))],⟨[(1,[.pv (.int .i64 k),.pv (.str a2),.pv (.int .i64 a3),.pv (.int .i64 a4),.pv (.int .i64 a5),.pv (.lst 0 (a6.map Sym.c)),.pv (.lst 0 (l.map Mem.c)),.pv (.int .i64 a8),.pv (.int .i64 a9),.pv (.bool a10)])],grA 1 (ints ((l.take j).map (·.type))),[]⟩⟩) (fun _ => True) rfl trivial (fun j hj _ => ?_)
  rcases Nat.lt_or_ge j l.length with hlt | hge
  · have hp := List.getElem?_eq_getElem hlt
    generalize l[j] = p at hp
    have t1 : (l.take (j + 1)).map (·.type) = (l.take j).map (·.type) ++ [p.type] := by rw [List.take_add_one,hp,List.map_append]; rfl
    have l1 : ((l.take j).map (·.type)).length = j := by simp; omega
    generalize (l.take j).map (·.type) = u at t1 l1
    simp (disch := omega) only [go_sem]
    refine Br.ofP (fun c => ?_) (fun c => (c (by omega)).elim)
    simp (disch := omega) only [go_sem,hp,Mem.c]
    refine .of (by omega) ?_ trivial
    rw [t1]
    rfl
  · obtain rfl : j = l.length := by omega
    rw [List.take_length]
    have l1 : (l.map (·.type)).length = l.length := by simp
    generalize l.map (·.type) = u at l1
    simp (disch := omega) only [go_sem]
    refine Br.ofP (fun c => ?_) (fun c => ?_) <;> simp (disch := omega) only [go_sem,c]
    · have l2 : (u ++ [a8]).length = l.length + 1 := by simp [l1]
      have h7 : 7 ≤ k := by omega
      simp (disch := omega) only [go_sem]
      simp [c]
    · refine Br.ofP (fun c2 => ?_) (fun c2 => ?_) <;> simp (disch := omega) only [go_sem,c2]
      · simp [c]
      · simp [c]
set_option maxHeartbeats 2000000 in
theorem r287 (t : Typ) (hs : t.short) (h9 : t.kind ≤ 9) : res A PrA 287 [.agg t.c] = some [.lst 0 (ints (usesT t))] := by
  have hl := hs.mems
  obtain ⟨k,a2,a3,a4,a5,a6,l,a8,a9,a10⟩ := t
  unfold usesT keysT elemsT Typ.c
  dsimp only at *
  refine res_of a287 rfl rfl ?_
  simp only [F287]
  simp (disch := omega) only [go_sem]
  refine W.upto l.length (fun j => ⟨[(1,.ptr 1 0),(3,grV 0 (ints ((l.take j).map (·.type)))),(4,.pv (.int .i64 j))],⟨[(1,[.pv (.int .i64 k),.pv (.str a2),.pv (.int .i64 a3),.pv (.int .i64 a4),.pv (.int .i64 a5),.pv (.lst 0 (a6.map Sym.c)),.pv (.lst 0 (l.map Mem.c)),.pv (.int .i64 a8),.pv (.int .i64 a9),.pv (.bool a10)])],grA 1 (ints ((l.take j).map (·.type))),[]⟩⟩) (fun _ => True) rfl trivial (fun j hj _ => ?_)
  rcases Nat.lt_or_ge j l.length with hlt | hge
  · have hp := List.getElem?_eq_getElem hlt
    generalize l[j] = p at hp
    have t1 : (l.take (j + 1)).map (·.type) = (l.take j).map (·.type) ++ [p.type] := by rw [List.take_add_one,hp,List.map_append]; rfl
    have l1 : ((l.take j).map (·.type)).length = j := by simp; omega
    generalize (l.take j).map (·.type) = u at t1 l1
    simp (disch := omega) only [go_sem]
    refine Br.ofP (fun c => ?_) (fun c => (c (by omega)).elim)
    simp (disch := omega) only [go_sem,hp,Mem.c]
    refine .of (by omega) ?_ trivial
    rw [t1]
    rfl
  · obtain rfl : j = l.length := by omega
    rw [List.take_length]
    have l1 : (l.map (·.type)).length = l.length := by simp
    generalize l.map (·.type) = u at l1
    have l2 : (u ++ [a8]).length = l.length + 1 := by simp [l1]
    simp (disch := omega) only [go_sem]
    refine Br.ofP (fun c => ?_) (fun c => ?_) <;> simp (disch := omega) only [go_sem,c]
    refine Br.ofP (fun c2 => ?_) (fun c2 => ?_) <;> simp (disch := omega) only [go_sem,c,c2]
    refine Br.ofP (fun c3 => ?_) (fun c3 => ?_) <;> simp (disch := omega) only [go_sem,c3]
    have h7 : ¬ 7 ≤ k := by omega
    simp [c,h7]
theorem r288 (k : Int) : res A PrA 288 [.int .i64 k] = some [.bool (decide (1 ≤ k) && decide (k ≤ 4))] := by
  refine res_of a288 rfl rfl ?_
  simp only [F288]
  simp (disch := omega) only [go_sem]
  refine Br.ofP (fun c => ?_) (fun c => ?_) <;> simp (disch := omega) only [go_sem,c]
end Go.Pv
namespace Go.Pv
def kindAt (l : List Typ) (i : Int) : Int := ((l[i.toNat]?).map (·.kind)).getD 0
def dupName (l : List Typ) (k : Nat) (t : Typ) : Bool := !decide (t.name = ⟨#[]⟩) && hasS ((l.take k).map (·.name)) t.name
def outR (n : Nat) (u : Int) : Bool := decide (u < 0) || decide ((n : Int) ≤ u)
def badKey (l : List Typ) (t : Typ) : Bool := decide (t.kind = 8) && !(decide (1 ≤ kindAt l t.key) && decide (kindAt l t.key ≤ 4))
noncomputable def errAt (l : List Typ) (k : Nat) (t : Typ) : Int := if (!ownOk t || dupName l k t) = true then 1 else if (usesT t).any (outR l.length) = true then 4 else if badKey l t = true then 1 else 0
noncomputable def errIdx (l : List Typ) (k : Nat) : Int := match l[k]? with
  | some t => errAt l k t
  | none => 0
noncomputable def errOf (l : List Typ) (o : Option Nat) : Int := match o with
  | some k => errIdx l k
  | none => 0
noncomputable def validR (l : List Typ) : Int := if 32 < l.length then 3 else errOf l ((List.range l.length).find? fun k => decide (errIdx l k ≠ 0))
def seenN (l : List Typ) (k : Nat) : List ByteArray := ((l.take k).map (·.name)).foldl insS []
theorem mem_foldS : ∀ (m s : List ByteArray) (x : ByteArray),x ∈ m.foldl insS s ↔ x ∈ s ∨ x ∈ m
  | [],s,x => by simp
  | y :: m,s,x => by
    rw [List.foldl_cons,mem_foldS m (insS s y) x,mem_insS,List.mem_cons]
    constructor
    · rintro ((h | h) | h)
      · exact .inl h
      · exact .inr (.inl h)
      · exact .inr (.inr h)
    · rintro (h | h | h)
      · exact .inl (.inl h)
      · exact .inl (.inr h)
      · exact .inr h
theorem has_seenN (l : List Typ) (k : Nat) (x : ByteArray) : hasS (seenN l k) x = hasS ((l.take k).map (·.name)) x := by
  rw [Bool.eq_iff_iff,hasS_iff,hasS_iff,seenN,mem_foldS]
  simp
theorem seenN_next {l : List Typ} {k : Nat} {t : Typ} (h : l[k]? = some t) : insS (seenN l k) t.name = seenN l (k + 1) := by
  unfold seenN
  rw [List.take_add_one,h,List.map_append,List.foldl_append]
  rfl
theorem key_used {t : Typ} (h : t.kind = 8) : t.key ∈ usesT t := by simp [usesT,keysT,h]
set_option maxHeartbeats 4000000 in
theorem r267 (v : Nat) (l : List Typ) (hl : l.length ≤ 2147483648) (ho : ∀ t ∈ l,t.ok) (hs : ∀ t ∈ l,t.held) : res A PrA 267 [.agg [.lst v (l.map Typ.c)]] = some [.int .i64 (validR l)] := by
  refine res_of a267 rfl rfl ?_
  simp only [F267]
  simp (disch := omega) only [go_sem]
  refine Br.ofP (fun c0 => ?_) (fun c0 => ?_) <;> simp (disch := omega) only [go_sem,c0]
  · have : 32 < l.length := by omega
    simp [validR,this]
  have h32 : ¬ 32 < l.length := by omega
  unfold validR
  rw [if_neg h32]
  obtain ⟨G,hG⟩ : ∃ G,errOf l ((List.range l.length).find? fun k => decide (errIdx l k ≠ 0)) = G := ⟨_,rfl⟩
  rw [hG]
  refine W.find (List.range l.length) (fun k => decide (errIdx l k ≠ 0)) (fun k => ⟨[(1,.ptr 1 0),(3,.map 0),(14,.pv (.lst v (l.map Typ.c))),(15,.pv (.int .i64 l.length)),(16,.pv (.int .i64 k))],⟨[(1,[.pv (.lst v (l.map Typ.c))])],[],[seenS (seenN l k)]⟩⟩) rfl (fun k x hx hk hfd => ?_) (fun hn => ?_)
  · obtain ⟨rfl,hk⟩ := range_get hx
    have hp := List.getElem?_eq_getElem hk
    generalize l[x] = p at hp
    have hm := List.mem_of_getElem? hp
    have h283 := r283 p (ho p hm) (hs p hm)
    have he : errIdx l x = errAt l x p := by simp only [errIdx,hp]
    have hnx := seenN_next hp
    have hsn := has_seenN l x p.name
    have done : ∀ e : Int,errAt l x p = e → e ≠ 0 → (some [PV.int .i64 e] : Option (List PV)) = some [.int .i64 G] := fun e h1 h2 => by
      rw [← hG,(hfd (by rw [he,h1]; simpa using h2)).find,errOf,he,h1]
    rw [he]
    have hul : (usesT p).length ≤ 8000000000002 := by
      have := (hs p hm).mems
      unfold usesT keysT elemsT
      rw [List.length_append,List.length_append,List.length_map]
      split <;> split <;> simp <;> omega
    unfold Typ.c at h283
    simp (disch := omega) only [go_sem]
    refine Br.ofP (fun c => ?_) (fun c => (c (by omega)).elim)
    simp (disch := omega) only [go_sem,hp,Typ.c,h283]
    refine Br.of (fun c1 => ?_) (fun c1 => ?_) <;> simp (disch := omega) only [go_sem,c1]
    rotate_left
    · exact done 1 (by simp [errAt,c1]) (by decide)
    have nodup : dupName l x p = false → (!ownOk p || dupName l x p) = false := fun h => by rw [c1,h]; rfl
    have dup : dupName l x p = (!decide (p.name = ⟨#[]⟩) && hasS (seenN l x) p.name) := by rw [has_seenN]; rfl
    have hown : (ownOk p) = true := c1
    have h284 := r284 p (own_short hown)
    unfold Typ.c at h284
    refine Br.ofP (fun c2 => ?_) (fun c2 => ?_)
    · have d2 : decide (p.name = ⟨#[]⟩) = true := by simp [c2]
      rw [d2] at dup
      have hd := nodup (by rw [dup]; rfl)
      clear c2
      simp (disch := omega) only [go_sem,d2,h284,hnx]
      refine W.find (usesT p) (outR l.length) (fun j => ⟨[(1,.ptr 1 0),(3,.map 0),(5,.ptr 5 0),(14,.pv (.lst v (l.map Typ.c))),(15,.pv (.int .i64 l.length)),(16,.pv (.int .i64 x)),(38,.pv (.lst 0 (ints (usesT p)))),(39,.pv (.int .i64 (usesT p).length)),(40,.pv (.int .i64 j))],⟨[(1,[.pv (.lst v (l.map Typ.c))]),(5,[.pv (.int .i64 p.kind),.pv (.str p.name),.pv (.int .i64 p.low),.pv (.int .i64 p.high),.pv (.int .i64 p.max),.pv (.lst 0 (p.syms.map Sym.c)),.pv (.lst 0 (p.mems.map Mem.c)),.pv (.int .i64 p.key),.pv (.int .i64 p.elem),.pv (.bool p.opn)])],[],[seenS (seenN l (x + 1))]⟩⟩) rfl (fun j u hu hj hfd2 => ?_) (fun hn => ?_)
      · have d4 : outR l.length u = true → errAt l x p = 4 := fun g => by
          rw [errAt,hd,(hfd2 g).any]
          rfl
        simp (disch := omega) only [go_sem]
        refine Br.ofP (fun c => ?_) (fun c => (c (by omega)).elim)
        simp (disch := omega) only [go_sem,hu]
        refine Br.ofP (fun c4 => ?_) (fun c4 => ?_) <;> simp (disch := omega) only [go_sem,c4]
        · exact done 4 (d4 (by simp [outR,c4])) (by decide)
        refine Br.ofP (fun c5 => ?_) (fun c5 => ?_) <;> simp (disch := omega) only [go_sem,c5]
        · exact done 4 (d4 (by simp [outR,c5])) (by decide)
        · exact findK.of (by simp [outR,c4,c5]) rfl
      · have he2 : errAt l x p = if badKey l p = true then 1 else 0 := by
          rw [errAt,hd,hn.any]
          rfl
        simp (disch := omega) only [go_sem]
        refine Br.ofP (fun c4 => ?_) (fun c4 => ?_)
        · have hku := key_used c4
          have hout := List.any_eq_false.1 hn.any _ hku
          have hk0 : 0 ≤ p.key ∧ p.key < l.length := by
            simp [outR] at hout
            omega
          have hkk := List.getElem?_eq_getElem (l := l) (i := p.key.toNat) (by omega)
          have hka : kindAt l p.key = (l[p.key.toNat]'(by omega)).kind := by rw [kindAt,hkk]; rfl
          generalize l[p.key.toNat]'(by omega) = q at hkk hka
          have d8 : decide (p.kind = 8) = true := by simp [c4]
          have hb : badKey l p = !(decide (1 ≤ q.kind) && decide (q.kind ≤ 4)) := by rw [badKey,d8,hka]; rfl
          have hidx : idxR 10 v (l.map Typ.c) (some p.key) = some (V.pv (.ro v q.c)) := by
            rw [idxR_int _ _ _ hk0.1,List.getElem?_map,hkk]
            rfl
          unfold Typ.c at hidx
          unfold Typ.c
          simp (disch := omega) only [go_sem,d8,hidx]
          refine Br.ofP (fun c6 => ?_) (fun c6 => ?_) <;> simp (disch := omega) only [go_sem,c6]
          · refine done 1 ?_ (by decide)
            have : ¬ 1 ≤ q.kind := by omega
            rw [he2,hb]
            simp [this]
          simp (disch := omega) only [go_sem,hidx]
          refine Br.ofP (fun c7 => ?_) (fun c7 => ?_) <;> simp (disch := omega) only [go_sem,c7]
          · refine done 1 ?_ (by decide)
            have : ¬ q.kind ≤ 4 := by omega
            rw [he2,hb]
            simp [this]
          · refine findK.of ?_ rfl
            have h1 : 1 ≤ q.kind := by omega
            have h2 : q.kind ≤ 4 := by omega
            rw [he2,hb]
            simp [h1,h2]
        · have d8 : decide (p.kind = 8) = false := by simp [c4]
          have hb : badKey l p = false := by rw [badKey,d8]; rfl
          simp (disch := omega) only [go_sem,d8]
          refine findK.of ?_ rfl
          rw [he2,hb]
          rfl
    · have d2 : decide (p.name = ⟨#[]⟩) = false := by simp [c2]
      rw [d2] at dup
      simp (disch := omega) only [go_sem,d2]
      refine Br.of (fun c3 => ?_) (fun c3 => ?_) <;> simp (disch := omega) only [go_sem,c3,h284,hnx]
      · refine done 1 ?_ (by decide)
        rw [errAt,dup,c3]
        simp
      have hd := nodup (by rw [dup,c3]; rfl)
      refine W.find (usesT p) (outR l.length) (fun j => ⟨[(1,.ptr 1 0),(3,.map 0),(5,.ptr 5 0),(14,.pv (.lst v (l.map Typ.c))),(15,.pv (.int .i64 l.length)),(16,.pv (.int .i64 x)),(38,.pv (.lst 0 (ints (usesT p)))),(39,.pv (.int .i64 (usesT p).length)),(40,.pv (.int .i64 j))],⟨[(1,[.pv (.lst v (l.map Typ.c))]),(5,[.pv (.int .i64 p.kind),.pv (.str p.name),.pv (.int .i64 p.low),.pv (.int .i64 p.high),.pv (.int .i64 p.max),.pv (.lst 0 (p.syms.map Sym.c)),.pv (.lst 0 (p.mems.map Mem.c)),.pv (.int .i64 p.key),.pv (.int .i64 p.elem),.pv (.bool p.opn)])],[],[seenS (seenN l (x + 1))]⟩⟩) rfl (fun j u hu hj hfd2 => ?_) (fun hn => ?_)
      · have d4 : outR l.length u = true → errAt l x p = 4 := fun g => by
          rw [errAt,hd,(hfd2 g).any]
          rfl
        simp (disch := omega) only [go_sem]
        refine Br.ofP (fun c => ?_) (fun c => (c (by omega)).elim)
        simp (disch := omega) only [go_sem,hu]
        refine Br.ofP (fun c4 => ?_) (fun c4 => ?_) <;> simp (disch := omega) only [go_sem,c4]
        · exact done 4 (d4 (by simp [outR,c4])) (by decide)
        refine Br.ofP (fun c5 => ?_) (fun c5 => ?_) <;> simp (disch := omega) only [go_sem,c5]
        · exact done 4 (d4 (by simp [outR,c5])) (by decide)
        · exact findK.of (by simp [outR,c4,c5]) rfl
      · have he2 : errAt l x p = if badKey l p = true then 1 else 0 := by
          rw [errAt,hd,hn.any]
          rfl
        simp (disch := omega) only [go_sem]
        refine Br.ofP (fun c4 => ?_) (fun c4 => ?_)
        · have hku := key_used c4
          have hout := List.any_eq_false.1 hn.any _ hku
          have hk0 : 0 ≤ p.key ∧ p.key < l.length := by
            simp [outR] at hout
            omega
          have hkk := List.getElem?_eq_getElem (l := l) (i := p.key.toNat) (by omega)
          have hka : kindAt l p.key = (l[p.key.toNat]'(by omega)).kind := by rw [kindAt,hkk]; rfl
          generalize l[p.key.toNat]'(by omega) = q at hkk hka
          have d8 : decide (p.kind = 8) = true := by simp [c4]
          have hb : badKey l p = !(decide (1 ≤ q.kind) && decide (q.kind ≤ 4)) := by rw [badKey,d8,hka]; rfl
          have hidx : idxR 10 v (l.map Typ.c) (some p.key) = some (V.pv (.ro v q.c)) := by
            rw [idxR_int _ _ _ hk0.1,List.getElem?_map,hkk]
            rfl
          unfold Typ.c at hidx
          unfold Typ.c
          simp (disch := omega) only [go_sem,d8,hidx]
          refine Br.ofP (fun c6 => ?_) (fun c6 => ?_) <;> simp (disch := omega) only [go_sem,c6]
          · refine done 1 ?_ (by decide)
            have : ¬ 1 ≤ q.kind := by omega
            rw [he2,hb]
            simp [this]
          simp (disch := omega) only [go_sem,hidx]
          refine Br.ofP (fun c7 => ?_) (fun c7 => ?_) <;> simp (disch := omega) only [go_sem,c7]
          · refine done 1 ?_ (by decide)
            have : ¬ q.kind ≤ 4 := by omega
            rw [he2,hb]
            simp [this]
          · refine findK.of ?_ rfl
            have h1 : 1 ≤ q.kind := by omega
            have h2 : q.kind ≤ 4 := by omega
            rw [he2,hb]
            simp [h1,h2]
        · have d8 : decide (p.kind = 8) = false := by simp [c4]
          have hb : badKey l p = false := by rw [badKey,d8]; rfl
          simp (disch := omega) only [go_sem,d8]
          refine findK.of ?_ rfl
          rw [he2,hb]
          rfl
  · rw [hn.find] at hG
    rw [List.length_range]
    simp (disch := omega) only [go_sem]
    rw [← hG]
    rfl
end Go.Pv
namespace Go.Pv
theorem isName_ne {s : ByteArray} (h : isName s = true) : s ≠ ⟨#[]⟩ := by
  rintro rfl
  cases h
theorem plainTy_name {t : Typ} (hn : ¬ (4 ≤ t.kind ∧ t.kind ≤ 6)) : (plainTy t).name = ⟨#[]⟩ := by
  unfold plainTy
  repeat' split
  all_goals first
    | rfl
    | omega
theorem own_name {p : Typ} (h : ownOk p = true) : decide (p.name = ⟨#[]⟩) = !(decide (4 ≤ p.kind) && decide (p.kind ≤ 6)) := by
  unfold ownOk at h
  rw [Bool.and_eq_true,Bool.and_eq_true (eqv p (plainTy p)),Bool.and_eq_true (!(decide (4 ≤ p.kind) && decide (p.kind ≤ 6)) || isName p.name),eqv_iff] at h
  obtain ⟨h1,h2,h3,h4⟩ := h
  by_cases hn : 4 ≤ p.kind ∧ p.kind ≤ 6
  · have e : (decide (4 ≤ p.kind) && decide (p.kind ≤ 6)) = true := by simp [hn]
    rw [e] at h3 ⊢
    have h3 : isName p.name = true := by simpa using h3
    simp [isName_ne h3]
  · have e : (decide (4 ≤ p.kind) && decide (p.kind ≤ 6)) = false := by
      rw [Bool.eq_false_iff]
      simp
      omega
    rw [e]
    have : p.name = ⟨#[]⟩ := by
      rw [h2]
      exact plainTy_name hn
    simp [this]
theorem dup_own {l : List Typ} {k : Nat} {p : Typ} (h : ownOk p = true) : dupName l k p = (l.take k).any fun q => (decide (4 ≤ p.kind) && decide (p.kind ≤ 6)) && decide (q.name = p.name) := by
  unfold dupName
  rw [own_name h,Bool.not_not]
  cases (decide (4 ≤ p.kind) && decide (p.kind ≤ 6)) with
  | false => simp
  | true =>
    simp only [Bool.true_and]
    unfold hasS
    rw [List.any_map]
    rfl
theorem own_kind {p : Typ} (h : ownOk p = true) : p.kind ≤ 9 := by
  unfold ownOk at h
  simp only [Bool.and_eq_true,decide_eq_true_eq] at h
  exact h.1.2
set_option maxHeartbeats 4000000 in
theorem r268 (v : Nat) (l : List Typ) (hl : l.length ≤ 2147483648) (ho : ∀ t ∈ l,t.ok) (hs : ∀ t ∈ l,t.held) : res A PrA 268 [.agg [.lst v (l.map Typ.c)]] = some [.int .i64 (validR l)] := by
  refine res_of a268 rfl rfl ?_
  simp only [F268]
  simp (disch := omega) only [go_sem]
  refine Br.ofP (fun c0 => ?_) (fun c0 => ?_) <;> simp (disch := omega) only [go_sem,c0]
  · have : 32 < l.length := by omega
    simp [validR,this]
  have h32 : ¬ 32 < l.length := by omega
  unfold validR
  rw [if_neg h32]
  obtain ⟨G,hG⟩ : ∃ G,errOf l ((List.range l.length).find? fun k => decide (errIdx l k ≠ 0)) = G := ⟨_,rfl⟩
  rw [hG]
  refine W.find (List.range l.length) (fun k => decide (errIdx l k ≠ 0)) (fun k => ⟨[(1,.ptr 1 0),(3,.pv (.int .i64 k))],⟨[(1,[.pv (.lst v (l.map Typ.c))])],[],[]⟩⟩) rfl (fun k x hx hk hfd => ?_) (fun hn => ?_)
  · obtain ⟨rfl,hk⟩ := range_get hx
    have hp := List.getElem?_eq_getElem hk
    generalize l[x] = p at hp
    have hm := List.mem_of_getElem? hp
    have h285 := r285 p (ho p hm) (hs p hm)
    have h286 := r286 p.kind
    have he : errIdx l x = errAt l x p := by simp only [errIdx,hp]
    have done : ∀ e : Int,errAt l x p = e → e ≠ 0 → (some [PV.int .i64 e] : Option (List PV)) = some [.int .i64 G] := fun e h1 h2 => by
      rw [← hG,(hfd (by rw [he,h1]; simpa using h2)).find,errOf,he,h1]
    rw [he]
    have hul : (usesT p).length ≤ 8000000000002 := by
      have := (hs p hm).mems
      unfold usesT keysT elemsT
      rw [List.length_append,List.length_append,List.length_map]
      split <;> split <;> simp <;> omega
    unfold Typ.c at h285
    simp (disch := omega) only [go_sem]
    refine Br.ofP (fun c => ?_) (fun c => (c (by omega)).elim)
    simp (disch := omega) only [go_sem,hp,Typ.c,h285]
    refine Br.of (fun c1 => ?_) (fun c1 => ?_) <;> simp (disch := omega) only [go_sem,c1]
    rotate_left
    · exact done 1 (by simp [errAt,c1]) (by decide)
    have h287 := r287 p (own_short c1) (own_kind c1)
    unfold Typ.c at h287
    have hdup := dup_own (l := l) (k := x) c1
    have herr : (!ownOk p || dupName l x p) = dupName l x p := by rw [c1]; rfl
    generalize hnm : (decide (4 ≤ p.kind) && decide (p.kind ≤ 6)) = nm at h286 hdup
    refine W.find (l.take x) (fun q => nm && decide (q.name = p.name)) (fun j => ⟨[(1,.ptr 1 0),(3,.pv (.int .i64 x)),(4,.ptr 4 0),(5,.pv (.int .i64 j))],⟨[(1,[.pv (.lst v (l.map Typ.c))]),(4,[.pv (.int .i64 p.kind),.pv (.str p.name),.pv (.int .i64 p.low),.pv (.int .i64 p.high),.pv (.int .i64 p.max),.pv (.lst 0 (p.syms.map Sym.c)),.pv (.lst 0 (p.mems.map Mem.c)),.pv (.int .i64 p.key),.pv (.int .i64 p.elem),.pv (.bool p.opn)])],[],[]⟩⟩) rfl (fun j q hj hjl hfd2 => ?_) (fun hn => ?_)
    · have hjl' : j < x ∧ j < l.length := by rw [List.length_take] at hjl; omega
      have hj' : l[j]? = some q := by
        rw [List.getElem?_take,if_pos hjl'.1] at hj
        exact hj
      simp (disch := omega) only [go_sem]
      refine Br.ofP (fun c => ?_) (fun c => (c (by omega)).elim)
      simp (disch := omega) only [go_sem,h286]
      refine Br.of (fun c2 => ?_) (fun c2 => ?_)
      · simp (disch := omega) only [go_sem,c2,hj',Typ.c]
        refine Br.ofP (fun c3 => ?_) (fun c3 => ?_) <;> simp (disch := omega) only [go_sem,c3]
        · refine done 1 ?_ (by decide)
          rw [errAt,herr,hdup,(hfd2 (by simp [c2,c3])).any]
          rfl
        · exact findK.of (by simp [c3]) rfl
      · simp (disch := omega) only [go_sem,c2]
        exact findK.of (by simp [c2]) rfl
    · have hlx : (l.take x).length = x := by rw [List.length_take]; omega
      rw [hlx]
      have hd : (!ownOk p || dupName l x p) = false := by rw [herr,hdup,hn.any]
      simp (disch := omega) only [go_sem,h287]
      refine W.find (usesT p) (outR l.length) (fun j => ⟨[(1,.ptr 1 0),(3,.pv (.int .i64 x)),(4,.ptr 4 0),(6,.pv (.lst 0 (ints (usesT p)))),(7,.pv (.int .i64 j))],⟨[(1,[.pv (.lst v (l.map Typ.c))]),(4,[.pv (.int .i64 p.kind),.pv (.str p.name),.pv (.int .i64 p.low),.pv (.int .i64 p.high),.pv (.int .i64 p.max),.pv (.lst 0 (p.syms.map Sym.c)),.pv (.lst 0 (p.mems.map Mem.c)),.pv (.int .i64 p.key),.pv (.int .i64 p.elem),.pv (.bool p.opn)])],[],[]⟩⟩) rfl (fun j u hu hj hfd2 => ?_) (fun hn => ?_)
      · have d4 : outR l.length u = true → errAt l x p = 4 := fun g => by
          rw [errAt,hd,(hfd2 g).any]
          rfl
        simp (disch := omega) only [go_sem]
        refine Br.ofP (fun c => ?_) (fun c => (c (by omega)).elim)
        simp (disch := omega) only [go_sem,hu]
        refine Br.ofP (fun c4 => ?_) (fun c4 => ?_) <;> simp (disch := omega) only [go_sem,c4]
        · exact done 4 (d4 (by simp [outR,c4])) (by decide)
        simp (disch := omega) only [go_sem,hu]
        refine Br.ofP (fun c5 => ?_) (fun c5 => ?_) <;> simp (disch := omega) only [go_sem,c5]
        · exact done 4 (d4 (by simp [outR,c5])) (by decide)
        · exact findK.of (by simp [outR,c4,c5]) rfl
      · have he2 : errAt l x p = if badKey l p = true then 1 else 0 := by
          rw [errAt,hd,hn.any]
          rfl
        simp (disch := omega) only [go_sem]
        refine Br.ofP (fun c4 => ?_) (fun c4 => ?_)
        · have hku := key_used c4
          have hout := List.any_eq_false.1 hn.any _ hku
          have hk0 : 0 ≤ p.key ∧ p.key < l.length := by
            simp [outR] at hout
            omega
          have hkk := List.getElem?_eq_getElem (l := l) (i := p.key.toNat) (by omega)
          have hka : kindAt l p.key = (l[p.key.toNat]'(by omega)).kind := by rw [kindAt,hkk]; rfl
          generalize l[p.key.toNat]'(by omega) = q at hkk hka
          have d8 : decide (p.kind = 8) = true := by simp [c4]
          have hb : badKey l p = !(decide (1 ≤ q.kind) && decide (q.kind ≤ 4)) := by rw [badKey,d8,hka]; rfl
          have hidx : idxR 10 v (l.map Typ.c) (some p.key) = some (V.pv (.ro v q.c)) := by
            rw [idxR_int _ _ _ hk0.1,List.getElem?_map,hkk]
            rfl
          have h288 := r288 q.kind
          generalize (decide (1 ≤ q.kind) && decide (q.kind ≤ 4)) = kk at hb h288
          unfold Typ.c at hidx
          unfold Typ.c
          simp (disch := omega) only [go_sem,d8,hidx,h288]
          refine Br.of (fun c6 => ?_) (fun c6 => ?_) <;> simp (disch := omega) only [go_sem,c6]
          · refine findK.of ?_ rfl
            rw [he2,hb,c6]
            rfl
          · refine done 1 ?_ (by decide)
            rw [he2,hb,c6]
            rfl
        · have d8 : decide (p.kind = 8) = false := by simp [c4]
          have hb : badKey l p = false := by rw [badKey,d8]; rfl
          simp (disch := omega) only [go_sem,d8]
          refine findK.of ?_ rfl
          rw [he2,hb]
          rfl
  · rw [hn.find] at hG
    rw [List.length_range]
    simp (disch := omega) only [go_sem]
    rw [← hG]
    rfl
set_option maxHeartbeats 1000000 in
theorem r259 (r265 : res A PrA 265 [] = some [.bool true]) (l : List Typ) (ho : ∀ t ∈ l,t.ok) (hs : ∀ t ∈ l,t.held) : res A PrA 259 [.agg [.lst 0 (l.map Typ.c)]] = some [.bool true] := by
  refine res_of a259 rfl rfl ?_
  simp only [F259]
  have h266 := fun u => r266 u l ho
  simp (disch := omega) only [go_sem,r265,h266]
  cases hf : few l with
  | false => simp (disch := omega) only [go_sem,r265]
  | true =>
    have h40 := few_len hf
    have e1 := fun t => r267 t l (by omega) ho hs
    have e2 := fun t => r268 t l (by omega) ho hs
    generalize validR l = b at e1 e2
    simp (disch := omega) only [go_sem,e1,e2]
end Go.Pv
namespace Go.Pv
theorem pw_ext {α : Type} {r : α → α → Prop} (irr : ∀ x,¬ r x x) (tr : ∀ x y z,r x y → r y z → r x z) : ∀ {l m : List α},l.Pairwise r → m.Pairwise r → (∀ x,x ∈ l ↔ x ∈ m) → l = m
  | [],[],_,_,_ => rfl
  | [],y :: m,_,_,h => absurd ((h y).2 (by simp)) (by simp)
  | x :: l,[],_,_,h => absurd ((h x).1 (by simp)) (by simp)
  | x :: l,y :: m,hl,hm,h => by
    rw [List.pairwise_cons] at hl hm
    have e : x = y := by
      rcases List.mem_cons.1 ((h x).1 (by simp)) with e | hx
      · exact e
      · rcases List.mem_cons.1 ((h y).2 (by simp)) with e | hy
        · exact e.symm
        · exact (irr x (tr x y x (hl.1 y hy) (hm.1 x hx))).elim
    subst e
    congr 1
    refine pw_ext irr tr hl.2 hm.2 fun z => ⟨fun hz => ?_,fun hz => ?_⟩
    · rcases List.mem_cons.1 ((h z).1 (List.mem_cons_of_mem _ hz)) with rfl | hz'
      · exact (irr z (hl.1 z hz)).elim
      · exact hz'
    · rcases List.mem_cons.1 ((h z).2 (List.mem_cons_of_mem _ hz)) with rfl | hz'
      · exact (irr z (hm.1 z hz)).elim
      · exact hz'
theorem asc_ext {l m : List Int} (hl : l.Pairwise (· < ·)) (hm : m.Pairwise (· < ·)) (h : ∀ x,x ∈ l ↔ x ∈ m) : l = m :=
  pw_ext (r := (· < ·)) (fun x => Int.lt_irrefl x) (fun _ _ _ => Int.lt_trans) hl hm h
theorem nodup_bound {l : List Int} {n : Nat} (hn : l.Nodup) (h : ∀ x ∈ l,0 ≤ x ∧ x < n) : l.length ≤ n := by
  have := List.Nodup.length_le_of_subset (l₂ := (List.range n).map Int.ofNat) hn (fun x hx => by
    have := h x hx
    rw [List.mem_map]
    exact ⟨x.toNat,List.mem_range.2 (by omega),by simp; omega⟩)
  simpa using this
section
variable {α : Type} [DecidableEq α]
def addN (o : List α) (x : α) : List α := if x ∈ o then o else o ++ [x]
theorem addN_mem {o : List α} {x y : α} : y ∈ addN o x ↔ y ∈ o ∨ y = x := by
  unfold addN
  split
  · rename_i h
    exact ⟨.inl,fun h' => h'.elim id (fun e => e ▸ h)⟩
  · simp
theorem addN_nodup {o : List α} {x : α} (h : o.Nodup) : (addN o x).Nodup := by
  unfold addN
  split
  · exact h
  · rename_i hx
    rw [List.nodup_append]
    exact ⟨h,by simp,fun a ha b hb => by
      rw [List.mem_singleton] at hb
      subst hb
      exact fun e => hx (e ▸ ha)⟩
theorem addN_pre (o : List α) (x : α) : o <+: addN o x := by
  unfold addN
  split
  · exact List.prefix_refl o
  · exact List.prefix_append o [x]
def addL (o : List α) (l : List α) : List α := l.foldl addN o
theorem addL_cons (o : List α) (x : α) (l : List α) : addL o (x :: l) = addL (addN o x) l := rfl
theorem addL_mem : ∀ {l o : List α} {y : α},y ∈ addL o l ↔ y ∈ o ∨ y ∈ l
  | [],o,y => by simp [addL]
  | x :: l,o,y => by
    rw [addL_cons,addL_mem,addN_mem]
    simp [or_assoc]
theorem addL_nodup : ∀ {l o : List α},o.Nodup → (addL o l).Nodup
  | [],_,h => h
  | x :: l,o,h => by
    rw [addL_cons]
    exact addL_nodup (addN_nodup h)
def bfs (nx : α → List α) : Nat → Nat → List α → List α
  | 0,_,o => o
  | n + 1,i,o => match o[i]? with
    | none => o
    | some v => bfs nx n (i + 1) (addL o (nx v))
theorem bfs_step {nx : α → List α} {n i : Nat} {o : List α} {v : α} (h : o[i]? = some v) : bfs nx (n + 1) i o = bfs nx n (i + 1) (addL o (nx v)) := by
  simp only [bfs,h]
theorem bfs_end {nx : α → List α} : ∀ {n i : Nat} {o : List α},o.length ≤ i → bfs nx n i o = o
  | 0,_,_,_ => rfl
  | n + 1,i,o,h => by simp only [bfs,List.getElem?_eq_none h]
theorem bfs_nodup {nx : α → List α} : ∀ (n i : Nat) {o : List α},o.Nodup → (bfs nx n i o).Nodup
  | 0,_,_,h => h
  | n + 1,i,o,h => by
    unfold bfs
    split
    · exact h
    · exact bfs_nodup n _ (addL_nodup h)
theorem bfs_all {nx : α → List α} {P : α → Prop} (hP : ∀ v,P v → ∀ x ∈ nx v,P x) : ∀ (n i : Nat) {o : List α},(∀ v ∈ o,P v) → ∀ v ∈ bfs nx n i o,P v
  | 0,_,_,h => h
  | n + 1,i,o,h => by
    unfold bfs
    split
    · exact h
    · rename_i v hv
      refine bfs_all hP n _ fun x hx => ?_
      rcases addL_mem.1 hx with hx | hx
      · exact h x hx
      · exact hP v (h v (List.mem_of_getElem? hv)) x hx
section
variable {β : Type} [DecidableEq β]
end
end
end Go.Pv
namespace Go.Pv
theorem s118 (t : Nat) (l : List Int) (x : Int) (hl : l.length ≤ 2 ^ 63 - 1) : res A PrA 118 [.lst t (ints l),.int .i64 x] = some [.int .i64 (firstI (fun y => decide (y = x)) l)] := by
  refine res_of a118 rfl rfl ?_
  simp only [F118]
  simp (disch := omega) only [go_sem]
  refine W.find l (fun y => decide (y = x)) (fun k => ⟨[(0,.pv (.lst t (ints l))),(1,.pv (.int .i64 x)),(7,.pv (.int .i64 l.length)),(8,.pv (.int .i64 k))],⟨[],[],[]⟩⟩) rfl (fun k y hy hk hfd => ?_) (fun hn => ?_)
  · simp (disch := omega) only [go_sem]
    refine Br.ofP (fun c => ?_) (fun c => (c (by omega)).elim)
    simp (disch := omega) only [go_sem,hy]
    refine Br.ofP (fun g => ?_) (fun g => ?_) <;> simp (disch := omega) only [go_sem]
    · rw [(hfd (by simp [g])).firstI]
    · exact findK.of (by simpa using fun e => g e.symm) rfl
  · simp (disch := omega) only [go_sem]
    rw [hn.firstI]
theorem firstI_pos {l : List Int} {x : Int} : 0 ≤ firstI (fun y => decide (y = x)) l ↔ x ∈ l := by
  unfold firstI
  cases h : l.findIdx? (fun y => decide (y = x)) with
  | none =>
    rw [List.findIdx?_eq_none_iff] at h
    constructor
    · intro hh
      exact absurd hh (by decide)
    · intro hx
      have := h x hx
      simp at this
  | some k =>
    rw [List.findIdx?_eq_some_iff_getElem] at h
    obtain ⟨hk,hp,_⟩ := h
    constructor
    · intro _
      have e : l[k] = x := by simpa using hp
      rw [← e]
      exact List.getElem_mem hk
    · intro _
      exact Int.natCast_nonneg k
theorem s110 (t : Nat) (l : List Int) (x : Int) (hl : l.length ≤ 2 ^ 63 - 1) : res A PrA 110 [.lst t (ints l),.int .i64 x] = some [.bool (decide (x ∈ l))] := by
  refine res_of a110 rfl rfl ?_
  simp only [F110]
  have h118 := fun t => s118 t l x hl
  simp (disch := omega) only [go_sem,h118]
  simp only [firstI_pos]
theorem s293 (t : Nat) (l : List Int) (x : Int) (hl : l.length ≤ 2 ^ 63 - 1) : res A PrA 293 [.lst t (ints l),.int .i64 x] = some [.bool (decide (x ∈ l))] := by
  refine res_of a293 rfl rfl ?_
  simp only [F293]
  simp (disch := omega) only [go_sem]
  refine W.find l (fun y => decide (y = x)) (fun k => ⟨[(0,.pv (.lst t (ints l))),(1,.pv (.int .i64 x)),(5,.pv (.int .i64 k))],⟨[],[],[]⟩⟩) rfl (fun k y hy hk hfd => ?_) (fun hn => ?_)
  · simp (disch := omega) only [go_sem]
    refine Br.ofP (fun c => ?_) (fun c => (c (by omega)).elim)
    simp (disch := omega) only [go_sem,hy]
    refine Br.ofP (fun g => ?_) (fun g => ?_) <;> simp (disch := omega) only [go_sem]
    · have : x ∈ l := g ▸ List.mem_of_getElem? hy
      simp [this]
    · exact findK.of (by simpa using g) rfl
  · simp (disch := omega) only [go_sem]
    have : ¬ x ∈ l := fun hx => by simpa using List.any_eq_false.1 hn.any x hx
    simp [this]
theorem eqv_int (a b : Int) : eqv a b = decide (a = b) := by
  rw [Bool.eq_iff_iff,eqv_iff]
  simp
theorem s94 (t u : Nat) (l m : List Int) (hl : l.length ≤ 2 ^ 63 - 1) (_hm : m.length ≤ 2 ^ 63 - 1) : res A PrA 94 [.lst t (ints l),.lst u (ints m)] = some [.bool (eqv l m)] := by
  refine res_of a94 rfl rfl ?_
  simp only [F94]
  simp (disch := omega) only [go_sem]
  refine Br.ofP (fun h => ?_) (fun h => ?_) <;> simp (disch := omega) only [go_sem]
  · refine W.find (l.zip m) (fun q => !eqv q.1 q.2) (fun k => ⟨[(0,.pv (.lst t (ints l))),(1,.pv (.lst u (ints m))),(5,.pv (.int .i64 k))],⟨[],[],[]⟩⟩) rfl (fun k q hq hk hfd => ?_) (fun hn => ?_)
    · obtain ⟨h1,h2⟩ := zip_get hq
      rw [zip_len (by omega)] at hk
      simp (disch := omega) only [go_sem]
      refine Br.ofP (fun c => ?_) (fun c => (c (by omega)).elim)
      simp (disch := omega) only [go_sem,h1,h2]
      rw [← eqv_int]
      refine Br.of (fun g => ?_) (fun g => ?_) <;> simp (disch := omega) only [go_sem]
      · exact findK.of (by rw [g]; rfl) rfl
      · rw [(hfd (by rw [g]; rfl)).ne]
    · have hz : (l.zip m).length = l.length := zip_len (by omega)
      rw [hz]
      simp (disch := omega) only [go_sem]
      rw [hn.eq (by omega),eqv_same]
  · rw [eqv_ne (fun e => h (by rw [e]))]
noncomputable def knownR (l : List Typ) (i : Int) : Int := if validR l ≠ 0 then validR l else if outR l.length i = true then 4 else 0
theorem r291 (v : Nat) (l : List Typ) (i : Int) (hl : l.length ≤ 2147483648) (ho : ∀ t ∈ l,t.ok) (hs : ∀ t ∈ l,t.held) : res A PrA 291 [.agg [.lst v (l.map Typ.c)],.int .i64 i] = some [.int .i64 (knownR l i)] := by
  refine res_of a291 rfl rfl ?_
  simp only [F291]
  have h267 := fun v => r267 v l hl ho hs
  unfold knownR outR
  generalize validR l = e at h267
  simp (disch := omega) only [go_sem,h267]
  refine Br.ofP (fun c => ?_) (fun c => ?_) <;> simp (disch := omega) only [go_sem,c]
  · refine Br.ofP (fun c2 => ?_) (fun c2 => ?_) <;> simp (disch := omega) only [go_sem,c2]
    · simp [c]
    · refine Br.ofP (fun c3 => ?_) (fun c3 => ?_) <;> simp (disch := omega) only [go_sem,c3]
      · simp [c]
      · simp [c,c2]
  · simp [c]
theorem r292 (v : Nat) (l : List Typ) (i : Int) (hl : l.length ≤ 2147483648) (ho : ∀ t ∈ l,t.ok) (hs : ∀ t ∈ l,t.held) : res A PrA 292 [.agg [.lst v (l.map Typ.c)],.int .i64 i] = some [.int .i64 (knownR l i)] := by
  refine res_of a292 rfl rfl ?_
  simp only [F292]
  have h268 := fun v => r268 v l hl ho hs
  unfold knownR outR
  generalize validR l = e at h268
  simp (disch := omega) only [go_sem,h268]
  refine Br.ofP (fun c => ?_) (fun c => ?_) <;> simp (disch := omega) only [go_sem,c]
  · refine Br.ofP (fun c2 => ?_) (fun c2 => ?_) <;> simp (disch := omega) only [go_sem,c2]
    · simp [c]
    · refine Br.ofP (fun c3 => ?_) (fun c3 => ?_) <;> simp (disch := omega) only [go_sem,c3]
      · simp [c]
      · simp [c,c2]
  · simp [c]
end Go.Pv
namespace Go.Pv
def noTyp : Typ := ⟨0,⟨#[]⟩,0,0,0,[],[],0,0,false⟩
def typAt (l : List Typ) (i : Int) : Typ := (l[i.toNat]?).getD noTyp
structure Sane (l : List Typ) : Prop where
  len : l.length ≤ 32
  own : ∀ t ∈ l,ownOk t = true
  uses : ∀ t ∈ l,∀ u ∈ usesT t,0 ≤ u ∧ u < l.length
theorem valid_sane {l : List Typ} (h : validR l = 0) : Sane l := by
  unfold validR at h
  split at h
  · cases h
  · rename_i hl
    have hz : ∀ k,k < l.length → errIdx l k = 0 := by
      cases hf : (List.range l.length).find? (fun k => decide (errIdx l k ≠ 0)) with
      | none =>
        intro k hk
        have := List.find?_eq_none.1 hf k (List.mem_range.2 hk)
        simpa using this
      | some k =>
        rw [hf] at h
        have := List.find?_some hf
        simp only [errOf] at h
        simp [h] at this
    have hone : ∀ t ∈ l,ownOk t = true ∧ (usesT t).any (outR l.length) = false := by
      intro t ht
      obtain ⟨k,hk⟩ := List.mem_iff_getElem?.1 ht
      have := hz k (List.getElem?_eq_some_iff.1 hk).1
      simp only [errIdx,hk,errAt] at this
      split at this
      · cases this
      · rename_i h1
        split at this
        · cases this
        · rename_i h2
          simp only [Bool.or_eq_true,Bool.not_eq_true',not_or,Bool.not_eq_false] at h1
          exact ⟨h1.1,by simpa using h2⟩
    refine ⟨by omega,fun t ht => (hone t ht).1,fun t ht u hu => ?_⟩
    have := List.any_eq_false.1 (hone t ht).2 u hu
    simp [outR] at this
    omega
theorem known_zero {l : List Typ} {i : Int} (h : knownR l i = 0) : validR l = 0 ∧ 0 ≤ i ∧ i < l.length := by
  unfold knownR at h
  split at h
  · rename_i h1
    exact absurd h h1
  · rename_i h1
    split at h
    · cases h
    · rename_i h2
      simp only [outR,Bool.or_eq_true,decide_eq_true_eq,not_or] at h2
      exact ⟨by omega,by omega,by omega⟩
theorem typAt_get {l : List Typ} {i : Int} (h0 : 0 ≤ i) (h : i < l.length) : l[i.toNat]? = some (typAt l i) := by
  have := List.getElem?_eq_getElem (l := l) (i := i.toNat) (by omega)
  rw [typAt,this]
  rfl
theorem uses_len {t : Typ} (h : t.short) : (usesT t).length ≤ 1048578 := by
  have := h.mems
  unfold usesT keysT elemsT
  rw [List.length_append,List.length_append,List.length_map]
  split <;> split <;> simp <;> omega
noncomputable def usesR (l : List Typ) (i : Int) : List Int × Int := if knownR l i ≠ 0 then ([],knownR l i) else (addL [] (usesT (typAt l i)),0)
theorem addN_len (o : List Int) (x : Int) : (addN o x).length ≤ o.length + 1 := by
  unfold addN
  split
  · omega
  · simp
theorem idx_typ {v : Nat} {l : List Typ} {i : Int} (h0 : 0 ≤ i) (h : i < l.length) : idxR 10 v (l.map Typ.c) (some i) = some (V.pv (.ro v (typAt l i).c)) := by
  rw [idxR_int _ _ _ h0,List.getElem?_map,typAt_get h0 h]
  rfl
set_option maxHeartbeats 2000000 in
theorem r271 (v : Nat) (l : List Typ) (i : Int) (hl : l.length ≤ 2147483648) (ho : ∀ t ∈ l,t.ok) (hs : ∀ t ∈ l,t.held) : res A PrA 271 [.agg [.lst v (l.map Typ.c)],.int .i64 i] = some [.lst 0 (ints (usesR l i).1),.int .i64 (usesR l i).2] := by
  refine res_of a271 rfl rfl ?_
  simp only [F271]
  have h291 := fun v => r291 v l i hl ho hs
  unfold usesR
  simp (disch := omega) only [go_sem,h291]
  refine Br.ofP (fun c => ?_) (fun c => ?_) <;> simp (disch := omega) only [go_sem,c]
  rotate_left
  · simp [c,ints]
  obtain ⟨hv,hi0,hin⟩ := known_zero c
  have hs : ∀ t ∈ l,t.short := fun t ht => own_short ((valid_sane hv).own t ht)
  rw [if_neg (by simp [c])]
  have hget := typAt_get hi0 hin
  have hidx := idx_typ (v := v) hi0 hin
  have h284 := r284 (typAt l i) (hs _ (List.mem_of_getElem? hget))
  have hul := uses_len (hs _ (List.mem_of_getElem? hget))
  generalize typAt l i = p at *
  unfold Typ.c at h284 hidx
  unfold Typ.c
  simp (disch := omega) only [go_sem,hidx,h284]
  refine W.fold (usesT p) addN [] (fun k o => ⟨[(7,grV 0 (ints o)),(21,.pv (.lst 0 (ints (usesT p)))),(22,.pv (.int .i64 (usesT p).length)),(23,.pv (.int .i64 k))],⟨[],grA 1 (ints o),[]⟩⟩) (fun k o => o.length ≤ k) rfl (Nat.le_refl 0) (fun k u o hu hk _ hI => ?_) (fun o hacc hI => ?_)
  · have h110 := fun t => s110 t o u (by omega)
    have hI2 : (addN o u).length ≤ k + 1 := Nat.le_trans (addN_len o u) (by omega)
    simp (disch := omega) only [go_sem]
    refine Br.ofP (fun c => ?_) (fun c => (c (by omega)).elim)
    simp (disch := omega) only [go_sem,hu,h110]
    refine Br.ofP (fun c2 => ?_) (fun c2 => ?_) <;> simp (disch := omega) only [go_sem,c2]
    · refine foldK.of ?_ hI2
      show _ = St.mk _ _
      rw [addN,if_pos c2]
      rfl
    · refine foldK.of ?_ hI2
      show _ = St.mk _ _
      rw [addN,if_neg c2]
      rfl
  · simp (disch := omega) only [go_sem]
    rw [hacc]
    rfl
set_option maxHeartbeats 2000000 in
theorem r272 (v : Nat) (l : List Typ) (i : Int) (hl : l.length ≤ 2147483648) (ho : ∀ t ∈ l,t.ok) (hs : ∀ t ∈ l,t.held) : res A PrA 272 [.agg [.lst v (l.map Typ.c)],.int .i64 i] = some [.lst 0 (ints (usesR l i).1),.int .i64 (usesR l i).2] := by
  refine res_of a272 rfl rfl ?_
  simp only [F272]
  have h292 := fun v => r292 v l i hl ho hs
  unfold usesR
  simp (disch := omega) only [go_sem,h292]
  refine Br.ofP (fun c => ?_) (fun c => ?_) <;> simp (disch := omega) only [go_sem,c]
  rotate_left
  · simp [c,ints]
  obtain ⟨hv,hi0,hin⟩ := known_zero c
  have hs : ∀ t ∈ l,t.short := fun t ht => own_short ((valid_sane hv).own t ht)
  rw [if_neg (by simp [c])]
  have hget := typAt_get hi0 hin
  have hidx := idx_typ (v := v) hi0 hin
  have h287 := r287 (typAt l i) (hs _ (List.mem_of_getElem? hget)) (own_kind ((valid_sane hv).own _ (List.mem_of_getElem? hget)))
  have hul := uses_len (hs _ (List.mem_of_getElem? hget))
  generalize typAt l i = p at *
  unfold Typ.c at h287 hidx
  unfold Typ.c
  simp (disch := omega) only [go_sem,hidx,h287]
  refine W.fold (usesT p) addN [] (fun k o => ⟨[(7,.pv (.lst 0 (ints (usesT p)))),(8,grV 0 (ints o)),(9,.pv (.int .i64 k))],⟨[],grA 1 (ints o),[]⟩⟩) (fun k o => o.length ≤ k) rfl (Nat.le_refl 0) (fun k u o hu hk _ hI => ?_) (fun o hacc hI => ?_)
  · have h293 := fun t => s293 t o u (by omega)
    have hI2 : (addN o u).length ≤ k + 1 := Nat.le_trans (addN_len o u) (by omega)
    simp (disch := omega) only [go_sem]
    refine Br.ofP (fun c => ?_) (fun c => (c (by omega)).elim)
    simp (disch := omega) only [go_sem,hu,h293]
    refine Br.ofP (fun c2 => ?_) (fun c2 => ?_) <;> simp (disch := omega) only [go_sem,c2]
    · refine foldK.of ?_ hI2
      show _ = St.mk _ _
      rw [addN,if_pos c2]
      rfl
    · simp (disch := omega) only [go_sem,hu]
      refine foldK.of ?_ hI2
      show _ = St.mk _ _
      rw [addN,if_neg c2]
      rfl
  · simp (disch := omega) only [go_sem]
    rw [hacc]
    rfl
end Go.Pv
namespace Go.Pv
def sortJ1 (id ver off len : Nat) (a : Arr) : Option (V × Tn) :=
  if len = 0 then some (.tup [],{ ra := some id }) else (match a.body with
        | .inl rows => if a.k = 1 ∧ off + len ≤ rows.length ∧ len ≤ mostRows then (match mapO intDec ((rows.drop off).take len) with
          | some l => some (.tup [],{ ar := some (id,⟨ver,1,.inl (rows.take off ++ (isort ltI l).map (fun x => [.int .i64 x]) ++ rows.drop (off + len))⟩) })
          | none => none) else none
        | .inr _ => none)
@[go_sem] theorem sortJP_tl (h : Heap) : sortIP [.tl []] h = some (.tup [],{}) := rfl
@[go_sem] theorem sortJP_own (h : Heap) (id ver off len : Nat) : sortIP [.own id ver off len] h = (ownArr h id ver).bind (sortJ1 id ver off len) := by
  simp only [sortIP]
  cases ownArr h id ver <;> rfl
theorem ints_dec (l : List Int) : mapO intDec (ints l) = some l := by
  induction l with
  | nil => rfl
  | cons x l ih =>
    show mapO intDec ([.int .i64 x] :: ints l) = _
    simp only [mapO,intDec,ih]
@[go_sem] theorem sortJ1_ints {id ver n : Nat} {l : List Int} (hn : n = l.length) (h0 : n ≠ 0) (hm : n ≤ 2147483648) : sortJ1 id ver 0 n ⟨ver,1,.inl (ints l)⟩ = some (.tup [],{ ar := some (id,⟨ver,1,.inl (ints (isort ltI l))⟩) }) := by
  subst hn
  have e1 : (ints l).length = l.length := ints_length l
  simp [sortJ1,h0,e1,mostRows,hm,ints_dec,List.take_of_length_le (Nat.le_of_eq e1),List.drop_eq_nil_of_le (Nat.le_of_eq e1)]
  rfl
@[go_sem] theorem lendAll_tl (h : Heap) : lendAll h true [.tl []] = some ([.lst 0 []],none) := rfl
@[go_sem] theorem sortJP_one (h : Heap) (x : Int) : sortIP [.tl [[.int .i64 x]]] h = some (.tup [],{}) := rfl
theorem glV_intsS {n b : Nat} {o : List Int} {x : Int} (h : b ≤ o.length) : glV n b (ints (o ++ [x])) = .own n (o.length - b) 0 (o.length + 1) := by
  rw [← ints_snoc,glV_snoc (by rw [ints_length]; exact h),ints_length]
theorem glA_intsS {b : Nat} {o : List Int} {x : Int} (h : b ≤ o.length) : glA 1 b (ints (o ++ [x])) = [⟨o.length - b,1,.inl (ints (o ++ [x]))⟩] := by
  rw [← ints_snoc,glA_snoc (by rw [ints_length]; exact h),ints_length]
theorem isort_lenS (l : List Int) : (isort ltI l).length = l.length := (isort_perm ltI l).length_eq
end Go.Pv
namespace Go.Pv
def nxT (l : List Typ) (u : Int) : List Int := usesT (typAt l u)
def inT (l : List Typ) (u : Int) : Prop := 0 ≤ u ∧ u < l.length
def reachL (l : List Typ) (i : Int) : List Int := bfs (nxT l) l.length 0 [i]
noncomputable def reachR (l : List Typ) (i : Int) : List Int × Int := if knownR l i ≠ 0 then ([],knownR l i) else (isort ltI (reachL l i),0)
theorem Sane.next {l : List Typ} (h : Sane l) : ∀ v,inT l v → ∀ x ∈ nxT l v,inT l x := fun _v hv x hx =>
  h.uses _ (List.mem_of_getElem? (typAt_get hv.1 hv.2)) x hx
theorem inT_bound {l : List Typ} (o : List Int) (hd : o.Nodup) (h : ∀ v ∈ o,inT l v) : o.length ≤ l.length := nodup_bound hd h
set_option maxHeartbeats 4000000 in
theorem r273 (v : Nat) (l : List Typ) (i : Int) (hl : l.length ≤ 2147483648) (ho : ∀ t ∈ l,t.ok) (hs : ∀ t ∈ l,t.held) : res A PrA 273 [.agg [.lst v (l.map Typ.c)],.int .i64 i] = some [.lst 0 (ints (reachR l i).1),.int .i64 (reachR l i).2] := by
  refine res_of a273 rfl rfl ?_
  simp only [F273]
  have h291 := fun v => r291 v l i hl ho hs
  unfold reachR
  simp (disch := omega) only [go_sem,h291]
  refine Br.ofP (fun c => ?_) (fun c => ?_) <;> simp (disch := omega) only [go_sem,c]
  rotate_left
  · simp [c,ints]
  obtain ⟨hv,hi0,hin⟩ := known_zero c
  have hs : ∀ t ∈ l,t.short := fun t ht => own_short ((valid_sane hv).own t ht)
  rw [if_neg (by simp [c])]
  have hsane := valid_sane hv
  have h32 := hsane.len
  refine W.loop (α := Nat × List Int) (fun x => ⟨[(2,.ptr 2 0),(7,glV 0 1 (ints x.2)),(8,.pv (.int .i64 x.1))],⟨[(2,[.pv (.lst v (l.map Typ.c))])],glA 1 1 (ints x.2),[]⟩⟩)
    (fun x => x.2.Nodup ∧ (∀ v ∈ x.2,inT l v) ∧ 1 ≤ x.2.length ∧ x.1 ≤ x.2.length ∧ bfs (nxT l) (l.length - x.1) x.1 x.2 = reachL l i) (fun x => l.length - x.1) (0,[i]) rfl ⟨by simp,fun w hw => (List.mem_singleton.1 hw) ▸ ⟨hi0,hin⟩,by simp,by simp,rfl⟩ fun x hx => ?_
  obtain ⟨j,o⟩ := x
  obtain ⟨hd,hin',h1,h2,hb⟩ := hx
  dsimp only at hd hin' h1 h2 hb
  have hlen := inT_bound o hd hin'
  simp (disch := omega) only [go_sem]
  refine Br.ofP (fun h => ?_) (fun h => ?_)
  · have hw := List.getElem?_eq_getElem (l := o) (i := j) (by omega)
    generalize o[j]'(by omega) = w at hw
    obtain ⟨hw0,hw1⟩ := hin' w (List.mem_of_getElem? hw)
    have hget := typAt_get hw0 hw1
    have hidx := idx_typ (v := v) hw0 hw1
    have h284 := r284 (typAt l w) (hs _ (List.mem_of_getElem? hget))
    have hul := uses_len (hs _ (List.mem_of_getElem? hget))
    have hnx : nxT l w = usesT (typAt l w) := rfl
    have huses := hsane.uses _ (List.mem_of_getElem? hget)
    generalize typAt l w = p at *
    unfold Typ.c at h284 hidx
    unfold Typ.c at *
    have inner : ∀ (k : Nat) (o : List Int),(o.Nodup ∧ (∀ v ∈ o,inT l v) ∧ 1 ≤ o.length ∧ j < o.length) → ∀ u ∈ usesT p,(addN o u).Nodup ∧ (∀ v ∈ addN o u,inT l v) ∧ 1 ≤ (addN o u).length ∧ j < (addN o u).length := by
      rintro k o ⟨g1,g2,g3,g4⟩ u hu
      obtain ⟨r,hr⟩ := addN_pre o u
      refine ⟨addN_nodup g1,fun x hx => (addN_mem.1 hx).elim (g2 x) (fun q => q ▸ huses u hu),by rw [← hr,List.length_append]; omega,by rw [← hr,List.length_append]; omega⟩
    have hgl := gl_cases (b := 1) (rows := ints o)
    have hVA : ∃ V0 A0,glV 0 1 (ints o) = V0 ∧ glA 1 1 (ints o) = A0 ∧ ((V0 = .tl (ints o) ∧ A0 = []) ∨ ∃ m,(ints o).length = 1 + m + 1 ∧ V0 = .own 0 m 0 (1 + m + 1) ∧ A0 = [⟨m,1,.inl (ints o)⟩]) := by
      rcases hgl with hc | ⟨m,hc⟩
      · exact ⟨_,_,glV_lit hc,glA_lit hc,.inl ⟨rfl,rfl⟩⟩
      · exact ⟨_,_,glV_own hc,glA_own hc,.inr ⟨m,hc,rfl,rfl⟩⟩
    obtain ⟨V0,A0,hV0,hA0,hcase⟩ := hVA
    rw [hV0,hA0]
    rcases hcase with ⟨e1,e2⟩ | ⟨m,hc,e1,e2⟩
    all_goals rw [e1] at hV0 ⊢
    all_goals rw [e2] at hA0 ⊢
    all_goals try rw [ints_length] at hc
    all_goals simp (disch := omega) only [go_sem,hw,hidx,h284]
    all_goals
      refine W.fold (usesT p) addN o (fun k o => ⟨[(2,.ptr 2 0),(7,glV 0 1 (ints o)),(8,.pv (.int .i64 j)),(33,.pv (.lst 0 (ints (usesT p)))),(34,.pv (.int .i64 (usesT p).length)),(35,.pv (.int .i64 k))],⟨[(2,[.pv (.lst v (l.map Typ.c))])],glA 1 1 (ints o),[]⟩⟩)
        (fun _ o => o.Nodup ∧ (∀ v ∈ o,inT l v) ∧ 1 ≤ o.length ∧ j < o.length) ?_ ⟨hd,hin',h1,by omega⟩ (fun k u o hu hk _ hI => ?_) (fun o hacc hI => ?_)
      · show _ = St.mk _ _
        rw [hV0,hA0]
        rfl
      · have hI2 := inner k o hI u (List.mem_of_getElem? hu)
        obtain ⟨g1,g2,g3,g4⟩ := hI
        have hlen := inT_bound o g1 g2
        have h110 := fun t => s110 t o u (by omega)
        simp (disch := omega) only [go_sem]
        refine Br.ofP (fun c => ?_) (fun c => (c (by omega)).elim)
        simp (disch := omega) only [go_sem,hu,h110]
        refine Br.ofP (fun c2 => ?_) (fun c2 => ?_) <;> simp (disch := omega) only [go_sem,c2]
        · refine foldK.of ?_ hI2
          show _ = St.mk _ _
          rw [addN,if_pos c2]
          rfl
        · rcases gl_cases (b := 1) (rows := ints o) with hc | ⟨m,hc⟩
          · rw [glV_lit hc,glA_lit hc]
            rw [ints_length] at hc
            simp (disch := omega) only [go_sem]
            refine foldK.of ?_ hI2
            show _ = St.mk _ _
            rw [addN,if_neg c2,glV_intsS g3,glA_intsS g3,show o.length - 1 = 0 by omega]
            rfl
          · rw [glV_own hc,glA_own hc]
            rw [ints_length] at hc
            simp (disch := omega) only [go_sem]
            refine foldK.of ?_ hI2
            show _ = St.mk _ _
            rw [addN,if_neg c2,glV_intsS g3,glA_intsS g3,show o.length - 1 = m + 1 by omega,hc]
            rfl
      · obtain ⟨g1,g2,g3,g4⟩ := hI
        simp (disch := omega) only [go_sem]
        refine ⟨(j + 1,o),⟨g1,g2,g3,g4,?_⟩,by dsimp only; omega,rfl⟩
        dsimp only
        rw [← hb,hacc]
        obtain ⟨q,hq⟩ : ∃ q,l.length - j = q + 1 := ⟨l.length - j - 1,by omega⟩
        rw [hq,bfs_step hw,hnx]
        congr 1
        omega
  · rw [bfs_end (by omega)] at hb
    rw [← hb]
    rcases gl_cases (b := 1) (rows := ints o) with hc | ⟨m,hc⟩
    · have hc1 : o.length = 1 := by rw [ints_length] at hc; omega
      rw [glV_lit hc,glA_lit hc]
      obtain ⟨y,rfl⟩ := List.length_eq_one_iff.1 hc1
      simp (disch := omega) only [go_sem,ints,List.map_cons,List.map_nil]
      rfl
    · rw [glV_own hc,glA_own hc]
      rw [ints_length] at hc
      simp (disch := omega) only [go_sem]
      rw [List.take_of_length_le (by rw [isort_lenS]; omega)]
end Go.Pv
