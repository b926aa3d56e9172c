/-
  What the functions of the law give.
-/
import Derived.Test.YtdeoikfaclbniaaTab
namespace Go.Pv
variable {A : Nat → Option AFunc} {Pr : Prims}
def grV (n : Nat) : List (List PV) → V
  | [] => .tl []
  | _ :: r => .own n r.length 0 (r.length + 1)
def grA (k : Nat) : List (List PV) → List Arr
  | [] => []
  | x :: r => [⟨r.length,k,.inl (x :: r)⟩]
def grT (n k : Nat) (rows : List (List PV)) (r : List PV) : Tn :=
  match rows with
  | [] => { push := [⟨0,k,.inl [r]⟩],base := n }
  | x :: q => { ar := some (n,⟨q.length + 1,k,.inl (x :: q ++ [r])⟩) }
theorem grow (bx : List (Nat × List V)) (mp : List (List (PV × PV))) (pre : List Arr) (k : Nat) (rows : List (List PV)) (r : List PV) (hr : r.length = k) (hm : rows.length + 1 ≤ 2147483648) :
    appendV ⟨bx,pre ++ grA k rows,mp⟩ k (grV pre.length rows) (.tl [r]) = some (grV pre.length (rows ++ [r]),grT pre.length k rows r) := by
  cases rows with
  | nil => simp [appendV,grV,grA,grT,srcRows,rowsFit,rowsLen,hr,catRows,mostRows]
  | cons x q =>
    have h1 : ownArr ⟨bx,pre ++ grA k (x :: q),mp⟩ pre.length q.length = some ⟨q.length,k,.inl (x :: q)⟩ := by simp [ownArr,grA]
    have h2 : (⟨q.length,k,.inl (x :: q)⟩ : Arr).size = q.length + 1 := rfl
    have h3 : ((x :: q).drop 0).take (q.length + 1) = x :: q := by simp
    simp only [List.length_cons] at hm
    simp [appendV,grV,grT,srcRows,rowsFit,rowsLen,hr,h1,h2,catRows,cutRows,mostRows]
    omega
theorem grT_apply (bx : List (Nat × List V)) (mp : List (List (PV × PV))) (pre : List Arr) (k : Nat) (rows : List (List PV)) (r : List PV) :
    (grT pre.length k rows r).apply ⟨bx,pre ++ grA k rows,mp⟩ = ⟨bx,pre ++ grA k (rows ++ [r]),mp⟩ := by
  cases rows with
  | nil => simp [grT,Tn.apply,grA]
  | cons x q => simp [grT,Tn.apply,grA]
@[go_sem] theorem grow0 (bx : List (Nat × List V)) (mp : List (List (PV × PV))) (k : Nat) (rows : List (List PV)) (r : List PV) (hr : r.length = k) (hm : rows.length + 1 ≤ 2147483648) :
    appendV ⟨bx,grA k rows,mp⟩ k (grV 0 rows) (.tl [r]) = some (grV 0 (rows ++ [r]),grT 0 k rows r) := grow bx mp [] k rows r hr hm
@[go_sem] theorem grow1 (bx : List (Nat × List V)) (mp : List (List (PV × PV))) (a : Arr) (k : Nat) (rows : List (List PV)) (r : List PV) (hr : r.length = k) (hm : rows.length + 1 ≤ 2147483648) :
    appendV ⟨bx,a :: grA k rows,mp⟩ k (grV 1 rows) (.tl [r]) = some (grV 1 (rows ++ [r]),grT 1 k rows r) := grow bx mp [a] k rows r hr hm
@[go_sem] theorem grT_apply0 (bx : List (Nat × List V)) (mp : List (List (PV × PV))) (k : Nat) (rows : List (List PV)) (r : List PV) :
    (grT 0 k rows r).apply ⟨bx,grA k rows,mp⟩ = ⟨bx,grA k (rows ++ [r]),mp⟩ := grT_apply bx mp [] k rows r
@[go_sem] theorem grT_apply1 (bx : List (Nat × List V)) (mp : List (List (PV × PV))) (a : Arr) (k : Nat) (rows : List (List PV)) (r : List PV) :
    (grT 1 k rows r).apply ⟨bx,a :: grA k rows,mp⟩ = ⟨bx,a :: grA k (rows ++ [r]),mp⟩ := grT_apply bx mp [a] k rows r
@[go_sem] theorem scrub_gr (kb : List Nat) (n : Nat) (rows : List (List PV)) : scrub kb (grV n rows) = grV n rows := by cases rows <;> rfl
theorem own_gr (bx : List (Nat × List V)) (mp : List (List (PV × PV))) (pre post : List Arr) (k : Nat) (x : List PV) (q : List (List PV)) : ownArr ⟨bx,pre ++ (grA k (x :: q) ++ post),mp⟩ pre.length q.length = some ⟨q.length,k,.inl (x :: q)⟩ := by simp [ownArr,grA]
theorem keepc_gr (bx : List (Nat × List V)) (mp : List (List (PV × PV))) (pre : List Arr) (k d : Nat) (rows : List (List PV)) : keepc ⟨bx,pre ++ grA k rows,mp⟩ (d + 1) (grV pre.length rows) = some (.lst 0 rows) := by
  cases rows with
  | nil => rfl
  | cons x q =>
    have := own_gr bx mp pre [] k x q
    rw [List.append_nil] at this
    simp [grV,keepc_own,this,keepRows,cutRows]
@[go_sem] theorem keepc_gr0 (bx : List (Nat × List V)) (mp : List (List (PV × PV))) (k : Nat) (rows : List (List PV)) : keepc ⟨bx,grA k rows,mp⟩ 4 (grV 0 rows) = some (.lst 0 rows) := keepc_gr bx mp [] k 3 rows
@[go_sem] theorem keepc_gr1 (bx : List (Nat × List V)) (mp : List (List (PV × PV))) (a : Arr) (k : Nat) (rows : List (List PV)) : keepc ⟨bx,a :: grA k rows,mp⟩ 4 (grV 1 rows) = some (.lst 0 rows) := keepc_gr bx mp [a] k 3 rows
@[go_sem] theorem keep_gr (h : Heap) (n : Nat) (rows : List (List PV)) : keep h false (grV n rows) = keepc h 4 (grV n rows) := by cases rows <;> rfl
def grG : List (List PV) → Nat
  | [] => 0
  | _ => 1
theorem lendc_gr (bx : List (Nat × List V)) (mp : List (List (PV × PV))) (pre : List Arr) (k d : Nat) (rows : List (List PV)) : lendc ⟨bx,pre ++ grA k rows,mp⟩ (d + 1) (grV pre.length rows) = some (.lst (grG rows) rows) := by
  cases rows with
  | nil => rfl
  | cons x q =>
    have := own_gr bx mp pre [] k x q
    rw [List.append_nil] at this
    simp [grV,lendc,this,cutRows,grG]
@[go_sem] theorem lendc_gr0 (bx : List (Nat × List V)) (mp : List (List (PV × PV))) (k : Nat) (rows : List (List PV)) : lendc ⟨bx,grA k rows,mp⟩ 4 (grV 0 rows) = some (.lst (grG rows) rows) := lendc_gr bx mp [] k 3 rows
@[go_sem] theorem lend_gr (h : Heap) (n : Nat) (rows : List (List PV)) : lend h (grV n rows) = lendc h 4 (grV n rows) := by cases rows <;> rfl
end Go.Pv
namespace Go.Pv
@[go_sem] theorem ints_nil : ints [] = [] := rfl
@[go_sem] theorem ints_snoc (l : List Int) (x : Int) : ints l ++ [[.int .i64 x]] = ints (l ++ [x]) := by simp [ints]
def edgs (l : List Edge) : List (List PV) := l.map Edge.c
@[go_sem] theorem edgs_nil : edgs [] = [] := rfl
@[go_sem] theorem grow0i (bx : List (Nat × List V)) (mp : List (List (PV × PV))) (l : List Int) (x : Int) (hm : l.length + 1 ≤ 2147483648) :
    appendV ⟨bx,grA 1 (ints l),mp⟩ 1 (grV 0 (ints l)) (.tl [[.int .i64 x]]) = some (grV 0 (ints (l ++ [x])),grT 0 1 (ints l) [.int .i64 x]) := by
  rw [grow0 bx mp  1 (ints l) [.int .i64 x] rfl (by rw [ints_length]; exact hm),ints_snoc]
@[go_sem] theorem grow1i (bx : List (Nat × List V)) (mp : List (List (PV × PV))) (a : Arr) (l : List Int) (x : Int) (hm : l.length + 1 ≤ 2147483648) :
    appendV ⟨bx,a :: grA 1 (ints l),mp⟩ 1 (grV 1 (ints l)) (.tl [[.int .i64 x]]) = some (grV 1 (ints (l ++ [x])),grT 1 1 (ints l) [.int .i64 x]) := by
  rw [grow1 bx mp a 1 (ints l) [.int .i64 x] rfl (by rw [ints_length]; exact hm),ints_snoc]
end Go.Pv
namespace Go.Pv
def apI (id ver off len : Nat) (x : Int) (a : Arr) : Option (V × Tn) :=
  if off + len ≤ a.size ∧ a.k = 1 ∧ len + 1 ≤ mostRows then some (.own id (ver + 1) 0 (len + 1),{ ar := some (id,⟨ver + 1,1,catRows (cutRows off len a.body) (.inl [[.int .i64 x]])⟩) }) else none
@[go_sem] theorem app_own (h : Heap) (id ver off len : Nat) (x : Int) : appendV h 1 (.own id ver off len) (.tl [[.int .i64 x]]) = (ownArr h id ver).bind (apI id ver off len x) := by
  cases ho : ownArr h id ver with
  | none => simp [appendV,srcRows,rowsFit,ho]
  | some a =>
    simp only [appendV,srcRows,rowsFit,ho,rowsLen,apI,List.all_cons,List.all_nil,List.length_cons,List.length_nil,Option.bind_some]
    by_cases h1 : off + len ≤ a.size <;> by_cases h2 : a.k = 1 <;> by_cases h3 : len + 1 ≤ mostRows <;> simp [h1,h2,h3]
@[go_sem] theorem apI_ok {id ver len : Nat} {x : Int} {l : List Int} (h1 : len = l.length) (h2 : l.length + 1 ≤ 2147483648) : apI id ver 0 len x ⟨ver,1,.inl (ints l)⟩ = some (.own id (ver + 1) 0 (len + 1),{ ar := some (id,⟨ver + 1,1,.inl (ints (l ++ [x]))⟩) }) := by
  subst h1
  unfold apI
  rw [if_pos ⟨by simp [Arr.size,ints],rfl,h2⟩]
  have : List.take l.length (List.map (fun x => [PV.int IntKind.i64 x]) l) = List.map (fun x => [PV.int IntKind.i64 x]) l := List.take_of_length_le (by simp)
  simp [catRows,cutRows,ints,this]
end Go.Pv
namespace Go.Pv
variable {A : Nat → Option AFunc} {Pr : Prims}
def foldK {σ : Type} (S : Nat → σ → St) (I : Nat → σ → Prop) (k : Nat) (acc : σ) (Q : Ex → St → Prop) (_t : Tie (S,I,k,acc,Q) := .mk) : Ex → St → Prop
  | .normal,s => s = S k acc ∧ I k acc
  | .exit i,s => Q (.exit i) s
  | .ret,s => Q .ret s
@[go_sem] theorem foldK_exit {σ : Type} (S : Nat → σ → St) (I : Nat → σ → Prop) (k : Nat) (acc : σ) (Q : Ex → St → Prop) (i : Nat) (s : St) : foldK S I k acc Q .mk (.exit i) s = Q (.exit i) s := rfl
@[go_sem] theorem foldK_ret {σ : Type} (S : Nat → σ → St) (I : Nat → σ → Prop) (k : Nat) (acc : σ) (Q : Ex → St → Prop) (s : St) : foldK S I k acc Q .mk .ret s = Q .ret s := rfl
theorem foldK.of {σ : Type} {S : Nat → σ → St} {I : Nat → σ → Prop} {k : Nat} {acc : σ} {Q : Ex → St → Prop} {s : St} (h : s = S k acc) (h2 : I k acc) : foldK S I k acc Q .mk .normal s := ⟨h,h2⟩
def exitK (Q : Ex → St → Prop) (_t : Tie Q := .mk) : Ex → St → Prop
  | .normal,_ => False
  | .exit i,s => Q (.exit i) s
  | .ret,s => Q .ret s
@[go_sem] theorem exitK_exit (Q : Ex → St → Prop) (i : Nat) (s : St) : exitK Q .mk (.exit i) s = Q (.exit i) s := rfl
@[go_sem] theorem exitK_ret (Q : Ex → St → Prop) (s : St) : exitK Q .mk .ret s = Q .ret s := rfl
theorem W.fold {σ α : Type} {a : AC} {s : St} {Q : Ex → St → Prop} (l : List α) (f : σ → α → σ) (x0 : σ) (S : Nat → σ → St) (I : Nat → σ → Prop) (hs : s = S 0 x0) (h0 : I 0 x0)
    (hr : ∀ k x acc,l[k]? = some x → k < l.length → acc = (l.take k).foldl f x0 → I k acc → W A Pr a (S k acc) (foldK S I (k + 1) (f acc x) Q))
    (he : ∀ acc,acc = l.foldl f x0 → I l.length acc → W A Pr a (S l.length acc) (exitK Q)) : W A Pr (.loop a) s Q := by
  refine W.upto l.length (fun k => S k ((l.take k).foldl f x0)) (fun k => I k ((l.take k).foldl f x0)) (by simpa using hs) (by simpa using h0) fun k hk hi => ?_
  rcases Nat.lt_or_ge k l.length with h | h
  · obtain ⟨x,hx⟩ : ∃ x,l[k]? = some x := ⟨l[k],by simp [h]⟩
    obtain ⟨ex,s',h1,h2⟩ := hr k x _ hx h rfl hi
    have ht : (l.take (k + 1)).foldl f x0 = f ((l.take k).foldl f x0) x := by rw [List.take_add_one,hx]; simp [List.foldl_append]
    refine ⟨ex,s',h1,?_⟩
    cases ex with
    | normal => exact .of h (by rw [ht]; exact h2.1) (by rw [ht]; exact h2.2)
    | exit i => exact h2
    | ret => exact h2
  · obtain rfl : k = l.length := by omega
    rw [List.take_length] at hi ⊢
    obtain ⟨ex,s',h1,h2⟩ := he _ rfl hi
    refine ⟨ex,s',h1,?_⟩
    cases ex with
    | normal => exact h2.elim
    | exit i => exact h2
    | ret => exact h2
def findK (S : Nat → St) (k : Nat) (p : Bool) (Q : Ex → St → Prop) (_t : Tie (S,k,p,Q) := .mk) : Ex → St → Prop
  | .normal,s => p = false ∧ s = S k
  | .exit i,s => Q (.exit i) s
  | .ret,s => Q .ret s
@[go_sem] theorem findK_exit (S : Nat → St) (k : Nat) (p : Bool) (Q : Ex → St → Prop) (i : Nat) (s : St) : findK S k p Q .mk (.exit i) s = Q (.exit i) s := rfl
@[go_sem] theorem findK_ret (S : Nat → St) (k : Nat) (p : Bool) (Q : Ex → St → Prop) (s : St) : findK S k p Q .mk .ret s = Q .ret s := rfl
theorem findK.of {S : Nat → St} {k : Nat} {p : Bool} {Q : Ex → St → Prop} {s : St} (h : p = false) (h2 : s = S k) : findK S k p Q .mk .normal s := ⟨h,h2⟩
structure Found {α : Type} (l : List α) (p : α → Bool) (k : Nat) (x : α) : Prop where
  any : l.any p = true
  all : l.all (fun y => !p y) = false
  find : l.find? p = some x
  idx : l.findIdx? p = some k
structure Nowhere {α : Type} (l : List α) (p : α → Bool) : Prop where
  any : l.any p = false
  all : l.all (fun y => !p y) = true
  find : l.find? p = none
  idx : l.findIdx? p = none
theorem found_of {α : Type} {l : List α} {p : α → Bool} {k : Nat} {x : α} (hb : ∀ j,j < k → ∀ y,l[j]? = some y → p y = false) (hx : l[k]? = some x) (hp : p x = true) : Found l p k x := by
  obtain ⟨hk,rfl⟩ := List.getElem?_eq_some_iff.1 hx
  have hi : l.findIdx? p = some k := by
    rw [List.findIdx?_eq_some_iff_getElem]
    exact ⟨hk,hp,fun j hj => by simpa using hb j hj _ (by rw [List.getElem?_eq_getElem (by omega)])⟩
  refine ⟨List.any_eq_true.2 ⟨_,List.getElem_mem hk,hp⟩,?_,?_,hi⟩
  · rw [List.all_eq_false]
    exact ⟨_,List.getElem_mem hk,by simp [hp]⟩
  · rw [List.find?_eq_some_iff_getElem]
    exact ⟨hp,k,hk,rfl,fun j hj => by simpa using hb j hj _ (by rw [List.getElem?_eq_getElem (by omega)])⟩
theorem nowhere_of {α : Type} {l : List α} {p : α → Bool} (hb : ∀ j,j < l.length → ∀ y,l[j]? = some y → p y = false) : Nowhere l p := by
  have hm : ∀ x ∈ l,p x = false := fun x hx => by
    obtain ⟨j,hj,rfl⟩ := List.getElem_of_mem hx
    exact hb j hj _ (by rw [List.getElem?_eq_getElem])
  exact ⟨by rw [List.any_eq_false]; intro x hx; simp [hm x hx],by rw [List.all_eq_true]; intro x hx; simp [hm x hx],by rw [List.find?_eq_none]; intro x hx; simp [hm x hx],by rw [List.findIdx?_eq_none_iff]; exact hm⟩
theorem W.find {α : Type} {a : AC} {s : St} {Q : Ex → St → Prop} (l : List α) (p : α → Bool) (S : Nat → St) (hs : s = S 0)
    (hr : ∀ k x,l[k]? = some x → k < l.length → (p x = true → Found l p k x) → W A Pr a (S k) (findK S (k + 1) (p x) Q))
    (he : Nowhere l p → W A Pr a (S l.length) (exitK Q)) : W A Pr (.loop a) s Q := by
  refine W.upto l.length S (fun k => ∀ j,j < k → ∀ y,l[j]? = some y → p y = false) hs (fun j hj => absurd hj (Nat.not_lt_zero _)) fun k hk hi => ?_
  rcases Nat.lt_or_ge k l.length with h | h
  · obtain ⟨x,hx⟩ : ∃ x,l[k]? = some x := ⟨l[k],by simp [h]⟩
    obtain ⟨ex,s',h1,h2⟩ := hr k x hx h (fun hp => found_of hi hx hp)
    refine ⟨ex,s',h1,?_⟩
    cases ex with
    | normal =>
      refine .of h h2.2 fun j hj y hy => ?_
      rcases Nat.lt_or_ge j k with g | g
      · exact hi j g y hy
      · obtain rfl : j = k := by omega
        rw [hx] at hy
        cases hy
        exact h2.1
    | exit i => exact h2
    | ret => exact h2
  · obtain rfl : k = l.length := by omega
    obtain ⟨ex,s',h1,h2⟩ := he (nowhere_of hi)
    refine ⟨ex,s',h1,?_⟩
    cases ex with
    | normal => exact h2.elim
    | exit i => exact h2
    | ret => exact h2
def againK (A : Nat → Option AFunc) (Pr : Prims) (a : AC) (Q : Ex → St → Prop) (_t : Tie (a,Q) := .mk) : Ex → St → Prop
  | .normal,s => W A Pr (.loop a) s Q
  | .exit i,s => Q (.exit i) s
  | .ret,s => Q .ret s
@[go_sem] theorem againK_normal (a : AC) (Q : Ex → St → Prop) (s : St) : againK A Pr a Q .mk .normal s = W A Pr (.loop a) s Q := rfl
@[go_sem] theorem againK_exit (a : AC) (Q : Ex → St → Prop) (i : Nat) (s : St) : againK A Pr a Q .mk (.exit i) s = Q (.exit i) s := rfl
@[go_sem] theorem againK_ret (a : AC) (Q : Ex → St → Prop) (s : St) : againK A Pr a Q .mk .ret s = Q .ret s := rfl
theorem W.once {a : AC} {s : St} {Q : Ex → St → Prop} (h : W A Pr a s (againK A Pr a Q)) : W A Pr (.loop a) s Q := by
  obtain ⟨ex,s',h1,h2⟩ := h
  cases ex with
  | normal =>
    obtain ⟨e2,s2,h3,h4⟩ := h2
    exact ⟨e2,s2,Runs.loop_step h1 h3,h4⟩
  | exit i => exact ⟨_,_,Runs.loop_out h1 (by simp),h2⟩
  | ret => exact ⟨_,_,Runs.loop_out h1 (by simp),h2⟩
end Go.Pv
namespace Go.Pv
def glV (n b : Nat) (rows : List (List PV)) : V := if rows.length ≤ b then .tl rows else .own n (rows.length - b - 1) 0 rows.length
def glA (k b : Nat) (rows : List (List PV)) : List Arr := if rows.length ≤ b then [] else [⟨rows.length - b - 1,k,.inl rows⟩]
theorem glV_lit {n b : Nat} {rows : List (List PV)} (h : rows.length ≤ b) : glV n b rows = .tl rows := if_pos h
theorem glA_lit {k b : Nat} {rows : List (List PV)} (h : rows.length ≤ b) : glA k b rows = [] := if_pos h
theorem glV_own {n b m : Nat} {rows : List (List PV)} (h : rows.length = b + m + 1) : glV n b rows = .own n m 0 (b + m + 1) := by
  unfold glV
  rw [if_neg (by omega),h,show b + m + 1 - b - 1 = m by omega]
theorem glA_own {k b m : Nat} {rows : List (List PV)} (h : rows.length = b + m + 1) : glA k b rows = [⟨m,k,.inl rows⟩] := by
  unfold glA
  rw [if_neg (by omega),h,show b + m + 1 - b - 1 = m by omega]
theorem gl_cases {b : Nat} {rows : List (List PV)} : rows.length ≤ b ∨ ∃ m,rows.length = b + m + 1 := by
  rcases Nat.lt_or_ge b rows.length with h | h
  · exact .inr ⟨rows.length - b - 1,by omega⟩
  · exact .inl h
theorem glV_snoc {n b : Nat} {rows : List (List PV)} {r : List PV} (h : b ≤ rows.length) : glV n b (rows ++ [r]) = .own n (rows.length - b) 0 (rows.length + 1) := by
  rw [glV_own (m := rows.length - b) (by simp; omega),show b + (rows.length - b) + 1 = rows.length + 1 by omega]
theorem glA_snoc {k b : Nat} {rows : List (List PV)} {r : List PV} (h : b ≤ rows.length) : glA k b (rows ++ [r]) = [⟨rows.length - b,k,.inl (rows ++ [r])⟩] := glA_own (by simp; omega)
theorem app_tlr (h : Heap) (k : Nat) (rows : List (List PV)) (r : List PV) (hr : r.length = k) (hk : ∀ x ∈ rows,x.length = k) (hm : rows.length + 1 ≤ 2147483648) : appendV h k (.tl rows) (.tl [r]) = some (.own h.ar.length 0 0 (rows.length + 1),{ push := [⟨0,k,.inl (rows ++ [r])⟩],base := h.ar.length }) := by
  have : (rows.all fun x => x.length == k) = true := by simpa using hk
  simp [appendV,srcRows,rowsFit,rowsLen,mostRows,catRows,hr,this,hm]
@[go_sem] theorem app_tli (h : Heap) (l : List Int) (x : Int) (hm : l.length + 1 ≤ 2147483648) : appendV h 1 (.tl (ints l)) (.tl [[.int .i64 x]]) = some (.own h.ar.length 0 0 (l.length + 1),{ push := [⟨0,1,.inl (ints (l ++ [x]))⟩],base := h.ar.length }) := by
  rw [app_tlr h 1 (ints l) [.int .i64 x] rfl (by simp [ints]) (by rw [ints_length]; exact hm),ints_length,ints_snoc]
@[go_sem] theorem lenV_gl (h : Heap) (n b : Nat) (rows : List (List PV)) : lenV h 0 (glV n b rows) = some (rows.length,{}) := by unfold glV; split <;> rfl
@[go_sem] theorem scrub_gl (kb : List Nat) (n b : Nat) (rows : List (List PV)) : scrub kb (glV n b rows) = glV n b rows := by unfold glV; split <;> rfl
@[go_sem] theorem lend_gl (h : Heap) (n b : Nat) (rows : List (List PV)) : lend h (glV n b rows) = lendc h 4 (glV n b rows) := by unfold glV; split <;> rfl
def glG (b : Nat) (rows : List (List PV)) : Nat := if rows.length ≤ b then 0 else 1
theorem lendc_gl (bx : List (Nat × List V)) (mp : List (List (PV × PV))) (pre : List Arr) (k b d : Nat) (rows : List (List PV)) : lendc ⟨bx,pre ++ glA k b rows,mp⟩ (d + 1) (glV pre.length b rows) = some (.lst (glG b rows) rows) := by
  unfold glV glA glG
  split
  · rfl
  · simp [lendc,ownArr,cutRows]
@[go_sem] theorem lendc_gl0 (bx : List (Nat × List V)) (mp : List (List (PV × PV))) (k b : Nat) (rows : List (List PV)) : lendc ⟨bx,glA k b rows,mp⟩ 4 (glV 0 b rows) = some (.lst (glG b rows) rows) := lendc_gl bx mp [] k b 3 rows
attribute [go_sem] Int.lt_irrefl
end Go.Pv
namespace Go.Pv
@[go_sem] theorem rawc_len (r : Raw) : r.c.length = 2 := rfl
def wr (x : Int) : Int := IntKind.wrap .i64 x
def szRest (acc : Int) (r : Raw) : Int := wr (wr (acc + 1) + r.data.size)
def szN : Nat → List PV → Int
  | 0,_ => 0
  | n + 1,cs => match cs with
    | [_,_,_,.str s,_,.lst _ keys,.lst _ items,.lst _ rest] => rest.foldl (fun acc r => match r with | [_,.str d] => wr (wr (acc + 1) + d.size) | _ => acc) (items.foldl (fun acc r => wr (acc + szN n r)) (keys.foldl (fun acc r => wr (acc + szN n r)) (wr (1 + s.size))))
    | _ => 0
theorem szN_val (n : Nat) (v : Val) : szN (n + 1) v.c = v.rest.foldl szRest (v.items.foldl (fun acc r => wr (acc + szN n r)) (v.keys.foldl (fun acc r => wr (acc + szN n r)) (wr (1 + v.str.size)))) := by
  unfold Val.c
  simp only [szN]
  rw [List.foldl_map]
  rfl
theorem VOk.len : ∀ {n : Nat} {cs : List PV},VOk n cs → cs.length = 8
  | 0,_,h => h.elim
  | _ + 1,_,h => by
    obtain ⟨v,rfl,_⟩ := h
    rfl
theorem VOk.val {n : Nat} {cs : List PV} (h : VOk n cs) : ∃ w : Val,cs = w.c := by
  cases n with
  | zero => exact h.elim
  | succ n =>
    obtain ⟨v,hv,_⟩ := h
    exact ⟨v,hv⟩
set_option maxHeartbeats 2000000 in
theorem r282 : ∀ (n : Nat) (cs : List PV),VOk n cs → res A PrA 282 [.agg cs] = some [.int .i64 (szN n cs)]
  | 0,cs,h => h.elim
  | n + 1,cs,h => by
    obtain ⟨v,rfl,⟨h1,h2,h3,h4⟩,⟨h5,h6,h7⟩,h8,h9,h10⟩ := h
    have ih := r282 n
    rw [szN_val]
    unfold lenOk at h5 h6 h7
    unfold strOk at h3
    obtain ⟨kind,bool,int,str,id,keys,items,rest⟩ := v
    unfold Val.c
    dsimp only at *
    refine res_of a282 rfl rfl ?_
    simp only [F282]
    simp (disch := omega) only [go_sem]
    refine W.fold keys (fun acc r => wr (acc + szN n r)) (wr (1 + str.size)) (fun k acc => ⟨[(1,.ptr 1 0),(3,.pv (.int .i64 acc)),(4,.pv (.int .i64 k))],⟨[(1,[.pv (.int .i64 kind),.pv (.bool bool),.pv (.int .i64 int),.pv (.str str),.pv (.int .i64 id),.pv (.lst 0 keys),.pv (.lst 0 items),.pv (.lst 0 (rest.map Raw.c))])],[],[]⟩⟩) (fun _ _ => True) rfl trivial (fun k r acc hr hk _ _ => ?_) (fun acc hacc _ => ?_)
    · have hv := h8 r (List.mem_of_getElem? hr)
      obtain ⟨w,rfl⟩ := hv.val
      have hi := ih _ hv
      generalize szN n w.c = z at hi ⊢
      unfold Val.c at hi hr
      simp (disch := omega) only [go_sem]
      refine Br.ofP (fun h => ?_) (fun h => (h (by omega)).elim)
      simp (disch := omega) only [go_sem,hr,hi]
      exact foldK.of rfl trivial
    · simp (disch := omega) only [go_sem]
      refine W.fold items (fun acc r => wr (acc + szN n r)) acc (fun k acc => ⟨[(1,.ptr 1 0),(3,.pv (.int .i64 acc)),(5,.pv (.int .i64 k))],⟨[(1,[.pv (.int .i64 kind),.pv (.bool bool),.pv (.int .i64 int),.pv (.str str),.pv (.int .i64 id),.pv (.lst 0 keys),.pv (.lst 0 items),.pv (.lst 0 (rest.map Raw.c))])],[],[]⟩⟩) (fun _ _ => True) rfl trivial (fun k r acc hr hk _ _ => ?_) (fun acc2 hacc2 _ => ?_)
      · have hv := h9 r (List.mem_of_getElem? hr)
        obtain ⟨w,rfl⟩ := hv.val
        have hi := ih _ hv
        generalize szN n w.c = z at hi ⊢
        unfold Val.c at hi hr
        simp (disch := omega) only [go_sem]
        refine Br.ofP (fun h => ?_) (fun h => (h (by omega)).elim)
        simp (disch := omega) only [go_sem,hr,hi]
        exact foldK.of rfl trivial
      · simp (disch := omega) only [go_sem]
        refine W.fold rest szRest acc2 (fun k acc => ⟨[(1,.ptr 1 0),(3,.pv (.int .i64 acc)),(6,.pv (.int .i64 k))],⟨[(1,[.pv (.int .i64 kind),.pv (.bool bool),.pv (.int .i64 int),.pv (.str str),.pv (.int .i64 id),.pv (.lst 0 keys),.pv (.lst 0 items),.pv (.lst 0 (rest.map Raw.c))])],[],[]⟩⟩) (fun _ _ => True) rfl trivial (fun k r acc hr hk _ _ => ?_) (fun acc3 hacc3 _ => ?_)
        · have hrk := (h10 r (List.mem_of_getElem? hr)).2
          unfold strOk at hrk
          simp (disch := omega) only [go_sem]
          refine Br.ofP (fun h => ?_) (fun h => (h (by omega)).elim)
          simp (disch := omega) only [go_sem,hr,Raw.c]
          exact foldK.of rfl trivial
        · simp (disch := omega) only [go_sem]
          rw [hacc3,hacc2,hacc]
end Go.Pv
namespace Go.Pv
@[go_sem] theorem typc_len (t : Typ) : t.c.length = 10 := rfl
@[go_sem] theorem memc_len (t : Mem) : t.c.length = 13 := rfl
@[go_sem] theorem symc_len (t : Sym) : t.c.length = 2 := rfl
open Classical in
noncomputable def szV (cs : List PV) : Int := if h : ∃ n,VOk n cs then szN (Classical.choose h) cs else 0
theorem r282v {cs : List PV} (h : ∃ n,VOk n cs) : res A PrA 282 [.agg cs] = some [.int .i64 (szV cs)] := by
  unfold szV
  rw [dif_pos h]
  exact r282 _ cs (Classical.choose_spec h)
noncomputable def fewM (acc : Int) (m : Mem) : Int := wr (wr (acc + szV m.dflt.c) + m.name.size)
noncomputable def fewT (acc : Int) (t : Typ) : Int := (t.mems.take 100).foldl fewM (wr (wr (wr (acc + t.mems.length) + t.syms.length) + t.name.size))
noncomputable def few (l : List Typ) : Bool := decide ((l.length : Int) ≤ 40) && decide (l.foldl fewT 0 ≤ 400)
theorem few_len {l : List Typ} (h : few l = true) : l.length ≤ 40 := by
  simp [few] at h
  omega
set_option maxHeartbeats 4000000 in
theorem r266 (u : Nat) (l : List Typ) (ho : ∀ t ∈ l,t.ok) : res A PrA 266 [.agg [.lst u (l.map Typ.c)]] = some [.bool (few l)] := by
  refine res_of a266 rfl rfl ?_
  simp only [F266]
  simp (disch := omega) only [go_sem]
  refine Br.ofP (fun h40 => ?_) (fun h40 => ?_) <;> simp (disch := omega) only [go_sem,h40]
  · have : ¬ (l.length : Int) ≤ 40 := by omega
    simp [few,this]
  refine W.fold l fewT 0 (fun k acc => ⟨[(1,.ptr 1 0),(3,.pv (.int .i64 acc)),(4,.pv (.int .i64 k))],⟨[(1,[.pv (.lst u (l.map Typ.c))])],[],[]⟩⟩) (fun _ _ => True) rfl trivial (fun k t acc ht hk _ _ => ?_) (fun acc hacc _ => ?_)
  · obtain ⟨⟨_,t2,_⟩,⟨t3,t4⟩,_,t5⟩ := ho t (List.mem_of_getElem? ht)
    unfold strOk at t2
    unfold lenOk at t3 t4
    simp (disch := omega) only [go_sem]
    refine Br.ofP (fun h => ?_) (fun h => (h (by omega)).elim)
    simp (disch := omega) only [go_sem,ht,Typ.c]
    refine W.fold (t.mems.take 100) fewM (wr (wr (wr (acc + t.mems.length) + t.syms.length) + t.name.size)) (fun j n => ⟨[(1,.ptr 1 0),(3,.pv (.int .i64 n)),(4,.pv (.int .i64 k)),(5,.ptr 5 0),(6,.pv (.int .i64 j))],⟨[(1,[.pv (.lst u (l.map Typ.c))]),(5,t.c.map .pv)],[],[]⟩⟩) (fun _ _ => True) rfl trivial (fun j m n hm hj _ _ => ?_) (fun n hn _ => ?_)
    · have hj' : j < 100 ∧ j < t.mems.length := by rw [List.length_take] at hj; omega
      have hm : t.mems[j]? = some m := by
        rw [List.getElem?_take,if_pos hj'.1] at hm
        exact hm
      obtain ⟨_,m2,_,m3⟩ := t5 m (List.mem_of_getElem? hm)
      unfold strOk at m2
      have hsz := r282v m3
      generalize hz : szV m.dflt.c = z at hsz
      unfold Val.c at hsz
      unfold Typ.c
      simp (disch := omega) only [go_sem,List.map_cons,List.map_nil]
      refine Br.ofP (fun c => ?_) (fun c => (c (by omega)).elim)
      simp (disch := omega) only [go_sem,c]
      refine Br.ofP (fun c2 => ?_) (fun c2 => (c2 (by omega)).elim)
      simp (disch := omega) only [go_sem,hm,Mem.c,hsz]
      refine foldK.of ?_ trivial
      show _ = St.mk _ _
      unfold fewM
      rw [hz]
      rfl
    · have hlen : ¬ ((t.mems.take 100).length < 100 ∧ (t.mems.take 100).length < t.mems.length) := by rw [List.length_take]; omega
      have hle : (t.mems.take 100).length ≤ t.mems.length := by rw [List.length_take]; omega
      have hl1 : (t.mems.take 100).length ≤ 100 := by rw [List.length_take]; omega
      generalize (t.mems.take 100).length = j at hlen hle hl1
      unfold Typ.c
      simp (disch := omega) only [go_sem,List.map_cons,List.map_nil]
      have fin : (⟨[(1,.ptr 1 0),(3,.pv (.int .i64 n)),(4,.pv (.int .i64 (k + 1)))],⟨[(1,[.pv (.lst u (l.map Typ.c))])],[],[]⟩⟩ : St) = ⟨[(1,.ptr 1 0),(3,.pv (.int .i64 (fewT acc t))),(4,.pv (.int .i64 ((k + 1 : Nat) : Int)))],⟨[(1,[.pv (.lst u (l.map Typ.c))])],[],[]⟩⟩ := by
        rw [hn]
        rfl
      refine Br.ofP (fun c => ?_) (fun c => ?_) <;> simp (disch := omega) only [go_sem,c]
      · refine Br.ofP (fun c2 => (hlen (by omega)).elim) (fun c2 => ?_)
        simp (disch := omega) only [go_sem,c2]
        exact foldK.of fin trivial
      · exact foldK.of fin trivial
  · simp (disch := omega) only [go_sem]
    have h4 : (l.length : Int) ≤ 40 := by omega
    simp [few,h4,hacc]
end Go.Pv
namespace Go.Pv
def letB (x : Int) : Bool := decide (x = 95) || (decide (97 ≤ x) && decide (x ≤ 122)) || (decide (65 ≤ x) && decide (x ≤ 90))
def digB (x : Int) : Bool := decide (48 ≤ x) && decide (x ≤ 57)
theorem res_true {p : Bool} (h : p = true) : (some [PV.bool true] : Option (List PV)) = some [PV.bool p] := by rw [h]
theorem res_false {p : Bool} (h : p = false) : (some [PV.bool false] : Option (List PV)) = some [PV.bool p] := by rw [h]
@[go_sem] theorem r323 (x : Int) : res A PrA 323 [.int .u8 x] = some [.bool (letB x)] := by
  refine res_of a323 rfl rfl ?_
  simp only [F323]
  simp (disch := omega) only [go_sem]
  unfold letB
  repeat' (refine Br.ofP (fun h => ?_) (fun h => ?_) <;> simp (disch := omega) only [go_sem,h])
  all_goals (congr 3; rw [Bool.eq_iff_iff]; simp; omega)
@[go_sem] theorem r324 (x : Int) : res A PrA 324 [.int .u8 x] = some [.bool (digB x)] := by
  refine res_of a324 rfl rfl ?_
  simp only [F324]
  simp (disch := omega) only [go_sem]
  unfold digB
  repeat' (refine Br.ofP (fun h => ?_) (fun h => ?_) <;> simp (disch := omega) only [go_sem,h])
  all_goals (congr 3; rw [Bool.eq_iff_iff]; simp; omega)
@[go_sem] theorem r327 (x : Int) : res A PrA 327 [.int .u8 x] = some [.bool (letB x)] := by
  refine res_of a327 rfl rfl ?_
  simp only [F327]
  simp (disch := omega) only [go_sem]
  unfold letB
  repeat' (refine Br.ofP (fun h => ?_) (fun h => ?_) <;> simp (disch := omega) only [go_sem,h])
  all_goals (congr 3; rw [Bool.eq_iff_iff]; simp; omega)
@[go_sem] theorem r328 (x : Int) : res A PrA 328 [.int .u8 x] = some [.bool (digB x)] := by
  refine res_of a328 rfl rfl ?_
  simp only [F328]
  simp (disch := omega) only [go_sem]
  unfold digB
  repeat' (refine Br.ofP (fun h => ?_) (fun h => ?_) <;> simp (disch := omega) only [go_sem,h])
  all_goals (congr 3; rw [Bool.eq_iff_iff]; simp; omega)
def bytesI (s : ByteArray) : List Int := s.data.toList.map fun b => (b.toNat : Int)
theorem bytesI_len (s : ByteArray) : (bytesI s).length = s.size := by
  show (s.data.toList.map _).length = s.data.size
  rw [List.length_map,Array.length_toList]
theorem ixs_ok {s : ByteArray} {i : Int} {x : Int} (h0 : 0 ≤ i) (h : (bytesI s)[i.toNat]? = some x) : ixsV (some i) (.pv (.str s)) = some (.pv (.int .u8 x)) := by
  have hlt := (List.getElem?_eq_some_iff.1 h).1
  rw [bytesI_len] at hlt
  have h1 : s[i.toNat]? = some (s[i.toNat]'hlt) := getElem?_pos s i.toNat hlt
  simp only [ixsV,inRange_some h0 (show i < (s.size : Int) by omega),h1]
  simp only [bytesI,List.getElem?_map] at h
  have h2 : s.data.toList[i.toNat]? = some (s[i.toNat]'hlt) := by
    rw [Array.getElem?_toList]
    exact Array.getElem?_eq_getElem hlt
  rw [h2] at h
  simp only [Option.map_some,Option.some.injEq] at h
  rw [h]
def nameL : List Int → Bool
  | [] => false
  | x :: r => decide ((x :: r).length ≤ 24) && letB x && !(x :: r).any fun y => !letB y && !digB y
def isName (s : ByteArray) : Bool := nameL (bytesI s)
theorem r306 (s : ByteArray) (hs : strOk s) : res A PrA 306 [.str s] = some [.bool (isName s)] := by
  refine res_of a306 rfl rfl ?_
  simp only [F306]
  simp (disch := omega) only [go_sem]
  refine Br.ofP (fun e => ?_) (fun e => ?_) <;> simp (disch := omega) only [go_sem,e]
  · rfl
  have hb := bytesI_len s
  unfold strOk at hs
  unfold isName
  generalize hl : bytesI s = l at hb
  cases l with
  | nil => exact (e (by
      obtain ⟨⟨d⟩⟩ := s
      simp only [ByteArray.size,List.size_toArray,List.length_nil] at hb
      rw [List.eq_nil_of_length_eq_zero hb.symm])).elim
  | cons x r =>
    have hx : (bytesI s)[(0 : Int).toNat]? = some x := by rw [hl]; rfl
    have h0 := ixs_ok (Int.le_refl 0) hx
    refine Br.ofP (fun e2 => ?_) (fun e2 => ?_) <;> simp (disch := omega) only [go_sem,e2]
    · refine res_false ?_
      have : ¬ (x :: r).length ≤ 24 := by omega
      simp only [nameL,this,decide_false,Bool.false_and]
    simp (disch := omega) only [go_sem,h0]
    refine Br.of (fun e3 => ?_) (fun e3 => ?_) <;> simp (disch := omega) only [go_sem,e3]
    rotate_left
    · refine res_false ?_
      simp only [nameL,e3,Bool.and_false,Bool.false_and]
    · refine W.find (x :: r) (fun y => !letB y && !digB y) (fun k => ⟨[(0,.pv (.str s)),(18,.pv (.int .i64 s.size)),(19,.pv (.int .i64 k))],⟨[],[],[]⟩⟩) rfl (fun k y hy hk hfd => ?_) (fun hn => ?_)
      · have hy' : (bytesI s)[(k : Int).toNat]? = some y := by rw [hl,Int.toNat_natCast]; exact hy
        have hk' := ixs_ok (Int.natCast_nonneg k) hy'
        simp (disch := omega) only [go_sem]
        refine Br.ofP (fun c => ?_) (fun c => (c (by omega)).elim)
        simp (disch := omega) only [go_sem,hk']
        have done : (!letB y && !digB y) = true → (some [PV.bool false] : Option (List PV)) = some [.bool (nameL (x :: r))] := fun g => by
          refine res_false ?_
          simp only [nameL,(hfd g).any,Bool.not_true,Bool.and_false]
        refine Br.of (fun g => ?_) (fun g => ?_) <;> simp (disch := omega) only [go_sem,hk',g]
        · exact findK.of (by simp [g]) rfl
        · refine Br.of (fun g2 => ?_) (fun g2 => ?_) <;> simp (disch := omega) only [go_sem,g2]
          · exact findK.of (by simp [g2]) rfl
          · exact done (by simp [g,g2])
      · simp (disch := omega) only [go_sem,hb]
        refine res_true ?_
        have h24 : (x :: r).length ≤ 24 := by omega
        simp only [nameL,h24,e3,hn.any,decide_true,Bool.not_false,Bool.and_self]
theorem r310 (s : ByteArray) (hs : strOk s) : res A PrA 310 [.str s] = some [.bool (isName s)] := by
  refine res_of a310 rfl rfl ?_
  simp only [F310]
  simp (disch := omega) only [go_sem]
  refine Br.ofP (fun e => ?_) (fun e => ?_) <;> simp (disch := omega) only [go_sem,e]
  · rfl
  have hb := bytesI_len s
  unfold strOk at hs
  unfold isName
  generalize hl : bytesI s = l at hb
  cases l with
  | nil => exact (e (by
      obtain ⟨⟨d⟩⟩ := s
      simp only [ByteArray.size,List.size_toArray,List.length_nil] at hb
      rw [List.eq_nil_of_length_eq_zero hb.symm])).elim
  | cons x r =>
    have hx : (bytesI s)[(0 : Int).toNat]? = some x := by rw [hl]; rfl
    have h0 := ixs_ok (Int.le_refl 0) hx
    refine Br.ofP (fun e2 => ?_) (fun e2 => ?_) <;> simp (disch := omega) only [go_sem,e2]
    · refine res_false ?_
      have : ¬ (x :: r).length ≤ 24 := by omega
      simp only [nameL,this,decide_false,Bool.false_and]
    simp (disch := omega) only [go_sem,h0]
    refine Br.of (fun e3 => ?_) (fun e3 => ?_) <;> simp (disch := omega) only [go_sem,e3]
    rotate_left
    · refine res_false ?_
      simp only [nameL,e3,Bool.and_false,Bool.false_and]
    · refine W.find (x :: r) (fun y => !letB y && !digB y) (fun k => ⟨[(0,.pv (.str s)),(3,.pv (.int .i64 k))],⟨[],[],[]⟩⟩) rfl (fun k y hy hk hfd => ?_) (fun hn => ?_)
      · have hy' : (bytesI s)[(k : Int).toNat]? = some y := by rw [hl,Int.toNat_natCast]; exact hy
        have hk' := ixs_ok (Int.natCast_nonneg k) hy'
        simp (disch := omega) only [go_sem]
        refine Br.ofP (fun c => ?_) (fun c => (c (by omega)).elim)
        simp (disch := omega) only [go_sem,hk']
        have done : (!letB y && !digB y) = true → (some [PV.bool false] : Option (List PV)) = some [.bool (nameL (x :: r))] := fun g => by
          refine res_false ?_
          simp only [nameL,(hfd g).any,Bool.not_true,Bool.and_false]
        refine Br.of (fun g => ?_) (fun g => ?_) <;> simp (disch := omega) only [go_sem,hk',g]
        · exact findK.of (by simp [g]) rfl
        · refine Br.of (fun g2 => ?_) (fun g2 => ?_) <;> simp (disch := omega) only [go_sem,g2]
          · exact findK.of (by simp [g2]) rfl
          · exact done (by simp [g,g2])
      · simp (disch := omega) only [go_sem,hb]
        refine res_true ?_
        have h24 : (x :: r).length ≤ 24 := by omega
        simp only [nameL,h24,e3,hn.any,decide_true,Bool.not_false,Bool.and_self]
end Go.Pv
namespace Go.Pv
def seenS (l : List ByteArray) : List (PV × PV) := l.map fun s => (.str s,.bool true)
def lookS (x : ByteArray) (l : List ByteArray) : Option (Nat × PV) := (l.findIdx? fun s => decide (s = x)).map fun i => (i,.bool true)
def hasS (l : List ByteArray) (x : ByteArray) : Bool := l.any fun s => decide (s = x)
theorem hasS_iff {l : List ByteArray} {x : ByteArray} : hasS l x = true ↔ x ∈ l := by simp [hasS]
def insS (l : List ByteArray) (x : ByteArray) : List ByteArray := if hasS l x = true then l else l ++ [x]
theorem mem_insS {l : List ByteArray} {x y : ByteArray} : y ∈ insS l x ↔ y ∈ l ∨ y = x := by
  unfold insS
  split
  · rename_i h
    rw [hasS_iff] at h
    constructor
    · exact .inl
    · rintro (h1 | rfl)
      · exact h1
      · exact h
  · simp
theorem keyEq_str (a b : ByteArray) : keyEq false [2] (.str a) (.str b) = some (decide (a = b)) := by
  show eqsAll [2] [.str a] [.str b] = _
  rw [eqsAll_cons,eqs_str,eqsAll_nil]
  simp
theorem findKey_str (x : ByteArray) : ∀ (l : List ByteArray) (i : Nat),findKey false [2] (.str x) (seenS l) i = some ((lookS x l).map fun p => (p.1 + i,p.2))
  | [],i => by
    show (if (keyEq false [2] (.str x) (.str x)).isSome then some none else none) = _
    rw [keyEq_str]
    rfl
  | y :: l,i => by
    show (match keyEq false [2] (.str x) (.str y) with
      | some true => some (some (i,PV.bool true))
      | some false => findKey false [2] (.str x) (seenS l) (i + 1)
      | none => none) = _
    rw [keyEq_str]
    by_cases h : x = y
    · subst h
      simp [lookS,List.findIdx?_cons]
    · have h' : ¬ y = x := fun e => h e.symm
      simp only [h,decide_false]
      rw [findKey_str x l (i + 1)]
      simp only [lookS,List.findIdx?_cons,h',decide_false]
      cases l.findIdx? fun s => decide (s = x) with
      | none => rfl
      | some j => simp; omega
@[go_sem] theorem find_seenS (x : ByteArray) (l : List ByteArray) : findKey false [2] (.str x) (seenS l) 0 = some (lookS x l) := by
  rw [findKey_str]
  cases lookS x l <;> rfl
theorem lookS_some {x : ByteArray} {l : List ByteArray} : (lookS x l).isSome = true ↔ x ∈ l := by
  unfold lookS
  rw [Option.isSome_map,List.findIdx?_isSome,List.any_eq_true]
  simp
@[go_sem] theorem found_seenS (x : ByteArray) (l : List ByteArray) : foundV (.pv (.bool false)) false (lookS x l) = .pv (.bool (hasS l x)) := by
  have h := lookS_some (x := x) (l := l)
  rw [← hasS_iff] at h
  cases hl : lookS x l with
  | none =>
    rw [hl] at h
    have : hasS l x = false := by
      cases hx : hasS l x with
      | false => rfl
      | true => simpa using h.2 hx
    simp [foundV,this]
  | some p =>
    rw [hl] at h
    have hx : hasS l x = true := h.1 rfl
    have hp : p.2 = .bool true := by
      unfold lookS at hl
      obtain ⟨i,_,rfl⟩ := Option.map_eq_some_iff.1 hl
      rfl
    simp [foundV,hx,hp]
@[go_sem] theorem upd_seenS (x : ByteArray) (l : List ByteArray) (id : Nat) : updM false [2] (.str x) (.bool true) id (seenS l) = some { mp := some (id,seenS (insS l x)) } := by
  unfold updM
  rw [find_seenS]
  have h := lookS_some (x := x) (l := l)
  rw [← hasS_iff] at h
  cases hl : lookS x l with
  | none =>
    rw [hl] at h
    have : hasS l x = false := by
      cases hx : hasS l x with
      | false => rfl
      | true => simpa using h.2 hx
    simp [insS,this,seenS]
  | some p =>
    rw [hl] at h
    have hx : hasS l x = true := h.1 rfl
    unfold lookS at hl
    obtain ⟨i,hi,rfl⟩ := Option.map_eq_some_iff.1 hl
    obtain ⟨h1,h2,_⟩ := List.findIdx?_eq_some_iff_getElem.1 hi
    have h3 : l[i] = x := by simpa using h2
    simp only [insS,hx,if_true]
    congr 4
    apply List.ext_getElem?
    intro j
    rw [List.getElem?_set]
    split
    · rename_i hj
      subst hj
      simp [seenS,h1,h3]
    · rfl
end Go.Pv
namespace Go.Pv
def strs (l : List ByteArray) : List (List PV) := l.map fun s => [.str s]
@[go_sem] theorem strs_length (l : List ByteArray) : (strs l).length = l.length := by simp [strs]
@[go_sem] theorem strs_get (l : List ByteArray) (i : Nat) : (strs l)[i]? = l[i]?.map fun s => [.str s] := by simp [strs]
theorem strs_snoc (l : List ByteArray) (x : ByteArray) : strs l ++ [[.str x]] = strs (l ++ [x]) := by simp [strs]
abbrev Nm := Int × ByteArray
def prevI (l : List Nm) (k : Nat) : Int := ((l[k - 1]?).map (·.1)).getD 0
def badNm (l : List Nm) (k : Nat) (p : Nm) : Bool := decide (p.1 < 1) || decide (1000 < p.1) || (decide (0 < k) && decide (p.1 ≤ prevI l k)) || hasS ((l.map (·.2)).take k) p.2 || !isName p.2
def badAt (l : List Nm) (k : Nat) : Bool := match l[k]? with
  | some p => badNm l k p
  | none => false
def idsOk (l : List Nm) : Bool := !(List.range l.length).any (badAt l)
theorem range_get {n k x : Nat} (h : (List.range n)[k]? = some x) : x = k ∧ k < n := by
  obtain ⟨h1,h2⟩ := List.getElem?_eq_some_iff.1 h
  simp at h1 h2
  exact ⟨h2.symm,h1⟩
set_option maxHeartbeats 1000000 in
theorem r325 (t u : Nat) (l : List Nm) (hl : l.length ≤ 2 ^ 63 - 1) (hs : ∀ p ∈ l,strOk p.2) : res A PrA 325 [.lst t (ints (l.map (·.1))),.lst u (strs (l.map (·.2)))] = some [.bool (idsOk l && decide (l.length ≤ 16))] := by
  refine res_of a325 rfl rfl ?_
  simp only [F325]
  simp (disch := omega) only [go_sem]
  refine W.find (List.range l.length) (badAt l) (fun k => ⟨[(0,.pv (.lst t (ints (l.map (·.1))))),(1,.pv (.lst u (strs (l.map (·.2))))),(5,.map 0),(9,.pv (.lst t (ints (l.map (·.1))))),(10,.pv (.int .i64 l.length)),(11,.pv (.int .i64 k))],⟨[],[],[seenS ((l.map (·.2)).take k)]⟩⟩) ?_ (fun k x hx hk hfd => ?_) (fun hn => ?_)
  · simp [seenS]
  · obtain ⟨rfl,hk⟩ := range_get hx
    have hp := List.getElem?_eq_getElem hk
    generalize l[x] = p at hp
    have h1 : (l.map (·.1))[x]? = some p.1 := by rw [List.getElem?_map,hp]; rfl
    have h2 : (l.map (·.2))[x]? = some p.2 := by rw [List.getElem?_map,hp]; rfl
    have hnm := r306 p.2 (hs p (List.mem_of_getElem? hp))
    have hb : badAt l x = badNm l x p := by simp only [badAt,hp]
    have done : badNm l x p = true → (some [PV.bool false] : Option (List PV)) = some [PV.bool (idsOk l && decide (l.length ≤ 16))] := fun g => by
      refine res_false ?_
      rw [← hb] at g
      simp only [idsOk,(hfd g).any,Bool.not_true,Bool.false_and]
    rw [hb]
    have hins : hasS ((l.map (·.2)).take x) p.2 = false → insS ((l.map (·.2)).take x) p.2 = (l.map (·.2)).take (x + 1) := fun h => by
      rw [insS,h,List.take_add_one,List.getElem?_map,hp]
      rfl
    simp (disch := omega) only [go_sem]
    refine Br.ofP (fun c => ?_) (fun c => (c (by omega)).elim)
    simp (disch := omega) only [go_sem,h1]
    refine Br.ofP (fun c1 => ?_) (fun c1 => ?_) <;> simp (disch := omega) only [go_sem,c1]
    · exact done (by simp [badNm,c1])
    refine Br.ofP (fun c2 => ?_) (fun c2 => ?_) <;> simp (disch := omega) only [go_sem,c2]
    · exact done (by simp [badNm,c2])
    have fin : (decide (0 < x) && decide (p.1 ≤ prevI l x)) = false → badNm l x p = (hasS ((l.map (·.2)).take x) p.2 || !isName p.2) := fun g => by
      have d1 : decide (p.1 < 1) = false := by simp; omega
      have d2 : decide (1000 < p.1) = false := by simp; omega
      simp only [badNm,d1,d2,g,Bool.false_or]
    have hx1 : 0 < x → (l.map (·.1))[x - 1]? = some (prevI l x) := fun h => by
      have hq : l[x - 1]? = some (l[x - 1]'(by omega)) := List.getElem?_eq_getElem (by omega)
      rw [List.getElem?_map,prevI,hq]
      rfl
    have hcast : 0 < x → (x : Int) - 1 = ((x - 1 : Nat) : Int) := fun h => by omega
    refine Br.ofP (fun c3 => ?_) (fun c3 => ?_) <;> simp (disch := omega) only [go_sem,c3]
    · have hq : l[x - 1]? = some (l[x - 1]'(by omega)) := List.getElem?_eq_getElem (by omega)
      have hpv : (l[x - 1]'(by omega)).1 = prevI l x := by rw [prevI,hq]; rfl
      simp (disch := omega) only [go_sem,hcast (by omega),hq,hpv]
      refine Br.ofP (fun c4 => ?_) (fun c4 => ?_) <;> simp (disch := omega) only [go_sem,c4,hp]
      · exact done (by simp [badNm,c4,show 0 < x by omega])
      refine Br.of (fun c5 => ?_) (fun c5 => ?_) <;> simp (disch := omega) only [go_sem,c5,hnm,hp]
      · exact done (by simp [badNm,c5])
      refine Br.of (fun c6 => ?_) (fun c6 => ?_) <;> simp (disch := omega) only [go_sem,c6,hp]
      · refine findK.of ?_ ?_
        · rw [fin (by simp; omega),c5,c6]
          rfl
        · rw [hins c5]
          rfl
      · exact done (by simp [badNm,c6])
    · simp (disch := omega) only [go_sem,hp]
      refine Br.of (fun c5 => ?_) (fun c5 => ?_) <;> simp (disch := omega) only [go_sem,c5,hnm,hp]
      · exact done (by simp [badNm,c5])
      refine Br.of (fun c6 => ?_) (fun c6 => ?_) <;> simp (disch := omega) only [go_sem,c6,hp]
      · refine findK.of ?_ ?_
        · rw [fin (by simp; omega),c5,c6]
          rfl
        · rw [hins c5]
          rfl
      · exact done (by simp [badNm,c6])
  · rw [List.length_range]
    simp (disch := omega) only [go_sem]
    simp [idsOk,hn.any]
    omega
end Go.Pv
namespace Go.Pv
open Classical in
noncomputable def eqv {α : Type} (a b : α) : Bool := decide (a = b)
theorem eqv_same {α : Type} (a : α) : eqv a a = true := by simp [eqv]
theorem eqv_ne {α : Type} {a b : α} (h : a ≠ b) : eqv a b = false := by simp [eqv,h]
theorem eqv_iff {α : Type} {a b : α} : eqv a b = true ↔ a = b := by simp [eqv]
theorem eqv_no {α : Type} {a b : α} : eqv a b = false ↔ a ≠ b := by simp [eqv]
theorem Nowhere.eq {α : Type} {l m : List α} (hl : l.length = m.length) (h : Nowhere (l.zip m) fun q => !eqv q.1 q.2) : l = m := by
  have ha := h.any
  rw [List.any_eq_false] at ha
  apply List.ext_getElem hl
  intro i h1 h2
  have hm : (l[i],m[i]) ∈ l.zip m := List.mem_of_getElem? (List.getElem?_zip_eq_some.2 ⟨List.getElem?_eq_getElem h1,List.getElem?_eq_getElem h2⟩)
  have := ha _ hm
  simpa [eqv_iff] using this
theorem Found.ne {α : Type} {l m : List α} {k : Nat} {x : α × α} (h : Found (l.zip m) (fun q => !eqv q.1 q.2) k x) : eqv l m = false := by
  rw [eqv_no]
  rintro rfl
  have ha := h.any
  rw [List.any_eq_true] at ha
  obtain ⟨q,hq,hn⟩ := ha
  obtain ⟨i,hi⟩ := List.mem_iff_getElem?.1 hq
  obtain ⟨h1,h2⟩ := List.getElem?_zip_eq_some.1 hi
  have : q.1 = q.2 := Option.some.inj (h1.symm.trans h2)
  rw [this,eqv_same] at hn
  cases hn
theorem zip_get {α : Type} {l m : List α} {k : Nat} {q : α × α} (h : (l.zip m)[k]? = some q) : l[k]? = some q.1 ∧ m[k]? = some q.2 := List.getElem?_zip_eq_some.1 h
theorem eqv_map {α β : Type} {f : α → β} (hf : ∀ x y,f x = f y → x = y) (l m : List α) : eqv (l.map f) (m.map f) = eqv l m := by
  rw [Bool.eq_iff_iff,eqv_iff,eqv_iff]
  refine ⟨fun h => ?_,fun h => by rw [h]⟩
  induction l generalizing m with
  | nil => cases m with
    | nil => rfl
    | cons y m => simp at h
  | cons x l ih => cases m with
    | nil => simp at h
    | cons y m =>
      simp only [List.map_cons,List.cons.injEq] at h
      rw [hf _ _ h.1,ih _ h.2]
theorem Raw.c_inj (x y : Raw) (h : x.c = y.c) : x = y := by
  obtain ⟨a,b⟩ := x
  obtain ⟨c,d⟩ := y
  simp only [Raw.c,List.cons.injEq,PV.int.injEq,PV.str.injEq,true_and,and_true] at h
  rw [h.1,h.2]
theorem eqv_sym (x y : Sym) : eqv x y = (decide (x.id = y.id) && decide (x.name = y.name)) := by
  obtain ⟨a,b⟩ := x
  obtain ⟨c,d⟩ := y
  simp [eqv]
theorem eqv_raw (x y : Raw) : eqv x y = (decide (x.id = y.id) && decide (x.data = y.data)) := by
  obtain ⟨a,b⟩ := x
  obtain ⟨c,d⟩ := y
  simp [eqv]
theorem zip_len {α : Type} {l m : List α} (h : l.length = m.length) : (l.zip m).length = l.length := by simp [h]
theorem r317 (t u : Nat) (l m : List Sym) (hl : l.length ≤ 2 ^ 63 - 1) (_hm : m.length ≤ 2 ^ 63 - 1) : res A PrA 317 [.lst t (l.map Sym.c),.lst u (m.map Sym.c)] = some [.bool (eqv l m)] := by
  refine res_of a317 rfl rfl ?_
  simp only [F317]
  simp (disch := omega) only [go_sem]
  refine Br.ofP (fun h => ?_) (fun h => ?_) <;> simp (disch := omega) only [go_sem]
  · refine W.find (l.zip m) (fun q => !eqv q.1 q.2) (fun k => ⟨[(0,.pv (.lst t (l.map Sym.c))),(1,.pv (.lst u (m.map Sym.c))),(12,.pv (.int .i64 l.length)),(13,.pv (.int .i64 k))],⟨[],[],[]⟩⟩) rfl (fun k q hq hk hfd => ?_) (fun hn => ?_)
    · obtain ⟨h1,h2⟩ := zip_get hq
      rw [zip_len (by omega)] at hk
      simp (disch := omega) only [go_sem]
      refine Br.ofP (fun c => ?_) (fun c => (c (by omega)).elim)
      simp (disch := omega) only [go_sem,h1,h2,Sym.c]
      rw [← eqv_sym]
      refine Br.of (fun g => ?_) (fun g => ?_) <;> simp (disch := omega) only [go_sem]
      · exact findK.of (by rw [g]; rfl) rfl
      · rw [(hfd (by rw [g]; rfl)).ne]
    · have hz : (l.zip m).length = l.length := zip_len (by omega)
      rw [hz]
      simp (disch := omega) only [go_sem]
      rw [hn.eq (by omega),eqv_same]
  · rw [eqv_ne (fun e => h (by rw [e]))]
theorem r333 (t u : Nat) (l m : List Raw) (hl : l.length ≤ 2 ^ 63 - 1) (_hm : m.length ≤ 2 ^ 63 - 1) : res A PrA 333 [.lst t (l.map Raw.c),.lst u (m.map Raw.c)] = some [.bool (eqv l m)] := by
  refine res_of a333 rfl rfl ?_
  simp only [F333]
  simp (disch := omega) only [go_sem]
  refine Br.ofP (fun h => ?_) (fun h => ?_) <;> simp (disch := omega) only [go_sem]
  · refine W.find (l.zip m) (fun q => !eqv q.1 q.2) (fun k => ⟨[(0,.pv (.lst t (l.map Raw.c))),(1,.pv (.lst u (m.map Raw.c))),(12,.pv (.int .i64 l.length)),(13,.pv (.int .i64 k))],⟨[],[],[]⟩⟩) rfl (fun k q hq hk hfd => ?_) (fun hn => ?_)
    · obtain ⟨h1,h2⟩ := zip_get hq
      rw [zip_len (by omega)] at hk
      simp (disch := omega) only [go_sem]
      refine Br.ofP (fun c => ?_) (fun c => (c (by omega)).elim)
      simp (disch := omega) only [go_sem,h1,h2,Raw.c]
      rw [← eqv_raw]
      refine Br.of (fun g => ?_) (fun g => ?_) <;> simp (disch := omega) only [go_sem]
      · exact findK.of (by rw [g]; rfl) rfl
      · rw [(hfd (by rw [g]; rfl)).ne]
    · have hz : (l.zip m).length = l.length := zip_len (by omega)
      rw [hz]
      simp (disch := omega) only [go_sem]
      rw [hn.eq (by omega),eqv_same]
  · rw [eqv_ne (fun e => h (by rw [e]))]
@[go_sem] theorem valc_len (v : Val) : v.c.length = 8 := rfl
theorem r334g {f : Nat} (hcw : ∀ (vs : List V) (h : Heap) (K : V → Tn → Prop),CW A PrA f vs h K = CN A PrA false f vs h K) (t u : Nat) (l m : List (List PV)) (hl : l.length ≤ 2 ^ 63 - 1) (_hm : m.length ≤ 2 ^ 63 - 1) (vl : ∀ r ∈ l,∃ v : Val,r = v.c) (vm : ∀ r ∈ m,∃ v : Val,r = v.c)
    (hr : ∀ r ∈ l,∀ q ∈ m,res A PrA f [.agg r,.agg q] = some [.bool (eqv r q)]) : res A PrA 334 [.lst t l,.lst u m,.func f []] = some [.bool (eqv l m)] := by
  refine res_of a334 rfl rfl ?_
  simp only [F334]
  simp (disch := omega) only [go_sem]
  refine Br.ofP (fun h => ?_) (fun h => ?_) <;> simp (disch := omega) only [go_sem]
  · refine W.find (l.zip m) (fun q => !eqv q.1 q.2) (fun k => ⟨[(1,.pv (.lst u m)),(2,.pv (.func f [])),(15,.pv (.lst t l)),(16,.pv (.int .i64 l.length)),(17,.pv (.int .i64 k))],⟨[],[],[]⟩⟩) rfl (fun k q hq hk hfd => ?_) (fun hn => ?_)
    · obtain ⟨h1,h2⟩ := zip_get hq
      rw [zip_len (by omega)] at hk
      have hc := hr q.1 (List.mem_of_getElem? h1) q.2 (List.mem_of_getElem? h2)
      obtain ⟨v,hv⟩ := vl q.1 (List.mem_of_getElem? h1)
      obtain ⟨w,hw⟩ := vm q.2 (List.mem_of_getElem? h2)
      generalize eqv q.1 q.2 = e at hc hfd ⊢
      rw [hv,hw] at hc
      rw [hv] at h1
      rw [hw] at h2
      unfold Val.c at hc h1 h2
      simp (disch := omega) only [go_sem]
      refine Br.ofP (fun c => ?_) (fun c => (c (by omega)).elim)
      simp (disch := omega) only [go_sem,h1,h2,hcw,hc]
      refine Br.of (fun g => ?_) (fun g => ?_) <;> simp (disch := omega) only [go_sem]
      · exact findK.of (by rw [g]; rfl) rfl
      · rw [(hfd (by rw [g]; rfl)).ne]
    · have hz : (l.zip m).length = l.length := zip_len (by omega)
      rw [hz]
      simp (disch := omega) only [go_sem]
      rw [hn.eq (by omega),eqv_same]
  · rw [eqv_ne (fun e => h (by rw [e]))]
theorem r334 (t u : Nat) (l m : List (List PV)) (hl : l.length ≤ 2 ^ 63 - 1) (hm : m.length ≤ 2 ^ 63 - 1) (vl : ∀ r ∈ l,∃ v : Val,r = v.c) (vm : ∀ r ∈ m,∃ v : Val,r = v.c)
    (hr : ∀ r ∈ l,∀ q ∈ m,res A PrA 320 [.agg r,.agg q] = some [.bool (eqv r q)]) : res A PrA 334 [.lst t l,.lst u m,.func 320 []] = some [.bool (eqv l m)] := r334g cw320 t u l m hl hm vl vm hr
end Go.Pv
namespace Go.Pv
def apX (id ver off len k lim : Nat) (r : List PV) (a : Arr) : Option (V × Tn) :=
  if off + len ≤ a.size ∧ a.k = k ∧ len + 1 ≤ lim then some (.own id (ver + 1) 0 (len + 1),{ ar := some (id,⟨ver + 1,k,catRows (cutRows off len a.body) (.inl [r])⟩) }) else none
theorem appX_ownr (h : Heap) (id ver off len k lim : Nat) (r : List PV) (hr : r.length = k) : appendX h k lim (.own id ver off len) (.tl [r]) = (ownArr h id ver).bind (apX id ver off len k lim r) := by
  cases ho : ownArr h id ver with
  | none => simp [appendX,srcRows,rowsFit,ho]
  | some a =>
    simp only [appendX,srcRows,rowsFit,ho,rowsLen,apX,List.all_cons,List.all_nil,List.length_cons,List.length_nil,Option.bind_some,hr,beq_self_eq_true,Bool.and_self,if_true]
    by_cases h1 : off + len ≤ a.size <;> by_cases h2 : a.k = k <;> by_cases h3 : len + 1 ≤ lim <;> simp [h1,h2,h3]
theorem apX_ok {id ver len k lim : Nat} {r : List PV} {l : List (List PV)} (h1 : len = l.length) (h2 : l.length + 1 ≤ lim) : apX id ver 0 len k lim r ⟨ver,k,.inl l⟩ = some (.own id (ver + 1) 0 (len + 1),{ ar := some (id,⟨ver + 1,k,.inl (l ++ [r])⟩) }) := by
  subst h1
  unfold apX
  rw [if_pos ⟨by simp [Arr.size],rfl,h2⟩]
  simp [catRows,cutRows]
theorem appX_tlr (h : Heap) (k lim : Nat) (r : List PV) (hr : r.length = k) (hm : 1 ≤ lim) : appendX h k lim (.tl []) (.tl [r]) = some (.own h.ar.length 0 0 1,{ push := [⟨0,k,.inl [r]⟩],base := h.ar.length }) := by
  simp [appendX,srcRows,rowsFit,rowsLen,catRows,hr,hm]
@[go_sem] theorem appX_tli (h : Heap) (lim : Nat) (x : Int) (hm : 1 ≤ lim) : appendX h 1 lim (.tl []) (.tl [[.int .i64 x]]) = some (.own h.ar.length 0 0 1,{ push := [⟨0,1,.inl (ints [x])⟩],base := h.ar.length }) := appX_tlr h 1 lim [.int .i64 x] rfl hm
@[go_sem] theorem appX_owni (h : Heap) (id ver off len lim : Nat) (x : Int) : appendX h 1 lim (.own id ver off len) (.tl [[.int .i64 x]]) = (ownArr h id ver).bind (apX id ver off len 1 lim [.int .i64 x]) := appX_ownr h id ver off len 1 lim [.int .i64 x] rfl
@[go_sem] theorem apX_int {id ver len lim : Nat} {x : Int} {l : List Int} (h1 : len = l.length) (h2 : l.length + 1 ≤ lim) : apX id ver 0 len 1 lim [.int .i64 x] ⟨ver,1,.inl (ints l)⟩ = some (.own id (ver + 1) 0 (len + 1),{ ar := some (id,⟨ver + 1,1,.inl (ints (l ++ [x]))⟩) }) := by
  rw [apX_ok (by rw [ints_length]; exact h1) (by rw [ints_length]; exact h2),ints_snoc]
end Go.Pv
namespace Go.Pv
@[go_sem] theorem appX_tls (h : Heap) (lim : Nat) (x : ByteArray) (hm : 1 ≤ lim) : appendX h 1 lim (.tl []) (.tl [[.str x]]) = some (.own h.ar.length 0 0 1,{ push := [⟨0,1,.inl (strs [x])⟩],base := h.ar.length }) := appX_tlr h 1 lim [.str x] rfl hm
@[go_sem] theorem appX_owns (h : Heap) (id ver off len lim : Nat) (x : ByteArray) : appendX h 1 lim (.own id ver off len) (.tl [[.str x]]) = (ownArr h id ver).bind (apX id ver off len 1 lim [.str x]) := appX_ownr h id ver off len 1 lim [.str x] rfl
@[go_sem] theorem apX_str {id ver len lim : Nat} {x : ByteArray} {l : List ByteArray} (h1 : len = l.length) (h2 : l.length + 1 ≤ lim) : apX id ver 0 len 1 lim [.str x] ⟨ver,1,.inl (strs l)⟩ = some (.own id (ver + 1) 0 (len + 1),{ ar := some (id,⟨ver + 1,1,.inl (strs (l ++ [x]))⟩) }) := by
  rw [apX_ok (by rw [strs_length]; exact h1) (by rw [strs_length]; exact h2),strs_snoc]
def twV (i k : Nat) : V := match k with
  | 0 => .tl []
  | j + 1 => .own i j 0 (j + 1)
def twA (A B : List (List PV)) : List Arr := match A.length with
  | 0 => []
  | j + 1 => [⟨j,1,.inl A⟩,⟨j,1,.inl B⟩]
def Sym.nm (s : Sym) : Nm := (s.id,s.name)
def symsOk (l : List Sym) : Bool := decide (0 < l.length) && (idsOk (l.map Sym.nm) && decide (l.length ≤ 16))
set_option maxHeartbeats 1000000 in
theorem r307 (t : Nat) (l : List Sym) (hl : l.length ≤ 8000000000000) (hs : ∀ p ∈ l,strOk p.name) : res A PrA 307 [.lst t (l.map Sym.c)] = some [.bool (symsOk l)] := by
  refine res_of a307 rfl rfl ?_
  simp only [F307]
  simp (disch := omega) only [go_sem]
  refine W.upto l.length (fun k => ⟨[(0,.pv (.lst t (l.map Sym.c))),(3,twV 0 k),(4,twV 1 k),(7,.pv (.lst t (l.map Sym.c))),(8,.pv (.int .i64 l.length)),(9,.pv (.int .i64 k))],⟨[],twA (ints ((l.take k).map (·.id))) (strs ((l.take k).map (·.name))),[]⟩⟩) (fun _ => True) rfl trivial (fun k hk _ => ?_)
  rcases Nat.lt_or_ge k l.length with hlt | hge
  · have hp := List.getElem?_eq_getElem hlt
    generalize l[k] = p at hp
    have t1 : (l.take (k + 1)).map (·.id) = (l.take k).map (·.id) ++ [p.id] := by rw [List.take_add_one,hp,List.map_append]; rfl
    have t2 : (l.take (k + 1)).map (·.name) = (l.take k).map (·.name) ++ [p.name] := by rw [List.take_add_one,hp,List.map_append]; rfl
    cases k with
    | zero =>
      simp only [twV,twA,List.take_zero,List.map_nil,ints_nil,List.length_nil]
      simp (disch := omega) only [go_sem]
      refine Br.ofP (fun c => ?_) (fun c => (c (by omega)).elim)
      simp (disch := omega) only [go_sem,hp,Sym.c]
      refine .of (by omega) ?_ trivial
      rw [t1,t2]
      rfl
    | succ j =>
      have l1 : ((l.take (j + 1)).map (·.id)).length = j + 1 := by simp; omega
      have l2 : ((l.take (j + 1)).map (·.name)).length = j + 1 := by simp; omega
      generalize (l.take (j + 1)).map (·.id) = A at t1 l1
      generalize (l.take (j + 1)).map (·.name) = B at t2 l2
      simp only [twV,twA,ints_length,l1]
      simp (disch := omega) only [go_sem]
      refine Br.ofP (fun c => ?_) (fun c => (c (by omega)).elim)
      simp (disch := omega) only [go_sem,hp,Sym.c]
      have l3 : ((l.take (j + 1 + 1)).map (·.id)).length = j + 1 + 1 := by rw [t1]; simp [l1]
      refine .of (by omega) ?_ trivial
      simp only [ints_length,l3]
      rw [t1,t2]
      rfl
  · obtain rfl : k = l.length := by omega
    rw [List.take_length]
    have nm1 : l.map (·.id) = (l.map Sym.nm).map (·.1) := by rw [List.map_map]; rfl
    have nm2 : l.map (·.name) = (l.map Sym.nm).map (·.2) := by rw [List.map_map]; rfl
    have h325 := fun t u => r325 t u (l.map Sym.nm) (by simp; omega) (fun p hp => by
      obtain ⟨q,hq,rfl⟩ := List.mem_map.1 hp
      exact hs q hq)
    rw [nm1,nm2]
    rw [List.length_map] at h325
    unfold symsOk
    cases hn : l.length with
    | zero =>
      have h0 : ¬ (0 : Int) < l.length := by omega
      simp only [twV,twA,hn,ints_length,List.length_map]
      simp (disch := omega) only [go_sem,h0]
    | succ j =>
      have l1 : ((l.map Sym.nm).map (·.1)).length = j + 1 := by simp [hn]
      have l2 : ((l.map Sym.nm).map (·.2)).length = j + 1 := by simp [hn]
      rw [hn] at h325
      generalize (l.map Sym.nm).map (·.1) = A at l1 h325
      generalize (l.map Sym.nm).map (·.2) = B at l2 h325
      simp only [twV,twA,ints_length,l1]
      simp (disch := omega) only [go_sem]
      have d1 : A.take (j + 1) = A := List.take_of_length_le (by omega)
      have d2 : (strs B).take (j + 1) = strs B := List.take_of_length_le (by rw [strs_length]; omega)
      refine Br.ofP (fun c => ?_) (fun c => (c (by omega)).elim)
      simp (disch := omega) only [go_sem,c,d1,d2,h325]
      have h0 : 0 < j + 1 := by omega
      simp [h0]
end Go.Pv
namespace Go.Pv
theorem Val.c_inj (x y : Val) (h : x.c = y.c) : x = y := by
  obtain ⟨a1,a2,a3,a4,a5,a6,a7,a8⟩ := x
  obtain ⟨b1,b2,b3,b4,b5,b6,b7,b8⟩ := y
  simp only [Val.c,List.cons.injEq,PV.int.injEq,PV.bool.injEq,PV.str.injEq,PV.lst.injEq,true_and,and_true] at h
  obtain ⟨h1,h2,h3,h4,h5,h6,h7,h8⟩ := h
  have h8 : a8 = b8 := eqv_iff.1 (by rw [← eqv_map Raw.c_inj,h8,eqv_same])
  rw [h1,h2,h3,h4,h5,h6,h7,h8]
theorem eqv_val (x y : Val) : eqv x.c y.c = eqv x y := by
  rw [Bool.eq_iff_iff,eqv_iff,eqv_iff]
  exact ⟨x.c_inj y,fun h => by rw [h]⟩
set_option maxHeartbeats 4000000 in
theorem r320 : ∀ (n k : Nat) (cs ds : List PV),VOk n cs → VOk k ds → res A PrA 320 [.agg cs,.agg ds] = some [.bool (eqv cs ds)]
  | 0,_,_,_,h,_ => h.elim
  | _ + 1,0,_,_,_,h => h.elim
  | n + 1,k + 1,cs,ds,h,h' => by
    obtain ⟨v,rfl,⟨h1,h2,h3,h4⟩,⟨h5,h6,h7⟩,h8,h9,h10⟩ := h
    obtain ⟨w,rfl,⟨g1,g2,g3,g4⟩,⟨g5,g6,g7⟩,g8,g9,g10⟩ := h'
    have ih := r320 n k
    unfold lenOk at h5 h6 h7 g5 g6 g7
    have hk := fun t u => r334 t u v.keys w.keys (by omega) (by omega) (fun r hr => (h8 r hr).val) (fun r hr => (g8 r hr).val) (fun r hr q hq => ih r q (h8 r hr) (g8 q hq))
    have hi := fun t u => r334 t u v.items w.items (by omega) (by omega) (fun r hr => (h9 r hr).val) (fun r hr => (g9 r hr).val) (fun r hr q hq => ih r q (h9 r hr) (g9 q hq))
    have hr := fun t u => r333 t u v.rest w.rest (by omega) (by omega)
    rw [eqv_val]
    obtain ⟨a1,a2,a3,a4,a5,a6,a7,a8⟩ := v
    obtain ⟨b1,b2,b3,b4,b5,b6,b7,b8⟩ := w
    unfold Val.c
    dsimp only at *
    clear ih
    refine res_of a320 rfl rfl ?_
    simp only [F320]
    simp (disch := omega) only [go_sem]
    have no : ∀ {p q : Val},p ≠ q → (some [PV.bool false] : Option (List PV)) = some [PV.bool (eqv p q)] := fun h => by rw [eqv_ne h]
    refine Br.ofP (fun e => ?_) (fun e => ?_) <;> simp (disch := omega) only [go_sem,e]
    rotate_left
    · exact no (fun q => e (by cases q; rfl))
    subst e
    refine Br.ofP (fun e => ?_) (fun e => ?_) <;> simp (disch := omega) only [go_sem,e]
    rotate_left
    · exact no (fun q => e (by cases q; rfl))
    subst e
    refine Br.ofP (fun e => ?_) (fun e => ?_) <;> simp (disch := omega) only [go_sem,e]
    rotate_left
    · exact no (fun q => e (by cases q; rfl))
    subst e
    refine Br.ofP (fun e => ?_) (fun e => ?_) <;> simp (disch := omega) only [go_sem,e]
    rotate_left
    · exact no (fun q => e (by cases q; rfl))
    subst e
    refine Br.ofP (fun e => ?_) (fun e => ?_) <;> simp (disch := omega) only [go_sem,e]
    rotate_left
    · exact no (fun q => e (by cases q; rfl))
    subst e
    simp (disch := omega) only [go_sem,hr]
    refine Br.of (fun e => ?_) (fun e => ?_) <;> simp (disch := omega) only [go_sem,e]
    rotate_left
    · exact no (fun q => eqv_no.1 e (by cases q; rfl))
    have e := eqv_iff.1 e
    subst e
    simp (disch := omega) only [go_sem,hk]
    refine Br.of (fun e => ?_) (fun e => ?_) <;> simp (disch := omega) only [go_sem,e]
    rotate_left
    · exact no (fun q => eqv_no.1 e (by cases q; rfl))
    have e := eqv_iff.1 e
    subst e
    simp (disch := omega) only [go_sem,hi]
    congr 3
    rw [Bool.eq_iff_iff,eqv_iff,eqv_iff]
    exact ⟨fun e => by rw [e],fun q => by cases q; rfl⟩
theorem r320v {cs ds : List PV} (h : ∃ n,VOk n cs) (h' : ∃ n,VOk n ds) : res A PrA 320 [.agg cs,.agg ds] = some [.bool (eqv cs ds)] := by
  obtain ⟨n,h⟩ := h
  obtain ⟨k,h'⟩ := h'
  exact r320 n k cs ds h h'
theorem r336 (t u : Nat) (l m : List (List PV)) (hl : l.length ≤ 2 ^ 63 - 1) (_hm : m.length ≤ 2 ^ 63 - 1) (vl : ∀ r ∈ l,∃ v : Val,r = v.c) (vm : ∀ r ∈ m,∃ v : Val,r = v.c)
    (hr : ∀ r ∈ l,∀ q ∈ m,res A PrA 330 [.agg r,.agg q] = some [.bool (eqv r q)]) : res A PrA 336 [.lst t l,.lst u m] = some [.bool (eqv l m)] := by
  refine res_of a336 rfl rfl ?_
  simp only [F336]
  simp (disch := omega) only [go_sem]
  refine Br.ofP (fun h => ?_) (fun h => ?_) <;> simp (disch := omega) only [go_sem]
  · refine W.find (l.zip m) (fun q => !eqv q.1 q.2) (fun k => ⟨[(0,.pv (.lst t l)),(1,.pv (.lst u m)),(5,.pv (.int .i64 k))],⟨[],[],[]⟩⟩) rfl (fun k q hq hk hfd => ?_) (fun hn => ?_)
    · obtain ⟨h1,h2⟩ := zip_get hq
      rw [zip_len (by omega)] at hk
      have hc := hr q.1 (List.mem_of_getElem? h1) q.2 (List.mem_of_getElem? h2)
      obtain ⟨v,hv⟩ := vl q.1 (List.mem_of_getElem? h1)
      obtain ⟨w,hw⟩ := vm q.2 (List.mem_of_getElem? h2)
      generalize eqv q.1 q.2 = e at hc hfd ⊢
      rw [hv,hw] at hc
      rw [hv] at h1
      rw [hw] at h2
      unfold Val.c at hc h1 h2
      simp (disch := omega) only [go_sem]
      refine Br.ofP (fun c => ?_) (fun c => (c (by omega)).elim)
      simp (disch := omega) only [go_sem,h1,h2,hc]
      refine Br.of (fun g => ?_) (fun g => ?_) <;> simp (disch := omega) only [go_sem]
      · exact findK.of (by rw [g]; rfl) rfl
      · rw [(hfd (by rw [g]; rfl)).ne]
    · have hz : (l.zip m).length = l.length := zip_len (by omega)
      rw [hz]
      simp (disch := omega) only [go_sem]
      rw [hn.eq (by omega),eqv_same]
  · rw [eqv_ne (fun e => h (by rw [e]))]
set_option maxHeartbeats 4000000 in
theorem r330 : ∀ (n k : Nat) (cs ds : List PV),VOk n cs → VOk k ds → res A PrA 330 [.agg cs,.agg ds] = some [.bool (eqv cs ds)]
  | 0,_,_,_,h,_ => h.elim
  | _ + 1,0,_,_,_,h => h.elim
  | n + 1,k + 1,cs,ds,h,h' => by
    obtain ⟨v,rfl,⟨h1,h2,h3,h4⟩,⟨h5,h6,h7⟩,h8,h9,h10⟩ := h
    obtain ⟨w,rfl,⟨g1,g2,g3,g4⟩,⟨g5,g6,g7⟩,g8,g9,g10⟩ := h'
    have ih := r330 n k
    unfold lenOk at h5 h6 h7 g5 g6 g7
    have hk := fun t u => r336 t u v.keys w.keys (by omega) (by omega) (fun r hr => (h8 r hr).val) (fun r hr => (g8 r hr).val) (fun r hr q hq => ih r q (h8 r hr) (g8 q hq))
    have hi := fun t u => r336 t u v.items w.items (by omega) (by omega) (fun r hr => (h9 r hr).val) (fun r hr => (g9 r hr).val) (fun r hr q hq => ih r q (h9 r hr) (g9 q hq))
    rw [eqv_val]
    obtain ⟨a1,a2,a3,a4,a5,a6,a7,a8⟩ := v
    obtain ⟨b1,b2,b3,b4,b5,b6,b7,b8⟩ := w
    unfold Val.c
    dsimp only at *
    clear ih
    refine res_of a330 rfl rfl ?_
    simp only [F330]
    simp (disch := omega) only [go_sem]
    have no : ∀ {p q : Val},p ≠ q → (some [PV.bool false] : Option (List PV)) = some [PV.bool (eqv p q)] := fun h => by rw [eqv_ne h]
    refine Br.ofP (fun e => ?_) (fun e => ?_) <;> simp (disch := omega) only [go_sem,e]
    rotate_left
    · exact no (fun q => e (by cases q; rfl))
    subst e
    refine Br.ofP (fun e => ?_) (fun e => ?_) <;> simp (disch := omega) only [go_sem,e]
    rotate_left
    · exact no (fun q => e (by cases q; rfl))
    subst e
    refine Br.ofP (fun e => ?_) (fun e => ?_) <;> simp (disch := omega) only [go_sem,e]
    rotate_left
    · exact no (fun q => e (by cases q; rfl))
    subst e
    refine Br.ofP (fun e => ?_) (fun e => ?_) <;> simp (disch := omega) only [go_sem,e]
    rotate_left
    · exact no (fun q => e (by cases q; rfl))
    subst e
    refine Br.ofP (fun e => ?_) (fun e => ?_) <;> simp (disch := omega) only [go_sem,e]
    rotate_left
    · exact no (fun q => e (by cases q; rfl))
    subst e
    refine Br.ofP (fun e => ?_) (fun e => ?_) <;> simp (disch := omega) only [go_sem]
    rotate_left
    · exact no (fun q => e (by cases q; rfl))
    refine W.find (a8.zip b8) (fun q => !eqv q.1 q.2) (fun k => ⟨[(2,.ptr 2 0),(3,.ptr 3 0),(5,.pv (.int .i64 k))],⟨[(2,[.pv (.int .i64 a1),.pv (.bool a2),.pv (.int .i64 a3),.pv (.str a4),.pv (.int .i64 a5),.pv (.lst 0 a6),.pv (.lst 0 a7),.pv (.lst 0 (a8.map Raw.c))]),(3,[.pv (.int .i64 a1),.pv (.bool a2),.pv (.int .i64 a3),.pv (.str a4),.pv (.int .i64 a5),.pv (.lst 0 b6),.pv (.lst 0 b7),.pv (.lst 0 (b8.map Raw.c))])],[],[]⟩⟩) rfl (fun k q hq hk' hfd => ?_) (fun hn => ?_)
    · obtain ⟨q1,q2⟩ := zip_get hq
      rw [zip_len (by omega)] at hk'
      simp (disch := omega) only [go_sem]
      refine Br.ofP (fun c => ?_) (fun c => (c (by omega)).elim)
      simp (disch := omega) only [go_sem,q1,q2,Raw.c]
      rw [← eqv_raw]
      refine Br.of (fun g => ?_) (fun g => ?_) <;> simp (disch := omega) only [go_sem]
      · exact findK.of (by rw [g]; rfl) rfl
      · exact no (fun q => eqv_no.1 (hfd (by rw [g]; rfl)).ne (by cases q; rfl))
    · have hz : (a8.zip b8).length = a8.length := zip_len (by omega)
      rw [hz]
      have e := hn.eq (by omega)
      subst e
      simp (disch := omega) only [go_sem,hk]
      refine Br.of (fun e => ?_) (fun e => ?_) <;> simp (disch := omega) only [go_sem,e]
      rotate_left
      · exact no (fun q => eqv_no.1 e (by cases q; rfl))
      have e := eqv_iff.1 e
      subst e
      simp (disch := omega) only [go_sem,hi]
      congr 3
      rw [Bool.eq_iff_iff,eqv_iff,eqv_iff]
      exact ⟨fun e => by rw [e],fun q => by cases q; rfl⟩
theorem r330v {cs ds : List PV} (h : ∃ n,VOk n cs) (h' : ∃ n,VOk n ds) : res A PrA 330 [.agg cs,.agg ds] = some [.bool (eqv cs ds)] := by
  obtain ⟨n,h⟩ := h
  obtain ⟨k,h'⟩ := h'
  exact r330 n k cs ds h h'
end Go.Pv
namespace Go.Pv
def zeroVal : Val := ⟨0,false,0,⟨#[]⟩,0,[],[],[]⟩
theorem zero_ok : ∃ n,VOk n zeroVal.c := by
  refine ⟨1,zeroVal,rfl,⟨?_,?_,?_,?_⟩,⟨?_,?_,?_⟩,fun r hr => (List.not_mem_nil hr).elim,fun r hr => (List.not_mem_nil hr).elim,fun r hr => (List.not_mem_nil hr).elim⟩ <;> simp [zeroVal,I64,strOk,lenOk]
  exact Nat.zero_le _
theorem r326 {v : Val} (h : ∃ n,VOk n v.c) : res A PrA 326 [.agg v.c] = some [.bool (eqv v zeroVal)] := by
  refine res_of a326 rfl rfl ?_
  simp only [F326]
  have hc := r320v h zero_ok
  rw [eqv_val] at hc
  unfold zeroVal Val.c at *
  simp only [List.map_nil] at hc
  simp (disch := omega) only [go_sem,hc]
noncomputable def memBad (rec : Bool) (m : Mem) : Bool := (!rec && (m.crit || m.has)) || (m.crit && m.has) || (!m.has && !eqv m.dflt zeroVal)
def Mem.nm (s : Mem) : Nm := (s.id,s.name)
noncomputable def memsOk (rec : Bool) (l : List Mem) : Bool := !l.any (memBad rec) && ((rec || decide (0 < l.length)) && (idsOk (l.map Mem.nm) && decide (l.length ≤ 16)))
theorem fin_false {p : Bool} (h : p = false) : (some [PV.bool false] : Option (List PV)) = some [PV.bool p] := by rw [h]
set_option maxHeartbeats 4000000 in
theorem r308 (t : Typ) (ht : t.ok) (hl : t.mems.length ≤ 8000000000000) (hk : t.kind = 5 ∨ t.kind = 6) : res A PrA 308 [.agg t.c] = some [.bool (memsOk (decide (t.kind = 5)) t.mems)] := by
  obtain ⟨_,⟨_,_⟩,_,ho⟩ := ht
  obtain ⟨a1,a2,a3,a4,a5,a6,l,a8,a9,a10⟩ := t
  unfold Typ.c
  dsimp only at *
  refine res_of a308 rfl rfl ?_
  simp only [F308]
  simp (disch := omega) only [go_sem]
  refine W.find l (memBad (decide (a1 = 5))) (fun k => ⟨[(1,.ptr 1 0),(3,twV 0 k),(4,twV 1 k),(8,.pv (.lst 0 (l.map Mem.c))),(9,.pv (.int .i64 l.length)),(10,.pv (.int .i64 k))],⟨[(1,[.pv (.int .i64 a1),.pv (.str a2),.pv (.int .i64 a3),.pv (.int .i64 a4),.pv (.int .i64 a5),.pv (.lst 0 (a6.map Sym.c)),.pv (.lst 0 (l.map Mem.c)),.pv (.int .i64 a8),.pv (.int .i64 a9),.pv (.bool a10)])],twA (ints ((l.take k).map (·.id))) (strs ((l.take k).map (·.name))),[]⟩⟩) rfl (fun k p hp hlt hfd => ?_) (fun hn => ?_)
  · have t1 : (l.take (k + 1)).map (·.id) = (l.take k).map (·.id) ++ [p.id] := by rw [List.take_add_one,hp,List.map_append]; rfl
    have t2 : (l.take (k + 1)).map (·.name) = (l.take k).map (·.name) ++ [p.name] := by rw [List.take_add_one,hp,List.map_append]; rfl
    obtain ⟨_,_,_,hd⟩ := ho p (List.mem_of_getElem? hp)
    have hz := r326 hd
    have done : memBad (decide (a1 = 5)) p = true → (some [PV.bool false] : Option (List PV)) = some [PV.bool (memsOk (decide (a1 = 5)) l)] := fun g => by
      refine fin_false ?_
      simp only [memsOk,(hfd g).any,Bool.not_true,Bool.false_and]
    have hz0 : eqv p.dflt zeroVal = eqv p.dflt zeroVal := rfl
    generalize hzz : eqv p.dflt zeroVal = z at hz
    unfold Val.c at hz
    have hbad : memBad (decide (a1 = 5)) p = ((!decide (a1 = 5) && (p.crit || p.has)) || (p.crit && p.has) || (!p.has && !z)) := by rw [memBad,hzz]
    rw [hbad] at done ⊢
    cases k with
    | zero =>
      simp only [twV,twA,List.take_zero,List.map_nil,ints_nil,List.length_nil]
      simp (disch := omega) only [go_sem]
      refine Br.ofP (fun c => ?_) (fun c => (c (by omega)).elim)
      simp (disch := omega) only [go_sem,hp,Mem.c]
      repeat' (first
        | (refine Br.ofP (fun h => ?_) (fun h => ?_) <;> simp (disch := omega) only [go_sem,h])
        | (refine Br.of (fun h => ?_) (fun h => ?_) <;> simp (disch := omega) only [go_sem,h,hz]))
      all_goals first
        | (refine done ?_; simp_all; done)
        | (refine findK.of (by simp_all; done) ?_
           rw [t1,t2]
           first
             | rfl
             | (rw [show a1 = 6 by omega]; rfl))
    | succ j =>
      have l1 : ((l.take (j + 1)).map (·.id)).length = j + 1 := by simp; omega
      have l2 : ((l.take (j + 1)).map (·.name)).length = j + 1 := by simp; omega
      have l3 : ((l.take (j + 1 + 1)).map (·.id)).length = j + 1 + 1 := by rw [t1]; simp; omega
      generalize (l.take (j + 1)).map (·.id) = A at t1 l1
      generalize (l.take (j + 1)).map (·.name) = B at t2 l2
      simp only [twV,twA,ints_length,l1]
      simp (disch := omega) only [go_sem]
      refine Br.ofP (fun c => ?_) (fun c => (c (by omega)).elim)
      simp (disch := omega) only [go_sem,hp,Mem.c]
      repeat' (first
        | (refine Br.ofP (fun h => ?_) (fun h => ?_) <;> simp (disch := omega) only [go_sem,h])
        | (refine Br.of (fun h => ?_) (fun h => ?_) <;> simp (disch := omega) only [go_sem,h,hz]))
      all_goals first
        | (refine done ?_; simp_all; done)
        | (refine findK.of (by simp_all; done) ?_
           simp only [ints_length,l3]
           rw [t1,t2]
           first
             | rfl
             | (rw [show a1 = 6 by omega]; rfl))
  · rw [List.take_length]
    have nm1 : l.map (·.id) = (l.map Mem.nm).map (·.1) := by rw [List.map_map]; rfl
    have nm2 : l.map (·.name) = (l.map Mem.nm).map (·.2) := by rw [List.map_map]; rfl
    have h325 := fun t u => r325 t u (l.map Mem.nm) (by simp; omega) (fun p hp => by
      obtain ⟨q,hq,rfl⟩ := List.mem_map.1 hp
      exact (ho q hq).2.1)
    rw [nm1,nm2]
    rw [List.length_map] at h325
    unfold memsOk
    rw [hn.any]
    cases hn : l.length with
    | zero =>
      have hnil : l = [] := List.eq_nil_of_length_eq_zero hn
      subst hnil
      simp only [List.map_nil,ints,strs] at h325
      simp only [twV,twA,hn,ints_length,List.length_map]
      simp (disch := omega) only [go_sem]
      refine Br.ofP (fun c => ?_) (fun c => ?_) <;> simp (disch := omega) only [go_sem,c,h325]
      refine Br.ofP (fun c2 => absurd c2 (by omega)) (fun c2 => ?_)
      simp (disch := omega) only [go_sem,c2]
      simp [c]
    | succ j =>
      have l1 : ((l.map Mem.nm).map (·.1)).length = j + 1 := by simp [hn]
      have l2 : ((l.map Mem.nm).map (·.2)).length = j + 1 := by simp [hn]
      rw [hn] at h325
      generalize (l.map Mem.nm).map (·.1) = A at l1 h325
      generalize (l.map Mem.nm).map (·.2) = B at l2 h325
      simp only [twV,twA,ints_length,l1]
      simp (disch := omega) only [go_sem]
      have d1 : A.take (j + 1) = A := List.take_of_length_le (by omega)
      have d2 : (strs B).take (j + 1) = strs B := List.take_of_length_le (by rw [strs_length]; omega)
      refine Br.ofP (fun c => ?_) (fun c => ?_) <;> simp (disch := omega) only [go_sem,c,d1,d2,h325]
      refine Br.ofP (fun c2 => ?_) (fun c2 => absurd (show (0 : Int) < ((j + 1 : Nat) : Int) by omega) c2)
      simp (disch := omega) only [go_sem,c,c2,d1,d2,h325]
      simp
end Go.Pv
namespace Go.Pv
def okId (b n : Int) : Bool := decide (b < n) && (decide (1 ≤ n) && decide (n ≤ 1000))
theorem r329 (b n : Int) : res A PrA 329 [.int .i64 b,.int .i64 n] = some [.bool (okId b n)] := by
  refine res_of a329 rfl rfl ?_
  simp only [F329]
  simp (disch := omega) only [go_sem]
  unfold okId
  repeat' (refine Br.ofP (fun h => ?_) (fun h => ?_) <;> simp (disch := omega) only [go_sem,h])
  all_goals simp [*]
def befI (l : List Nm) (k : Nat) : Int := match k with
  | 0 => 0
  | _ + 1 => prevI l k
theorem bad_of (l : List Nm) (k : Nat) (p : Nm) : badNm l k p = (!okId (befI l k) p.1 || !isName p.2 || hasS ((l.map (·.2)).take k) p.2) := by
  have h : (decide (p.1 < 1) || decide (1000 < p.1) || (decide (0 < k) && decide (p.1 ≤ prevI l k))) = !okId (befI l k) p.1 := by
    unfold okId
    rw [Bool.eq_iff_iff]
    cases k with
    | zero =>
      rw [Bool.not_eq_true',Bool.and_eq_false_iff,Bool.and_eq_false_iff,decide_eq_false_iff_not,decide_eq_false_iff_not,decide_eq_false_iff_not]
      simp only [befI,Bool.or_eq_true,Bool.and_eq_true,decide_eq_true_eq]
      omega
    | succ j =>
      rw [Bool.not_eq_true',Bool.and_eq_false_iff,Bool.and_eq_false_iff,decide_eq_false_iff_not,decide_eq_false_iff_not,decide_eq_false_iff_not]
      simp only [befI,Bool.or_eq_true,Bool.and_eq_true,decide_eq_true_eq]
      omega
  unfold badNm
  rw [h]
  generalize (!okId (befI l k) p.1) = x
  generalize hasS _ _ = y
  generalize isName _ = z
  cases x <;> cases y <;> cases z <;> rfl
theorem idsOk_no {l : List Nm} {k : Nat} {p : Nm} (hp : l[k]? = some p) (h : badNm l k p = true) : idsOk l = false := by
  have hk := (List.getElem?_eq_some_iff.1 hp).1
  unfold idsOk
  rw [Bool.not_eq_false',List.any_eq_true]
  exact ⟨k,List.mem_range.2 hk,by simp only [badAt,hp]; exact h⟩
theorem has_any {α : Type} (nm : α → Nm) (l : List α) (k : Nat) (x : ByteArray) : hasS (((l.map nm).map (·.2)).take k) x = (l.take k).any fun q => decide ((nm q).2 = x) := by
  unfold hasS
  rw [← List.map_take,← List.map_take,List.any_map,List.any_map]
  rfl
theorem bef_next {l : List Nm} {k : Nat} {p : Nm} (hp : l[k]? = some p) : befI l (k + 1) = p.1 := by
  show prevI l (k + 1) = p.1
  unfold prevI
  rw [Nat.add_sub_cancel,hp]
  rfl
set_option maxHeartbeats 1000000 in
theorem r311 (t : Nat) (l : List Sym) (hl : l.length ≤ 8000000000000) (hs : ∀ p ∈ l,strOk p.name) : res A PrA 311 [.lst t (l.map Sym.c)] = some [.bool (symsOk l)] := by
  refine res_of a311 rfl rfl ?_
  simp only [F311]
  simp (disch := omega) only [go_sem]
  refine W.find (List.range l.length) (badAt (l.map Sym.nm)) (fun k => ⟨[(0,.pv (.lst t (l.map Sym.c))),(3,.pv (.int .i64 (befI (l.map Sym.nm) k))),(4,.pv (.int .i64 k))],⟨[],[],[]⟩⟩) rfl (fun k x hx hk hfd => ?_) (fun hn => ?_)
  · obtain ⟨rfl,hk⟩ := range_get hx
    have hp := List.getElem?_eq_getElem hk
    generalize l[x] = p at hp
    have hq : (l.map Sym.nm)[x]? = some p.nm := by rw [List.getElem?_map,hp]; rfl
    have hnm := r310 p.name (hs p (List.mem_of_getElem? hp))
    have hid := r329 (befI (l.map Sym.nm) x) p.id
    have hb : badAt (l.map Sym.nm) x = (!okId (befI (l.map Sym.nm) x) p.id || !isName p.name || (l.take x).any fun q => decide (q.name = p.name)) := by
      simp only [badAt,hq]
      rw [bad_of,has_any]
      rfl
    have done : badAt (l.map Sym.nm) x = true → (some [PV.bool false] : Option (List PV)) = some [PV.bool (symsOk l)] := fun g => by
      refine fin_false ?_
      simp only [badAt,hq] at g
      simp only [symsOk,idsOk_no hq g,Bool.false_and,Bool.and_false]
    rw [hb] at done ⊢
    simp (disch := omega) only [go_sem]
    refine Br.ofP (fun c => ?_) (fun c => (c (by omega)).elim)
    simp (disch := omega) only [go_sem,hp,Sym.c,hid]
    refine Br.of (fun c1 => ?_) (fun c1 => ?_) <;> simp (disch := omega) only [go_sem,c1,hp,Sym.c,hnm]
    rotate_left
    · exact done (by simp [c1])
    refine Br.of (fun c2 => ?_) (fun c2 => ?_) <;> simp (disch := omega) only [go_sem,c2]
    rotate_left
    · exact done (by simp [c2])
    refine W.find (l.take x) (fun q => decide (q.name = p.name)) (fun j => ⟨[(0,.pv (.lst t (l.map Sym.c))),(4,.pv (.int .i64 x)),(5,.pv (.int .i64 j))],⟨[],[],[]⟩⟩) rfl (fun j q hj hjl hfd2 => ?_) (fun hn => ?_)
    · have hjl' : j < x ∧ j < l.length := by rw [List.length_take] at hjl; omega
      have hj' : l[j]? = some q := by
        rw [List.getElem?_take,if_pos hjl'.1] at hj
        exact hj
      simp (disch := omega) only [go_sem]
      refine Br.ofP (fun c => ?_) (fun c => (c (by omega)).elim)
      simp (disch := omega) only [go_sem,hp,hj',Sym.c]
      refine Br.ofP (fun c3 => ?_) (fun c3 => ?_) <;> simp (disch := omega) only [go_sem,c3]
      · exact done (by rw [(hfd2 (by simp [c3])).any,Bool.or_true])
      · exact findK.of (by simp [c3]) rfl
    · have hlx : (l.take x).length = x := by rw [List.length_take]; omega
      rw [hlx]
      simp (disch := omega) only [go_sem,hp,Sym.c]
      refine findK.of ?_ ?_
      · rw [hn.any,c1,c2]
        rfl
      · rw [bef_next hq]
        rfl
  · rw [List.length_range]
    simp (disch := omega) only [go_sem]
    have hi : idsOk (l.map Sym.nm) = true := by
      unfold idsOk
      rw [List.length_map,hn.any]
      rfl
    refine Br.ofP (fun c3 => ?_) (fun c3 => ?_) <;> simp (disch := omega) only [go_sem,c3]
    · have h0 : 0 < l.length := by omega
      simp [symsOk,hi,h0]
      omega
    · have h0 : ¬ 0 < l.length := by omega
      simp [symsOk,h0]
noncomputable def badMem (rec : Bool) (l : List Mem) (k : Nat) : Bool := match l[k]? with
  | some m => memBad rec m
  | none => false
set_option maxHeartbeats 4000000 in
theorem r312 (t : Nat) (l : List Mem) (rec : Bool) (hl : l.length ≤ 8000000000000) (ho : ∀ p ∈ l,p.ok) : res A PrA 312 [.lst t (l.map Mem.c),.bool rec] = some [.bool (memsOk rec l)] := by
  refine res_of a312 rfl rfl ?_
  simp only [F312]
  simp (disch := omega) only [go_sem]
  refine W.find (List.range l.length) (fun k => badAt (l.map Mem.nm) k || badMem rec l k) (fun k => ⟨[(0,.pv (.lst t (l.map Mem.c))),(1,.pv (.bool rec)),(5,.pv (.int .i64 (befI (l.map Mem.nm) k))),(6,.pv (.int .i64 k))],⟨[],[],[]⟩⟩) rfl (fun k x hx hk hfd => ?_) (fun hn => ?_)
  · obtain ⟨rfl,hk⟩ := range_get hx
    have hp := List.getElem?_eq_getElem hk
    generalize l[x] = p at hp
    clear hfd
    have hq : (l.map Mem.nm)[x]? = some p.nm := by rw [List.getElem?_map,hp]; rfl
    obtain ⟨_,hsn,_,hd⟩ := ho p (List.mem_of_getElem? hp)
    have hnm := r310 p.name hsn
    have hid := r329 (befI (l.map Mem.nm) x) p.id
    have hz := r330v hd zero_ok
    rw [eqv_val] at hz
    have hb : badAt (l.map Mem.nm) x = (!okId (befI (l.map Mem.nm) x) p.id || !isName p.name || (l.take x).any fun q => decide (q.name = p.name)) := by
      simp only [badAt,hq]
      rw [bad_of,has_any]
      rfl
    have done : (badAt (l.map Mem.nm) x || memBad rec p) = true → (some [PV.bool false] : Option (List PV)) = some [PV.bool (memsOk rec l)] := fun g => by
      refine fin_false ?_
      rcases Bool.or_eq_true _ _ |>.mp g with g | g
      · simp only [badAt,hq] at g
        simp only [memsOk,idsOk_no hq g,Bool.false_and,Bool.and_false]
      · have : l.any (memBad rec) = true := List.any_eq_true.2 ⟨p,List.mem_of_getElem? hp,g⟩
        simp only [memsOk,this,Bool.not_true,Bool.false_and]
    have hbm : badMem rec l x = memBad rec p := by simp only [badMem,hp]
    rw [hbm]
    rw [hb] at done ⊢
    unfold memBad at done ⊢
    generalize eqv p.dflt zeroVal = z at hz done ⊢
    unfold zeroVal Val.c at hz
    simp only [List.map_nil] at hz
    simp (disch := omega) only [go_sem]
    refine Br.ofP (fun c => ?_) (fun c => (c (by omega)).elim)
    simp (disch := omega) only [go_sem,hp,Mem.c,hid]
    refine Br.of (fun c1 => ?_) (fun c1 => ?_) <;> simp (disch := omega) only [go_sem,c1,hnm]
    rotate_left
    · exact done (by simp [c1])
    refine Br.of (fun c2 => ?_) (fun c2 => ?_) <;> simp (disch := omega) only [go_sem,c2]
    rotate_left
    · exact done (by simp [c2])
    repeat' (refine Br.of (fun h => ?_) (fun h => ?_) <;> simp (disch := omega) only [go_sem,h,hz])
    all_goals subst_vars
    all_goals first
      | (refine done ?_
         simp [*]
         done)
      | skip
    all_goals
      refine W.find (l.take x) (fun q => decide (q.name = p.name)) ((fun (b : V) (cs : List V) => fun j => ⟨[(0,.pv (.lst t (l.map Mem.c))),(1,b),(6,.pv (.int .i64 x)),(7,.ptr 7 0),(8,.pv (.int .i64 (j : Nat)))],⟨[(7,cs)],[],[]⟩⟩) _ _) rfl (fun j q hj hjl hfd2 => ?_) (fun hn => ?_)
      · have hjl' : j < x ∧ j < l.length := by rw [List.length_take] at hjl; omega
        have hj' : l[j]? = some q := by
          rw [List.getElem?_take,if_pos hjl'.1] at hj
          exact hj
        simp (disch := omega) only [go_sem]
        refine Br.ofP (fun c => ?_) (fun c => (c (by omega)).elim)
        simp (disch := omega) only [go_sem,hj',Mem.c]
        refine Br.ofP (fun c3 => ?_) (fun c3 => ?_) <;> simp (disch := omega) only [go_sem,c3]
        · exact done (by rw [(hfd2 (by simp [c3])).any]; simp)
        · exact findK.of (by simp [c3]) rfl
      · have hlx : (l.take x).length = x := by rw [List.length_take]; omega
        rw [hlx]
        simp (disch := omega) only [go_sem]
        refine findK.of ?_ ?_
        · rw [hn.any,c1,c2]
          simp [*]
        · rw [bef_next hq]
          rfl
  · rw [List.length_range]
    simp (disch := omega) only [go_sem]
    have ha := hn.any
    rw [List.any_eq_false] at ha
    have hi : idsOk (l.map Mem.nm) = true := by
      unfold idsOk
      rw [Bool.not_eq_true',List.any_eq_false]
      intro k hk
      rw [List.length_map] at hk
      have := ha k hk
      simp only [Bool.or_eq_true,not_or] at this
      exact this.1
    have hb : l.any (memBad rec) = false := by
      rw [List.any_eq_false]
      intro m hm
      obtain ⟨k,hk⟩ := List.mem_iff_getElem?.1 hm
      have := ha k (List.mem_range.2 (List.getElem?_eq_some_iff.1 hk).1)
      simp only [Bool.or_eq_true,not_or,badMem,hk] at this
      simpa using this.2
    refine Br.ofP (fun c3 => ?_) (fun c3 => ?_) <;> simp (disch := omega) only [go_sem,c3]
    · refine Br.of (fun c4 => ?_) (fun c4 => ?_) <;> simp (disch := omega) only [go_sem,c4]
      · subst c4
        have n3 : l.length ≤ 16 := by omega
        simp only [memsOk,hi,hb,n3]
        simp
      · subst c4
        have n3 : l.length ≤ 16 := by omega
        simp only [memsOk,hi,hb,n3]
        congr 3
        rw [Bool.eq_iff_iff]
        simp
        omega
    · have n3 : ¬ l.length ≤ 16 := by omega
      simp only [memsOk,hi,hb,n3]
      simp
end Go.Pv
