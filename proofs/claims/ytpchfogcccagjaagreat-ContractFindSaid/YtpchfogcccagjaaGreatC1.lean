/-
 What the functions of the law give.
-/
import Derived.Test.YtpchfogcccagjaaGreatTab
namespace Go.Pv
theorem pw_ext {α : Type} {r : α → α → Prop} (irr : ∀ x,¬ r x x) (tr : ∀ x y z,r x y → r y z → r x z) : ∀ {l m : List α},l.Pairwise r → m.Pairwise r → (∀ x,x ∈ l ↔ x ∈ m) → l = m
 | [],[],_,_,_ => rfl
 | [],y :: m,_,_,h => absurd ((h y).2 (by simp)) (by simp)
 | x :: l,[],_,_,h => absurd ((h x).1 (by simp)) (by simp)
 | x :: l,y :: m,hl,hm,h => by
  rw [List.pairwise_cons] at hl hm
  have e : x = y := by
   rcases List.mem_cons.1 ((h x).1 (by simp)) with e | hx
   ·exact e
   ·rcases List.mem_cons.1 ((h y).2 (by simp)) with e | hy
    ·exact e.symm
    ·exact (irr x (tr x y x (hl.1 y hy) (hm.1 x hx))).elim
  subst e
  congr 1
  refine pw_ext irr tr hl.2 hm.2 fun z => ⟨fun hz => ?_,fun hz => ?_⟩
  ·rcases List.mem_cons.1 ((h z).1 (List.mem_cons_of_mem _ hz)) with rfl | hz'
   ·exact (irr z (hl.1 z hz)).elim
   ·exact hz'
  ·rcases List.mem_cons.1 ((h z).2 (List.mem_cons_of_mem _ hz)) with rfl | hz'
   ·exact (irr z (hm.1 z hz)).elim
   ·exact hz'
theorem asc_ext {l m : List Int} (hl : l.Pairwise (· < ·)) (hm : m.Pairwise (· < ·)) (h : ∀ x,x ∈ l ↔ x ∈ m) : l = m :=
 pw_ext (r := (· < ·)) (fun x => Int.lt_irrefl x) (fun _ _ _ => Int.lt_trans) hl hm h
section
variable {α : Type} [DecidableEq α]
def addN (o : List α) (x : α) : List α := if x ∈ o then o else o ++ [x]
def addL (o : List α) (l : List α) : List α := l.foldl addN o
def bfs (nx : α → List α) : Nat → Nat → List α → List α
 | 0,_,o => o
 | n + 1,i,o => match o[i]? with
  | none => o
  | some v => bfs nx n (i + 1) (addL o (nx v))
section
variable {β : Type} [DecidableEq β]
end
end
end Go.Pv
namespace Go.Pv
section
variable {α : Type} [Inhabited α]
def bub (lt : α → α → Bool) (x : α) (l : List α) : Nat → Nat
 | 0 => 0
 | p + 1 => if lt x (l.getD p default) = true then bub lt x l p else p + 1
def putA (x : α) (l : List α) (p : Nat) : List α := l.take p ++ x :: l.drop p
def insB (lt : α → α → Bool) (x : α) (l : List α) : List α := putA x l (bub lt x l l.length)
def sortB (lt : α → α → Bool) (l : List α) : List α := l.foldl (fun o x => insB lt x o) []
end
end Go.Pv
namespace Go.Pv
theorem r66 {Pr : Prims} (x : Int) : res A Pr 66 [.int .i64 x] = some [.bool false] := by
 refine res_of a66 rfl rfl ?_
 simp only [F66]; try delta sS tT zZ nN gG bB pZ
 simp (disch := omega) only [go_sem]
theorem r60 {Pr : Prims} (hp : Pr 66 = none) (x y : Int) : res A Pr 60 [.int .i64 x,.int .i64 y] = some [.int .i64 (cmpI x y)] := by
 refine res_of a60 rfl rfl ?_
 simp only [F60]; try delta sS tT zZ nN gG bB pZ
 simp (disch := omega) only [go_sem,CW_CN (by kernel_rfl) hp tk66,r66]
 unfold cmpI
 refine Br.ofP (fun h => ?_) (fun h => ?_) <;> simp (disch := omega) only [go_sem,h]
 refine Br.ofP (fun h2 => ?_) (fun h2 => ?_) <;> simp (disch := omega) only [go_sem,h,h2]
theorem r58 {Pr : Prims} (a : Edge) : res A Pr 58 [.agg a.c] = some [.int .i64 a.side] := by
 refine res_of a58 rfl rfl ?_
 simp only [F58]; try delta sS tT zZ nN gG bB pZ
 simp (disch := omega) only [go_sem]
 unfold Edge.side
 refine Br.of (fun h => ?_) (fun h => ?_) <;> simp (disch := omega) only [go_sem,h]
def orI : List Int → Int
 | [] => 0
 | x :: r => if x ≠ 0 then x else orI r
theorem drop_at {α : Type} {l : List α} {k : Nat} {x : α} (h : l[k]? = some x) : l.drop k = x :: l.drop (k + 1) := by
 obtain ⟨h1,h2⟩ := List.getElem?_eq_some_iff.1 h
 rw [List.drop_eq_getElem_cons h1,h2]
theorem get_at {α : Type} {l : List α} {k : Nat} (h : k < l.length) : ∃ x,l[k]? = some x := ⟨_,List.getElem?_eq_getElem h⟩
theorem drop_end {α : Type} {l : List α} {k : Nat} (h : ¬ (k : Int) < l.length) : l.drop k = [] := List.drop_eq_nil_of_le (by omega)
theorem r59 {Pr : Prims} (t : Nat) (l : List Int) (hl : l.length < 1000) : res A Pr 59 [.lst t (ints l)] = some [.int .i64 (orI l)] := by
 refine res_of a59 rfl rfl ?_
 simp only [F59]; try delta sS tT zZ nN gG bB pZ
 simp (disch := omega) only [go_sem]
 refine W.upto l.length (fun k => ⟨[(3,.pv (.int .i64 0)),(6,.pv (.lst t (ints l))),(7,.pv (.int .i64 l.length)),(8,.pv (.int .i64 k))],⟨[],[],[]⟩⟩) (fun k => orI l = orI (l.drop k)) rfl rfl fun k hk hi => ?_
 simp (disch := omega) only [go_sem]
 refine Br.ofP (fun h => ?_) (fun h => ?_)
 ·obtain ⟨x,hx⟩ := get_at (l := l) (k := k) (by omega)
  rw [drop_at hx,orI] at hi
  simp (disch := omega) only [go_sem,hx]
  refine Br.ofP (fun h1 => ?_) (fun h1 => ?_) <;> simp (disch := omega) only [go_sem]
  ·exact .of (by omega) rfl (by simpa [h1] using hi)
  ·simp [hi,h1]
 ·simp (disch := omega) only [go_sem]
  simp [hi,drop_end h,orI]
theorem r47 {Pr : Prims} (h66 : Pr 66 = none) (h60 : Pr 60 = none) (h59 : Pr 59 = none) (h58 : Pr 58 = none) (a b : Edge) : res A Pr 47 [.agg a.c,.agg b.c] = some [.int .i64 (Edge.cmp a b)] := by
 refine res_of a47 rfl rfl ?_
 simp only [F47]; try delta sS tT zZ nN gG bB pZ
 have e59 := fun x y z => r59 (Pr := Pr) 0 [x,y,z] (by simp)
 simp only [ints,List.map_cons,List.map_nil] at e59
 have e58 := fun x => r58 (Pr := Pr) x
 simp only [Edge.c] at e58
 simp (disch := omega) only [go_sem,CW_CN (by kernel_rfl) h60 tk60,CW_CN (by kernel_rfl) h59 tk59,CW_CN (by kernel_rfl) h58 tk58,r60 h66,e58 a,e58 b,e59]
 by_cases h : cmpI a.label b.label = 0 <;> simp [orI,Edge.cmp,h]
end Go.Pv
namespace Go.Pv
end Go.Pv
namespace Go.Pv
def nextE (s : Int) (d : Bool) (x : Int) : List Edge → Option Int
 | [] => none
 | e :: r => if e.fr = s ∧ e.send = d ∧ e.label = x then some e.to else nextE s d x r
end Go.Pv
namespace Go.Pv
variable {A : Nat → Option AFunc} {Pr : Prims}
def grV (n : Nat) : List (List PV) → V
 | [] => .tl []
 | _ :: r => .own n r.length 0 (r.length + 1)
def grA (k : Nat) : List (List PV) → List Arr
 | [] => []
 | x :: r => [⟨r.length,k,.inl (x :: r)⟩]
def grT (n k : Nat) (rows : List (List PV)) (r : List PV) : Tn :=
 match rows with
 | [] => { push := [⟨0,k,.inl [r]⟩],base := n }
 | x :: q => { ar := some (n,⟨q.length + 1,k,.inl (x :: q ++ [r])⟩) }
theorem grow (bx : List (Nat × List V)) (mp : List (List (PV × PV))) (pre : List Arr) (k : Nat) (rows : List (List PV)) (r : List PV) (hr : r.length = k) (hm : rows.length + 1 ≤ 2147483648) :
  appendV ⟨bx,pre ++ grA k rows,mp⟩ k (grV pre.length rows) (.tl [r]) = some (grV pre.length (rows ++ [r]),grT pre.length k rows r) := by
 cases rows with
 | nil => simp [appendV,grV,grA,grT,srcRows,rowsFit,rowsLen,hr,catRows,mostRows]
 | cons x q =>
  have h1 : ownArr ⟨bx,pre ++ grA k (x :: q),mp⟩ pre.length q.length = some ⟨q.length,k,.inl (x :: q)⟩ := by simp [ownArr,grA]
  have h2 : (⟨q.length,k,.inl (x :: q)⟩ : Arr).size = q.length + 1 := rfl
  have h3 : ((x :: q).drop 0).take (q.length + 1) = x :: q := by simp
  simp only [List.length_cons] at hm
  simp [appendV,grV,grT,srcRows,rowsFit,rowsLen,hr,h1,h2,catRows,cutRows,mostRows]
  omega
def chkR {α : Type} (i : Int) (len : Nat) (v : α) : Option α := if 0 ≤ i ∧ i ≤ len then some v else none
@[go_sem] theorem chkR_ok {α : Type} {i : Int} {len : Nat} {v : α} (h0 : 0 ≤ i) (h1 : i ≤ (len : Int)) : chkR i len v = some v := if_pos ⟨h0,h1⟩
@[go_sem] theorem sl_from (g : Opd → V) (h : Heap) (k id ver off len : Nat) (lo : Opd) :
  sliceV g h k (.own id ver off len) (some lo) none none = (ownArr h id ver).bind fun a => (intOf (g lo)).bind fun i => if a.k = k then chkR i len (.own id ver (off + i.toNat) (len - i.toNat),{ ra := some id }) else none := by
 cases ho : ownArr h id ver with
 | none => simp [sliceV,ho]
 | some a =>
  cases hi : intOf (g lo) with
  | none => simp [sliceV,ho,bounds,bound,hi]
  | some i => by_cases hk : a.k = k <;> by_cases h0 : 0 ≤ i ∧ i ≤ len <;> simp [sliceV,ho,bounds,bound,hi,hk,h0,chkR]
@[go_sem] theorem sl_to (g : Opd → V) (h : Heap) (k id ver off len : Nat) (hi : Opd) :
  sliceV g h k (.own id ver off len) none (some hi) none = (ownArr h id ver).bind fun a => (intOf (g hi)).bind fun i => if a.k = k then chkR i len (.own id ver off i.toNat,{ ra := some id }) else none := by
 cases ho : ownArr h id ver with
 | none => simp [sliceV,ho]
 | some a =>
  cases hj : intOf (g hi) with
  | none => simp [sliceV,ho,bounds,bound,hj]
  | some i => by_cases hk : a.k = k <;> by_cases h0 : 0 ≤ i ∧ i ≤ len <;> simp [sliceV,ho,bounds,bound,hj,hk,h0,chkR]
end Go.Pv
namespace Go.Pv
@[go_sem] theorem ints_nil : ints [] = [] := rfl
def edgs (l : List Edge) : List (List PV) := l.map Edge.c
@[go_sem] theorem edgs_nil : edgs [] = [] := rfl
end Go.Pv
namespace Go.Pv
def isEnd (s : Int) : List Edge → Bool
 | [] => true
 | e :: r => if e.fr = s then false else isEnd s r
def endsTo (es : List Edge) : Nat → List Int
 | 0 => []
 | k + 1 => if isEnd k es then endsTo es k ++ [(k : Int)] else endsTo es k
def Auto.ends (a : Auto) : List Int := if a.states ≤ 12 then endsTo a.edges a.states.toNat else []
end Go.Pv
namespace Go.Pv
def atFrom (x : Int) : Nat → List Int → Int
 | _,[] => -1
 | k,y :: r => if y = x then k else atFrom x (k + 1) r
def atL (x : Int) (l : List Int) : Int := atFrom x 0 l
end Go.Pv
namespace Go.Pv
end Go.Pv
namespace Go.Pv
def cmpct : List Int → List Int
 | [] => []
 | [x] => [x]
 | x :: y :: r => if x = y then cmpct (y :: r) else x :: cmpct (y :: r)
@[go_sem] theorem ownIds_one (a b c d : Nat) : distinct (ownIds [.own a b c d]) = true := rfl
@[go_sem] theorem fresh_ints (bx : List (Nat × List V)) (mp : List (List (PV × PV))) (ar : List Arr) (v n : Nat) (l : List Int) : keep ⟨bx,⟨v,1,.inl (ints l)⟩ :: ar,mp⟩ true (.own 0 v 0 n) = some (.fr 1 (ints (l.take n))) := by
 simp [keep,freshc,ownArr,ints]
@[go_sem] theorem clr_ints (bx : List (Nat × List V)) (mp : List (List (PV × PV))) (ar : List Arr) (v off len : Nat) (l : List Int) (h : off + len ≤ l.length) : clrV ⟨bx,⟨v,1,.inl (ints l)⟩ :: ar,mp⟩ 1 [.pv (.int .i64 0)] (.own 0 v off len) =
  some (.tup [],{ ar := some (0,⟨v,1,.inl (ints (l.take off ++ List.replicate len 0 ++ l.drop (off + len)))⟩) }) := by
 simp [clrV,ownArr,mapO,V.purec,PV.perm,ints,h]
theorem r104_small (l : List Int) (h1 : l.length < 2) : res A PrA 104 [.fr 1 (ints l)] = some [.fr 1 (ints l)] := by
 refine res_of a104 rfl rfl ?_
 simp only [F104]; try delta sS tT zZ nN gG bB pZ
 have h2 : ((l.length : Nat) : Int) < 2 := by omega
 simp (disch := omega) only [go_sem,h2,List.take_length]
theorem cmpct_step (l : List Int) (x y : Int) (k : Nat) (hx : l[k]? = some x) (hy : l[k + 1]? = some y) : cmpct (l.take (k + 2)) = if x = y then cmpct (l.take (k + 1)) else cmpct (l.take (k + 1)) ++ [y] := by
 induction l generalizing k with
 | nil => simp at hx
 | cons z l ih =>
  cases k with
  | zero =>
   simp at hx hy
   subst hx
   match l,hy with
   | w :: r,hy =>
    simp at hy
    subst hy
    simp only [Nat.zero_add,List.take_succ_cons,List.take_zero,cmpct]
    split
    ·rename_i hzw
     rw [hzw]
    ·rfl
  | succ k =>
   simp at hx hy
   have := ih k hx hy
   match l,hx with
   | w :: r,hx =>
    simp only [List.take_succ_cons,cmpct] at this ⊢
    split
    ·exact this
    ·rw [this]
     split <;> simp
theorem set_put (c l : List Int) (v : Int) (h : c.length < l.length) : (c ++ l.drop c.length).set c.length v = (c ++ [v]) ++ l.drop (c ++ [v]).length := by
 rw [List.set_append_right _ _ (Nat.le_refl _),Nat.sub_self,List.append_assoc]
 have : (c ++ [v]).length = c.length + 1 := by simp
 rw [this,List.drop_eq_getElem_cons h]
 rfl
theorem r104_big (l : List Int) (h1 : 2 ≤ l.length) (h0 : l.length ≤ 2000000000) : res A PrA 104 [.fr 1 (ints l)] = some [.fr 1 (ints (cmpct l))] := by
 refine res_of a104 rfl rfl ?_
 simp only [F104]; try delta sS tT zZ nN gG bB pZ
 have h2 : ¬ ((l.length : Nat) : Int) < 2 := by omega
 simp (disch := omega) only [go_sem,h2]
 refine W.upto (l.length - 1) (fun j => ⟨[(0,.own 0 0 0 l.length),(3,.pv (.int .i64 (j + 1 : Nat)))],⟨[],[⟨0,1,.inl (ints l)⟩],[]⟩⟩) (fun j => cmpct (l.take (j + 1)) = l.take (j + 1)) rfl ?_ fun j hj hi => ?_
 ·match l,h1 with
  | x :: r,_ => rfl
 have e1 : ((j + 1 : Nat) : Int) - 1 = (j : Int) := by omega
 simp (disch := omega) only [go_sem]
 refine Br.ofP (fun h => ?_) (fun h => ?_)
 ·obtain ⟨x,hx⟩ := get_at (l := l) (k := j) (by omega)
  obtain ⟨y,hy⟩ := get_at (l := l) (k := j + 1) (by omega)
  have hs := cmpct_step l x y j hx hy
  simp (disch := omega) only [go_sem,e1,hx,hy]
  refine Br.ofP (fun g => ?_) (fun g => ?_)
  case refine_2 =>
   simp (disch := omega) only [go_sem,g]
   refine .of (by omega) rfl ?_
   rw [hs,if_neg (fun hc => g hc.symm),hi,List.take_add_one (i := j + 1),hy]
   rfl
  simp (disch := omega) only [go_sem,g]
  have hc0 : cmpct (l.take (j + 2)) = l.take (j + 1) := by rw [hs,if_pos g.symm,hi]
  refine W.upto (l.length - (j + 2)) (fun i => ⟨[(0,.own 0 0 0 l.length),(3,.pv (.int .i64 (cmpct (l.take (j + 2 + i))).length)),(4,.own 0 0 (j + 1) (l.length - (j + 1))),(5,.pv (.int .i64 (i + 1 : Nat)))],⟨[],[⟨0,1,.inl (ints (cmpct (l.take (j + 2 + i)) ++ l.drop (cmpct (l.take (j + 2 + i))).length))⟩],[]⟩⟩)
   (fun i => (cmpct (l.take (j + 2 + i))).length ≤ j + 1 + i) ?_ ?_ fun i hj2 hw => ?_
  ·simp only [Nat.add_zero,hc0,List.length_take]
   rw [Nat.min_eq_left (by omega),List.take_append_drop]
   rfl
  ·simp only [Nat.add_zero,hc0,List.length_take]
   omega
  have hkeep : ∀ q,(cmpct (l.take (j + 2 + i))).length ≤ q → (cmpct (l.take (j + 2 + i)) ++ l.drop (cmpct (l.take (j + 2 + i))).length)[q]? = l[q]? := fun q hq => by
   rw [List.getElem?_append_right hq,List.getElem?_drop]
   congr 1
   omega
  simp (disch := omega) only [go_sem]
  refine Br.ofP (fun f => ?_) (fun f => ?_)
  ·obtain ⟨u,hu⟩ := get_at (l := l) (k := j + 1 + i) (by omega)
   obtain ⟨v,hv⟩ := get_at (l := l) (k := j + 1 + i + 1) (by omega)
   have hst := cmpct_step l u v (j + 1 + i) hu hv
   have k1 := (hkeep (j + 1 + i) hw).trans hu
   have k2 := (hkeep (j + 1 + i + 1) (by omega)).trans hv
   have e3 : ((i + 1 : Nat) : Int) - 1 = (i : Int) := by omega
   have e4 : j + 1 + (i + 1) = j + 1 + i + 1 := by omega
   have e5 : j + 1 + i + 2 = j + 2 + (i + 1) := by omega
   have e6 : j + 1 + i + 1 = j + 2 + i := by omega
   rw [e5,e6] at hst
   simp (disch := omega) only [go_sem,e3,e4,k1,k2]
   refine Br.ofP (fun g3 => ?_) (fun g3 => ?_)
   ·simp (disch := omega) only [go_sem,g3]
    rw [if_pos g3.symm] at hst
    refine .of (by omega) ?_ ?_
    ·show _ = St.mk _ _
     rw [hst]
     rfl
    ·show (cmpct _).length ≤ _
     rw [hst]
     omega
   ·have hln : (cmpct (l.take (j + 2 + i)) ++ l.drop (cmpct (l.take (j + 2 + i))).length).length = l.length := by simp; omega
    rw [if_neg (fun hc => g3 hc.symm)] at hst
    simp (disch := omega) only [go_sem,g3,e4,k2]
    refine .of (by omega) ?_ ?_
    ·show _ = St.mk _ _
     rw [hst,set_put _ _ _ (by omega),List.length_append]
     rfl
    ·show (cmpct _).length ≤ _
     rw [hst,List.length_append]
     simp
     omega
  ·have hln : (cmpct (l.take (j + 2 + i)) ++ l.drop (cmpct (l.take (j + 2 + i))).length).length = l.length := by simp; omega
   have hall : cmpct (l.take (j + 2 + i)) = cmpct l := by rw [List.take_of_length_le (by omega)]
   rw [hall] at hln hw ⊢
   simp (disch := omega) only [go_sem]
   rw [List.append_assoc,List.take_append_of_le_length (by simp),List.take_take,Nat.min_self,List.take_append_of_le_length (Nat.le_refl _),List.take_length]
 ·simp (disch := omega) only [go_sem]
  rw [List.take_of_length_le (by omega)] at hi
  rw [List.take_length,hi]
end Go.Pv
namespace Go.Pv
def apI (id ver off len : Nat) (x : Int) (a : Arr) : Option (V × Tn) :=
 if off + len ≤ a.size ∧ a.k = 1 ∧ len + 1 ≤ mostRows then some (.own id (ver + 1) 0 (len + 1),{ ar := some (id,⟨ver + 1,1,catRows (cutRows off len a.body) (.inl [[.int .i64 x]])⟩) }) else none
@[go_sem] theorem app_own (h : Heap) (id ver off len : Nat) (x : Int) : appendV h 1 (.own id ver off len) (.tl [[.int .i64 x]]) = (ownArr h id ver).bind (apI id ver off len x) := by
 cases ho : ownArr h id ver with
 | none => simp [appendV,srcRows,rowsFit,ho]
 | some a =>
  simp only [appendV,srcRows,rowsFit,ho,rowsLen,apI,List.all_cons,List.all_nil,List.length_cons,List.length_nil,Option.bind_some]
  by_cases h1 : off + len ≤ a.size <;> by_cases h2 : a.k = 1 <;> by_cases h3 : len + 1 ≤ mostRows <;> simp [h1,h2,h3]
@[go_sem] theorem apI_ok {id ver len : Nat} {x : Int} {l : List Int} (h1 : len = l.length) (h2 : l.length + 1 ≤ 2147483648) : apI id ver 0 len x ⟨ver,1,.inl (ints l)⟩ = some (.own id (ver + 1) 0 (len + 1),{ ar := some (id,⟨ver + 1,1,.inl (ints (l ++ [x]))⟩) }) := by
 subst h1
 unfold apI
 rw [if_pos ⟨by simp [Arr.size,ints],rfl,h2⟩]
 have : List.take l.length (List.map (fun x => [PV.int IntKind.i64 x]) l) = List.map (fun x => [PV.int IntKind.i64 x]) l := List.take_of_length_le (by simp)
 simp [catRows,cutRows,ints,this]
@[go_sem] theorem app_tl (h : Heap) (x : Int) : appendV h 1 (.tl []) (.tl [[.int .i64 x]]) = some (.own h.ar.length 0 0 1,{ push := [⟨0,1,.inl (ints [x])⟩],base := h.ar.length }) := by
 simp [appendV,srcRows,rowsFit,rowsLen,mostRows,catRows,ints]
end Go.Pv
namespace Go.Pv
variable {A : Nat → Option AFunc} {Pr : Prims}
def foldK {σ : Type} (S : Nat → σ → St) (I : Nat → σ → Prop) (k : Nat) (acc : σ) (Q : Ex → St → Prop) (_t : Tie (S,I,k,acc,Q) := .mk) : Ex → St → Prop
 | .normal,s => s = S k acc ∧ I k acc
 | .exit i,s => Q (.exit i) s
 | .ret,s => Q .ret s
@[go_sem] theorem foldK_exit {σ : Type} (S : Nat → σ → St) (I : Nat → σ → Prop) (k : Nat) (acc : σ) (Q : Ex → St → Prop) (i : Nat) (s : St) : foldK S I k acc Q .mk (.exit i) s = Q (.exit i) s := rfl
@[go_sem] theorem foldK_ret {σ : Type} (S : Nat → σ → St) (I : Nat → σ → Prop) (k : Nat) (acc : σ) (Q : Ex → St → Prop) (s : St) : foldK S I k acc Q .mk .ret s = Q .ret s := rfl
theorem foldK.of {σ : Type} {S : Nat → σ → St} {I : Nat → σ → Prop} {k : Nat} {acc : σ} {Q : Ex → St → Prop} {s : St} (h : s = S k acc) (h2 : I k acc) : foldK S I k acc Q .mk .normal s := ⟨h,h2⟩
def exitK (Q : Ex → St → Prop) (_t : Tie Q := .mk) : Ex → St → Prop
 | .normal,_ => False
 | .exit i,s => Q (.exit i) s
 | .ret,s => Q .ret s
@[go_sem] theorem exitK_exit (Q : Ex → St → Prop) (i : Nat) (s : St) : exitK Q .mk (.exit i) s = Q (.exit i) s := rfl
@[go_sem] theorem exitK_ret (Q : Ex → St → Prop) (s : St) : exitK Q .mk .ret s = Q .ret s := rfl
theorem W.fold {σ α : Type} {a : AC} {s : St} {Q : Ex → St → Prop} (l : List α) (f : σ → α → σ) (x0 : σ) (S : Nat → σ → St) (I : Nat → σ → Prop) (hs : s = S 0 x0) (h0 : I 0 x0)
  (hr : ∀ k x acc,l[k]? = some x → k < l.length → acc = (l.take k).foldl f x0 → I k acc → W A Pr a (S k acc) (foldK S I (k + 1) (f acc x) Q))
  (he : ∀ acc,acc = l.foldl f x0 → I l.length acc → W A Pr a (S l.length acc) (exitK Q)) : W A Pr (.loop a) s Q := by
 refine W.upto l.length (fun k => S k ((l.take k).foldl f x0)) (fun k => I k ((l.take k).foldl f x0)) (by simpa using hs) (by simpa using h0) fun k hk hi => ?_
 rcases Nat.lt_or_ge k l.length with h | h
 ·obtain ⟨x,hx⟩ : ∃ x,l[k]? = some x := ⟨l[k],by simp [h]⟩
  obtain ⟨ex,s',h1,h2⟩ := hr k x _ hx h rfl hi
  have ht : (l.take (k + 1)).foldl f x0 = f ((l.take k).foldl f x0) x := by rw [List.take_add_one,hx]; simp [List.foldl_append]
  refine ⟨ex,s',h1,?_⟩
  cases ex with
  | normal => exact .of h (by rw [ht]; exact h2.1) (by rw [ht]; exact h2.2)
  | exit i => exact h2
  | ret => exact h2
 ·obtain rfl : k = l.length := by omega
  rw [List.take_length] at hi ⊢
  obtain ⟨ex,s',h1,h2⟩ := he _ rfl hi
  refine ⟨ex,s',h1,?_⟩
  cases ex with
  | normal => exact h2.elim
  | exit i => exact h2
  | ret => exact h2
def findK (S : Nat → St) (k : Nat) (p : Bool) (Q : Ex → St → Prop) (_t : Tie (S,k,p,Q) := .mk) : Ex → St → Prop
 | .normal,s => p = false ∧ s = S k
 | .exit i,s => Q (.exit i) s
 | .ret,s => Q .ret s
@[go_sem] theorem findK_exit (S : Nat → St) (k : Nat) (p : Bool) (Q : Ex → St → Prop) (i : Nat) (s : St) : findK S k p Q .mk (.exit i) s = Q (.exit i) s := rfl
@[go_sem] theorem findK_ret (S : Nat → St) (k : Nat) (p : Bool) (Q : Ex → St → Prop) (s : St) : findK S k p Q .mk .ret s = Q .ret s := rfl
def againK (A : Nat → Option AFunc) (Pr : Prims) (a : AC) (Q : Ex → St → Prop) (_t : Tie (a,Q) := .mk) : Ex → St → Prop
 | .normal,s => W A Pr (.loop a) s Q
 | .exit i,s => Q (.exit i) s
 | .ret,s => Q .ret s
@[go_sem] theorem againK_normal (a : AC) (Q : Ex → St → Prop) (s : St) : againK A Pr a Q .mk .normal s = W A Pr (.loop a) s Q := rfl
@[go_sem] theorem againK_exit (a : AC) (Q : Ex → St → Prop) (i : Nat) (s : St) : againK A Pr a Q .mk (.exit i) s = Q (.exit i) s := rfl
@[go_sem] theorem againK_ret (a : AC) (Q : Ex → St → Prop) (s : St) : againK A Pr a Q .mk .ret s = Q .ret s := rfl
end Go.Pv
namespace Go.Pv
inductive Two where
 | e
 | a (x : Int) (l : List Int)
 | b (x : Int) (l : List Int)
 | ab (x : Int) (l : List Int) (y : Int) (r : List Int)
 | ba (x : Int) (l : List Int) (y : Int) (r : List Int)
def ow (i : Nat) (l : List Int) : V := .own i l.length 0 (l.length + 1)
def ao (x : Int) (l : List Int) : Arr := ⟨l.length,1,.inl (ints (x :: l))⟩
def Two.v0 : Two → V
 | .e | .b _ _ => .tl []
 | .a _ l | .ab _ l _ _ => ow 0 l
 | .ba _ l _ _ => ow 1 l
def Two.ar : Two → List Arr
 | .e => []
 | .a x l | .b x l => [ao x l]
 | .ab x l y r => [ao x l,ao y r]
 | .ba x l y r => [ao y r,ao x l]
def Two.l0 : Two → List Int
 | .e | .b _ _ => []
 | .a x l | .ab x l _ _ | .ba x l _ _ => x :: l
def Two.l1 : Two → List Int
 | .e | .a _ _ => []
 | .b x l | .ab _ _ x l | .ba _ _ x l => x :: l
def Two.put (s : Bool) (z : Int) : Two → Two
 | .e => if s then .b z [] else .a z []
 | .a x l => if s then .ab x l z [] else .a x (l ++ [z])
 | .b x l => if s then .b x (l ++ [z]) else .ba z [] x l
 | .ab x l y r => if s then .ab x l y (r ++ [z]) else .ab x (l ++ [z]) y r
 | .ba x l y r => if s then .ba x l y (r ++ [z]) else .ba x (l ++ [z]) y r
def Two.len (t : Two) : Nat := t.l0.length + t.l1.length
def sortI1 (id ver off len : Nat) (a : Arr) : Option (V × Tn) :=
 if len = 0 then some (.tup [],{ ra := some id }) else (match a.body with
    | .inl rows => if a.k = 1 ∧ off + len ≤ rows.length ∧ len ≤ mostRows then (match mapO intDec ((rows.drop off).take len) with
     | some l => some (.tup [],{ ar := some (id,⟨ver,1,.inl (rows.take off ++ (isort ltI l).map (fun x => [.int .i64 x]) ++ rows.drop (off + len))⟩) })
     | none => none) else none
    | .inr _ => none)
@[go_sem] theorem sortIP_tl (h : Heap) : sortIP [.tl []] h = some (.tup [],{}) := rfl
@[go_sem] theorem sortIP_own (h : Heap) (id ver off len : Nat) : sortIP [.own id ver off len] h = (ownArr h id ver).bind (sortI1 id ver off len) := by
 simp only [sortIP]
 cases ownArr h id ver <;> rfl
theorem ints_dec (l : List Int) : mapO intDec (ints l) = some l := by
 induction l with
 | nil => rfl
 | cons x l ih =>
  show mapO intDec ([.int .i64 x] :: ints l) = _
  simp only [mapO,intDec,ih]
@[go_sem] theorem sortI1_ints {id ver n : Nat} {l : List Int} (hn : n = l.length) (h0 : n ≠ 0) (hm : n ≤ 2147483648) : sortI1 id ver 0 n ⟨ver,1,.inl (ints l)⟩ = some (.tup [],{ ar := some (id,⟨ver,1,.inl (ints (isort ltI l))⟩) }) := by
 subst hn
 have e1 : (ints l).length = l.length := ints_length l
 simp [sortI1,h0,e1,mostRows,hm,ints_dec,List.take_of_length_le (Nat.le_of_eq e1),List.drop_eq_nil_of_le (Nat.le_of_eq e1)]
 rfl
@[go_sem] theorem lendAll_tl (h : Heap) : lendAll h true [.tl []] = some ([.lst 0 []],none) := rfl
def lendA (id ver len : Nat) (a : Arr) : Option (List PV × Option (Nat × Arr)) :=
 if a.size = len ∧ a.k ≠ 0 then (match a.body with
   | .inl rows => some ([.fr a.k rows],some (id,⟨ver + 1,0,.inl []⟩))
   | .inr _ => none) else none
@[go_sem] theorem lendAll_own (h : Heap) (id ver len : Nat) : lendAll h true [.own id ver 0 len] = (ownArr h id ver).bind (lendA id ver len) := by
 simp only [lendAll,lendTake]
 cases ownArr h id ver with
 | none => rfl
 | some a =>
  simp only [Option.bind_some,if_true,lendA]
  by_cases hc : a.size = len ∧ a.k ≠ 0
  ·cases hb : a.body <;> simp [hc,mapO]
  ·simp [hc]
@[go_sem] theorem lendA_ints {id ver v len : Nat} {l : List Int} (hn : len = l.length) : lendA id ver len ⟨v,1,.inl (ints l)⟩ = some ([.fr 1 (ints l)],some (id,⟨ver + 1,0,.inl []⟩)) := by
 subst hn
 simp [lendA,Arr.size,ints_length]
theorem cmpct_small : ∀ {l : List Int},l.length < 2 → cmpct l = l
 | [],_ => rfl
 | [_],_ => rfl
 | _ :: _ :: _,h => by simp at h; omega
@[go_sem] theorem r104 (l : List Int) (h0 : l.length ≤ 2000000000) : res A PrA 104 [.fr 1 (ints l)] = some [.fr 1 (ints (cmpct l))] := by
 rcases Nat.lt_or_ge l.length 2 with h | h
 ·rw [r104_small l h,cmpct_small h]
 ·exact r104_big l h h0
@[go_sem] theorem r104_nil : res A PrA 104 [.lst 0 []] = some [.lst 0 []] := by
 refine res_of a104 rfl rfl ?_
 simp only [F104]; try delta sS tT zZ nN gG bB pZ
 have h2 : (((0 : Nat) : Nat) : Int) < 2 := by omega
 simp (disch := omega) only [go_sem,h2]
 rfl
@[go_sem] theorem isort_len (l : List Int) : (isort ltI l).length = l.length := (isort_perm ltI l).length_eq
end Go.Pv
namespace Go.Pv
theorem cmpct_mem : ∀ {l : List Int} {x : Int},x ∈ cmpct l ↔ x ∈ l
 | [],_ => by simp [cmpct]
 | [y],_ => by simp [cmpct]
 | y :: z :: r,x => by
  have ih := cmpct_mem (l := z :: r) (x := x)
  unfold cmpct
  split
  ·rename_i h
   subst h
   rw [ih]
   simp
  ·simp only [List.mem_cons] at ih ⊢
   rw [ih]
theorem cmpct_asc : ∀ {l : List Int},l.Pairwise (· ≤ ·) → (cmpct l).Pairwise (· < ·)
 | [],_ => List.Pairwise.nil
 | [y],_ => List.pairwise_singleton _ _
 | y :: z :: r,h => by
  obtain ⟨h1,h2⟩ := List.pairwise_cons.1 h
  have ih := cmpct_asc h2
  unfold cmpct
  split
  ·exact ih
  ·rename_i hn
   refine List.pairwise_cons.2 ⟨fun x hx => ?_,ih⟩
   have hx' := cmpct_mem.1 hx
   have hz := h1 z (by simp)
   rcases List.mem_cons.1 hx' with rfl | hx'
   ·omega
   ·have := (List.pairwise_cons.1 h2).1 x hx'
    omega
theorem cmpct_len : ∀ l : List Int,(cmpct l).length ≤ l.length
 | [] => Nat.le_refl _
 | [_] => Nat.le_refl _
 | x :: y :: r => by
  have := cmpct_len (y :: r)
  unfold cmpct
  split <;> simp at * <;> omega
def uniqs (l : List Int) : List Int := cmpct (isort ltI l)
theorem uniqs_asc (l : List Int) : (uniqs l).Pairwise (· < ·) := cmpct_asc (isort_sorted l)
theorem uniqs_len (l : List Int) : (uniqs l).length ≤ l.length := by
 have := cmpct_len (isort ltI l)
 rw [isort_len] at this
 exact this
theorem uniqs_mem {l : List Int} {x : Int} : x ∈ uniqs l ↔ x ∈ l := by
 unfold uniqs
 rw [cmpct_mem,(isort_perm ltI l).mem_iff]
theorem uniqs_of {l m : List Int} (hm : m.Pairwise (· < ·)) (h : ∀ x,x ∈ l ↔ x ∈ m) : uniqs l = m := asc_ext (uniqs_asc l) hm fun x => by rw [uniqs_mem,h]
end Go.Pv
namespace Go.Pv
def puI (n : Int) : List Int → List Int
 | [] => [n]
 | y :: r => if y < n then y :: puI n r else if y = n then y :: r else n :: y :: r
theorem puI_mem {n x : Int} : ∀ {l : List Int},x ∈ puI n l ↔ x = n ∨ x ∈ l
 | [] => by simp [puI]
 | y :: r => by
  unfold puI
  split
  ·rw [List.mem_cons,puI_mem,List.mem_cons]
   constructor
   ·rintro (h | h | h)
    ·exact .inr (.inl h)
    ·exact .inl h
    ·exact .inr (.inr h)
   ·rintro (h | h | h)
    ·exact .inr (.inl h)
    ·exact .inl h
    ·exact .inr (.inr h)
  ·split
   ·rename_i h
    subst h
    constructor
    ·exact .inr
    ·rintro (rfl | h)
     ·exact List.mem_cons_self ..
     ·exact h
   ·rw [List.mem_cons]
theorem puI_asc {n : Int} : ∀ {l : List Int},l.Pairwise (· < ·) → (puI n l).Pairwise (· < ·)
 | [],_ => List.pairwise_singleton _ _
 | y :: r,h => by
  obtain ⟨h1,h2⟩ := List.pairwise_cons.1 h
  unfold puI
  split
  ·rename_i hy
   refine List.pairwise_cons.2 ⟨fun x hx => ?_,puI_asc h2⟩
   rcases puI_mem.1 hx with rfl | hx
   ·exact hy
   ·exact h1 x hx
  ·split
   ·exact h
   ·rename_i h3 h4
    refine List.pairwise_cons.2 ⟨fun x hx => ?_,h⟩
    rcases List.mem_cons.1 hx with rfl | hx
    ·omega
    ·have := h1 x hx
     omega
def pusI (l m : List Int) : List Int := m.foldl (fun a n => puI n a) l
theorem pusI_append (l m k : List Int) : pusI l (m ++ k) = pusI (pusI l m) k := by simp [pusI,List.foldl_append]
theorem pusI_spec : ∀ {m l : List Int},l.Pairwise (· < ·) → (pusI l m).Pairwise (· < ·) ∧ ∀ x,x ∈ pusI l m ↔ x ∈ m ∨ x ∈ l
 | [],l,h => ⟨h,fun x => by simp [pusI]⟩
 | n :: m,l,h => by
  obtain ⟨h1,h2⟩ := pusI_spec (m := m) (puI_asc (n := n) h)
  refine ⟨h1,fun x => ?_⟩
  show x ∈ pusI (puI n l) m ↔ _
  rw [h2,puI_mem,List.mem_cons]
  constructor
  ·rintro (h | h | h)
   ·exact .inl (.inr h)
   ·exact .inl (.inl h)
   ·exact .inr h
  ·rintro ((h | h) | h)
   ·exact .inr (.inl h)
   ·exact .inl h
   ·exact .inr (.inr h)
theorem pusI_uniqs (m : List Int) : pusI [] m = uniqs m := by
 obtain ⟨h1,h2⟩ := pusI_spec (m := m) (l := []) List.Pairwise.nil
 exact (uniqs_of h1 fun x => by rw [h2]; simp).symm
theorem puI_len (n : Int) : ∀ l : List Int,(puI n l).length ≤ l.length + 1
 | [] => by simp [puI]
 | y :: r => by
  have := puI_len n r
  unfold puI
  split
  ·simp only [List.length_cons]
   omega
  ·split <;> simp
theorem pusI_len : ∀ (m l : List Int),(pusI l m).length ≤ l.length + m.length
 | [],l => by simp [pusI]
 | n :: m,l => by
  have h1 := pusI_len m (puI n l)
  have h2 := puI_len n l
  show (pusI (puI n l) m).length ≤ _
  rw [List.length_cons]
  omega
theorem puI_split (n : Int) : ∀ (l : List Int) (i : Nat),(∀ j z,j < i → l[j]? = some z → z < n) → i ≤ l.length → (∀ z,l[i]? = some z → ¬ z < n) → puI n l = if l[i]? = some n then l else l.take i ++ n :: l.drop i
 | [],i,_,hi,_ => by
  have : i = 0 := by simpa using hi
  subst this
  simp [puI]
 | y :: r,0,_,_,h => by
  have hy := h y rfl
  unfold puI
  rw [if_neg hy]
  by_cases e : y = n
  ·rw [if_pos e,if_pos (by simp [e])]
  ·rw [if_neg e,if_neg (by simpa using e)]
   rfl
 | y :: r,i + 1,h1,hi,h2 => by
  have hy := h1 0 y (by omega) rfl
  have ih := puI_split n r i (fun j z hj hz => h1 (j + 1) z (by omega) (by simpa using hz)) (by simpa using hi) (fun z hz => h2 z (by simpa using hz))
  unfold puI
  rw [if_pos hy,ih]
  simp only [List.getElem?_cons_succ,List.take_succ_cons,List.drop_succ_cons,List.cons_append]
  split <;> rfl
def callN (l : List Cal) : List Int := l.flatMap fun c => [c.req,c.rep]
def msgN (l : List Msg) : List Int := l.map (·.ty)
def sesN (l : List Ses) : List Int := l.flatMap fun w => msgN w.msgs
def topN (l : List Tpc) : List Int := l.map (·.ty)
def rootN (v : Ver) : List Int := callN v.calls ++ sesN v.sess ++ topN v.tops
theorem flat_take_len {α : Type} (f : α → List Int) (l : List α) (k : Nat) : ((l.take k).flatMap f).length ≤ (l.flatMap f).length := by
 have := congrArg List.length (congrArg (List.flatMap f) (List.take_append_drop k l))
 rw [List.flatMap_append,List.length_append] at this
 omega
theorem flat_snoc {α : Type} (f : α → List Int) {l : List α} {k : Nat} {x : α} (h : l[k]? = some x) : (l.take (k + 1)).flatMap f = (l.take k).flatMap f ++ f x := by
 rw [List.take_add_one,h,List.flatMap_append]
 simp
end Go.Pv
namespace Go.Pv
theorem rowsFit_rows {k : Nat} {rows : List (List PV)} (h : ∀ r ∈ rows,r.length = k) : rowsFit k (.inl rows) = true := by
 simp only [rowsFit,List.all_eq_true,beq_iff_eq]
 exact h
@[go_sem] theorem rowsFit_ints (l : List Int) : rowsFit 1 (.inl (ints l)) = true := rowsFit_rows fun r hr => by
 obtain ⟨x,_,rfl⟩ := List.mem_map.1 hr
 rfl
@[go_sem] theorem sl_lst_to (g : Opd → V) (h : Heap) (k t : Nat) (rows : List (List PV)) (hi : Opd) :
  sliceV g h k (.pv (.lst t rows)) none (some hi) none = if rowsFit k (.inl rows) = true then (intOf (g hi)).bind fun i => chkR i rows.length (.pv (.lst t (rows.take i.toNat)),{}) else none := by
 cases hf : rowsFit k (.inl rows) with
 | false => simp [sliceV,hf]
 | true =>
  cases hj : intOf (g hi) with
  | none => simp [sliceV,hf,bounds,bound,hj]
  | some i => by_cases h0 : 0 ≤ i ∧ i ≤ rows.length <;> simp [sliceV,hf,bounds,bound,hj,h0,chkR]
@[go_sem] theorem sl_lst_from (g : Opd → V) (h : Heap) (k t : Nat) (rows : List (List PV)) (lo : Opd) :
  sliceV g h k (.pv (.lst t rows)) (some lo) none none = if rowsFit k (.inl rows) = true then (intOf (g lo)).bind fun i => chkR i rows.length (.pv (.lst t (rows.drop i.toNat)),{}) else none := by
 cases hf : rowsFit k (.inl rows) with
 | false => simp [sliceV,hf]
 | true =>
  cases hj : intOf (g lo) with
  | none => simp [sliceV,hf,bounds,bound,hj]
  | some i => by_cases h0 : 0 ≤ i ∧ i ≤ rows.length <;> simp [sliceV,hf,bounds,bound,hj,h0,chkR]
end Go.Pv
namespace Go.Pv
def verC (t u x y : Nat) (v : Ver) : List PV := [.str v.name,.lst t (v.types.map Typ.c),.lst u (cals v.calls),.lst x (sess v.sess),.lst y (tpcs v.tops)]
theorem r447 (t : Nat) (w : Cal) (nm : ByteArray) : res A PrA 447 [.agg w.c,.ro t [.str nm]] = some [.bool (decide (w.name = nm))] := by
 refine res_of a447 rfl rfl ?_
 simp only [F447]; try delta sS tT zZ nN gG bB pZ
 simp (disch := omega) only [go_sem]
theorem r446 (t u : Nat) (l : List Cal) (nm : ByteArray) (hl : l.length ≤ 2 ^ 63 - 1) : res A PrA 446 [.lst t (cals l),.func 447 [.ro u [.str nm]]] = some [.int .i64 (idxF (fun w => decide (w.name = nm)) l)] := by
 refine res_of a446 rfl rfl ?_
 simp only [F446]; try delta sS tT zZ nN gG bB pZ
 simp (disch := omega) only [go_sem]
 refine W.upto l.length (fun k => ⟨[(0,.pv (.lst t (cals l))),(1,.pv (.func 447 [.ro u [.str nm]])),(7,.pv (.int .i64 l.length)),(8,.pv (.int .i64 k))],⟨[],[],[]⟩⟩) (fun k => ∀ (i : Nat) (w : Cal),i < k → l[i]? = some w → decide (w.name = nm) = false) rfl (fun i w hi => absurd hi (by omega)) fun k hk hi => ?_
 simp (disch := omega) only [go_sem]
 refine Br.ofP (fun c1 => ?_) (fun c1 => ?_)
 ·obtain ⟨w,hw⟩ := get_some (l := l) (k := k) (by omega)
  have h447 := fun t => r447 t w nm
  simp only [Cal.c] at h447
  cases hd : decide (w.name = nm) with
  | true =>
   rw [hd] at h447
   simp (disch := omega) only [go_sem,hw,Option.map_some,h447]
   unfold idxF
   rw [fi_some hw hd hi]
  | false =>
   rw [hd] at h447
   simp (disch := omega) only [go_sem,hw,Option.map_some,h447]
   exact .of (by omega) rfl (pre_step hw hi hd)
 ·simp (disch := omega) only [go_sem]
  unfold idxF
  rw [fi_none (pre_whole (k := k) (by omega) hi)]
def CalR (o : Option Cal) : List PV := match o with
 | some w => [.agg w.c,.bool true]
 | none => [.agg [.str ⟨#[]⟩,.int .i64 0,.int .i64 0],.bool false]
theorem r410 (t u x y : Nat) (v : Ver) (nm : ByteArray) (hl : v.calls.length ≤ 2 ^ 63 - 1) : res A PrA 410 [.agg (verC t u x y v),.str nm] = some (CalR (pickF (fun w => decide (w.name = nm)) v.calls)) := by
 refine res_of a410 rfl rfl ?_
 simp only [F410,verC]
 have h446 := fun t u => r446 t u v.calls nm hl
 unfold idxF at h446
 unfold pickF
 cases hj : v.calls.findIdx? fun w => decide (w.name = nm) with
 | none =>
  rw [hj] at h446
  have e0 : decide ((0 : Int) ≤ -1) = false := rfl
  simp (disch := omega) only [go_sem,h446]
  rfl
 | some j =>
  rw [hj] at h446
  have hjl := (List.findIdx?_eq_some_iff_getElem.1 hj).1
  obtain ⟨w,hw⟩ := get_some hjl
  have e0 : decide ((0 : Int) ≤ (j : Int)) = true := decide_eq_true (by omega)
  simp (disch := omega) only [go_sem,h446,e0,hw,Option.map_some,Option.bind_some]
  rfl
theorem r411 (t u x y : Nat) (v : Ver) (nm : ByteArray) (hl : v.calls.length ≤ 2 ^ 63 - 1) : res A PrA 411 [.agg (verC t u x y v),.str nm] = some (CalR (pickF (fun w => decide (w.name = nm)) v.calls)) := by
 refine res_of a411 rfl rfl ?_
 simp only [F411,verC]
 simp (disch := omega) only [go_sem]
 refine W.upto v.calls.length (fun k => ⟨[(1,.pv (.str nm)),(2,.ptr 2 0),(4,.ptr 4 0),(6,.pv (.int .i64 k))],⟨[(2,[.pv (.str v.name),.pv (.lst t (v.types.map Typ.c)),.pv (.lst u (cals v.calls)),.pv (.lst x (sess v.sess)),.pv (.lst y (tpcs v.tops))]),(4,[.pv (.str ⟨#[]⟩),.pv (.int .i64 0),.pv (.int .i64 0)])],[],[]⟩⟩) (fun k => ∀ (i : Nat) (w : Cal),i < k → v.calls[i]? = some w → decide (w.name = nm) = false) rfl (fun i w hi => absurd hi (by omega)) fun k hk hi => ?_
 simp (disch := omega) only [go_sem]
 refine Br.ofP (fun c1 => ?_) (fun c1 => ?_)
 ·obtain ⟨w,hw⟩ := get_some (l := v.calls) (k := k) (by omega)
  cases hd : decide (w.name = nm) with
  | true =>
   simp (disch := omega) only [go_sem,hw,Option.map_some,hd]
   unfold pickF
   rw [fi_some hw hd hi,Option.bind_some,hw]
   rfl
  | false =>
   simp (disch := omega) only [go_sem,hw,Option.map_some,hd]
   exact .of (by omega) rfl (pre_step hw hi hd)
 ·simp (disch := omega) only [go_sem]
  unfold pickF
  rw [fi_none (pre_whole (k := k) (by omega) hi)]
  rfl
theorem r449 (t : Nat) (w : Ses) (nm : ByteArray) : res A PrA 449 [.agg w.c,.ro t [.str nm]] = some [.bool (decide (w.name = nm))] := by
 refine res_of a449 rfl rfl ?_
 simp only [F449]; try delta sS tT zZ nN gG bB pZ
 simp (disch := omega) only [go_sem]
theorem r448 (t u : Nat) (l : List Ses) (nm : ByteArray) (hl : l.length ≤ 2 ^ 63 - 1) : res A PrA 448 [.lst t (sess l),.func 449 [.ro u [.str nm]]] = some [.int .i64 (idxF (fun w => decide (w.name = nm)) l)] := by
 refine res_of a448 rfl rfl ?_
 simp only [F448]; try delta sS tT zZ nN gG bB pZ
 simp (disch := omega) only [go_sem]
 refine W.upto l.length (fun k => ⟨[(0,.pv (.lst t (sess l))),(1,.pv (.func 449 [.ro u [.str nm]])),(7,.pv (.int .i64 l.length)),(8,.pv (.int .i64 k))],⟨[],[],[]⟩⟩) (fun k => ∀ (i : Nat) (w : Ses),i < k → l[i]? = some w → decide (w.name = nm) = false) rfl (fun i w hi => absurd hi (by omega)) fun k hk hi => ?_
 simp (disch := omega) only [go_sem]
 refine Br.ofP (fun c1 => ?_) (fun c1 => ?_)
 ·obtain ⟨w,hw⟩ := get_some (l := l) (k := k) (by omega)
  have h449 := fun t => r449 t w nm
  simp only [Ses.c] at h449
  cases hd : decide (w.name = nm) with
  | true =>
   rw [hd] at h449
   simp (disch := omega) only [go_sem,hw,Option.map_some,h449]
   unfold idxF
   rw [fi_some hw hd hi]
  | false =>
   rw [hd] at h449
   simp (disch := omega) only [go_sem,hw,Option.map_some,h449]
   exact .of (by omega) rfl (pre_step hw hi hd)
 ·simp (disch := omega) only [go_sem]
  unfold idxF
  rw [fi_none (pre_whole (k := k) (by omega) hi)]
def SesR (o : Option Ses) : List PV := match o with
 | some w => [.agg w.c,.bool true]
 | none => [.agg [.str ⟨#[]⟩,.lst 0 [],.int .i64 0,.int .i64 0,.lst 0 []],.bool false]
def frL (k : Nat) (rows : List (List PV)) : PV := if rows = [] then .lst 0 [] else .fr k rows
theorem cloneL {α : Type} {c : α → List PV} {k : Nat} (hc : ∀ x,(c x).length = k) (l : List α) (hm : l.length ≤ 2147483648) : (l = [] ∧ ∀ h,cloneP k [.pv (.lst 0 (l.map c))] h = some (.tl [],{})) ∨ (l ≠ [] ∧ ∀ h,cloneP k [.pv (.lst 0 (l.map c))] h = some (.own h.ar.length 0 0 l.length,{ push := [⟨0,k,.inl (l.map c)⟩],base := h.ar.length })) := by
 have hf : rowsFit k (.inl (l.map c)) = true := by simp [rowsFit,hc]
 cases l with
 | nil => exact .inl ⟨rfl,fun h => by simp [cloneP,srcRows,rowsFit]⟩
 | cons x l =>
  refine .inr ⟨by simp,fun h => ?_⟩
  have hl : ((x :: l).map c).length = (x :: l).length := List.length_map _
  have h0 : ¬ ((x :: l).map c).length = 0 := by simp
  unfold cloneP
  simp only [srcRows]
  rw [if_pos (by omega : 0 ≤ 1)]
  dsimp only
  rw [if_pos ⟨hf,by unfold mostRows; rw [hl]; omega⟩,if_neg h0,hl]
theorem r445 (x : Ses) (h1 : x.msgs.length ≤ 2147483648) (h2 : x.auto.edges.length ≤ 2147483648) : res A PrA 445 [.agg x.c] = some [.agg [.str x.name,frL 3 (msgs x.msgs),.int .i64 x.auto.states,.int .i64 x.auto.start,frL 4 (x.auto.edges.map Edge.c)]] := by
 refine res_of a445 rfl rfl ?_
 simp only [F445,Ses.c]
 have k1 : (x.msgs.map Msg.c).take x.msgs.length = x.msgs.map Msg.c := List.take_of_length_le (by simp)
 have k2 : (x.auto.edges.map Edge.c).take x.auto.edges.length = x.auto.edges.map Edge.c := List.take_of_length_le (by simp)
 rcases cloneL (c := Msg.c) (k := 3) (fun _ => rfl) x.msgs h1 with ⟨h3,h4⟩ | ⟨h3,h4⟩ <;> rcases cloneL (c := Edge.c) (k := 4) (fun _ => rfl) x.auto.edges h2 with ⟨h5,h6⟩ | ⟨h5,h6⟩
 ·simp only [h3,h5,List.map_nil] at h4 h6 ⊢
  simp (disch := omega) only [go_sem,h4,h6]
  refine Eq.trans (if_pos (by rfl)) ?_
  simp [keep,mapO,freshc,keepc,PV.perm,frL,msgs,h3,h5]
 ·simp only [h3,List.map_nil] at h4 ⊢
  simp (disch := omega) only [go_sem,h4,h6]
  refine Eq.trans (if_pos (by rfl)) ?_
  simp [keep,mapO,freshc,ownArr,keepc,PV.perm,frL,msgs,h3,h5,k2]
 ·simp only [h5,List.map_nil] at h6 ⊢
  simp (disch := omega) only [go_sem,h4,h6]
  refine Eq.trans (if_pos (by rfl)) ?_
  simp [keep,mapO,freshc,ownArr,keepc,PV.perm,frL,msgs,h3,h5,k1]
 ·simp (disch := omega) only [go_sem,h4,h6]
  refine Eq.trans (if_pos (by rfl)) ?_
  simp [keep,mapO,freshc,ownArr,keepc,PV.perm,frL,msgs,h3,h5,k1,k2]
theorem r412 (t u x y : Nat) (v : Ver) (nm : ByteArray) (hl : v.sess.length ≤ 2 ^ 63 - 1) (hs : ∀ w ∈ v.sess,w.msgs.length ≤ 2147483648 ∧ w.auto.edges.length ≤ 2147483648) : res A PrA 412 [.agg (verC t u x y v),.str nm] = some (SesR (pickF (fun w => decide (w.name = nm)) v.sess)) := by
 refine res_of a412 rfl rfl ?_
 simp only [F412,verC]
 have h448 := fun t u => r448 t u v.sess nm hl
 unfold idxF at h448
 unfold pickF
 cases hj : v.sess.findIdx? fun w => decide (w.name = nm) with
 | none =>
  rw [hj] at h448
  have e0 : decide ((0 : Int) ≤ -1) = false := rfl
  simp (disch := omega) only [go_sem,h448]
  rfl
 | some j =>
  rw [hj] at h448
  have hjl := (List.findIdx?_eq_some_iff_getElem.1 hj).1
  obtain ⟨w,hw⟩ := get_some hjl
  have e0 : decide ((0 : Int) ≤ (j : Int)) = true := decide_eq_true (by omega)
  have hsw := hs w (List.mem_of_getElem? hw)
  have h445 := r445 w hsw.1 hsw.2
  have k1 : (w.msgs.map Msg.c).take w.msgs.length = w.msgs.map Msg.c := List.take_of_length_le (by simp)
  have k2 : (w.auto.edges.map Edge.c).take w.auto.edges.length = w.auto.edges.map Edge.c := List.take_of_length_le (by simp)
  unfold frL msgs Ses.c at h445
  by_cases h3 : w.msgs = [] <;> by_cases h5 : w.auto.edges = []
  ·simp only [h3,h5,List.map_nil,if_true] at h445
   simp (disch := omega) only [go_sem,h448,e0,hw,Option.map_some,Option.bind_some,h3,h5,List.map_nil,h445]
   simp [SesR,Ses.c,h3,h5]
  ·simp only [h3,h5,List.map_nil,if_true,List.map_eq_nil_iff,if_false] at h445
   simp (disch := omega) only [go_sem,h448,e0,hw,Option.map_some,Option.bind_some,h3,List.map_nil,h445]
   simp [SesR,Ses.c,k2,h3]
  ·simp only [h3,h5,List.map_nil,if_true,List.map_eq_nil_iff,if_false] at h445
   simp (disch := omega) only [go_sem,h448,e0,hw,Option.map_some,Option.bind_some,h5,List.map_nil,h445]
   simp [SesR,Ses.c,k1,h5]
  ·simp only [h3,h5,List.map_eq_nil_iff,if_false] at h445
   simp (disch := omega) only [go_sem,h448,e0,hw,Option.map_some,Option.bind_some,h445]
   simp [SesR,Ses.c,k1,k2]
theorem r413 (t u x y : Nat) (v : Ver) (nm : ByteArray) (hl : v.sess.length ≤ 2 ^ 63 - 1) : res A PrA 413 [.agg (verC t u x y v),.str nm] = some (SesR (pickF (fun w => decide (w.name = nm)) v.sess)) := by
 refine res_of a413 rfl rfl ?_
 simp only [F413,verC]
 simp (disch := omega) only [go_sem]
 refine W.upto v.sess.length (fun k => ⟨[(1,.pv (.str nm)),(2,.ptr 2 0),(4,.ptr 4 0),(6,.pv (.int .i64 k))],⟨[(2,[.pv (.str v.name),.pv (.lst t (v.types.map Typ.c)),.pv (.lst u (cals v.calls)),.pv (.lst x (sess v.sess)),.pv (.lst y (tpcs v.tops))]),(4,[.pv (.str ⟨#[]⟩),.tl [],.pv (.int .i64 0),.pv (.int .i64 0),.tl []])],[],[]⟩⟩) (fun k => ∀ (i : Nat) (w : Ses),i < k → v.sess[i]? = some w → decide (w.name = nm) = false) rfl (fun i w hi => absurd hi (by omega)) fun k hk hi => ?_
 simp (disch := omega) only [go_sem]
 refine Br.ofP (fun c1 => ?_) (fun c1 => ?_)
 ·obtain ⟨w,hw⟩ := get_some (l := v.sess) (k := k) (by omega)
  cases hd : decide (w.name = nm) with
  | true =>
   simp (disch := omega) only [go_sem,hw,Option.map_some,hd]
   unfold pickF
   rw [fi_some hw hd hi,Option.bind_some,hw]
   rfl
  | false =>
   simp (disch := omega) only [go_sem,hw,Option.map_some,hd]
   exact .of (by omega) rfl (pre_step hw hi hd)
 ·simp (disch := omega) only [go_sem]
  unfold pickF
  rw [fi_none (pre_whole (k := k) (by omega) hi)]
  rfl
theorem r451 (t : Nat) (w : Tpc) (nm : ByteArray) : res A PrA 451 [.agg w.c,.ro t [.str nm]] = some [.bool (decide (w.name = nm))] := by
 refine res_of a451 rfl rfl ?_
 simp only [F451]; try delta sS tT zZ nN gG bB pZ
 simp (disch := omega) only [go_sem]
theorem r450 (t u : Nat) (l : List Tpc) (nm : ByteArray) (hl : l.length ≤ 2 ^ 63 - 1) : res A PrA 450 [.lst t (tpcs l),.func 451 [.ro u [.str nm]]] = some [.int .i64 (idxF (fun w => decide (w.name = nm)) l)] := by
 refine res_of a450 rfl rfl ?_
 simp only [F450]; try delta sS tT zZ nN gG bB pZ
 simp (disch := omega) only [go_sem]
 refine W.upto l.length (fun k => ⟨[(0,.pv (.lst t (tpcs l))),(1,.pv (.func 451 [.ro u [.str nm]])),(7,.pv (.int .i64 l.length)),(8,.pv (.int .i64 k))],⟨[],[],[]⟩⟩) (fun k => ∀ (i : Nat) (w : Tpc),i < k → l[i]? = some w → decide (w.name = nm) = false) rfl (fun i w hi => absurd hi (by omega)) fun k hk hi => ?_
 simp (disch := omega) only [go_sem]
 refine Br.ofP (fun c1 => ?_) (fun c1 => ?_)
 ·obtain ⟨w,hw⟩ := get_some (l := l) (k := k) (by omega)
  have h451 := fun t => r451 t w nm
  simp only [Tpc.c] at h451
  cases hd : decide (w.name = nm) with
  | true =>
   rw [hd] at h451
   simp (disch := omega) only [go_sem,hw,Option.map_some,h451]
   unfold idxF
   rw [fi_some hw hd hi]
  | false =>
   rw [hd] at h451
   simp (disch := omega) only [go_sem,hw,Option.map_some,h451]
   exact .of (by omega) rfl (pre_step hw hi hd)
 ·simp (disch := omega) only [go_sem]
  unfold idxF
  rw [fi_none (pre_whole (k := k) (by omega) hi)]
def TpcR (o : Option Tpc) : List PV := match o with
 | some w => [.agg w.c,.bool true]
 | none => [.agg [.str ⟨#[]⟩,.int .i64 0],.bool false]
theorem r414 (t u x y : Nat) (v : Ver) (nm : ByteArray) (hl : v.tops.length ≤ 2 ^ 63 - 1) : res A PrA 414 [.agg (verC t u x y v),.str nm] = some (TpcR (pickF (fun w => decide (w.name = nm)) v.tops)) := by
 refine res_of a414 rfl rfl ?_
 simp only [F414,verC]
 have h450 := fun t u => r450 t u v.tops nm hl
 unfold idxF at h450
 unfold pickF
 cases hj : v.tops.findIdx? fun w => decide (w.name = nm) with
 | none =>
  rw [hj] at h450
  have e0 : decide ((0 : Int) ≤ -1) = false := rfl
  simp (disch := omega) only [go_sem,h450]
  rfl
 | some j =>
  rw [hj] at h450
  have hjl := (List.findIdx?_eq_some_iff_getElem.1 hj).1
  obtain ⟨w,hw⟩ := get_some hjl
  have e0 : decide ((0 : Int) ≤ (j : Int)) = true := decide_eq_true (by omega)
  simp (disch := omega) only [go_sem,h450,e0,hw,Option.map_some,Option.bind_some]
  rfl
theorem r415 (t u x y : Nat) (v : Ver) (nm : ByteArray) (hl : v.tops.length ≤ 2 ^ 63 - 1) : res A PrA 415 [.agg (verC t u x y v),.str nm] = some (TpcR (pickF (fun w => decide (w.name = nm)) v.tops)) := by
 refine res_of a415 rfl rfl ?_
 simp only [F415,verC]
 simp (disch := omega) only [go_sem]
 refine W.upto v.tops.length (fun k => ⟨[(1,.pv (.str nm)),(2,.ptr 2 0),(4,.ptr 4 0),(6,.pv (.int .i64 k))],⟨[(2,[.pv (.str v.name),.pv (.lst t (v.types.map Typ.c)),.pv (.lst u (cals v.calls)),.pv (.lst x (sess v.sess)),.pv (.lst y (tpcs v.tops))]),(4,[.pv (.str ⟨#[]⟩),.pv (.int .i64 0)])],[],[]⟩⟩) (fun k => ∀ (i : Nat) (w : Tpc),i < k → v.tops[i]? = some w → decide (w.name = nm) = false) rfl (fun i w hi => absurd hi (by omega)) fun k hk hi => ?_
 simp (disch := omega) only [go_sem]
 refine Br.ofP (fun c1 => ?_) (fun c1 => ?_)
 ·obtain ⟨w,hw⟩ := get_some (l := v.tops) (k := k) (by omega)
  cases hd : decide (w.name = nm) with
  | true =>
   simp (disch := omega) only [go_sem,hw,Option.map_some,hd]
   unfold pickF
   rw [fi_some hw hd hi,Option.bind_some,hw]
   rfl
  | false =>
   simp (disch := omega) only [go_sem,hw,Option.map_some,hd]
   exact .of (by omega) rfl (pre_step hw hi hd)
 ·simp (disch := omega) only [go_sem]
  unfold pickF
  rw [fi_none (pre_whole (k := k) (by omega) hi)]
  rfl
end Go.Pv
namespace Go.Pv
theorem ints_fit (l : List Int) : rowsFit 1 (.inl (ints l)) = true := by simp [rowsFit,ints]
theorem ints_app (l m : List Int) : ints l ++ ints m = ints (l ++ m) := by simp [ints]
theorem apI_start {src : V} (bx : List (Nat × List V)) (mp : List (List (PV × PV))) (l : List Int) (hs : ∀ h,srcRows h src = some (.inl (ints l),none)) (h0 : l ≠ []) (hm : l.length ≤ 2147483648) : appendV ⟨bx,[],mp⟩ 1 (.tl []) src = some (.own 0 0 0 l.length,{ push := [⟨0,1,.inl (ints l)⟩],base := 0 }) := by
 have h1 : ¬ (ints l).length = 0 := by rw [ints_length]; exact fun e => h0 (List.eq_nil_of_length_eq_zero e)
 unfold appendV
 rw [hs]
 dsimp only
 rw [if_pos (ints_fit l)]
 simp only [rowsLen,catRows,List.nil_append,List.length_nil,Nat.zero_add]
 rw [if_neg h1,if_pos ⟨by rw [ints_length]; exact hm,by rfl⟩,ints_length]
theorem apI_own {src : V} (bx : List (Nat × List V)) (mp : List (List (PV × PV))) (v n : Nat) (l m : List Int) (hn : n = l.length) (hs : ∀ h,srcRows h src = some (.inl (ints m),none)) (h0 : m ≠ []) (hm : l.length + m.length ≤ 2147483648) : appendV ⟨bx,[⟨v,1,.inl (ints l)⟩],mp⟩ 1 (.own 0 v 0 n) src = some (.own 0 (v + 1) 0 (l ++ m).length,{ ar := some (0,⟨v + 1,1,.inl (ints (l ++ m))⟩) }) := by
 subst hn
 have h1 : ¬ (ints m).length = 0 := by rw [ints_length]; exact fun e => h0 (List.eq_nil_of_length_eq_zero e)
 have h2 : ownArr ⟨bx,[⟨v,1,.inl (ints l)⟩],mp⟩ 0 v = some ⟨v,1,.inl (ints l)⟩ := by simp [ownArr]
 have h3 : ((ints l).drop 0).take l.length = ints l := by rw [List.drop_zero]; exact List.take_of_length_le (by simp [ints])
 unfold appendV
 rw [hs]
 dsimp only
 rw [if_pos (ints_fit m),h2]
 simp only [rowsLen]
 rw [if_neg h1,if_pos ⟨by simp [Arr.size,ints],by trivial,by unfold mostRows; rw [ints_length]; exact hm,by simp⟩]
 simp only [cutRows,h3,catRows,ints_app,ints_length,List.length_append]
theorem apI_idle {src : V} (bx : List (Nat × List V)) (mp : List (List (PV × PV))) (v n : Nat) (l : List Int) (hs : ∀ h,srcRows h src = some (.inl [],none)) : appendV ⟨bx,[⟨v,1,.inl (ints l)⟩],mp⟩ 1 (.own 0 v 0 n) src = some (.own 0 v 0 n,{ ra2 := some 0 }) := by
 have h2 : ownArr ⟨bx,[⟨v,1,.inl (ints l)⟩],mp⟩ 0 v = some ⟨v,1,.inl (ints l)⟩ := by simp [ownArr]
 unfold appendV
 rw [hs]
 dsimp only
 rw [if_pos (by rfl),h2]
 rfl
theorem apI_none {src : V} (h : Heap) (hs : ∀ h,srcRows h src = some (.inl [],none)) : appendV h 1 (.tl []) src = some (.tl [],{}) := by
 unfold appendV
 rw [hs]
 rfl
theorem apI_push (bx : List (Nat × List V)) (mp : List (List (PV × PV))) (a : Arr) (b : Nat) : ({ push := [a],base := b } : Tn).apply ⟨bx,[],mp⟩ = ⟨bx,[a],mp⟩ := by simp [Tn.apply]
theorem apI_set (bx : List (Nat × List V)) (mp : List (List (PV × PV))) (a b : Arr) : ({ ar := some (0,b) } : Tn).apply ⟨bx,[a],mp⟩ = ⟨bx,[b],mp⟩ := by simp [Tn.apply]
theorem apI_id (h : Heap) : ({ ra2 := some 0 } : Tn).apply h = h := by cases h; simp [Tn.apply]
set_option maxHeartbeats 1000000 in
theorem r452 (l : List Int) (n : Int) (hl : l.length ≤ 1000000) : res A PrA 452 [.lst 0 (ints l),.int .i64 n] = some [.lst 0 (ints (puI n l))] := by
 refine res_of a452 rfl rfl ?_
 simp only [F452]; try delta sS tT zZ nN gG bB pZ
 simp (disch := omega) only [go_sem]
 refine W.upto l.length (fun k => ⟨[(0,.pv (.lst 0 (ints l))),(1,.pv (.int .i64 n)),(5,.pv (.int .i64 k))],⟨[],[],[]⟩⟩) (fun k => ∀ j z,j < k → l[j]? = some z → z < n) rfl (fun j z hj => absurd hj (by omega)) fun k hk hi => ?_
 have key : (∀ z,l[k]? = some z → ¬ z < n) → puI n l = if l[k]? = some n then l else l.take k ++ n :: l.drop k := fun h => puI_split n l k hi hk h
 rcases Nat.lt_or_ge k l.length with h | h
 ·obtain ⟨z,hz⟩ := get_some h
  have e1 : decide ((k : Int) < l.length) = true := decide_eq_true (by omega)
  cases hd : decide (z < n) with
  | true =>
   simp (disch := omega) only [go_sem,e1,hz,hd]
   exact .of h rfl (pre_step hz hi (of_decide_eq_true hd))
  | false =>
   have key := key (fun z' hz' => by
    rw [hz] at hz'
    cases hz'
    simpa using hd)
   rw [hz] at key
   by_cases he : z = n
   ·rw [if_pos (by rw [he])] at key
    have e2 : decide (z = n) = true := decide_eq_true he
    rw [key]
    simp (disch := omega) only [go_sem,e1,hz,hd,e2]
   ·rw [if_neg (by simpa using he)] at key
    have e2 : decide (z = n) = false := decide_eq_false he
    rw [key]
    have hdr : l.drop k ≠ [] := by
     intro e
     have := congrArg List.length e
     rw [List.length_drop] at this
     simp at this
     omega
    have t1 : (l.take k).length ≤ l.length := by rw [List.length_take]; omega
    have t2 : (l.drop k).length ≤ l.length := by rw [List.length_drop]; omega
    rcases Nat.eq_zero_or_pos k with h0 | h0
    ·subst h0
     rw [List.drop_zero] at hdr
     have a1 := fun h => apI_none (src := .pv (.lst 0 [])) h (fun _ => rfl)
     have a3 := fun bx mp v => apI_own (src := .pv (.lst 0 (ints l))) bx mp v 1 [n] l rfl (fun _ => rfl) hdr (by rw [List.length_singleton]; omega)
     simp (disch := omega) only [go_sem,e1,hz,hd,e2,a1,a3,apI_push,apI_set]
     rw [List.take_length]
    ·have htk : l.take k ≠ [] := by
      intro e
      have := congrArg List.length e
      rw [List.length_take,List.length_nil] at this
      omega
     have a1 := fun bx mp => apI_start (src := .pv (.lst 0 (ints (l.take k)))) bx mp (l.take k) (fun _ => rfl) htk (by omega)
     have a3 := fun bx mp v => apI_own (src := .pv (.lst 0 (ints (l.drop k)))) bx mp v ((l.take k).length + 1) (l.take k ++ [n]) (l.drop k) (by rw [List.length_append,List.length_singleton]) (fun _ => rfl) hdr (by rw [List.length_append,List.length_singleton]; omega)
     simp (disch := omega) only [go_sem,e1,hz,hd,e2,a1,a3,apI_push,apI_set]
     rw [List.take_of_length_le (by simp only [List.length_append,List.length_singleton]; omega),List.append_assoc]
     rfl
 ·obtain rfl : k = l.length := by omega
  have e1 : decide ((l.length : Int) < l.length) = false := decide_eq_false (by omega)
  have key := key (fun z' hz' => by
   rw [List.getElem?_eq_none (Nat.le_refl _)] at hz'
   cases hz')
  rw [List.getElem?_eq_none (Nat.le_refl _),if_neg (by simp)] at key
  rw [key]
  have hdr : l.drop l.length = [] := List.drop_length
  rcases Nat.eq_zero_or_pos l.length with h0 | h0
  ·obtain rfl := List.eq_nil_of_length_eq_zero h0
   have a1 := fun h => apI_none (src := .pv (.lst 0 [])) h (fun _ => rfl)
   have a3 := fun bx mp v => apI_idle (src := .pv (.lst 0 [])) bx mp v 1 [n] (fun _ => rfl)
   have e0 : decide (((0 : Nat) : Int) < ((0 : Nat) : Int)) = false := rfl
   have ef : rowsFit 1 (.inl []) = true := rfl
   simp (disch := omega) only [go_sem,e0,ef,a1,a3,apI_push,apI_id]
  ·have htk : l.take l.length ≠ [] := by
    rw [List.take_length]
    exact fun e => by rw [e] at h0; simp at h0
   have t1 : (l.take l.length).length ≤ l.length := by rw [List.length_take]; omega
   have a1 := fun bx mp => apI_start (src := .pv (.lst 0 (ints (l.take l.length)))) bx mp (l.take l.length) (fun _ => rfl) htk (by omega)
   have a3 := fun bx mp v l' n' => apI_idle (src := .pv (.lst 0 [])) bx mp v n' l' (fun _ => rfl)
   simp (disch := omega) only [go_sem,e1,hdr,ints_nil,a1,a3,apI_push,apI_set,apI_id]
   rw [List.take_of_length_le (by simp only [List.length_append,List.length_singleton]; omega)]
def gwV : Nat → List Int → V
 | 0,_ => .tl []
 | v + 1,l => .own 0 v 0 l.length
def gwA : Nat → List Int → List Arr
 | 0,_ => []
 | v + 1,l => [⟨v,1,.inl (ints l)⟩]
def gwT : Nat → List Int → Tn
 | 0,l => { push := [⟨0,1,.inl (ints l)⟩],base := 0 }
 | v + 1,l => { ar := some (0,⟨v + 1,1,.inl (ints l)⟩) }
theorem gw_app (bx : List (Nat × List V)) (mp : List (List (PV × PV))) (n : Nat) (l m : List Int) (h0 : n = 0 → l = []) (h1 : m ≠ []) (hm : l.length + m.length ≤ 2147483648) : appendV ⟨bx,gwA n l,mp⟩ 1 (gwV n l) (.tl (ints m)) = some (gwV (n + 1) (l ++ m),gwT n (l ++ m)) := by
 cases n with
 | zero =>
  obtain rfl := h0 rfl
  exact apI_start bx mp m (fun _ => rfl) h1 (by omega)
 | succ v => exact apI_own bx mp v l.length l m rfl (fun _ => rfl) h1 hm
theorem gw_apply (bx : List (Nat × List V)) (mp : List (List (PV × PV))) (n : Nat) (l m : List Int) : (gwT n m).apply ⟨bx,gwA n l,mp⟩ = ⟨bx,gwA (n + 1) m,mp⟩ := by cases n <;> simp [gwT,gwA,Tn.apply]
@[go_sem] theorem scrub_gw (kb : List Nat) (n : Nat) (l : List Int) : scrub kb (gwV n l) = gwV n l := by cases n <;> rfl
theorem callN_len : ∀ l : List Cal,(callN l).length = 2 * l.length
 | [] => rfl
 | c :: l => by
  have := callN_len l
  simp only [callN,List.flatMap_cons,List.length_append,List.length_cons,List.length_nil] at this ⊢
  omega
theorem map_snoc {α β : Type} (f : α → β) {l : List α} {k : Nat} {x : α} (h : l[k]? = some x) : (l.map f).take (k + 1) = (l.map f).take k ++ [f x] := by
 rw [List.take_add_one,List.getElem?_map,h]
 rfl
set_option maxHeartbeats 4000000 in
theorem r417 (t u x y : Nat) (v : Ver) (hn : (rootN v).length ≤ 1000000) (h1 : v.calls.length ≤ 2 ^ 63 - 1) (h2 : v.sess.length ≤ 2 ^ 63 - 1) (h3 : v.tops.length ≤ 2 ^ 63 - 1) (h4 : ∀ w ∈ v.sess,w.msgs.length ≤ 2 ^ 63 - 1) : res A PrA 417 [.agg (verC t u x y v)] = some [.lst 0 (ints (uniqs (rootN v)))] := by
 refine res_of a417 rfl rfl ?_
 simp only [F417,verC]
 have hl : (callN v.calls).length + (sesN v.sess).length + (topN v.tops).length ≤ 1000000 := by
  unfold rootN at hn
  rw [List.length_append,List.length_append] at hn
  exact hn
 simp (disch := omega) only [go_sem]
 refine W.upto v.calls.length (fun k => ⟨[(1,.ptr 1 0),(3,gwV k (callN (v.calls.take k))),(13,.pv (.lst u (cals v.calls))),(14,.pv (.int .i64 v.calls.length)),(15,.pv (.int .i64 k))],⟨[(1,[.pv (.str v.name),.pv (.lst t (v.types.map Typ.c)),.pv (.lst u (cals v.calls)),.pv (.lst x (sess v.sess)),.pv (.lst y (tpcs v.tops))])],gwA k (callN (v.calls.take k)),[]⟩⟩) (fun _ => True) rfl trivial fun k hk _ => ?_
 simp (disch := omega) only [go_sem]
 refine Br.ofP (fun c1 => ?_) (fun c1 => ?_)
 ·obtain ⟨c,hc⟩ := get_some (l := v.calls) (k := k) (by omega)
  have hkl := flat_take_len (fun c : Cal => [c.req,c.rep]) v.calls k
  have hap := fun bx mp => gw_app bx mp k (callN (v.calls.take k)) [c.req,c.rep] (fun h => by subst h; rfl) (by simp) (by simp only [callN,List.length_cons,List.length_nil] at hl hkl ⊢; omega)
  have hin : ints [c.req,c.rep] = [[.int .i64 c.req],[.int .i64 c.rep]] := rfl
  rw [hin] at hap
  have hsn : callN (v.calls.take (k + 1)) = callN (v.calls.take k) ++ [c.req,c.rep] := flat_snoc _ hc
  simp (disch := omega) only [go_sem,hc,Option.map_some,hap,gw_apply]
  exact .of (by omega) (by rw [hsn]; rfl) trivial
 obtain rfl : k = v.calls.length := by omega
 clear hk c1
 rw [List.take_length]
 have hcl := callN_len v.calls
 simp (disch := omega) only [go_sem]
 refine W.upto v.sess.length (fun k => ⟨[(1,.ptr 1 0),(3,gwV (v.calls.length + (sesN (v.sess.take k)).length) (callN v.calls ++ sesN (v.sess.take k))),(28,.pv (.lst x (sess v.sess))),(29,.pv (.int .i64 v.sess.length)),(30,.pv (.int .i64 k))],⟨[(1,[.pv (.str v.name),.pv (.lst t (v.types.map Typ.c)),.pv (.lst u (cals v.calls)),.pv (.lst x (sess v.sess)),.pv (.lst y (tpcs v.tops))])],gwA (v.calls.length + (sesN (v.sess.take k)).length) (callN v.calls ++ sesN (v.sess.take k)),[]⟩⟩) (fun _ => True) (by simp [sesN]) trivial fun k hk _ => ?_
 simp (disch := omega) only [go_sem]
 refine Br.ofP (fun c1 => ?_) (fun c1 => ?_)
 ·obtain ⟨w,hw⟩ := get_some (l := v.sess) (k := k) (by omega)
  have hkl : (sesN (v.sess.take k)).length + (msgN w.msgs).length ≤ (sesN v.sess).length := by
   have h5 := flat_take_len (fun w : Ses => msgN w.msgs) v.sess (k + 1)
   rw [flat_snoc _ hw,List.length_append] at h5
   exact h5
  have hsn : sesN (v.sess.take (k + 1)) = sesN (v.sess.take k) ++ msgN w.msgs := flat_snoc _ hw
  have hml := h4 w (List.mem_of_getElem? hw)
  have hmn : (msgN w.msgs).length = w.msgs.length := List.length_map _
  have hmm : w.msgs.map Msg.c = msgs w.msgs := rfl
  simp (disch := omega) only [go_sem,hw,Option.map_some,hmm]
  refine W.upto w.msgs.length (fun j => ⟨[(1,.ptr 1 0),(3,gwV (v.calls.length + (sesN (v.sess.take k)).length + j) (callN v.calls ++ sesN (v.sess.take k) ++ (msgN w.msgs).take j)),(28,.pv (.lst x (sess v.sess))),(29,.pv (.int .i64 v.sess.length)),(30,.pv (.int .i64 k)),(35,.pv (.lst 0 (msgs w.msgs))),(36,.pv (.int .i64 w.msgs.length)),(37,.pv (.int .i64 j))],⟨[(1,[.pv (.str v.name),.pv (.lst t (v.types.map Typ.c)),.pv (.lst u (cals v.calls)),.pv (.lst x (sess v.sess)),.pv (.lst y (tpcs v.tops))])],gwA (v.calls.length + (sesN (v.sess.take k)).length + j) (callN v.calls ++ sesN (v.sess.take k) ++ (msgN w.msgs).take j),[]⟩⟩) (fun _ => True) (by simp) trivial fun j hj _ => ?_
  simp (disch := omega) only [go_sem]
  refine Br.ofP (fun c2 => ?_) (fun c2 => ?_)
  ·obtain ⟨m,hm⟩ := get_some (l := w.msgs) (k := j) (by omega)
   have htl : ((msgN w.msgs).take j).length = j := by rw [List.length_take]; omega
   have hap := fun bx mp => gw_app bx mp (v.calls.length + (sesN (v.sess.take k)).length + j) (callN v.calls ++ sesN (v.sess.take k) ++ (msgN w.msgs).take j) [m.ty] (fun h => List.eq_nil_of_length_eq_zero (by rw [List.length_append,List.length_append]; omega)) (by simp) (by rw [List.length_append,List.length_append,List.length_singleton]; omega)
   have hin : ints [m.ty] = [[.int .i64 m.ty]] := rfl
   rw [hin] at hap
   have hms : (msgN w.msgs).take (j + 1) = (msgN w.msgs).take j ++ [m.ty] := map_snoc _ hm
   simp (disch := omega) only [go_sem,hm,Option.map_some,hap,gw_apply]
   refine .of (by omega) ?_ trivial
   rw [hms,← List.append_assoc]
   rfl
  ·obtain rfl : j = w.msgs.length := by omega
   have ht : (msgN w.msgs).take w.msgs.length = msgN w.msgs := List.take_of_length_le (by omega)
   rw [ht]
   simp (disch := omega) only [go_sem]
   refine .of (by omega) ?_ trivial
   rw [hsn,List.length_append,hmn,← Nat.add_assoc,← List.append_assoc]
   rfl
 obtain rfl : k = v.sess.length := by omega
 clear hk c1
 rw [List.take_length]
 simp (disch := omega) only [go_sem]
 have htn : (topN v.tops).length = v.tops.length := List.length_map _
 refine W.upto v.tops.length (fun k => ⟨[(3,gwV (v.calls.length + (sesN v.sess).length + k) (callN v.calls ++ sesN v.sess ++ (topN v.tops).take k)),(49,.pv (.lst y (tpcs v.tops))),(50,.pv (.int .i64 v.tops.length)),(51,.pv (.int .i64 k))],⟨[],gwA (v.calls.length + (sesN v.sess).length + k) (callN v.calls ++ sesN v.sess ++ (topN v.tops).take k),[]⟩⟩) (fun _ => True) (by simp) trivial fun k hk _ => ?_
 simp (disch := omega) only [go_sem]
 refine Br.ofP (fun c1 => ?_) (fun c1 => ?_)
 ·obtain ⟨m,hm⟩ := get_some (l := v.tops) (k := k) (by omega)
  have htl : ((topN v.tops).take k).length = k := by rw [List.length_take]; omega
  have hap := fun bx mp => gw_app bx mp (v.calls.length + (sesN v.sess).length + k) (callN v.calls ++ sesN v.sess ++ (topN v.tops).take k) [m.ty] (fun h => List.eq_nil_of_length_eq_zero (by rw [List.length_append,List.length_append]; omega)) (by simp) (by rw [List.length_append,List.length_append,List.length_singleton]; omega)
  have hin : ints [m.ty] = [[.int .i64 m.ty]] := rfl
  rw [hin] at hap
  have hms : (topN v.tops).take (k + 1) = (topN v.tops).take k ++ [m.ty] := map_snoc _ hm
  simp (disch := omega) only [go_sem,hm,Option.map_some,hap,gw_apply]
  refine .of (by omega) ?_ trivial
  rw [hms,← List.append_assoc]
  rfl
 obtain rfl : k = v.tops.length := by omega
 rw [List.take_of_length_le (by omega)]
 have hroot : callN v.calls ++ sesN v.sess ++ topN v.tops = rootN v := rfl
 rw [hroot]
 have hrl : (rootN v).length = 2 * v.calls.length + (sesN v.sess).length + v.tops.length := by rw [← hroot,List.length_append,List.length_append]; omega
 generalize hnn : v.calls.length + (sesN v.sess).length + v.tops.length = nn
 generalize rootN v = R at *
 cases nn with
 | zero =>
  have hR : R = [] := List.eq_nil_of_length_eq_zero (by omega)
  subst hR
  simp only [gwV,gwA]
  simp (disch := omega) only [go_sem]
  rfl
 | succ q =>
  have hR : R.length ≠ 0 := by omega
  simp only [gwV,gwA]
  simp (disch := (first | omega | (simp only [isort_len]; done) | (simp only [isort_len]; omega))) only [go_sem]
  rw [List.take_length]
  rfl
def tV : Nat → List Int → V
 | 0,_ => .tl []
 | _ + 1,l => .pv (.lst 0 (ints l))
@[go_sem] theorem scrub_tv (kb : List Nat) (n : Nat) (l : List Int) : scrub kb (tV n l) = tV n l := by cases n <;> rfl
theorem lend_tv (h : Heap) (n : Nat) (l : List Int) (h0 : n = 0 → l = []) : lend h (tV n l) = some (.lst 0 (ints l)) := by
 cases n with
 | zero => rw [h0 rfl]; rfl
 | succ n => rfl
set_option maxHeartbeats 4000000 in
theorem r418 (t u x y : Nat) (v : Ver) (hn : (rootN v).length ≤ 100000) (h1 : v.calls.length ≤ 2 ^ 63 - 1) (h2 : v.sess.length ≤ 2 ^ 63 - 1) (h3 : v.tops.length ≤ 2 ^ 63 - 1) (h4 : ∀ w ∈ v.sess,w.msgs.length ≤ 2 ^ 63 - 1) : res A PrA 418 [.agg (verC t u x y v)] = some [.lst 0 (ints (uniqs (rootN v)))] := by
 refine res_of a418 rfl rfl ?_
 simp only [F418,verC]
 have hl : (callN v.calls).length + (sesN v.sess).length + (topN v.tops).length ≤ 100000 := by
  unfold rootN at hn
  rw [List.length_append,List.length_append] at hn
  exact hn
 have hcl := callN_len v.calls
 simp (disch := omega) only [go_sem]
 refine W.upto v.calls.length (fun k => ⟨[(1,.ptr 1 0),(3,tV k (pusI [] (callN (v.calls.take k)))),(4,.pv (.int .i64 k))],⟨[(1,[.pv (.str v.name),.pv (.lst t (v.types.map Typ.c)),.pv (.lst u (cals v.calls)),.pv (.lst x (sess v.sess)),.pv (.lst y (tpcs v.tops))])],[],[]⟩⟩) (fun _ => True) rfl trivial fun k hk _ => ?_
 simp (disch := omega) only [go_sem]
 refine Br.ofP (fun c1 => ?_) (fun c1 => ?_)
 ·obtain ⟨c,hc⟩ := get_some (l := v.calls) (k := k) (by omega)
  have hkl := flat_take_len (fun c : Cal => [c.req,c.rep]) v.calls k
  have hpl := pusI_len (callN (v.calls.take k)) []
  have hpl2 := puI_len c.req (pusI [] (callN (v.calls.take k)))
  rw [List.length_nil,Nat.zero_add] at hpl
  have hle := fun h => lend_tv h k (pusI [] (callN (v.calls.take k))) (fun h => by subst h; rfl)
  have q1 := r452 (pusI [] (callN (v.calls.take k))) c.req (by simp only [callN] at hl hkl hpl ⊢; omega)
  have q2 := r452 (puI c.req (pusI [] (callN (v.calls.take k)))) c.rep (by simp only [callN] at hl hkl hpl hpl2 ⊢; omega)
  have hsn : callN (v.calls.take (k + 1)) = callN (v.calls.take k) ++ [c.req,c.rep] := flat_snoc _ hc
  simp (disch := omega) only [go_sem,hc,Option.map_some,hle,q1,q2]
  refine .of (by omega) ?_ trivial
  rw [hsn,pusI_append]
  rfl
 obtain rfl : k = v.calls.length := by omega
 clear hk c1
 rw [List.take_length]
 simp (disch := omega) only [go_sem]
 refine W.upto v.sess.length (fun k => ⟨[(1,.ptr 1 0),(3,tV (v.calls.length + (sesN (v.sess.take k)).length) (pusI [] (callN v.calls ++ sesN (v.sess.take k)))),(5,.pv (.int .i64 k))],⟨[(1,[.pv (.str v.name),.pv (.lst t (v.types.map Typ.c)),.pv (.lst u (cals v.calls)),.pv (.lst x (sess v.sess)),.pv (.lst y (tpcs v.tops))])],[],[]⟩⟩) (fun _ => True) (by simp [sesN]) trivial fun k hk _ => ?_
 simp (disch := omega) only [go_sem]
 refine Br.ofP (fun c1 => ?_) (fun c1 => ?_)
 ·obtain ⟨w,hw⟩ := get_some (l := v.sess) (k := k) (by omega)
  have hkl : (sesN (v.sess.take k)).length + (msgN w.msgs).length ≤ (sesN v.sess).length := by
   have h5 := flat_take_len (fun w : Ses => msgN w.msgs) v.sess (k + 1)
   rw [flat_snoc _ hw,List.length_append] at h5
   exact h5
  have hsn : sesN (v.sess.take (k + 1)) = sesN (v.sess.take k) ++ msgN w.msgs := flat_snoc _ hw
  have hml := h4 w (List.mem_of_getElem? hw)
  have hmn : (msgN w.msgs).length = w.msgs.length := List.length_map _
  have hmm : w.msgs.map Msg.c = msgs w.msgs := rfl
  simp (disch := omega) only [go_sem]
  refine W.upto w.msgs.length (fun j => ⟨[(1,.ptr 1 0),(3,tV (v.calls.length + (sesN (v.sess.take k)).length + j) (pusI [] (callN v.calls ++ sesN (v.sess.take k) ++ (msgN w.msgs).take j))),(5,.pv (.int .i64 k)),(6,.pv (.int .i64 j))],⟨[(1,[.pv (.str v.name),.pv (.lst t (v.types.map Typ.c)),.pv (.lst u (cals v.calls)),.pv (.lst x (sess v.sess)),.pv (.lst y (tpcs v.tops))])],[],[]⟩⟩) (fun _ => True) (by simp) trivial fun j hj _ => ?_
  simp (disch := omega) only [go_sem,hw,Option.map_some,hmm]
  refine Br.ofP (fun c2 => ?_) (fun c2 => ?_)
  ·obtain ⟨m,hm⟩ := get_some (l := w.msgs) (k := j) (by omega)
   have htl : ((msgN w.msgs).take j).length = j := by rw [List.length_take]; omega
   have hpl := pusI_len (callN v.calls ++ sesN (v.sess.take k) ++ (msgN w.msgs).take j) []
   rw [List.length_nil,Nat.zero_add,List.length_append,List.length_append] at hpl
   have hle := fun h => lend_tv h (v.calls.length + (sesN (v.sess.take k)).length + j) (pusI [] (callN v.calls ++ sesN (v.sess.take k) ++ (msgN w.msgs).take j)) (fun h => List.eq_nil_of_length_eq_zero (by omega))
   have q1 := r452 (pusI [] (callN v.calls ++ sesN (v.sess.take k) ++ (msgN w.msgs).take j)) m.ty (by omega)
   have hms : (msgN w.msgs).take (j + 1) = (msgN w.msgs).take j ++ [m.ty] := map_snoc _ hm
   simp (disch := omega) only [go_sem,hw,hm,Option.map_some,hmm,hle,q1]
   refine .of (by omega) ?_ trivial
   rw [hms,← List.append_assoc,pusI_append _ _ [m.ty]]
   rfl
  ·obtain rfl : j = w.msgs.length := by omega
   have ht : (msgN w.msgs).take w.msgs.length = msgN w.msgs := List.take_of_length_le (by omega)
   rw [ht]
   simp (disch := omega) only [go_sem]
   refine .of (by omega) ?_ trivial
   rw [hsn,List.length_append,hmn,← Nat.add_assoc,← List.append_assoc]
   rfl
 obtain rfl : k = v.sess.length := by omega
 clear hk c1
 rw [List.take_length]
 simp (disch := omega) only [go_sem]
 have htn : (topN v.tops).length = v.tops.length := List.length_map _
 refine W.upto v.tops.length (fun k => ⟨[(1,.ptr 1 0),(3,tV (v.calls.length + (sesN v.sess).length + k) (pusI [] (callN v.calls ++ sesN v.sess ++ (topN v.tops).take k))),(7,.pv (.int .i64 k))],⟨[(1,[.pv (.str v.name),.pv (.lst t (v.types.map Typ.c)),.pv (.lst u (cals v.calls)),.pv (.lst x (sess v.sess)),.pv (.lst y (tpcs v.tops))])],[],[]⟩⟩) (fun _ => True) (by simp) trivial fun k hk _ => ?_
 simp (disch := omega) only [go_sem]
 refine Br.ofP (fun c1 => ?_) (fun c1 => ?_)
 ·obtain ⟨m,hm⟩ := get_some (l := v.tops) (k := k) (by omega)
  have htl : ((topN v.tops).take k).length = k := by rw [List.length_take]; omega
  have hpl := pusI_len (callN v.calls ++ sesN v.sess ++ (topN v.tops).take k) []
  rw [List.length_nil,Nat.zero_add,List.length_append,List.length_append] at hpl
  have hle := fun h => lend_tv h (v.calls.length + (sesN v.sess).length + k) (pusI [] (callN v.calls ++ sesN v.sess ++ (topN v.tops).take k)) (fun h => List.eq_nil_of_length_eq_zero (by omega))
  have q1 := r452 (pusI [] (callN v.calls ++ sesN v.sess ++ (topN v.tops).take k)) m.ty (by omega)
  have hms : (topN v.tops).take (k + 1) = (topN v.tops).take k ++ [m.ty] := map_snoc _ hm
  simp (disch := omega) only [go_sem,hm,Option.map_some,hle,q1]
  refine .of (by omega) ?_ trivial
  rw [hms,← List.append_assoc,pusI_append _ _ [m.ty]]
  rfl
 obtain rfl : k = v.tops.length := by omega
 have htt : (topN v.tops).take v.tops.length = topN v.tops := List.take_of_length_le (by omega)
 have hroot : callN v.calls ++ sesN v.sess ++ topN v.tops = rootN v := rfl
 rw [htt,hroot,pusI_uniqs]
 have hrl : (rootN v).length = 2 * v.calls.length + (sesN v.sess).length + v.tops.length := by rw [← hroot,List.length_append,List.length_append]; omega
 generalize hnn : v.calls.length + (sesN v.sess).length + v.tops.length = nn
 generalize rootN v = R at *
 cases nn with
 | zero =>
  have hR : R = [] := List.eq_nil_of_length_eq_zero (by omega)
  subst hR
  simp only [tV]
  simp (disch := omega) only [go_sem]
  rfl
 | succ q =>
  simp only [tV]
  simp (disch := omega) only [go_sem]
end Go.Pv
namespace Go.Pv
attribute [go_sem] Int.lt_irrefl
end Go.Pv
namespace Go.Pv
@[go_sem] theorem rawc_len (r : Raw) : r.c.length = 2 := rfl
def wr (x : Int) : Int := IntKind.wrap .i64 x
def szRest (acc : Int) (r : Raw) : Int := wr (wr (acc + 1) + r.data.size)
def szN : Nat → List PV → Int
 | 0,_ => 0
 | n + 1,cs => match cs with
  | [_,_,_,.str s,_,.lst _ keys,.lst _ items,.lst _ rest] => rest.foldl (fun acc r => match r with | [_,.str d] => wr (wr (acc + 1) + d.size) | _ => acc) (items.foldl (fun acc r => wr (acc + szN n r)) (keys.foldl (fun acc r => wr (acc + szN n r)) (wr (1 + s.size))))
  | _ => 0
theorem szN_val (n : Nat) (v : Val) : szN (n + 1) v.c = v.rest.foldl szRest (v.items.foldl (fun acc r => wr (acc + szN n r)) (v.keys.foldl (fun acc r => wr (acc + szN n r)) (wr (1 + v.str.size)))) := by
 unfold Val.c
 simp only [szN]
 rw [List.foldl_map]
 rfl
theorem VOk.len : ∀ {n : Nat} {cs : List PV},VOk n cs → cs.length = 8
 | 0,_,h => h.elim
 | _ + 1,_,h => by
  obtain ⟨v,rfl,_⟩ := h
  rfl
theorem VOk.val {n : Nat} {cs : List PV} (h : VOk n cs) : ∃ w : Val,cs = w.c := by
 cases n with
 | zero => exact h.elim
 | succ n =>
  obtain ⟨v,hv,_⟩ := h
  exact ⟨v,hv⟩
set_option maxHeartbeats 2000000 in
theorem r282 : ∀ (n : Nat) (cs : List PV),VOk n cs → res A PrA 282 [.agg cs] = some [.int .i64 (szN n cs)]
 | 0,cs,h => h.elim
 | n + 1,cs,h => by
  obtain ⟨v,rfl,⟨h1,h2,h3,h4⟩,⟨h5,h6,h7⟩,h8,h9,h10⟩ := h
  have ih := r282 n
  rw [szN_val]
  unfold lenOk at h5 h6 h7
  unfold strOk at h3
  obtain ⟨kind,bool,int,str,id,keys,items,rest⟩ := v
  unfold Val.c
  dsimp only at *
  refine res_of a282 rfl rfl ?_
  simp only [F282]; try delta sS tT zZ nN gG bB pZ
  simp (disch := omega) only [go_sem]
  refine W.fold keys (fun acc r => wr (acc + szN n r)) (wr (1 + str.size)) (fun k acc => ⟨[(1,.ptr 1 0),(3,.pv (.int .i64 acc)),(4,.pv (.int .i64 k))],⟨[(1,[.pv (.int .i64 kind),.pv (.bool bool),.pv (.int .i64 int),.pv (.str str),.pv (.int .i64 id),.pv (.lst 0 keys),.pv (.lst 0 items),.pv (.lst 0 (rest.map Raw.c))])],[],[]⟩⟩) (fun _ _ => True) rfl trivial (fun k r acc hr hk _ _ => ?_) (fun acc hacc _ => ?_)
  ·have hv := h8 r (List.mem_of_getElem? hr)
   obtain ⟨w,rfl⟩ := hv.val
   have hi := ih _ hv
   generalize szN n w.c = z at hi ⊢
   unfold Val.c at hi hr
   simp (disch := omega) only [go_sem]
   refine Br.ofP (fun h => ?_) (fun h => (h (by omega)).elim)
   simp (disch := omega) only [go_sem,hr,hi]
   exact foldK.of rfl trivial
  ·simp (disch := omega) only [go_sem]
   refine W.fold items (fun acc r => wr (acc + szN n r)) acc (fun k acc => ⟨[(1,.ptr 1 0),(3,.pv (.int .i64 acc)),(5,.pv (.int .i64 k))],⟨[(1,[.pv (.int .i64 kind),.pv (.bool bool),.pv (.int .i64 int),.pv (.str str),.pv (.int .i64 id),.pv (.lst 0 keys),.pv (.lst 0 items),.pv (.lst 0 (rest.map Raw.c))])],[],[]⟩⟩) (fun _ _ => True) rfl trivial (fun k r acc hr hk _ _ => ?_) (fun acc2 hacc2 _ => ?_)
   ·have hv := h9 r (List.mem_of_getElem? hr)
    obtain ⟨w,rfl⟩ := hv.val
    have hi := ih _ hv
    generalize szN n w.c = z at hi ⊢
    unfold Val.c at hi hr
    simp (disch := omega) only [go_sem]
    refine Br.ofP (fun h => ?_) (fun h => (h (by omega)).elim)
    simp (disch := omega) only [go_sem,hr,hi]
    exact foldK.of rfl trivial
   ·simp (disch := omega) only [go_sem]
    refine W.fold rest szRest acc2 (fun k acc => ⟨[(1,.ptr 1 0),(3,.pv (.int .i64 acc)),(6,.pv (.int .i64 k))],⟨[(1,[.pv (.int .i64 kind),.pv (.bool bool),.pv (.int .i64 int),.pv (.str str),.pv (.int .i64 id),.pv (.lst 0 keys),.pv (.lst 0 items),.pv (.lst 0 (rest.map Raw.c))])],[],[]⟩⟩) (fun _ _ => True) rfl trivial (fun k r acc hr hk _ _ => ?_) (fun acc3 hacc3 _ => ?_)
    ·have hrk := (h10 r (List.mem_of_getElem? hr)).2
     unfold strOk at hrk
     simp (disch := omega) only [go_sem]
     refine Br.ofP (fun h => ?_) (fun h => (h (by omega)).elim)
     simp (disch := omega) only [go_sem,hr,Raw.c]
     exact foldK.of rfl trivial
    ·simp (disch := omega) only [go_sem]
     rw [hacc3,hacc2,hacc]
end Go.Pv
namespace Go.Pv
@[go_sem] theorem typc_len (t : Typ) : t.c.length = 10 := rfl
@[go_sem] theorem memc_len (t : Mem) : t.c.length = 13 := rfl
@[go_sem] theorem symc_len (t : Sym) : t.c.length = 2 := rfl
open Classical in
noncomputable def szV (cs : List PV) : Int := if h : ∃ n,VOk n cs then szN (Classical.choose h) cs else 0
theorem r282v {cs : List PV} (h : ∃ n,VOk n cs) : res A PrA 282 [.agg cs] = some [.int .i64 (szV cs)] := by
 unfold szV
 rw [dif_pos h]
 exact r282 _ cs (Classical.choose_spec h)
noncomputable def fewM (acc : Int) (m : Mem) : Int := wr (wr (acc + szV m.dflt.c) + m.name.size)
noncomputable def fewT (acc : Int) (t : Typ) : Int := (t.mems.take 100).foldl fewM (wr (wr (wr (acc + t.mems.length) + t.syms.length) + t.name.size))
noncomputable def few (l : List Typ) : Bool := decide ((l.length : Int) ≤ 40) && decide (l.foldl fewT 0 ≤ 400)
set_option maxHeartbeats 4000000 in
theorem r266 (u : Nat) (l : List Typ) (ho : ∀ t ∈ l,t.ok) : res A PrA 266 [.agg [.lst u (l.map Typ.c)]] = some [.bool (few l)] := by
 refine res_of a266 rfl rfl ?_
 simp only [F266]; try delta sS tT zZ nN gG bB pZ
 simp (disch := omega) only [go_sem]
 refine Br.ofP (fun h40 => ?_) (fun h40 => ?_) <;> simp (disch := omega) only [go_sem,h40]
 ·have : ¬ (l.length : Int) ≤ 40 := by omega
  simp [few,this]
 refine W.fold l fewT 0 (fun k acc => ⟨[(1,.ptr 1 0),(3,.pv (.int .i64 acc)),(4,.pv (.int .i64 k))],⟨[(1,[.pv (.lst u (l.map Typ.c))])],[],[]⟩⟩) (fun _ _ => True) rfl trivial (fun k t acc ht hk _ _ => ?_) (fun acc hacc _ => ?_)
 ·obtain ⟨⟨_,t2,_⟩,⟨t3,t4⟩,_,t5⟩ := ho t (List.mem_of_getElem? ht)
  unfold strOk at t2
  unfold lenOk at t3 t4
  simp (disch := omega) only [go_sem]
  refine Br.ofP (fun h => ?_) (fun h => (h (by omega)).elim)
  simp (disch := omega) only [go_sem,ht,Typ.c]
  refine W.fold (t.mems.take 100) fewM (wr (wr (wr (acc + t.mems.length) + t.syms.length) + t.name.size)) (fun j n => ⟨[(1,.ptr 1 0),(3,.pv (.int .i64 n)),(4,.pv (.int .i64 k)),(5,.ptr 5 0),(6,.pv (.int .i64 j))],⟨[(1,[.pv (.lst u (l.map Typ.c))]),(5,t.c.map .pv)],[],[]⟩⟩) (fun _ _ => True) rfl trivial (fun j m n hm hj _ _ => ?_) (fun n hn _ => ?_)
  ·have hj' : j < 100 ∧ j < t.mems.length := by rw [List.length_take] at hj; omega
   have hm : t.mems[j]? = some m := by
    rw [List.getElem?_take,if_pos hj'.1] at hm
    exact hm
   obtain ⟨_,m2,_,m3⟩ := t5 m (List.mem_of_getElem? hm)
   unfold strOk at m2
   have hsz := r282v m3
   generalize hz : szV m.dflt.c = z at hsz
   unfold Val.c at hsz
   unfold Typ.c
   simp (disch := omega) only [go_sem,List.map_cons,List.map_nil]
   refine Br.ofP (fun c => ?_) (fun c => (c (by omega)).elim)
   simp (disch := omega) only [go_sem,c]
   refine Br.ofP (fun c2 => ?_) (fun c2 => (c2 (by omega)).elim)
   simp (disch := omega) only [go_sem,hm,Mem.c,hsz]
   refine foldK.of ?_ trivial
   show _ = St.mk _ _
   unfold fewM
   rw [hz]
   rfl
  ·have hlen : ¬ ((t.mems.take 100).length < 100 ∧ (t.mems.take 100).length < t.mems.length) := by rw [List.length_take]; omega
   have hle : (t.mems.take 100).length ≤ t.mems.length := by rw [List.length_take]; omega
   have hl1 : (t.mems.take 100).length ≤ 100 := by rw [List.length_take]; omega
   generalize (t.mems.take 100).length = j at hlen hle hl1
   unfold Typ.c
   simp (disch := omega) only [go_sem,List.map_cons,List.map_nil]
   have fin : (⟨[(1,.ptr 1 0),(3,.pv (.int .i64 n)),(4,.pv (.int .i64 (k + 1)))],⟨[(1,[.pv (.lst u (l.map Typ.c))])],[],[]⟩⟩ : St) = ⟨[(1,.ptr 1 0),(3,.pv (.int .i64 (fewT acc t))),(4,.pv (.int .i64 ((k + 1 : Nat) : Int)))],⟨[(1,[.pv (.lst u (l.map Typ.c))])],[],[]⟩⟩ := by
    rw [hn]
    rfl
   refine Br.ofP (fun c => ?_) (fun c => ?_) <;> simp (disch := omega) only [go_sem,c]
   ·refine Br.ofP (fun c2 => (hlen (by omega)).elim) (fun c2 => ?_)
    simp (disch := omega) only [go_sem,c2]
    exact foldK.of fin trivial
   ·exact foldK.of fin trivial
 ·simp (disch := omega) only [go_sem]
  have h4 : (l.length : Int) ≤ 40 := by omega
  simp [few,h4,hacc]
end Go.Pv
namespace Go.Pv
def outs (es : List Edge) (v : Int) : List Int := (es.filter fun e => e.fr == v).map (·.to)
def Auto.from (a : Auto) (s : Int) : List Int := bfs (outs a.edges) a.states.toNat 0 [s]
def Auto.order (a : Auto) : List Int := a.from a.start
def Auto.inr (a : Auto) (v : Int) : Prop := 0 ≤ v ∧ v < a.states
def Edge.ren (o : List Int) (e : Edge) : Edge := ⟨atL e.fr o,e.send,e.label,atL e.to o⟩
def Auto.proper (a : Auto) : Bool := a.order.all fun v => (a.from v).any fun w => isEnd w a.edges
end Go.Pv
namespace Go.Pv
end Go.Pv
namespace Go.Pv
end Go.Pv
namespace Go.Pv
theorem take_step {α : Type} {a b : List α} {k : Nat} {x y : α} (hx : a[k]? = some x) (hy : b[k]? = some y) (h : a.take k = b.take k) (e : x = y) : a.take (k + 1) = b.take (k + 1) := by
 rw [List.take_add_one,List.take_add_one,hx,hy,h,e]
theorem takes_all {α : Type} {a b : List α} {k : Nat} (ha : a.length ≤ k) (hb : b.length ≤ k) (h : a.take k = b.take k) : a = b := by
 rwa [List.take_of_length_le ha,List.take_of_length_le hb] at h
end Go.Pv
namespace Go.Pv
end Go.Pv
namespace Go.Pv
end Go.Pv
namespace Go.Pv
theorem edge_ext {a b : Edge} (h1 : a.fr = b.fr) (h2 : a.send = b.send) (h3 : a.label = b.label) (h4 : a.to = b.to) : a = b := by
 cases a; cases b; simp_all
theorem edge_dec (a b : Edge) : (decide (a.fr = b.fr) && (decide (a.send = b.send) && (decide (a.label = b.label) && decide (a.to = b.to)))) = decide (a = b) := by
 by_cases h : a = b
 ·subst h; simp
 ·have : ¬ (a.fr = b.fr ∧ a.send = b.send ∧ a.label = b.label ∧ a.to = b.to) := fun ⟨h1,h2,h3,h4⟩ => h (edge_ext h1 h2 h3 h4)
  simp only [h,decide_false,Bool.and_eq_false_iff,decide_eq_false_iff_not]
  by_cases h1 : a.fr = b.fr <;> by_cases h2 : a.send = b.send <;> by_cases h3 : a.label = b.label <;> by_cases h4 : a.to = b.to <;> simp_all
set_option maxHeartbeats 1000000 in
@[go_sem] theorem r15 (t u : Nat) (a b : Auto) (ha : a.edges.length ≤ 2 ^ 63 - 1) (hb : b.edges.length ≤ 2 ^ 63 - 1) : res A PrA 15 [.agg [.int .i64 a.states,.int .i64 a.start,.lst t (a.edges.map Edge.c)],.agg [.int .i64 b.states,.int .i64 b.start,.lst u (b.edges.map Edge.c)]] = some [.bool (decide (a = b))] := by
 refine res_of a15 rfl rfl ?_
 simp only [F15]; try delta sS tT zZ nN gG bB pZ
 simp (disch := omega) only [go_sem]
 refine Br.ofP (fun h1 => ?_) (fun h1 => ?_) <;> simp (disch := omega) only [go_sem,h1]
 case refine_2 =>
  have : ¬ a = b := fun e => h1 (by rw [e])
  simp [this]
 refine Br.ofP (fun h2 => ?_) (fun h2 => ?_) <;> simp (disch := omega) only [go_sem,h2]
 case refine_2 =>
  have : ¬ a = b := fun e => h2 (by rw [e])
  simp [this]
 refine Br.ofP (fun h3 => ?_) (fun h3 => ?_) <;> simp (disch := omega) only [go_sem,h3]
 case refine_2 =>
  have : ¬ a = b := fun e => h3 (by rw [e])
  simp [this]
 refine W.upto a.edges.length (fun k => ⟨[(2,.ptr 2 0),(3,.ptr 3 0),(5,.pv (.int .i64 k))],⟨[(2,[.pv (.int .i64 b.states),.pv (.int .i64 b.start),.pv (.lst t (a.edges.map Edge.c))]),(3,[.pv (.int .i64 b.states),.pv (.int .i64 b.start),.pv (.lst u (b.edges.map Edge.c))])],[],[]⟩⟩) (fun k => a.edges.take k = b.edges.take k) rfl rfl fun k hk hi => ?_
 simp (disch := omega) only [go_sem]
 refine Br.ofP (fun g => ?_) (fun g => ?_)
 ·obtain ⟨x,hx⟩ := get_at (l := a.edges) (k := k) (by omega)
  obtain ⟨y,hy⟩ := get_at (l := b.edges) (k := k) (by omega)
  simp (disch := omega) only [go_sem,hx,hy,edge_dec]
  refine Br.ofP (fun f => ?_) (fun f => ?_) <;> simp (disch := omega) only [go_sem,f]
  ·exact .of (by omega) rfl (take_step hx hy hi f)
  ·have : ¬ a = b := fun e => f (by rw [e,hy] at hx; exact (Option.some.inj hx).symm)
   simp [this]
 ·simp (disch := omega) only [go_sem]
  have h4 := takes_all (k := k) (by omega) (by omega) hi
  have : a = b := by cases a; cases b; simp_all
  simp [this]
end Go.Pv
namespace Go.Pv
structure Arc where
 fr : Int
 act : Int
 to : Int
 deriving DecidableEq,Inhabited
structure Draft where
 n : Int
 arcs : List Arc
 deriving DecidableEq,Inhabited
def Arc.c (x : Arc) : List PV := [.int .u8 x.fr,.int .u8 x.act,.int .u8 x.to]
def Arc.ok (x : Arc) : Prop := (0 ≤ x.fr ∧ x.fr ≤ 255) ∧ (0 ≤ x.act ∧ x.act ≤ 255) ∧ (0 ≤ x.to ∧ x.to ≤ 255)
def Draft.ok (d : Draft) : Prop := (0 ≤ d.n ∧ d.n ≤ 255) ∧ d.arcs.length ≤ 2 ^ 63 - 1 ∧ ∀ x ∈ d.arcs,x.ok
def Arc.edge (st : Int) (x : Arc) : Edge := ⟨x.fr % st,decide (x.act % 2 = 1),1 + x.act / 2 % 3,x.to % st⟩
def addE (es : List Edge) (e : Edge) : List Edge := if (nextE e.fr e.send e.label es).isSome = true then es else es ++ [e]
def Draft.raw (d : Draft) : List Edge := (d.arcs.take 12).foldl (fun es x => addE es (x.edge (1 + d.n % 4))) []
def Draft.auto (d : Draft) : Auto := ⟨1 + d.n % 4,0,sortB Edge.lt d.raw⟩
end Go.Pv
namespace Go.Pv
attribute [go_sem] wrap_u8
end Go.Pv
namespace Go.Pv
end Go.Pv
namespace Go.Pv
end Go.Pv
namespace Go.Pv
end Go.Pv
namespace Go.Pv
def actC (x : Bool × Int) : List PV := [.bool x.1,.int .i64 x.2]
@[go_sem] theorem actC_eq (x : Bool × Int) : actC x = [.bool x.1,.int .i64 x.2] := rfl
end Go.Pv
namespace Go.Pv
def prs (l : List (Int × Int)) : List (List PV) := l.map fun x => [.int .i64 x.1,.int .i64 x.2]
@[go_sem] theorem prs_nil : prs [] = [] := rfl
end Go.Pv
namespace Go.Pv
end Go.Pv
namespace Go.Pv
def OwnL (ars : List Arr) (x : V) (l : List Int) : Prop :=
 ((x = .tl [] ∨ x = .pv (.lst 0 [])) ∧ l = []) ∨ ∃ id ver,x = .own (id + 1) ver 0 l.length ∧ l ≠ [] ∧ ars[id]? = some ⟨ver,1,.inl (ints l)⟩
structure Lists (n : Nat) (s : List (List Int)) (xs : List V) (ars : List Arr) : Prop where
 xl : xs.length = n
 sl : s.length = n
 own : ∀ (v : Nat) (x : V) (l : List Int),xs[v]? = some x → s[v]? = some l → OwnL ars x l
 dis : ∀ (v w : Nat) (x y : V) (i : Nat),xs[v]? = some x → xs[w]? = some y → ownId x = some i → ownId y = some i → v = w
def rowsV (xs : List V) : List (List V) := xs.map fun x => [x]
theorem rowsV_made (n : Nat) : sameRows n [.tl []] = .inr (rowsV (List.replicate n (.tl []))) := by
 simp [sameRows,mapO,V.purec,rowsV]
attribute [go_sem] rowsV_made
end Go.Pv
namespace Go.Pv
end Go.Pv
