/-
 What the functions of the law give.
-/
import Derived.Test.YtcdmmccepnbnhaaGreatDoorC4
set_option linter.unusedSimpArgs false
set_option linter.unusedVariables false
namespace Go.Pv
section
variable {α μ : Type}
inductive Run (mv : α → List (μ × α)) : α → List μ → α → Prop
 | nil (c : α) : Run mv c [] c
 | cons {c d e : α} {l : List μ} {m : μ} : (m,d) ∈ mv c → Run mv d l e → Run mv c (m :: l) e
theorem Run.snoc {mv : α → List (μ × α)} {c d e : α} {l : List μ} {m : μ} (h : Run mv c l d) (hm : (m,e) ∈ mv d) : Run mv c (l ++ [m]) e := by
 induction h with
 | nil => exact .cons hm (.nil _)
 | cons h1 _ ih => exact .cons h1 (ih hm)
theorem Stp.run {mv : α → List (μ × α)} {c e : α} {l : List μ} (h : Stp mv c l e) : Run mv c l e := by
 induction h with
 | nil => exact .nil _
 | snoc _ hm ih => exact ih.snoc hm
theorem Stp.head {mv : α → List (μ × α)} {c d e : α} {l : List μ} {m : μ} (hm : (m,d) ∈ mv c) (h : Stp mv d l e) : Stp mv c (m :: l) e := by
 induction h with
 | nil => exact Stp.snoc (l := []) (.nil _) hm
 | snoc _ h2 ih => exact Stp.snoc (l := m :: _) ih h2
theorem Run.stp {mv : α → List (μ × α)} {c e : α} {l : List μ} (h : Run mv c l e) : Stp mv c l e := by
 induction h with
 | nil => exact .nil _
 | cons hm _ ih => exact .head hm ih
end
structure Spc (a b : Auto) (cap : Int) (s : Cfg) (p : Cfg → Prop) (out : List Nd) : Prop where
 fnd : Fnd (mvC a b cap) s out out.length
 all : ∀ x ∈ out,p x.c
def rowsN (a b : Auto) (cap : Int) (out : List Nd) : List (List Int) := out.map fun x => (sucC a b cap x.c).map (posZ out)
variable {a b : Auto} {cap : Int} {s : Cfg} {p : Cfg → Prop} {out : List Nd}
theorem posZ_at (hn : (out.map Nod.c).Nodup) {z : Nat} {y : Nd} (hy : out[z]? = some y) : posZ out y.c = (z : Int) := by
 unfold posZ
 rw [pos_at hn hy]
 rfl
theorem Spc.closed (h : Spc a b cap s p out) {i : Nat} {x : Nd} (hx : out[i]? = some x) {d : Cfg} (hd : d ∈ sucC a b cap x.c) : ∃ (j : Nat) (y : Nd),out[j]? = some y ∧ y.c = d ∧ posZ out d = (j : Int) := by
 obtain ⟨j,y,h1,h2,_⟩ := h.fnd.dn i x (List.getElem?_eq_some_iff.1 hx).1 hx d (by rw [mvC_suc]; exact hd)
 exact ⟨j,y,h1,h2,by rw [← h2]; exact posZ_at h.fnd.nd h1⟩
theorem rowsN_len : (rowsN a b cap out).length = out.length := by simp [rowsN]
theorem Spc.inR (h : Spc a b cap s p out) : ∀ l ∈ rowsN a b cap out,∀ z ∈ l,0 ≤ z ∧ z < ((rowsN a b cap out).length : Int) := fun l hl z hz => by
 rw [rowsN_len]
 obtain ⟨x,hx,rfl⟩ := List.mem_map.1 hl
 obtain ⟨d,hd,rfl⟩ := List.mem_map.1 hz
 obtain ⟨i,hi⟩ := mem_get hx
 obtain ⟨j,y,h1,h2,h3⟩ := h.closed hi hd
 have := (List.getElem?_eq_some_iff.1 h1).1
 omega
def doneC (a b : Auto) (cap : Int) (c : Cfg) : Bool := doneB a b cap c.a c.b c.toA c.toB
def dnN (a b : Auto) (cap : Int) (out : List Nd) : List Int := doneUp (doneAt a b cap (out.map Nod.c)) out.length
def rkN (a b : Auto) (cap : Int) (out : List Nd) : List Int := ranksC (rowsN a b cap out) (dnN a b cap out)
theorem dnN_mem {i : Nat} {x : Nd} (hx : out[i]? = some x) : (i : Int) ∈ dnN a b cap out ↔ doneC a b cap x.c = true := by
 have hi := (List.getElem?_eq_some_iff.1 hx).1
 have hc : (out.map Nod.c)[i]? = some x.c := by rw [List.getElem?_map,hx]; rfl
 unfold dnN
 rw [doneUp_mem]
 constructor
 ·rintro ⟨j,_,h2,h3⟩
  obtain rfl : i = j := by omega
  unfold doneAt at h2
  rw [hc] at h2
  exact h2
 ·intro h
  refine ⟨i,hi,?_,rfl⟩
  unfold doneAt
  rw [hc]
  exact h
theorem Spc.dist (h : Spc a b cap s p out) : Dist out.length (edR (rowsN a b cap out)) (dnN a b cap out) (rkN a b cap out) := by
 have := ranks_dist (dn := dnN a b cap out) h.inR (fun x hx => by
  obtain ⟨i,h1,_,rfl⟩ := doneUp_mem.1 hx
  rw [rowsN_len]
  omega)
 rwa [rowsN_len] at this
theorem Spc.ed (h : Spc a b cap s p out) {i j : Nat} {x y : Nd} (hx : out[i]? = some x) (hy : out[j]? = some y) (hd : y.c ∈ sucC a b cap x.c) : edR (rowsN a b cap out) (i : Int) (j : Int) := by
 refine ⟨by omega,?_⟩
 rw [Int.toNat_natCast]
 have : (rowsN a b cap out).getD i [] = (sucC a b cap x.c).map (posZ out) := by simp [rowsN,hx]
 rw [this,← posZ_at h.fnd.nd hy]
 exact List.mem_map.2 ⟨_,hd,rfl⟩
theorem Spc.ed_inv (h : Spc a b cap s p out) {i : Nat} {x : Nd} {u : Int} (hx : out[i]? = some x) (he : edR (rowsN a b cap out) (i : Int) u) : ∃ (j : Nat) (y : Nd) (m : Mov),u = (j : Int) ∧ out[j]? = some y ∧ (m,y.c) ∈ mvC a b cap x.c := by
 obtain ⟨_,h2⟩ := he
 rw [Int.toNat_natCast] at h2
 have : (rowsN a b cap out).getD i [] = (sucC a b cap x.c).map (posZ out) := by simp [rowsN,hx]
 rw [this] at h2
 obtain ⟨d,hd,rfl⟩ := List.mem_map.1 h2
 obtain ⟨j,y,h3,h4,h5⟩ := h.closed hx hd
 rw [← mvC_suc] at hd
 obtain ⟨w,hw,hwd⟩ := List.mem_map.1 hd
 exact ⟨j,y,w.1,h5,h3,by rw [h4,← hwd]; exact hw⟩
theorem Spc.rank_le (h : Spc a b cap s p out) {c d : Cfg} {l : List Mov} (hr : Run (mvC a b cap) c l d) (hd : doneC a b cap d = true) : ∀ {i : Nat} {x : Nd},out[i]? = some x → x.c = c → 0 ≤ (rkN a b cap out).getD i (-1) ∧ (rkN a b cap out).getD i (-1) ≤ l.length := by
 have hD := h.dist
 induction hr with
 | nil c =>
  intro i x hx hc
  have hi := (List.getElem?_eq_some_iff.1 hx).1
  have := (hD.zero (i : Int) (by omega) (by omega)).2 ((dnN_mem hx).2 (by rw [hc]; exact hd))
  rw [Int.toNat_natCast] at this
  rw [this]
  exact ⟨by omega,by simp⟩
 | @cons c e d l m hm _ ih =>
  intro i x hx hc
  have hi := (List.getElem?_eq_some_iff.1 hx).1
  subst hc
  have hs : e ∈ sucC a b cap x.c := by rw [← mvC_suc]; exact List.mem_map.2 ⟨_,hm,rfl⟩
  obtain ⟨j,y,h1,h2,h3⟩ := h.closed hx hs
  have hj := (List.getElem?_eq_some_iff.1 h1).1
  obtain ⟨g1,g2⟩ := ih hd h1 h2
  have := hD.step (i : Int) (j : Int) (h.ed hx h1 (by rw [h2]; exact hs)) ⟨by omega,by omega,by omega,by omega⟩ (by rw [Int.toNat_natCast]; exact g1)
  rw [Int.toNat_natCast,Int.toNat_natCast] at this
  refine ⟨this.1,?_⟩
  rw [List.length_cons]
  omega
theorem Spc.rank_run (h : Spc a b cap s p out) : ∀ (k : Nat) {i : Nat} {x : Nd},out[i]? = some x → (rkN a b cap out).getD i (-1) = (k : Int) → ∃ (l : List Mov) (d : Cfg),Run (mvC a b cap) x.c l d ∧ doneC a b cap d = true ∧ l.length = k
 | 0,i,x,hx,hk => by
  have hi := (List.getElem?_eq_some_iff.1 hx).1
  have := (h.dist.zero (i : Int) (by omega) (by omega)).1 (by rw [Int.toNat_natCast]; exact hk)
  exact ⟨[],x.c,.nil _,(dnN_mem hx).1 this,rfl⟩
 | k + 1,i,x,hx,hk => by
  have hi := (List.getElem?_eq_some_iff.1 hx).1
  obtain ⟨u,u1,u2,u3,u4⟩ := h.dist.back (i : Int) (by omega) (by omega) (by rw [Int.toNat_natCast]; omega)
  obtain ⟨j,y,m,rfl,hy,hm⟩ := h.ed_inv hx u1
  rw [Int.toNat_natCast,Int.toNat_natCast] at u4
  obtain ⟨l,d,h1,h2,h3⟩ := h.rank_run k hy (by omega)
  exact ⟨m :: l,d,.cons hm h1,h2,by rw [List.length_cons,h3]⟩
end Go.Pv
namespace Go.Pv
def sendsB (st : Int) (es : List Edge) : Bool := es.any fun e => decide (e.fr = st) && e.send
def blockB (a : Auto) (st : Int) (ch : List Int) : Bool := match ch with
 | [] => false
 | x :: _ => (nextE st false x a.edges).isNone && !sendsB st a.edges
def kindB (a b : Auto) (x y : Int) (l m : List Int) (n : Nat) : Int := if (isEnd x a.edges && isEnd y b.edges) = true then 2 else if (blockB a x l || blockB b y m) = true then 1 else if n = 0 then 3 else 4
theorem r258 (t : Nat) (e : Edge) (s : Int) : res A PrA 258 [.agg [.int .i64 e.fr,.bool e.send,.int .i64 e.label,.int .i64 e.to],.ro t [.int .i64 s]] = some [.bool (decide (e.fr = s) && e.send)] := by
 refine res_of a258 rfl rfl ?_
 simp only [F258]; try delta sS tT zZ nN gG bB pZ
 by_cases h : e.fr = s
 ·simp (disch := omega) only [go_sem,h]
 ·simp (disch := omega) only [go_sem,h]
theorem r180s (t u : Nat) (l : List Edge) (s : Int) (hl : l.length ≤ 2 ^ 63 - 1) : res A PrA 180 [.lst t (l.map Edge.c),.func 258 [.ro u [.int .i64 s]]] = some [.bool (sendsB s l)] := by
 refine res_of a180 rfl rfl ?_
 simp only [F180]; try delta sS tT zZ nN gG bB pZ
 have h77 := r77 258 t u [.int .i64 s] l (fun e => decide (e.fr = s) && e.send) hl (by kernel_rfl) (by kernel_rfl) (by kernel_rfl) (fun e _ => r258 u e s)
 have e1 : edgs l = l.map Edge.c := rfl
 rw [e1] at h77
 simp (disch := omega) only [go_sem,h77]
 rw [idxP_pos]
 rfl
theorem r255 (t u : Nat) (a : Auto) (s : Int) (l : List Int) (hl : a.edges.length ≤ 2 ^ 63 - 1) : res A PrA 255 [.agg [.int .i64 a.states,.int .i64 a.start,.lst t (a.edges.map Edge.c)],.int .i64 s,.lst u (ints l)] = some [.bool (blockB a s l)] := by
 refine res_of a255 rfl rfl ?_
 simp only [F255]; try delta sS tT zZ nN gG bB pZ
 have h180 := fun t u => r180s t u a.edges s hl
 cases l with
 | nil =>
  simp (disch := omega) only [go_sem,ints_nil]
  refine Br.ofP (fun _ => ?_) (fun h => (h rfl).elim)
  simp (disch := omega) only [go_sem]
  rfl
 | cons x l =>
  have h45 := r45 t a s false x hl
  obtain ⟨L,hL⟩ : ∃ L,L = x :: l := ⟨_,rfl⟩
  have hx : L[0]? = some x := by rw [hL]; rfl
  have hl1 : 0 < L.length := by rw [hL]; simp
  rw [← hL]
  simp (disch := omega) only [go_sem]
  refine Br.ofP (fun h => by omega) (fun h => ?_)
  cases hn : nextE s false x a.edges with
  | none =>
   rw [hn] at h45
   simp only [Option.isSome_none,Option.getD_none] at h45
   have hB : blockB a s L = !sendsB s a.edges := by rw [hL]; simp [blockB,hn]
   rw [hB]
   simp (disch := omega) only [go_sem,idxR_int,hx,h45,h180]
  | some y =>
   rw [hn] at h45
   simp only [Option.isSome_some,Option.getD_some] at h45
   have hB : blockB a s L = false := by rw [hL]; simp [blockB,hn]
   rw [hB]
   simp (disch := omega) only [go_sem,idxR_int,hx,h45]
theorem endsTo_mem (es : List Edge) (x : Int) : ∀ k,x ∈ endsTo es k ↔ (0 ≤ x ∧ x < (k : Int)) ∧ isEnd x es = true
 | 0 => by
  simp only [endsTo,List.not_mem_nil,false_iff]
  omega
 | k + 1 => by
  unfold endsTo
  have ih := endsTo_mem es x k
  by_cases h : isEnd (k : Int) es = true
  ·rw [if_pos h,List.mem_append,ih,List.mem_singleton]
   constructor
   ·rintro (⟨h1,h2⟩ | rfl)
    ·exact ⟨by omega,h2⟩
    ·exact ⟨by omega,h⟩
   ·rintro ⟨h1,h2⟩
    by_cases e : x = (k : Int)
    ·exact .inr e
    ·exact .inl ⟨by omega,h2⟩
  ·rw [if_neg h,ih]
   constructor
   ·rintro ⟨h1,h2⟩
    exact ⟨by omega,h2⟩
   ·rintro ⟨h1,h2⟩
    by_cases e : x = (k : Int)
    ·rw [e] at h2
     exact (h h2).elim
    ·exact ⟨by omega,h2⟩
theorem ends_in {a : Auto} {x : Int} (hs : a.states ≤ 12) (hx : 0 ≤ x ∧ x < a.states) : decide (x ∈ a.ends) = isEnd x a.edges := by
 unfold Auto.ends
 rw [if_pos hs]
 have := endsTo_mem a.edges x a.states.toNat
 cases h : isEnd x a.edges with
 | true => exact decide_eq_true (this.2 ⟨by omega,h⟩)
 | false =>
  refine decide_eq_false fun hm => ?_
  have := (this.1 hm).2
  rw [h] at this
  cases this
set_option maxHeartbeats 2000000 in
theorem r250 (t1 t2 t3 t4 t5 : Nat) (a b : Auto) (cap : Int) (x y : Int) (l m : List Int) (ms : List (List PV)) (hsa : a.states ≤ 12) (hsb : b.states ≤ 12) (hx : 0 ≤ x ∧ x < a.states) (hy : 0 ≤ y ∧ y < b.states) (ha : a.edges.length ≤ 2 ^ 63 - 1) (hb : b.edges.length ≤ 2 ^ 63 - 1) : res A PrA 250 [.agg [.int .i64 a.states,.int .i64 a.start,.lst t1 (a.edges.map Edge.c),.int .i64 b.states,.int .i64 b.start,.lst t2 (b.edges.map Edge.c),.int .i64 cap],.agg [.int .i64 x,.int .i64 y,.lst t3 (ints l),.lst t4 (ints m)],.lst t5 ms] = some [.int .i64 (kindB a b x y l m ms.length)] := by
  refine res_of a250 rfl rfl ?_
  simp only [F250]; try delta sS tT zZ nN gG bB pZ
  have ea := ends_len a
  have eb := ends_len b
  have i1 := ends_in hsa hx
  have i2 := ends_in hsb hy
  have h255a := r255 t1 t3 a x l ha
  have h255b := r255 t2 t4 b y m hb
  simp (disch := omega) only [go_sem,i1]
  have key : ∀ v : Int,v = kindB a b x y l m ms.length → some [PV.int .i64 v] = some [PV.int .i64 (kindB a b x y l m ms.length)] := fun v hv => by rw [hv]
  cases h1 : isEnd x a.edges <;> cases h2 : isEnd y b.edges <;> cases h3 : blockB a x l <;> cases h4 : blockB b y m <;> simp (disch := omega) only [go_sem,h255a,h255b,i2,h2,h3,h4]
  all_goals first
    | (refine key _ ?_; simp [kindB,h1,h2,h3,h4]; done)
    | (refine Br.ofP (fun hz => ?_) (fun hz => ?_)
       · have hz2 : ms.length = 0 := by omega
         simp (disch := omega) only [go_sem]
         refine key _ ?_
         simp [kindB,h1,h2,h3,h4,hz2]
       · have hz2 : ms.length ≠ 0 := by omega
         simp (disch := omega) only [go_sem]
         refine key _ ?_
         simp [kindB,h1,h2,h3,h4,hz2])
end Go.Pv
namespace Go.Pv
def revK (l : List Mov) (k : Nat) : List Mov := (List.range l.length).map fun p => if p < k ∨ l.length ≤ p + k then l.getD (l.length - 1 - p) default else l.getD p default
theorem revK_len (l : List Mov) (k : Nat) : (revK l k).length = l.length := by simp [revK]
theorem revK_get {l : List Mov} {k p : Nat} (h : p < l.length) : (revK l k)[p]? = some (if p < k ∨ l.length ≤ p + k then l.getD (l.length - 1 - p) default else l.getD p default) := by simp [revK,h]
theorem revK_zero (l : List Mov) : revK l 0 = l := by
 apply List.ext_getElem?
 intro p
 rcases Nat.lt_or_ge p l.length with h | h
 ·rw [revK_get h,if_neg (by omega),List.getElem?_eq_getElem h]
  simp [h]
 ·rw [List.getElem?_eq_none (by rw [revK_len]; exact h),List.getElem?_eq_none h]
theorem revK_succ {l : List Mov} {k : Nat} (h : k + k + 1 < l.length) : ((revK l k).set k (l.getD (l.length - 1 - k) default)).set (l.length - 1 - k) (l.getD k default) = revK l (k + 1) := by
 apply List.ext_getElem?
 intro p
 rcases Nat.lt_or_ge p l.length with hp | hp
 ·rw [revK_get hp]
  by_cases e1 : l.length - 1 - k = p
  ·subst e1
   rw [List.getElem?_set_self (by rw [List.length_set,revK_len]; exact hp),if_pos (by omega)]
   congr 2
   omega
  ·rw [List.getElem?_set_ne e1]
   by_cases e2 : k = p
   ·subst e2
    rw [List.getElem?_set_self (by rw [revK_len]; exact hp),if_pos (by omega)]
   ·rw [List.getElem?_set_ne e2,revK_get hp]
    by_cases c : p < k ∨ l.length ≤ p + k
    ·rw [if_pos c,if_pos (by omega)]
    ·rw [if_neg c,if_neg (by omega)]
 ·rw [List.getElem?_eq_none (by simp [revK_len,hp]),List.getElem?_eq_none (by rw [revK_len]; exact hp)]
theorem revK_end {l : List Mov} {k : Nat} (h : l.length ≤ k + k + 1) : revK l k = l.reverse := by
 apply List.ext_getElem?
 intro p
 rcases Nat.lt_or_ge p l.length with hp | hp
 ·rw [revK_get hp,List.getElem?_reverse hp]
  have hq : l.length - 1 - p < l.length := by omega
  have e : l.getD (l.length - 1 - p) default = l[l.length - 1 - p] := by simp [hq]
  rw [List.getElem?_eq_getElem hq,← e]
  by_cases c : p < k ∨ l.length ≤ p + k
  ·rw [if_pos c]
  ·rw [if_neg c]
   congr 2
   omega
 ·rw [List.getElem?_eq_none (by rw [revK_len]; exact hp),List.getElem?_eq_none (by rw [List.length_reverse]; exact hp)]
theorem mvs3_set (l : List Mov) (i : Nat) (a : Int) (b : Bool) (c : Int) : (mvs3 l).set i [.int .i64 a,.bool b,.int .i64 c] = mvs3 (l.set i ⟨a,b,c⟩) := by simp [mvs3,Mov.c,List.map_set]
theorem storeRow_mvs {id row ver : Nat} {a c : Int} {b : Bool} {r : List Mov} (h : row < r.length) : storeRow id row 0 [.pv (.int .i64 a),.pv (.bool b),.pv (.int .i64 c)] ⟨ver,3,.inl (mvs3 r)⟩ = some { ar := some (id,⟨ver,3,.inl (mvs3 (r.set row ⟨a,b,c⟩))⟩) } := by
 have h1 : row < (⟨ver,3,.inl (mvs3 r)⟩ : Arr).size := by simpa [Arr.size,mvs3] using h
 have h2 : (mvs3 r).getD row [] = (r[row]).c := by simp [mvs3,h]
 have h3 : (r[row]).c.drop 3 = [] := rfl
 simp [storeRow,h1,setBody,mapO,V.purec,PV.perm,V.calm,← mvs3_set]
 simp [mvs3,h,Mov.c]
set_option maxHeartbeats 4000000 in
theorem rev_run (v m : Nat) (l : List Mov) (hl : l.length = m + 1) (hm : m < 1000000) (Q : Ex → St → Prop) (hQ : ∀ env,Q .normal ⟨env,⟨[],[⟨v,3,.inl (mvs3 l.reverse)⟩],[]⟩⟩) : W A PrA F254.body ⟨[(0,.own 0 v 0 (m + 1))],⟨[],[⟨v,3,.inl (mvs3 l)⟩],[]⟩⟩ Q := by
 simp only [F254]; try delta sS tT zZ nN gG bB pZ
 simp (disch := omega) only [go_sem]
 refine W.upto (m + 1) (fun k => ⟨[(0,.own 0 v 0 (m + 1)),(2,.pv (.int .i64 k)),(3,.pv (.int .i64 ((m : Int) - k)))],⟨[],[⟨v,3,.inl (mvs3 (revK l k))⟩],[]⟩⟩) (fun _ => True) (by rw [revK_zero,show (((m + 1 : Nat) : Int) - 1) = (m : Int) - ((0 : Nat) : Int) by omega]; rfl) trivial fun k hk _ => ?_
 simp (disch := omega) only [go_sem]
 refine Br.ofP (fun c => ?_) (fun c => ?_)
 ·have hkl : k < l.length := by omega
  have hjl : m - k < l.length := by omega
  have h1 : (revK l k)[k]? = some (l.getD k default) := by rw [revK_get hkl,if_neg (by omega)]
  have h2 : (revK l k)[m - k]? = some (l.getD (m - k) default) := by rw [revK_get hjl,if_neg (by omega)]
  have hs := revK_succ (l := l) (k := k) (by omega)
  rw [show l.length - 1 - k = m - k by omega] at hs
  have hrl : (revK l k).length = m + 1 := by rw [revK_len,hl]
  have hti : ((m : Int) - (k : Int)).toNat = m - k := by omega
  generalize revK l k = r at *
  generalize l.getD k default = x at *
  generalize l.getD (m - k) default = y at *
  have hrl2 : (r.set k ⟨y.party,y.send,y.label⟩).length = m + 1 := by rw [List.length_set,hrl]
  simp (disch := omega) only [go_sem,h1,h2,hti,storeRow_mvs]
  refine .of (by omega) ?_ trivial
  rw [← hs,show ((m : Int) - (k : Int) - 1) = (m : Int) - ((k + 1 : Nat) : Int) by omega]
  rfl
 ·have := revK_end (l := l) (k := k) (by omega)
  rw [this]
  simp (disch := omega) only [go_sem]
  exact hQ _
theorem call254 {v : V} {bx : List (Nat × List V)} {ar : List Arr} {mp : List (List (PV × PV))} {K : V → Tn → Prop} (hv : v = .tl [] ∨ ∃ a b c d,v = .own a b c d) (h : W A PrA F254.body ⟨[(0,v)],⟨[],ar,mp⟩⟩ (inlK [] [] K)) : IW A PrA 254 [v] ⟨bx,ar,mp⟩ K := by
 rw [IW_eq a254]
 rcases hv with rfl | ⟨_,_,_,_,rfl⟩ <;> exact ⟨rfl,_,rfl,_,rfl,h⟩
set_option maxHeartbeats 4000000 in
theorem r249 (t : Nat) (s0 s1 s2 s3 s4 s5 s6 C M N : PV) (mvf : Cfg → List (Mov × Cfg)) (s : Cfg) (nodes : List Nd) (i0 : Nat) (hf : Fnd mvf s nodes i0) (hn : nodes.length ≤ 100000) (k : Nat) (x : Nd) (hx : nodes[k]? = some x) : res A PrA 249 [.ro t [s0,s1,s2,s3,s4,s5,s6,C,M,N,.lst 0 (ints (nodes.map Nod.bef)),.lst 0 (mvs3 (nodes.map Nd.mv))],.int .i64 k] = some [.lst 0 (mvs3 x.path)] := by
 refine res_of a249 rfl rfl ?_
 simp only [F249]; try delta sS tT zZ nN gG bB pZ
 have hk := (List.getElem?_eq_some_iff.1 hx).1
 simp (disch := omega) only [go_sem]
 refine W.loop (α := Nat × Nd × List Mov) (fun q => ⟨[(0,.pv (.ro t [s0,s1,s2,s3,s4,s5,s6,C,M,N,.lst 0 (ints (nodes.map Nod.bef)),.lst 0 (mvs3 (nodes.map Nd.mv))])),(1,.pv (.int .i64 q.1)),(5,grV 0 (mvs3 q.2.2))],⟨[],grA 3 (mvs3 q.2.2),[]⟩⟩)
  (fun q => nodes[q.1]? = some q.2.1 ∧ x.path = q.2.1.path ++ q.2.2.reverse ∧ q.2.2.length + q.1 ≤ k) (fun q => q.1) (k,x,[]) rfl ⟨hx,by simp,by simp⟩ fun q hq => ?_
 obtain ⟨j,y,acc⟩ := q
 obtain ⟨h1,h2,h3⟩ := hq
 dsimp only at h1 h2 h3
 have hb : (nodes.map Nod.bef)[j]? = some y.bef := by rw [List.getElem?_map,h1]; rfl
 have hm : (nodes.map Nd.mv)[j]? = some (Nd.mv y) := by rw [List.getElem?_map,h1]; rfl
 have hjl := (List.getElem?_eq_some_iff.1 h1).1
 have hbl : (nodes.map Nod.bef).length = nodes.length := List.length_map _
 have hml : (nodes.map Nd.mv).length = nodes.length := List.length_map _
 rcases Nat.eq_zero_or_pos j with h0 | h0
 ·subst h0
  rw [hf.first] at h1
  cases h1
  simp only [nod0,List.nil_append] at h2 hb hm
  have hge : decide ((-1 : Int) ≥ 0) = false := rfl
  cases acc with
  | nil =>
   simp (disch := omega) only [go_sem,hb]
   refine call254 (.inl rfl) ?_
   simp only [F254]; try delta sS tT zZ nN gG bB pZ
   simp (disch := omega) only [go_sem]
   refine W.loop (α := Unit) (fun _ => ⟨[(0,.tl []),(2,.pv (.int .i64 0)),(3,.pv (.int .i64 (-1)))],⟨[],[],[]⟩⟩) (fun _ => True) (fun _ => 0) () rfl trivial fun _ _ => ?_
   have ho : outBx (toOut []) [] outer [] = some [] := rfl
   simp (disch := omega) only [go_sem,ho]
   rw [h2]
   rfl
  | cons m0 acc =>
   simp (disch := omega) only [go_sem,hb]
   rw [grV_own (n := acc.length) (by rw [mvs3_length]; rfl),grA_own (n := acc.length) (by rw [mvs3_length]; rfl)]
   refine call254 (.inr ⟨_,_,_,_,rfl⟩) (rev_run acc.length acc.length (m0 :: acc) rfl (by simp at h3; omega) _ fun env => ?_)
   have ho : outBx (toOut []) [] outer [] = some [] := rfl
   have htk : (mvs3 (m0 :: acc).reverse).take (acc.length + 1) = mvs3 (m0 :: acc).reverse := List.take_of_length_le (by rw [mvs3_length,List.length_reverse]; exact Nat.le_refl _)
   simp (disch := omega) only [go_sem,ho,htk]
   rw [h2]
 ·obtain ⟨k2,y2,m,e1,e2,e3,e4,e5⟩ := hf.way j y h1 h0
  have hyb : y.bef = (k2 : Int) := by rw [e5]
  have hym : Nd.mv y = m := by rw [e5]; rfl
  have hyp : y.path = y2.path ++ [m] := by rw [e5]
  rw [hyb] at hb
  rw [hym] at hm
  have hal : (mvs3 acc).length ≤ 200000 := by rw [mvs3_length]; omega
  simp (disch := omega) only [go_sem,hb]
  refine Br.ofP (fun _ => ?_) (fun h => (h (by omega)).elim)
  simp (disch := omega) only [go_sem,hb,hm]
  refine ⟨(k2,y2,acc ++ [m]),⟨e3,?_,?_⟩,by dsimp only; omega,rfl⟩
  ·dsimp only
   rw [h2,hyp,List.reverse_append]
   simp
  ·dsimp only
   rw [List.length_append]
   simp
   omega
end Go.Pv
namespace Go.Pv
@[go_sem] theorem takev_ro (n t : Nat) (cs : List PV) : takev n (.ro t cs) = (.pv (.ro t cs),[]) := rfl
@[go_sem] theorem takev_nilp (n : Nat) : takev n .nilp = (.pv .nilp,[]) := rfl
theorem spc_perm (a b : Auto) (cap : Int) (out : List Nd) : (spc a b cap out).all PV.perm = true := rfl
variable {a b : Auto} {cap : Int} {s : Cfg} {p : Cfg → Prop} {out : List Nd}
theorem r246 (hp : Sp30 a b cap p) (h0 : p (cfgStart a b)) (ha : a.edges.length ≤ 1000000) (hb : b.edges.length ≤ 1000000) (hs : sysErr a b cap = 0) (hn : nodL (mvC a b cap) 5000 5002 [nod0 (cfgStart a b)] 0 = some out) : res A PrA 246 [.agg [.int .i64 a.states,.int .i64 a.start,.lst 0 (a.edges.map Edge.c),.int .i64 b.states,.int .i64 b.start,.lst 0 (b.edges.map Edge.c),.int .i64 cap]] = some [.ro 0 (spc a b cap out),.int .i64 0] := by
 refine res_of a246 rfl rfl ?_
 simp only [F246]; try delta sS tT zZ nN gG bB pZ
 have h253 := r253 a b cap (cfgStart a b) hp h0 ha hb hs
 rw [hn] at h253
 simp only [cfgStart,ints_nil] at h253
 have hd : decide (sysErr a b cap = 0) = true := decide_eq_true hs
 simp (disch := omega) only [go_sem,hd,h253,spc_perm]
structure SpcR (a b : Auto) (cap : Int) (s : Cfg) (p : Cfg → Prop) (out : List Nd) : Prop extends Spc a b cap s p out where
 sp : Sp30 a b cap p
 len : out.length ≤ 5000
 ea : a.edges.length ≤ 10000
 eb : b.edges.length ≤ 10000
theorem SpcR.rk (h : SpcR a b cap s p out) (t : Nat) : res A PrA 247 [.ro t [.int .i64 a.states,.int .i64 a.start,.lst 0 (a.edges.map Edge.c),.int .i64 b.states,.int .i64 b.start,.lst 0 (b.edges.map Edge.c),.int .i64 cap,.lst 0 (cfgs (out.map Nod.c)),.lst 0 (mvRows (out.map fun x => movesC a b cap x.c.a x.c.b x.c.toA x.c.toB)),.lst 0 (lls (out.map fun x => (sucC a b cap x.c).map (posZ out))),.lst 0 (ints (out.map Nod.bef)),.lst 0 (mvs3 (out.map Nd.mv))]] = some [.lst 0 (ints (rkN a b cap out))] := by
 have hea := h.ea
 have heb := h.eb
 have := r247 t a b cap (out.map Nod.c) (rowsN a b cap out) (.lst 0 (mvRows (out.map fun x => movesC a b cap x.c.a x.c.b x.c.toA x.c.toB))) (.lst 0 (ints (out.map Nod.bef))) (.lst 0 (mvs3 (out.map Nd.mv))) (by rw [rowsN_len,List.length_map]) (by rw [rowsN_len]; exact h.len) h.inR (fun l hl => by
  obtain ⟨x,_,rfl⟩ := List.mem_map.1 hl
  have h1 := mvsOf_len a b cap x.c.a x.c.b x.c.toA x.c.toB 0 x.c.a a.edges
  have h2 := mvsOf_len a b cap x.c.a x.c.b x.c.toA x.c.toB 1 x.c.b b.edges
  rw [List.length_map,sucC,List.length_map,movesC,List.length_append]
  omega) (fun c hc => by
  obtain ⟨x,hx,rfl⟩ := List.mem_map.1 hc
  have := h.sp.ok _ (h.all x hx)
  have h1 := this.2.2.2.2.1
  have h2 := this.2.2.2.2.2
  omega) (by omega) (by omega)
 rw [rowsN_len] at this
 exact this
theorem rkN_len (h : Spc a b cap s p out) : (rkN a b cap out).length = out.length := h.dist.len
theorem r242 (h : SpcR a b cap (cfgStart a b) p out) (h0 : p (cfgStart a b)) (hs : sysErr a b cap = 0) (hn : nodL (mvC a b cap) 5000 5002 [nod0 (cfgStart a b)] 0 = some out) : res A PrA 242 [.agg [.int .i64 a.states,.int .i64 a.start,.lst 0 (a.edges.map Edge.c),.int .i64 b.states,.int .i64 b.start,.lst 0 (b.edges.map Edge.c),.int .i64 cap]] = some [.bool (!decide ((-1 : Int) ∈ rkN a b cap out)),.int .i64 0] := by
 refine res_of a242 rfl rfl ?_
 simp only [F242]; try delta sS tT zZ nN gG bB pZ
 have hea := h.ea
 have heb := h.eb
 have h246 := r246 h.sp h0 (by omega) (by omega) hs hn
 have h247 := h.rk 0
 have hl := rkN_len h.toSpc
 have hle := h.len
 simp only [spc] at h246
 simp (disch := omega) only [go_sem,h246,h247]
def stuckR (a b : Auto) (cap : Int) (out : List Nd) : List PV := match out[(atL (-1) (rkN a b cap out)).toNat]? with
 | some x => if atL (-1) (rkN a b cap out) < 0 then [.lst 0 [],cfgP cfg0,.int .i64 0,.int .i64 15] else [.lst 0 (mvs3 x.path),cfgP x.c,.int .i64 (kindB a b x.c.a x.c.b x.c.toA x.c.toB (movesC a b cap x.c.a x.c.b x.c.toA x.c.toB).length),.int .i64 0]
 | none => []
theorem r240 (h : SpcR a b cap (cfgStart a b) p out) (h0 : p (cfgStart a b)) (hs : sysErr a b cap = 0) (hsa : a.states ≤ 12) (hsb : b.states ≤ 12) (hn : nodL (mvC a b cap) 5000 5002 [nod0 (cfgStart a b)] 0 = some out) : res A PrA 240 [.agg [.int .i64 a.states,.int .i64 a.start,.lst 0 (a.edges.map Edge.c),.int .i64 b.states,.int .i64 b.start,.lst 0 (b.edges.map Edge.c),.int .i64 cap]] = some (stuckR a b cap out) := by
 refine res_of a240 rfl rfl ?_
 simp only [F240]; try delta sS tT zZ nN gG bB pZ
 have hea := h.ea
 have heb := h.eb
 have h246 := r246 h.sp h0 (by omega) (by omega) hs hn
 have h247 := h.rk 0
 have hl := rkN_len h.toSpc
 have hle := h.len
 simp only [spc] at h246
 simp (disch := omega) only [go_sem,h246,h247]
 by_cases hi : atL (-1) (rkN a b cap out) < 0
 ·have hz : (atL (-1) (rkN a b cap out)).toNat = 0 := by omega
  have hR : stuckR a b cap out = [.lst 0 [],cfgP cfg0,.int .i64 0,.int .i64 15] := by
   unfold stuckR
   rw [hz,h.fnd.first]
   simp only
   rw [if_pos hi]
  rw [hR]
  refine Br.ofP (fun _ => ?_) (fun hh => (hh hi).elim)
  simp (disch := omega) only [go_sem]
  rfl
 ·obtain ⟨j,hj,hjg⟩ := atL_get (atL_pos.1 (Int.not_lt.1 hi))
  have hjl : j < out.length := by rw [← hl]; exact (List.getElem?_eq_some_iff.1 hjg).1
  obtain ⟨x,hx⟩ := get_at (l := out) (k := j) hjl
  have hR : stuckR a b cap out = [.lst 0 (mvs3 x.path),cfgP x.c,.int .i64 (kindB a b x.c.a x.c.b x.c.toA x.c.toB (movesC a b cap x.c.a x.c.b x.c.toA x.c.toB).length),.int .i64 0] := by
   unfold stuckR
   rw [hj,Int.toNat_natCast,hx]
   simp only
   rw [if_neg (by omega)]
  rw [hR]
  refine Br.ofP (fun hh => (hi hh).elim) (fun _ => ?_)
  have h249 := fun t => r249 t (.int .i64 a.states) (.int .i64 a.start) (.lst 0 (a.edges.map Edge.c)) (.int .i64 b.states) (.int .i64 b.start) (.lst 0 (b.edges.map Edge.c)) (.int .i64 cap) (.lst 0 (cfgs (out.map Nod.c))) (.lst 0 (mvRows (out.map fun x => movesC a b cap x.c.a x.c.b x.c.toA x.c.toB))) (.lst 0 (lls (out.map fun x => (sucC a b cap x.c).map (posZ out)))) (mvC a b cap) (cfgStart a b) out out.length h.fnd (by omega) j x hx
  have hcg : (cfgs (out.map Nod.c))[j]? = some [.int .i64 x.c.a,.int .i64 x.c.b,.lst 0 (ints x.c.toA),.lst 0 (ints x.c.toB)] := by rw [cfgs_get,List.getElem?_map,hx]; rfl
  have hmg : (mvRows (out.map fun x => movesC a b cap x.c.a x.c.b x.c.toA x.c.toB))[j]? = some [.lst 0 (mvs3 (movesC a b cap x.c.a x.c.b x.c.toA x.c.toB))] := by simp [mvRows,hx]
  have hmr : (mvRows (out.map fun x => movesC a b cap x.c.a x.c.b x.c.toA x.c.toB)).length = out.length := by simp [mvRows]
  have hcr : (out.map Nod.c).length = out.length := List.length_map _
  obtain ⟨_,f1,f2,_⟩ := fitsB_iff.1 (h.sp.fit _ (h.all x (List.mem_of_getElem? hx)))
  have h250 := r250 0 0 0 0 0 a b cap x.c.a x.c.b x.c.toA x.c.toB (mvs3 (movesC a b cap x.c.a x.c.b x.c.toA x.c.toB)) hsa hsb f1 f2 (by omega) (by omega)
  rw [mvs3_length] at h250
  rw [hj]
  simp (disch := omega) only [go_sem,h249,hcg,hmg,h250]
end Go.Pv
namespace Go.Pv
end Go.Pv
namespace Go.Pv
variable {a b : Auto} {cap : Int} {s : Cfg} {p : Cfg → Prop} {out : List Nd}
end Go.Pv
namespace Go.Pv
variable {a b : Auto} {cap : Int} {s : Cfg} {p : Cfg → Prop} {out : List Nd}
end Go.Pv
namespace Go.Pv
structure Few (a b : Auto) (cap : Int) (p : Cfg → Prop) (U : List Cfg) : Prop where
 sp : Sp30 a b cap p
 len : U.length ≤ 5000
 all : ∀ c,p c → c ∈ U
theorem bfsL_len {α : Type} [DecidableEq α] {succ : α → List α} {lim : Nat} : ∀ {n : Nat} {o o' : List α} {i : Nat},o.length ≤ lim → bfsL succ lim n o i = some o' → o'.length ≤ lim
 | 0,_,_,_,_,h => by cases h
 | n + 1,o,o',i,hl,h => by
  unfold bfsL at h
  split at h
  ·cases h
   exact hl
  ·split at h
   ·cases h
   ·rename_i o2 ha
    exact bfsL_len ((addUs_some ha).2.2.2 hl) h
open Classical in
theorem Few.space {a b : Auto} {cap : Int} {p : Cfg → Prop} {U : List Cfg} (h : Few a b cap p U) {c : Cfg} (hc : p c) : ∃ out,nodL (mvC a b cap) 5000 5002 [nod0 c] 0 = some out ∧ Spc a b cap c p out ∧ out.length ≤ 5000 := by
 have hU : ∀ c,p c → c ∈ U.filter fun c => decide (p c) := fun c hc => List.mem_filter.2 ⟨h.all c hc,by simpa using hc⟩
 have hlen : (U.filter fun c => decide (p c)).length ≤ 5000 := by
  have h1 := List.length_filter_le (fun c => decide (p c)) U
  have h2 := h.len
  omega
 have hs : sucOf (mvC a b cap) = sucC a b cap := funext fun c => mvC_suc a b cap c
 obtain ⟨o,ho⟩ := bfsL_total (succ := sucC a b cap) (s := c) (lim := 5000) (n := 5002) hlen (fun c hc x hx => hU x (h.sp.nx c (by simpa using (List.mem_filter.1 hc).2) x hx)) (bfs0 _ _) (fun x hx => by
  rw [List.mem_singleton.1 hx]
  exact hU _ hc) (Nat.zero_le _) (by omega)
 have hall := (bfsL_spec h.sp.nx (bfs0 (sucC a b cap) c) (fun x hx => by
  rw [List.mem_singleton.1 hx]
  exact hc) ho).2.1
 have hl := bfsL_len (by simp) ho
 rw [← hs] at ho
 obtain ⟨out,h1,h2⟩ := nodL_some ho
 refine ⟨out,h1,⟨nodL_end h1,fun x hx => hall _ ?_⟩,?_⟩
 ·rw [← h2]
  exact List.mem_map.2 ⟨x,hx,rfl⟩
 ·rw [← h2,List.length_map] at hl
  exact hl
end Go.Pv
namespace Go.Pv
def afterG (a b : Auto) (cap : Int) (c : Cfg) (mv : Mov) : Cfg × Bool := afterC a b cap c.a c.b c.toA c.toB mv
def stepTo (a b : Auto) (cap : Int) (c : Cfg) (l : List Mov) : Cfg := l.foldl (fun c mv => (afterG a b cap c mv).1) c
def runBad (a b : Auto) (cap : Int) (c : Cfg) (l : List Mov) (i : Nat) : Bool := !(afterG a b cap (stepTo a b cap c (l.take i)) (l.getD i default)).2
end Go.Pv
namespace Go.Pv
variable {a b : Auto} {cap : Int}
theorem mvC_after {c d : Cfg} {m : Mov} (h : (m,d) ∈ mvC a b cap c) : m ∈ movesC a b cap c.a c.b c.toA c.toB ∧ (afterG a b cap c m).1 = d ∧ (afterG a b cap c m).2 = true := by
 obtain ⟨m',hm,e⟩ := List.mem_map.1 h
 injection e with e1 e2
 subst e1
 exact ⟨hm,e2,(movesC_mem hm).1⟩
theorem run_spec {c e : Cfg} {l : List Mov} (h : Run (mvC a b cap) c l e) : stepTo a b cap c l = e ∧ ∀ i,i < l.length → runBad a b cap c l i = false := by
 induction h with
 | nil => exact ⟨rfl,fun i hi => by simp at hi⟩
 | @cons c d e l m hm _ ih =>
  obtain ⟨_,h1,h2⟩ := mvC_after hm
  refine ⟨?_,fun i hi => ?_⟩
  ·show stepTo a b cap (afterG a b cap c m).1 l = e
   rw [h1]
   exact ih.1
  ·cases i with
   | zero =>
    unfold runBad
    show (!(afterG a b cap c m).2) = false
    rw [h2]
    rfl
   | succ i =>
    have := ih.2 i (by simpa using hi)
    unfold runBad at this ⊢
    have e1 : stepTo a b cap c ((m :: l).take (i + 1)) = stepTo a b cap d (l.take i) := by
     show stepTo a b cap (afterG a b cap c m).1 (l.take i) = _
     rw [h1]
    rw [e1]
    exact this
theorem atFrom_before {x : Int} : ∀ {l : List Int} {k j : Nat},atFrom x k l = ((k + j : Nat) : Int) → ∀ i,i < j → l[i]? ≠ some x
 | [],k,j,h,i,hi => by simp
 | y :: r,k,j,h,i,hi => by
  unfold atFrom at h
  split at h
  ·omega
  ·rename_i hne
   cases i with
   | zero => intro e; simp at e; exact hne e
   | succ i =>
    have := atFrom_before (l := r) (k := k + 1) (j := j - 1) (by rw [h]; congr 1; omega) i (by omega)
    simpa using this
theorem atL_before {x : Int} {l : List Int} {j : Nat} (h : atL x l = (j : Int)) : ∀ i,i < j → l[i]? ≠ some x := atFrom_before (k := 0) (by rw [Nat.zero_add]; exact h)
variable {s : Cfg} {p : Cfg → Prop} {out : List Nd}
theorem Spc.run (h : Spc a b cap s p out) {j : Nat} {x : Nd} (hx : out[j]? = some x) : Run (mvC a b cap) s x.path x.c := (h.fnd.stp j j x (Nat.le_refl _) hx).run
theorem Spc.stuck (h : Spc a b cap s p out) {j : Nat} (hj : atL (-1) (rkN a b cap out) = (j : Int)) : (∀ (k : Nat) (w : Nd),k < j → out[k]? = some w → 0 ≤ (rkN a b cap out).getD k (-1)) := fun k w hk hw => by
 have hkl := (List.getElem?_eq_some_iff.1 hw).1
 have hlo := h.dist.low k hkl
 have hlen := h.dist.len
 have hne := atL_before hj k hk
 have hkr : k < (rkN a b cap out).length := by omega
 have e : (rkN a b cap out).getD k (-1) = (rkN a b cap out)[k] := by simp [hkr]
 rw [List.getElem?_eq_getElem hkr] at hne
 rw [e] at hlo ⊢
 have : (rkN a b cap out)[k] ≠ -1 := fun e => hne (by rw [e])
 omega
end Go.Pv
namespace Go.Pv
def smallA (m : Int) (x : Arc) : Arc := ⟨x.fr % m,x.act % 4,x.to % m⟩
def smallL (m : Int) (l : List Arc) (k : Nat) : List Arc := (l.take k).map (smallA m)
def smallD (n : Int) (l : List Arc) : Draft := ⟨n % 3,smallL (n % 3 + 1) l 12⟩
def arcs (l : List Arc) : List (List PV) := l.map Arc.c
@[go_sem] theorem arcs_get (l : List Arc) (i : Nat) : (arcs l)[i]? = l[i]?.map fun x => [.int .u8 x.fr,.int .u8 x.act,.int .u8 x.to] := by simp [arcs]; rfl
structure PDr where
 n : Int
 la : List Arc
 l : List Arc
 mirror : Bool
 skip : Int
 cap : Int
def PDr.ok (d : PDr) : Prop := (0 ≤ d.n ∧ d.n ≤ 255) ∧ (0 ≤ d.skip ∧ d.skip ≤ 255) ∧ (0 ≤ d.cap ∧ d.cap ≤ 255) ∧ d.la.length ≤ 2 ^ 63 - 1 ∧ d.l.length ≤ 2 ^ 63 - 1 ∧ (∀ x ∈ d.la,x.ok) ∧ ∀ x ∈ d.l,x.ok
def PDr.sh (d : PDr) (k : Nat) : Int := d.skip.fdiv (2 ^ (min ((k : Int) % 8).toNat IntKind.u8.bits))
def PDr.bit (d : PDr) (k : Nat) : Int := IntKind.u8.wrap (BitVec.ofInt IntKind.u8.bits (d.sh k) &&& BitVec.ofInt IntKind.u8.bits 1).toNat
def PDr.out (d : PDr) (k : Nat) : Bool := decide (d.bit k = 0)
def PDr.fit (d : PDr) : Bool := decide (d.la.length ≤ 12) && decide (d.l.length ≤ 12)
theorem raw_from {st : Int} : ∀ (l : List Arc) (es : List Edge) (e : Edge),e ∈ l.foldl (fun es x => addE es (x.edge st)) es → e ∈ es ∨ ∃ x ∈ l,e = x.edge st
 | [],_,_,h => .inl h
 | x :: l,es,e,h => by
  rcases raw_from l (addE es (x.edge st)) e h with h | ⟨y,hy,rfl⟩
  ·rcases addE_mem h with h | rfl
   ·exact .inl h
   ·exact .inr ⟨x,List.mem_cons_self ..,rfl⟩
  ·exact .inr ⟨y,List.mem_cons_of_mem _ hy,rfl⟩
def mirA (e : Edge) : Arc := ⟨e.fr,if e.send = true then 2 * (e.label - 1) else 2 * (e.label - 1) + 1,e.to⟩
def mirL (out : Nat → Bool) (es : List Edge) : Nat → List Arc
 | 0 => []
 | k + 1 => match es[k]? with
  | none => mirL out es k
  | some e => if out k = true then mirL out es k ++ [mirA e] else mirL out es k
def PDr.mir (d : PDr) : List Arc := mirL d.out (smallD d.n d.la).auto.edges (smallD d.n d.la).auto.edges.length
def PDr.n2 (d : PDr) : Int := if d.mirror = true then d.n else IntKind.u8.wrap (d.n + d.skip)
def PDr.l2 (d : PDr) : List Arc := (if d.mirror = true then d.mir else []) ++ d.l
def PDr.A (d : PDr) : Auto := (smallD d.n d.la).auto
def PDr.B (d : PDr) : Auto := (smallD d.n2 d.l2).auto
end Go.Pv
namespace Go.Pv
def PDr.c2 (d : PDr) : Int := 1 + d.cap % 2
end Go.Pv
namespace Go.Pv
variable {a b : Auto} {cap : Int} {s : Cfg} {p : Cfg → Prop} {out : List Nd}
end Go.Pv
namespace Go.Pv
variable {a b : Auto} {cap : Int} {s : Cfg} {p : Cfg → Prop} {out : List Nd}
theorem Fnd.plen {mv : Cfg → List (Mov × Cfg)} {i0 : Nat} (hf : Fnd mv s out i0) : ∀ (n j : Nat) (x : Nd),j ≤ n → out[j]? = some x → x.path.length ≤ j
 | n,j,x,hj,hx => by
  rcases Nat.eq_zero_or_pos j with h0 | h0
  ·subst h0
   rw [hf.first] at hx
   cases hx
   simp [nod0]
  ·obtain ⟨k,y,m,h1,_,h3,_,h5⟩ := hf.way j x hx h0
   match n with
   | 0 => omega
   | n + 1 =>
    have := Fnd.plen hf n k y (by omega) h3
    rw [h5]
    simp
    omega
end Go.Pv
namespace Go.Pv
variable {a b : Auto} {cap : Int} {s : Cfg} {p : Cfg → Prop} {out : List Nd} {U : List Cfg}
end Go.Pv
namespace Go.Pv
variable {a b : Auto} {cap : Int} {s : Cfg} {p : Cfg → Prop} {out : List Nd} {U : List Cfg}
end Go.Pv
namespace Go.Pv
variable {a b : Auto} {cap : Int} {s : Cfg} {p : Cfg → Prop} {out : List Nd} {U : List Cfg}
end Go.Pv
namespace Go.Pv
variable {a b : Auto} {cap : Int} {s : Cfg} {p : Cfg → Prop} {out : List Nd} {U : List Cfg}
end Go.Pv
namespace Go.Pv
variable {a b : Auto} {cap : Int} {s : Cfg} {p : Cfg → Prop} {out : List Nd} {U : List Cfg}
end Go.Pv
namespace Go.Pv
variable {a b : Auto} {cap : Int} {s : Cfg} {p : Cfg → Prop} {out : List Nd} {U : List Cfg}
end Go.Pv
namespace Go.Pv
variable {a b : Auto} {cap : Int} {s : Cfg} {p : Cfg → Prop} {out : List Nd} {U : List Cfg}
end Go.Pv
namespace Go.Pv
variable {a b : Auto} {cap : Int} {s : Cfg} {p : Cfg → Prop} {out : List Nd} {U : List Cfg}
end Go.Pv
namespace Go.Pv
def smD (a b : Auto) (cap : Int) (c : Cfg) : Prop := fitsB a b cap c.a c.b c.toA c.toB = true ∧ (∀ z ∈ c.toA,z ≤ 3) ∧ ∀ z ∈ c.toB,z ≤ 3
theorem smD_small {l : List Int} {cap : Int} (h : chanB l cap = true) (h2 : ∀ z ∈ l,z ≤ 3) : l.all smallI = true := by
 rw [List.all_eq_true]
 intro z hz
 have h3 := (chan_ok h).2 z hz
 have h4 := h2 z hz
 simp only [smallI,Bool.and_eq_true,decide_eq_true_eq]
 omega
theorem smD_runs {a b : Auto} {cap : Int} (hs : sysErr a b cap = 0) (hl : ∀ e ∈ a.edges ++ b.edges,e.label ≤ 3) : Runs29 a b cap (smD a b cap) := by
 obtain ⟨ga,gb,hc1,hc2⟩ := sys_good hs
 refine ⟨⟨?_,by simp,by simp⟩,?_,?_,?_⟩
 ·rw [fitsB_iff]
  refine ⟨hs,ga.st,gb.st,?_,?_⟩ <;> simp [chanB] <;> omega
 ·intro c hc x hx
  obtain ⟨mv,hmv,rfl⟩ := List.mem_map.1 hx
  obtain ⟨h1,e,he,h2⟩ := movesC_mem hmv
  obtain ⟨h3,h4⟩ := after_lab (P := fun z => z ≤ 3) (a := a) (b := b) (cap := cap) (x := c.a) (y := c.b) (mv := mv) hc.2.1 hc.2.2 (by rw [h2]; exact hl e he)
  exact ⟨fits_after hc.1 h1,h3,h4⟩
 ·intro c hc
  obtain ⟨h1,h2,h3⟩ := hc
  obtain ⟨_,h4,h5,h6,h7⟩ := fitsB_iff.1 h1
  have m1 := ga.mx
  have m2 := gb.mx
  have q1 := (chan_ok h6).1
  have q2 := (chan_ok h7).1
  refine ⟨?_,?_,smD_small h6 h2,smD_small h7 h3,by omega,by omega⟩
  ·simp only [smallI,Bool.and_eq_true,decide_eq_true_eq]
   omega
  ·simp only [smallI,Bool.and_eq_true,decide_eq_true_eq]
   omega
 ·intro c _
  exact movesC_asc ga.asc gb.asc
def chans3 : List (List Int) := [] :: (([1,2,3] : List Int).map fun x => [x]) ++ ([1,2,3] : List Int).flatMap fun x => ([1,2,3] : List Int).map fun y => [x,y]
theorem chans3_mem {l : List Int} {cap : Int} (h : chanB l cap = true) (h2 : ∀ z ∈ l,z ≤ 3) (hc : cap ≤ 2) : l ∈ chans3 := by
 obtain ⟨h3,h4⟩ := chan_ok h
 match l,h2,h3,h4 with
 | [],_,_,_ => simp [chans3]
 | [x],h2,_,h4 =>
  have a1 := h2 x (by simp)
  have a2 := h4 x (by simp)
  obtain rfl | rfl | rfl : x = 1 ∨ x = 2 ∨ x = 3 := by omega
  all_goals simp [chans3]
 | [x,y],h2,_,h4 =>
  have a1 := h2 x (by simp)
  have a2 := h4 x (by simp)
  have b1 := h2 y (by simp)
  have b2 := h4 y (by simp)
  obtain rfl | rfl | rfl : x = 1 ∨ x = 2 ∨ x = 3 := by omega
  all_goals
   obtain rfl | rfl | rfl : y = 1 ∨ y = 2 ∨ y = 3 := by omega
   all_goals simp [chans3]
 | x :: y :: z :: r,_,h3,_ =>
  simp only [List.length_cons] at h3
  omega
def cfgU4 : List Cfg := [(0 : Int),1,2,3].flatMap fun a => [(0 : Int),1,2,3].flatMap fun b => chans3.flatMap fun l => chans3.map fun m => ⟨a,b,l,m⟩
theorem cfgU4_mem {c : Cfg} (h1 : 0 ≤ c.a ∧ c.a < 4) (h2 : 0 ≤ c.b ∧ c.b < 4) (h3 : c.toA ∈ chans3) (h4 : c.toB ∈ chans3) : c ∈ cfgU4 := by
 obtain ⟨a,b,l,m⟩ := c
 simp only at h1 h2 h3 h4
 unfold cfgU4
 rw [List.mem_flatMap]
 refine ⟨a,?_,?_⟩
 ·obtain rfl | rfl | rfl | rfl : a = 0 ∨ a = 1 ∨ a = 2 ∨ a = 3 := by omega
  all_goals simp
 rw [List.mem_flatMap]
 refine ⟨b,?_,?_⟩
 ·obtain rfl | rfl | rfl | rfl : b = 0 ∨ b = 1 ∨ b = 2 ∨ b = 3 := by omega
  all_goals simp
 rw [List.mem_flatMap]
 exact ⟨l,h3,List.mem_map.2 ⟨m,h4,rfl⟩⟩
theorem few_smD {a b : Auto} {cap : Int} (hs : sysErr a b cap = 0) (hl : ∀ e ∈ a.edges ++ b.edges,e.label ≤ 3) (ha : a.states ≤ 4) (hb : b.states ≤ 4) (hc : cap ≤ 2) : Few a b cap (smD a b cap) cfgU4 := by
 have hr := smD_runs hs hl
 refine ⟨⟨hr.nx,hr.ok,fun c h => h.1⟩,?_,fun c h => ?_⟩
 ·have h2 : cfgU4.length = 2704 := by decide +kernel
  omega
 ·obtain ⟨h1,h2,h3⟩ := h
  obtain ⟨_,h4,h5,h6,h7⟩ := fitsB_iff.1 h1
  exact cfgU4_mem (by omega) (by omega) (chans3_mem h6 h2 hc) (chans3_mem h7 h3 hc)
end Go.Pv
namespace Go.Pv
theorem r547 (x y : Draft) (hx : x.ok) (hy : y.ok) (c : Int) (hc : 0 ≤ c ∧ c ≤ 255) : res A PrA 547 [.agg [.int .u8 x.n,.lst 0 (x.arcs.map Arc.c),.int .u8 y.n,.lst 0 (y.arcs.map Arc.c),.int .u8 c]] = some [.agg [.int .i64 (1 + x.n % 4),.int .i64 0,.lst 0 (edgs x.auto.edges),.int .i64 (1 + y.n % 4),.int .i64 0,.lst 0 (edgs y.auto.edges),.int .i64 (1 + c % 2)],.bool (decide ((x.arcs.length : Int) ≤ 12) && decide ((y.arcs.length : Int) ≤ 12))] := by
 refine res_of a547 rfl rfl ?_
 simp only [F547]; try delta sS tT zZ nN gG bB pZ
 have h1 := r25 0 x hx
 have h2 := r25 0 y hy
 have hb := Int.emod_nonneg c (by decide : (2 : Int) ≠ 0)
 have hb2 := Int.emod_lt_of_pos c (by decide : (0 : Int) < 2)
 cases e1 : decide ((x.arcs.length : Int) ≤ 12) <;> cases e2 : decide ((y.arcs.length : Int) ≤ 12) <;> rw [e1] at h1 <;> rw [e2] at h2 <;> simp (disch := omega) only [go_sem,h1,h2]
end Go.Pv
namespace Go.Pv
theorem parSys {x y : Draft} (hx : x.ok) (hy : y.ok) {c : Int} (_hc : 0 ≤ c ∧ c ≤ 255) : sysErr x.auto y.auto (1 + c % 2) = 0 ∧ x.auto.states ≤ 4 ∧ y.auto.states ≤ 4 ∧ 1 + c % 2 ≤ 2 ∧ x.auto.edges.length ≤ 12 ∧ y.auto.edges.length ≤ 12 := by
 have gA : x.auto.Good := Draft.good hx (s := 0) (by have := x.st; omega)
 have gB : y.auto.Good := Draft.good hy (s := 0) (by have := y.st; omega)
 have hb := Int.emod_nonneg c (by decide : (2 : Int) ≠ 0)
 have hc := Int.emod_lt_of_pos c (by decide : (0 : Int) < 2)
 refine ⟨?_,?_,?_,by omega,Draft.len hx,Draft.len hy⟩
 ·unfold sysErr
  have e1 : x.auto.err = 0 := Auto.good_iff.2 gA
  have e2 : y.auto.err = 0 := Auto.good_iff.2 gB
  rw [if_neg (by simp [e1]),if_neg (by simp [e2]),if_neg (by omega)]
 ·show 1 + x.n % 4 ≤ 4
  omega
 ·show 1 + y.n % 4 ≤ 4
  omega
end Go.Pv
namespace Go.Pv
variable {a b : Auto} {cap : Int} {s : Cfg} {p : Cfg → Prop} {out : List Nd} {U : List Cfg}
theorem Draft.low (d : Draft) : ∀ e ∈ d.auto.edges,e.label ≤ 3 := by
 intro e he
 have he := (sortB_perm Edge.lt d.raw).subset he
 rcases raw_from _ _ e he with h | ⟨x,hx,rfl⟩
 ·cases h
 ·have hc := Int.emod_lt_of_pos (x.act / 2) (by decide : (0 : Int) < 3)
  show 1 + x.act / 2 % 3 ≤ 3
  omega
end Go.Pv
namespace Go.Pv
section
variable {α μ : Type}
inductive SX (lt : μ → μ → Prop) : List μ → List μ → Prop
 | head {m n : μ} {l k : List μ} : lt m n → l.length = k.length → SX lt (m :: l) (n :: k)
 | tail {m : μ} {l k : List μ} : SX lt l k → SX lt (m :: l) (m :: k)
def SL (lt : μ → μ → Prop) (l k : List μ) : Prop := l.length < k.length ∨ SX lt l k
def LE' (lt : μ → μ → Prop) (l k : List μ) : Prop := SL lt l k ∨ l = k
variable {lt : μ → μ → Prop}
theorem SX.len {l k : List μ} (h : SX lt l k) : l.length = k.length := by
 induction h with
 | head _ h => simp [h]
 | tail _ ih => simp [ih]
theorem SX.trans (ht : ∀ x y z,lt x y → lt y z → lt x z) {l k j : List μ} (h : SX lt l k) : SX lt k j → SX lt l j := by
 intro h2
 induction h generalizing j with
 | head a b =>
  cases h2 with
  | head c d => exact .head (ht _ _ _ a c) (b.trans d)
  | tail d => exact .head a (b.trans d.len)
 | tail h1 ih =>
  cases h2 with
  | head c d => exact .head c (h1.len.trans d)
  | tail d => exact .tail (ih d)
theorem SX.irr (hi : ∀ x,¬ lt x x) : ∀ {l : List μ},¬ SX lt l l
 | [],h => by cases h
 | x :: l,h => by
  cases h with
  | head a _ => exact hi _ a
  | tail h => exact SX.irr hi h
theorem SX.snoc {l k : List μ} (h : SX lt l k) (m n : μ) : SX lt (l ++ [m]) (k ++ [n]) := by
 induction h with
 | head a b => exact .head a (by simp [b])
 | tail _ ih => exact .tail ih
theorem SX.last {m n : μ} (h : lt m n) : ∀ l : List μ,SX lt (l ++ [m]) (l ++ [n])
 | [] => .head h rfl
 | _ :: l => .tail (SX.last h l)
theorem SL.trans (ht : ∀ x y z,lt x y → lt y z → lt x z) {l k j : List μ} (h : SL lt l k) (h2 : SL lt k j) : SL lt l j := by
 rcases h with h | h
 ·rcases h2 with h2 | h2
  ·exact .inl (by omega)
  ·exact .inl (by have := h2.len; omega)
 ·rcases h2 with h2 | h2
  ·exact .inl (by have := h.len; omega)
  ·exact .inr (h.trans ht h2)
theorem SL.irr (hi : ∀ x,¬ lt x x) {l : List μ} (h : SL lt l l) : False := by
 rcases h with h | h
 ·omega
 ·exact h.irr hi
theorem SL.snoc {l k : List μ} (h : SL lt l k) (m n : μ) : SL lt (l ++ [m]) (k ++ [n]) := by
 rcases h with h | h
 ·exact .inl (by simp; omega)
 ·exact .inr (h.snoc m n)
theorem SL.last {m n : μ} (h : lt m n) (l : List μ) : SL lt (l ++ [m]) (l ++ [n]) := .inr (SX.last h l)
theorem SL.nil (m : μ) (l : List μ) : SL lt [] (l ++ [m]) := .inl (by simp)
theorem LE'.trans (ht : ∀ x y z,lt x y → lt y z → lt x z) {l k j : List μ} (h : LE' lt l k) (h2 : LE' lt k j) : LE' lt l j := by
 rcases h with h | rfl
 ·rcases h2 with h2 | rfl
  ·exact .inl (h.trans ht h2)
  ·exact .inl h
 ·exact h2
theorem LE'.anti (ht : ∀ x y z,lt x y → lt y z → lt x z) (hi : ∀ x,¬ lt x x) {l k : List μ} (h : LE' lt l k) (h2 : LE' lt k l) : l = k := by
 rcases h with h | h
 ·rcases h2 with h2 | h2
  ·exact (SL.irr hi (h.trans ht h2)).elim
  ·exact h2.symm
 ·exact h
theorem LE'.snoc {l k : List μ} (h : LE' lt l k) (m : μ) : LE' lt (l ++ [m]) (k ++ [m]) := by
 rcases h with h | rfl
 ·exact .inl (h.snoc m m)
 ·exact .inr rfl
variable [DecidableEq α]
structure Shl (mv : α → List (μ × α)) (lt : μ → μ → Prop) (p : α → Prop) (out : List (Nod α μ)) (i : Nat) : Prop where
 inc : ∀ (j k : Nat) (x y : Nod α μ),j < k → out[j]? = some x → out[k]? = some y → SL lt x.path y.path
 top : ∀ y ∈ out,y.path = [] ∨ ∃ (j : Nat) (x : Nod α μ) (m : μ),j < i ∧ out[j]? = some x ∧ y.path = x.path ++ [m]
 lo : ∀ (j : Nat) (x : Nod α μ),j < i → out[j]? = some x → ∀ e ∈ mv x.c,∃ (k : Nat) (y : Nod α μ),out[k]? = some y ∧ y.c = e.2 ∧ LE' lt y.path (x.path ++ [e.1])
 all : ∀ y ∈ out,p y.c
theorem shl_adds {lim i : Nat} {x : Nod α μ} (ht : ∀ x y z,lt x y → lt y z → lt x z) : ∀ (l : List (μ × α)) (out out' : List (Nod α μ)),(l.map (·.1)).Pairwise lt →
  (∀ (j k : Nat) (x y : Nod α μ),j < k → out[j]? = some x → out[k]? = some y → SL lt x.path y.path) → (∀ y ∈ out,∀ e ∈ l,SL lt y.path (x.path ++ [e.1])) →
  addDs lim out (l.map fun y => ⟨y.2,(i : Int),some y.1,x.path ++ [y.1]⟩) = some out' →
  (∀ (j k : Nat) (x y : Nod α μ),j < k → out'[j]? = some x → out'[k]? = some y → SL lt x.path y.path) ∧ out <+: out' ∧ (∀ y ∈ out',y ∈ out ∨ ∃ e ∈ l,y.c = e.2 ∧ y.path = x.path ++ [e.1]) ∧
   ∀ e ∈ l,∃ (k : Nat) (y : Nod α μ),out'[k]? = some y ∧ y.c = e.2 ∧ LE' lt y.path (x.path ++ [e.1])
 | [],out,out',_,h1,_,ha => by
  cases ha
  exact ⟨h1,List.prefix_refl _,fun y hy => .inl hy,fun e he => by cases he⟩
 | e :: l,out,out',hp,h1,h2,ha => by
  rw [List.map_cons] at ha
  unfold addDs at ha
  split at ha
  ·cases ha
  ·rw [List.map_cons,List.pairwise_cons] at hp
   obtain ⟨hp1,hp2⟩ := hp
   by_cases hc : e.2 ∈ out.map Nod.c
   ·have hadd : addD out (⟨e.2,(i : Int),some e.1,x.path ++ [e.1]⟩ : Nod α μ) = out := if_pos hc
    rw [hadd] at ha
    obtain ⟨g1,g2,g3,g4⟩ := shl_adds ht l out out' hp2 h1 (fun y hy e' he' => h2 y hy e' (List.mem_cons_of_mem _ he')) ha
    refine ⟨g1,g2,fun y hy => ?_,fun e' he' => ?_⟩
    ·rcases g3 y hy with h | ⟨e',he',h⟩
     ·exact .inl h
     ·exact .inr ⟨e',List.mem_cons_of_mem _ he',h⟩
    ·rcases List.mem_cons.1 he' with rfl | he'
     ·obtain ⟨k,hk⟩ := mem_get hc
      rw [List.getElem?_map] at hk
      obtain ⟨w,hw,hwc⟩ := Option.map_eq_some_iff.1 hk
      exact ⟨k,w,get_pre g2 hw,hwc,.inl (h2 w (List.mem_of_getElem? hw) e' (List.mem_cons_self ..))⟩
     ·exact g4 e' he'
   ·have hadd : addD out (⟨e.2,(i : Int),some e.1,x.path ++ [e.1]⟩ : Nod α μ) = out ++ [⟨e.2,(i : Int),some e.1,x.path ++ [e.1]⟩] := if_neg hc
    rw [hadd] at ha
    have old : ∀ {j : Nat} {z : Nod α μ},(out ++ [(⟨e.2,(i : Int),some e.1,x.path ++ [e.1]⟩ : Nod α μ)])[j]? = some z → (out[j]? = some z) ∨ (j = out.length ∧ z = ⟨e.2,(i : Int),some e.1,x.path ++ [e.1]⟩) := fun {j z} hz => by
     rcases Nat.lt_or_ge j out.length with hj | hj
     ·rw [List.getElem?_append_left hj] at hz
      exact .inl hz
     ·rw [List.getElem?_append_right hj] at hz
      have : j - out.length = 0 := by have := (List.getElem?_eq_some_iff.1 hz).1; simpa using this
      rw [this] at hz
      cases hz
      exact .inr ⟨by omega,rfl⟩
    have h1' : ∀ (j k : Nat) (a b : Nod α μ),j < k → (out ++ [(⟨e.2,(i : Int),some e.1,x.path ++ [e.1]⟩ : Nod α μ)])[j]? = some a → (out ++ [(⟨e.2,(i : Int),some e.1,x.path ++ [e.1]⟩ : Nod α μ)])[k]? = some b → SL lt a.path b.path := fun j k a b hjk ha hb => by
     rcases old hb with hb' | ⟨hk,rfl⟩
     ·rcases old ha with ha' | ⟨hj,_⟩
      ·exact h1 j k a b hjk ha' hb'
      ·have := (List.getElem?_eq_some_iff.1 hb').1; omega
     ·rcases old ha with ha' | ⟨hj,_⟩
      ·exact h2 a (List.mem_of_getElem? ha') e (List.mem_cons_self ..)
      ·omega
    obtain ⟨g1,g2,g3,g4⟩ := shl_adds ht l _ out' hp2 h1' (fun y hy e' he' => by
     rcases List.mem_append.1 hy with hy | hy
     ·exact h2 y hy e' (List.mem_cons_of_mem _ he')
     ·rw [List.mem_singleton] at hy
      subst hy
      exact SL.last (hp1 _ (List.mem_map.2 ⟨e',he',rfl⟩)) _) ha
    refine ⟨g1,(List.prefix_append _ _).trans g2,fun y hy => ?_,fun e' he' => ?_⟩
    ·rcases g3 y hy with h | ⟨e',he',h⟩
     ·rcases List.mem_append.1 h with h | h
      ·exact .inl h
      ·rw [List.mem_singleton] at h
       subst h
       exact .inr ⟨e,List.mem_cons_self ..,rfl,rfl⟩
     ·exact .inr ⟨e',List.mem_cons_of_mem _ he',h⟩
    ·rcases List.mem_cons.1 he' with rfl | he'
     ·exact ⟨out.length,⟨e'.2,(i : Int),some e'.1,x.path ++ [e'.1]⟩,get_pre g2 (by rw [List.getElem?_append_right (Nat.le_refl _)]; simp),rfl,.inr rfl⟩
     ·exact g4 e' he'
theorem Shl.next {mv : α → List (μ × α)} {p : α → Prop} (ht : ∀ x y z,lt x y → lt y z → lt x z) (hs : ∀ c,p c → ((mv c).map (·.1)).Pairwise lt) (hn : ∀ c,p c → ∀ e ∈ mv c,p e.2) {lim i : Nat} {x : Nod α μ} {out out' : List (Nod α μ)} (h : Shl mv lt p out i) (hx : out[i]? = some x) (ha : addDs lim out (sucD mv i x) = some out') : Shl mv lt p out' (i + 1) := by
 have hpx := h.all x (List.mem_of_getElem? hx)
 obtain ⟨g1,g2,g3,g4⟩ := shl_adds (x := x) ht (mv x.c) out out' (hs _ hpx) h.inc (fun y hy e he => by
  rcases h.top y hy with h0 | ⟨j,z,m,h1,h2,h3⟩
  ·rw [h0]
   exact SL.nil _ _
  ·rw [h3]
   exact (h.inc j i z x h1 h2 hx).snoc m e.1) ha
 refine ⟨g1,fun y hy => ?_,fun j z hj hz e he => ?_,fun y hy => ?_⟩
 ·rcases g3 y hy with h0 | ⟨e,he,h1,h2⟩
  ·rcases h.top y h0 with h0 | ⟨j,z,m,h1,h2,h3⟩
   ·exact .inl h0
   ·exact .inr ⟨j,z,m,by omega,get_pre g2 h2,h3⟩
  ·exact .inr ⟨i,x,e.1,by omega,get_pre g2 hx,h2⟩
 ·rcases Nat.lt_or_ge j i with hji | hji
  ·have hjl : j < out.length := by have := (List.getElem?_eq_some_iff.1 hx).1; omega
   obtain ⟨w,hw⟩ : ∃ w,out[j]? = some w := ⟨_,List.getElem?_eq_getElem hjl⟩
   have := get_pre g2 hw
   rw [hz] at this
   cases this
   obtain ⟨k,y,h1,h2,h3⟩ := h.lo j z hji hw e he
   exact ⟨k,y,get_pre g2 h1,h2,h3⟩
  ·obtain rfl : j = i := by omega
   have := get_pre g2 hx
   rw [hz] at this
   cases this
   exact g4 e he
 ·rcases g3 y hy with h0 | ⟨e,he,h1,_⟩
  ·exact h.all y h0
  ·rw [h1]
   exact hn _ hpx e he
theorem nodL_shl {mv : α → List (μ × α)} {p : α → Prop} (ht : ∀ x y z,lt x y → lt y z → lt x z) (hs : ∀ c,p c → ((mv c).map (·.1)).Pairwise lt) (hn : ∀ c,p c → ∀ e ∈ mv c,p e.2) {lim : Nat} : ∀ {n : Nat} {out out' : List (Nod α μ)} {i : Nat},Shl mv lt p out i → nodL mv lim n out i = some out' → Shl mv lt p out' out'.length
 | 0,_,_,_,_,h => by cases h
 | n + 1,out,out',i,hf,h => by
  unfold nodL at h
  split at h
  ·rename_i hi
   cases h
   have hle : out.length ≤ i := List.getElem?_eq_none_iff.1 hi
   refine ⟨hf.inc,fun y hy => ?_,fun j x hj hx => hf.lo j x (by omega) hx,hf.all⟩
   rcases hf.top y hy with h0 | ⟨j,z,m,h1,h2,h3⟩
   ·exact .inl h0
   ·exact .inr ⟨j,z,m,(List.getElem?_eq_some_iff.1 h2).1,h2,h3⟩
  ·rename_i x hx
   split at h
   ·cases h
   ·rename_i o2 ha
    exact nodL_shl ht hs hn (hf.next ht hs hn hx ha) h
omit [DecidableEq α] in
theorem shl0 {mv : α → List (μ × α)} {p : α → Prop} {s : α} (h0 : p s) : Shl mv lt p [nod0 s] 0 where
 inc := fun j k x y hjk hx hy => by
  have h2 : k = 0 := by have := (List.getElem?_eq_some_iff.1 hy).1; simpa using this
  omega
 top := fun y hy => by
  rw [List.mem_singleton] at hy
  subst hy
  exact .inl rfl
 lo := fun j x hj => by omega
 all := fun y hy => by
  rw [List.mem_singleton] at hy
  subst hy
  exact h0
omit [DecidableEq α] in
theorem Shl.least {mv : α → List (μ × α)} {p : α → Prop} (ht : ∀ x y z,lt x y → lt y z → lt x z) {s : α} {out : List (Nod α μ)} (h : Shl mv lt p out out.length) (h0 : out[0]? = some (nod0 s)) {l : List μ} {c : α} (hr : Stp mv s l c) : ∃ (k : Nat) (y : Nod α μ),out[k]? = some y ∧ y.c = c ∧ LE' lt y.path l := by
 induction hr with
 | nil => exact ⟨0,_,h0,rfl,.inr rfl⟩
 | snoc _ hm ih =>
  obtain ⟨k,y,h1,h2,h3⟩ := ih
  obtain ⟨k',y',g1,g2,g3⟩ := h.lo k y (List.getElem?_eq_some_iff.1 h1).1 h1 _ (by rw [h2]; exact hm)
  exact ⟨k',y',g1,g2,g3.trans ht (h3.snoc _)⟩
end
section
variable {α β μ : Type} [DecidableEq α] [DecidableEq β] {lt : μ → μ → Prop}
structure Sim (mv : α → List (μ × α)) (mv' : β → List (μ × β)) (R : α → β → Prop) : Prop where
 go : ∀ c d,R c d → ∀ m c',(m,c') ∈ mv c → ∃ d',(m,d') ∈ mv' d ∧ R c' d'
 back : ∀ c d,R c d → ∀ m d',(m,d') ∈ mv' d → ∃ c',(m,c') ∈ mv c ∧ R c' d'
omit [DecidableEq α] [DecidableEq β] in
theorem Sim.flip {mv : α → List (μ × α)} {mv' : β → List (μ × β)} {R : α → β → Prop} (h : Sim mv mv' R) : Sim mv' mv fun d c => R c d := ⟨fun d c => h.back c d,fun d c => h.go c d⟩
omit [DecidableEq α] [DecidableEq β] in
theorem Sim.stp {mv : α → List (μ × α)} {mv' : β → List (μ × β)} {R : α → β → Prop} (h : Sim mv mv' R) {s c : α} {t : β} (h0 : R s t) {l : List μ} (hs : Stp mv s l c) : ∃ d,Stp mv' t l d ∧ R c d := by
 induction hs with
 | nil => exact ⟨t,.nil _,h0⟩
 | snoc _ hm ih =>
  obtain ⟨d,h1,h2⟩ := ih
  obtain ⟨d',h3,h4⟩ := h.go _ _ h2 _ _ hm
  exact ⟨d',.snoc h1 h3,h4⟩
omit [DecidableEq α] in
theorem Shl.le_at {mv : α → List (μ × α)} {p : α → Prop} {out : List (Nod α μ)} {i j k : Nat} (h : Shl mv lt p out i) {x y : Nod α μ} (hjk : j ≤ k) (hx : out[j]? = some x) (hy : out[k]? = some y) : LE' lt x.path y.path := by
 rcases Nat.lt_or_ge j k with h1 | h1
 ·exact .inl (h.inc j k x y h1 hx hy)
 ·obtain rfl : j = k := by omega
  rw [hx] at hy
  cases hy
  exact .inr rfl
omit [DecidableEq α] [DecidableEq β] in
theorem first_same {mv : α → List (μ × α)} {mv' : β → List (μ × β)} {R : α → β → Prop} {p : α → Prop} {q : β → Prop} (ht : ∀ x y z,lt x y → lt y z → lt x z) (hi : ∀ x,¬ lt x x) (hR : Sim mv mv' R) {s : α} {t : β} (h0 : R s t) {out : List (Nod α μ)} {out' : List (Nod β μ)} (h : Shl mv lt p out out.length) (h' : Shl mv' lt q out' out'.length) (hf : Fnd mv s out out.length) (hf' : Fnd mv' t out' out'.length) {bad : α → Prop} {bad' : β → Prop} (hb : ∀ c d,R c d → (bad c ↔ bad' d))
  {j j' : Nat} {x : Nod α μ} {x' : Nod β μ} (hx : out[j]? = some x) (hx' : out'[j']? = some x') (hbx : bad x.c) (hbx' : bad' x'.c) (hl : ∀ k y,k < j → out[k]? = some y → ¬ bad y.c) (hl' : ∀ k y,k < j' → out'[k]? = some y → ¬ bad' y.c) : x.path = x'.path := by
 refine LE'.anti ht hi ?_ ?_
 ·obtain ⟨c,h1,h2⟩ := hR.flip.stp h0 (hf'.stp j' j' x' (Nat.le_refl _) hx')
  obtain ⟨k,y,h3,h4,h5⟩ := h.least ht hf.first h1
  have hby : bad y.c := by rw [h4]; exact (hb _ _ h2).2 hbx'
  have hjk : ¬ k < j := fun hh => hl k y hh h3 hby
  exact (h.le_at (by omega) hx h3).trans ht h5
 ·obtain ⟨c,h1,h2⟩ := hR.stp h0 (hf.stp j j x (Nat.le_refl _) hx)
  obtain ⟨k,y,h3,h4,h5⟩ := h'.least ht hf'.first h1
  have hby : bad' y.c := by rw [h4]; exact (hb _ _ h2).1 hbx
  have hjk : ¬ k < j' := fun hh => hl' k y hh h3 hby
  exact (h'.le_at (by omega) hx' h3).trans ht h5
omit [DecidableEq α] [DecidableEq β] in
theorem some_same {mv : α → List (μ × α)} {mv' : β → List (μ × β)} {R : α → β → Prop} (hR : Sim mv mv' R) {s : α} {t : β} (h0 : R s t) {out : List (Nod α μ)} {out' : List (Nod β μ)} (hf : Fnd mv s out out.length) (hf' : Fnd mv' t out' out'.length) {bad : α → Prop} {bad' : β → Prop} (hb : ∀ c d,R c d → (bad c ↔ bad' d)) {x : Nod α μ} (hx : x ∈ out) (hbx : bad x.c) : ∃ y ∈ out',bad' y.c := by
 obtain ⟨j,hj⟩ := mem_get hx
 obtain ⟨d,h1,h2⟩ := hR.stp h0 (hf.stp j j x (Nat.le_refl _) hj)
 obtain ⟨k,y,h3,h4,_⟩ := hf'.least h1
 exact ⟨y,List.mem_of_getElem? h3,by rw [h4]; exact (hb _ _ h2).1 hbx⟩
end
end Go.Pv
namespace Go.Pv
@[go_sem] theorem lendAll_tl2 (h : Heap) (v : V) : lendAll h true [.tl [],v] = (lend h v).bind fun q => some ([.lst 0 [],q],none) := by
 simp only [lendAll,lendTake,if_true,mapO]
 cases lend h v <;> rfl
def lendB (h : Heap) (v : V) : List PV × Option (Nat × Arr) → Option (List PV × Option (Nat × Arr))
 | ([p],some (i,a)) => (lend { h with ar := h.ar.set i a } v).bind fun q => some ([p,q],some (i,a))
 | _ => none
@[go_sem] theorem lendB_mk (bx : List (Nat × List V)) (ar : List Arr) (mp : List (List (PV × PV))) (v : V) (p : PV) (i : Nat) (a : Arr) : lendB ⟨bx,ar,mp⟩ v ([p],some (i,a)) = (lend ⟨bx,ar.set i a,mp⟩ v).bind fun q => some ([p,q],some (i,a)) := rfl
def Edge.act (e : Edge) : Bool × Int := (e.send,e.label)
end Go.Pv
namespace Go.Pv
@[go_sem] theorem foundV_some (z : V) (j : Nat) (p : PV) : foundV z false (some (j,p)) = .pv p := rfl
@[go_sem] theorem foundV_none (z : V) : foundV z false none = z := rfl
@[go_sem] theorem app_acts_own (h : Heap) (id ver off len : Nat) (d : Bool) (x : Int) : appendV h 2 (.own id ver off len) (.tl [[.bool d,.int .i64 x]]) = (ownArr h id ver).bind (apR id ver off len 2 [.bool d,.int .i64 x]) := app_ownr h id ver off len 2 _ rfl
end Go.Pv
namespace Go.Pv
end Go.Pv
namespace Go.Pv
inductive PR (a b : List Edge) (s t : Int) : List (Bool × Int) → Int → Int → Prop
 | nil : PR a b s t [] s t
 | snoc {p : List (Bool × Int)} {x y x' y' : Int} {d : Bool} {l : Int} : PR a b s t p x y → nextE x d l a = some x' → nextE y d l b = some y' → PR a b s t (p ++ [(d,l)]) x' y'
end Go.Pv
namespace Go.Pv
end Go.Pv
namespace Go.Pv
end Go.Pv
namespace Go.Pv
@[go_sem] theorem app_prs_own (h : Heap) (id ver off len : Nat) (x y : Int) : appendV h 2 (.own id ver off len) (.tl [[.int .i64 x,.int .i64 y]]) = (ownArr h id ver).bind (apR id ver off len 2 [.int .i64 x,.int .i64 y]) := app_ownr h id ver off len 2 _ rfl
end Go.Pv
namespace Go.Pv
def Auto.row (a : Auto) : List PV := [.int .i64 a.states,.int .i64 a.start,.lst 0 (a.edges.map Edge.c)]
end Go.Pv
namespace Go.Pv
end Go.Pv
namespace Go.Pv
end Go.Pv
namespace Go.Pv
def Al (a b : List Edge) (p q : Int) : Prop := ∀ j,Ev a b j p q
theorem Al.symm {a b : List Edge} {p q : Int} (h : Al a b p q) : Al b a q p := fun j => (h j).symm
theorem Al.trans {a b c : List Edge} {p q r : Int} (h : Al a b p q) (h2 : Al b c q r) : Al a c p r := fun j => (h j).trans (h2 j)
theorem Al.next {a b : List Edge} {p q : Int} (h : Al a b p q) (d : Bool) (x : Int) : OptR (Al a b) (nextE p d x a) (nextE q d x b) := by
 have h1 := h 1 d x
 cases hp : nextE p d x a with
 | none =>
  cases hq : nextE q d x b with
  | none => trivial
  | some u => rw [hp,hq] at h1; exact h1.elim
 | some t =>
  cases hq : nextE q d x b with
  | none => rw [hp,hq] at h1; exact h1.elim
  | some u =>
   intro j
   have := h (j + 1) d x
   rw [hp,hq] at this
   exact this
theorem Al.intro {a b : List Edge} (R : Int → Int → Prop) (hR : ∀ p q,R p q → ∀ d x,OptR R (nextE p d x a) (nextE q d x b)) {p q : Int} (h : R p q) : Al a b p q := by
 have key : ∀ j p q,R p q → Ev a b j p q := by
  intro j
  induction j with
  | zero => exact fun _ _ _ => trivial
  | succ j ih => exact fun p q h d x => (hR p q h d x).mono fun t u _ _ htu => ih t u htu
 exact fun j => key j p q h
theorem Auto.Good.cl_def {a : Auto} (_h : a.Good) {v : Int} (hv : a.inr v) : a.cl v = (leastR (differ a a) a.states.toNat v.toNat : Int) := by
 unfold Auto.inr at hv
 have hcg : a.classes[v.toNat]? = some (leastR (differ a a) a.states.toNat v.toNat : Int) := by
  unfold Auto.classes
  rw [List.getElem?_map,List.getElem?_range (by omega)]
  rfl
 unfold Auto.cl
 rw [List.getD_eq_getElem?_getD,hcg]
 rfl
theorem Auto.Good.cl_al {a : Auto} (h : a.Good) {v : Int} (hv : a.inr v) : Al a.edges a.edges (a.cl v) v := by
 have hv' := hv
 unfold Auto.inr at hv'
 obtain ⟨_,h2,_⟩ := leastR_spec h (p := v.toNat) (by omega)
 rw [h.cl_def hv]
 have := h2.rel
 rw [show ((v.toNat : Nat) : Int) = v by omega] at this
 exact this
theorem Auto.Good.cl_eq {a : Auto} (h : a.Good) {v w : Int} (hv : a.inr v) (hw : a.inr w) (hvw : Al a.edges a.edges v w) : a.cl v = a.cl w := by
 have hv' := hv
 have hw' := hw
 unfold Auto.inr at hv' hw'
 obtain ⟨_,h2,_⟩ := leastR_spec h (p := v.toNat) (by omega)
 obtain ⟨_,h3,_⟩ := leastR_spec h (p := w.toNat) (by omega)
 rw [h.cl_def hv,h.cl_def hw]
 have e1 : ((v.toNat : Nat) : Int) = v := by omega
 have e2 : ((w.toNat : Nat) : Int) = w := by omega
 have h4 : Lst (fun k _ => ∀ j,Ev a.edges a.edges j k w.toNat) v.toNat (leastR (differ a a) a.states.toNat w.toNat) := ⟨h3.rel,h3.min⟩
 have := h2.uniq h4 (fun h5 => Al.trans h5 (by rw [e1,e2]; exact hvw)) (fun h5 => Al.trans h5 (by rw [e1,e2]; exact hvw.symm))
 rw [this]
theorem Auto.Good.cl_cl {a : Auto} (h : a.Good) {v : Int} (hv : a.inr v) : a.cl (a.cl v) = a.cl v := h.cl_eq (h.cl_in hv).2.1 hv (h.cl_al hv)
theorem Auto.Good.merged_next {a : Auto} (h : a.Good) {v : Int} (hv : a.cl v = v) (d : Bool) (x : Int) : nextE v d x a.merged.edges = (nextE v d x a.edges).map a.cl := by
 apply Option.ext
 intro t
 rw [nextE_some h.merged.apt,Option.map_eq_some_iff]
 have hm : ∀ y : Edge,y ∈ a.merged.edges ↔ ∃ e ∈ a.edges,a.cl e.fr = e.fr ∧ (⟨e.fr,e.send,e.label,a.cl e.to⟩ : Edge) = y := fun y => by
  simp [Auto.merged,and_assoc]
 rw [hm]
 constructor
 ·rintro ⟨e,he,_,heq⟩
  obtain ⟨f,d',x',t'⟩ := e
  simp only [Edge.mk.injEq] at heq
  obtain ⟨rfl,rfl,rfl,rfl⟩ := heq
  exact ⟨t',(nextE_some h.apt).2 he,rfl⟩
 ·rintro ⟨t',hn,rfl⟩
  exact ⟨_,(nextE_some h.apt).1 hn,hv,rfl⟩
theorem Auto.Good.merged_al {a : Auto} (h : a.Good) {v : Int} (hv : a.inr v) : Al a.edges a.merged.edges v (a.cl v) := by
 refine Al.intro (fun p q => a.inr p ∧ q = a.cl p) ?_ ⟨hv,rfl⟩
 rintro p q ⟨hp,rfl⟩ d x
 have h1 := (h.cl_al hp).next d x
 rw [h.merged_next (h.cl_cl hp)]
 cases e1 : nextE (a.cl p) d x a.edges with
 | none =>
  cases e2 : nextE p d x a.edges with
  | none => trivial
  | some u => rw [e1,e2] at h1; exact h1.elim
 | some t =>
  cases e2 : nextE p d x a.edges with
  | none => rw [e1,e2] at h1; exact h1.elim
  | some u =>
   rw [e1,e2] at h1
   exact ⟨h.next_in e2,h.cl_eq (h.next_in e1) (h.next_in e2) h1⟩
theorem Auto.Good.trim_al {a : Auto} (h : a.Good) {v : Int} (hv : v ∈ a.order) : Al a.edges a.trim.edges v (atL v a.order) := by
 refine Al.intro (fun p q => p ∈ a.order ∧ q = atL p a.order) ?_ ⟨hv,rfl⟩
 rintro p q ⟨hp,rfl⟩ d x
 rw [h.trim_next hp]
 cases e1 : nextE p d x a.edges with
 | none => trivial
 | some t => exact ⟨h.order_closed ((nextE_some h.apt).1 e1) hp,rfl⟩
theorem Auto.Good.mini_al {a : Auto} (h : a.Good) : Al a.edges a.mini.edges a.start 0 := by
 refine (h.merged_al h.st).trans ?_
 have := h.merged.trim_al a.merged.start_mem
 rw [Auto.start_at] at this
 exact this
theorem Auto.Good.mini_good {a : Auto} (h : a.Good) : a.mini.Good := h.merged.trim
theorem Auto.Good.mini_states {a : Auto} (h : a.Good) : a.mini.states ≤ a.states := by
 have := h.merged.from_len h.merged.st
 have h2 := h.st
 show ((a.merged.from a.merged.start).length : Int) ≤ a.states
 have h3 : a.merged.states = a.states := rfl
 rw [h3] at this
 omega
end Go.Pv
namespace Go.Pv
theorem isEnd_next {s : Int} : ∀ {es : List Edge},isEnd s es = true ↔ ∀ d x,nextE s d x es = none
 | [] => by simp [isEnd,nextE]
 | e :: r => by
  unfold isEnd nextE
  by_cases h : e.fr = s
  ·rw [if_pos h]
   constructor
   ·intro hh; cases hh
   ·intro hh
    have := hh e.send e.label
    rw [if_pos ⟨h,rfl,rfl⟩] at this
    cases this
  ·rw [if_neg h,isEnd_next (es := r)]
   constructor
   ·intro hh d x
    rw [if_neg (fun g => h g.1)]
    exact hh d x
   ·intro hh d x
    have := hh d x
    rwa [if_neg (fun g => h g.1)] at this
theorem sendsB_iff {s : Int} : ∀ {es : List Edge},sendsB s es = true ↔ ∃ x,(nextE s true x es).isSome = true
 | [] => by simp [sendsB,nextE]
 | e :: r => by
  unfold sendsB
  rw [List.any_cons,Bool.or_eq_true,Bool.and_eq_true,decide_eq_true_eq]
  have ih := sendsB_iff (s := s) (es := r)
  unfold sendsB at ih
  rw [ih]
  constructor
  ·rintro (⟨h1,h2⟩ | ⟨x,hx⟩)
   ·refine ⟨e.label,?_⟩
    unfold nextE
    rw [if_pos ⟨h1,h2,rfl⟩]
    rfl
   ·refine ⟨x,?_⟩
    unfold nextE
    split
    ·rfl
    ·exact hx
  ·rintro ⟨x,hx⟩
   unfold nextE at hx
   split at hx
   ·rename_i h
    exact .inl ⟨h.1,h.2.1⟩
   ·exact .inr ⟨x,hx⟩
theorem Al.some_ {a b : List Edge} {p q : Int} (h : Al a b p q) (d : Bool) (x : Int) : (nextE p d x a).isSome = (nextE q d x b).isSome := by
 have := h.next d x
 cases h1 : nextE p d x a <;> cases h2 : nextE q d x b <;> rw [h1,h2] at this <;> first | rfl | exact this.elim
theorem Al.isEnd {a b : List Edge} {p q : Int} (h : Al a b p q) : isEnd p a = isEnd q b := by
 rw [Bool.eq_iff_iff,isEnd_next,isEnd_next]
 constructor
 ·intro hh d x
  have := h.some_ d x
  rw [hh d x] at this
  exact Option.not_isSome_iff_eq_none.1 (by rw [← this]; decide)
 ·intro hh d x
  have := h.some_ d x
  rw [hh d x] at this
  exact Option.not_isSome_iff_eq_none.1 (by rw [this]; decide)
theorem Al.sends {a b : List Edge} {p q : Int} (h : Al a b p q) : sendsB p a = sendsB q b := by
 rw [Bool.eq_iff_iff,sendsB_iff,sendsB_iff]
 exact ⟨fun ⟨x,hx⟩ => ⟨x,by rw [← h.some_]; exact hx⟩,fun ⟨x,hx⟩ => ⟨x,by rw [h.some_]; exact hx⟩⟩
theorem Al.block {a b : Auto} {p q : Int} (h : Al a.edges b.edges p q) : ∀ l : List Int,blockB a p l = blockB b q l
 | [] => rfl
 | x :: l => by
  unfold blockB
  simp only
  rw [h.sends,← Option.not_isSome,← Option.not_isSome,h.some_]
def SideR (a b : List Edge) (u v : Option (Int × List Int × List Int) × Bool) : Prop := u.2 = v.2 ∧ match u.1,v.1 with
 | none,none => u.2 = false
 | some x,some y => Al a b x.1 y.1 ∧ x.2 = y.2
 | _,_ => False
theorem side_al {a b : List Edge} {p q : Int} (h : Al a b p q) (cap : Int) (i o : List Int) (send : Bool) (label : Int) : SideR a b (sideC a cap p i o send label) (sideC b cap q i o send label) := by
 have hn := h.next send label
 unfold sideC
 cases h1 : nextE p send label a with
 | none =>
  cases h2 : nextE q send label b with
  | none => exact ⟨rfl,rfl⟩
  | some y => rw [h1,h2] at hn; exact hn.elim
 | some x =>
  cases h2 : nextE q send label b with
  | none => rw [h1,h2] at hn; exact hn.elim
  | some y =>
   rw [h1,h2] at hn
   cases send with
   | true => exact ⟨rfl,hn,rfl⟩
   | false =>
    cases i with
    | nil => exact ⟨rfl,rfl⟩
    | cons z r =>
     by_cases hz : z = label
     ·simp only [if_pos hz]
      exact ⟨rfl,hn,rfl⟩
     ·simp only [if_neg hz]
      exact ⟨rfl,rfl⟩
def RC (a b a' b' : Auto) (c d : Cfg) : Prop := Al a.edges a'.edges c.a d.a ∧ Al b.edges b'.edges c.b d.b ∧ c.toA = d.toA ∧ c.toB = d.toB
variable {a b a' b' : Auto} {cap : Int}
theorem after_sim {c d : Cfg} (h : RC a b a' b' c d) (mv : Mov) : (afterG a b cap c mv).2 = (afterG a' b' cap d mv).2 ∧ ((afterG a b cap c mv).2 = true → RC a b a' b' (afterG a b cap c mv).1 (afterG a' b' cap d mv).1) := by
 obtain ⟨h1,h2,h3,h4⟩ := h
 unfold afterG afterC
 rw [h3,h4]
 by_cases hp : mv.party = 0
 ·rw [if_pos hp,if_pos hp]
  obtain ⟨s1,s2⟩ := side_al h1 cap d.toA d.toB mv.send mv.label
  revert s1 s2
  cases sideC a.edges cap c.a d.toA d.toB mv.send mv.label with
  | mk u ok =>
   cases sideC a'.edges cap d.a d.toA d.toB mv.send mv.label with
   | mk v ok' =>
    intro s1 s2
    dsimp only at s1 s2
    cases u with
    | none =>
     cases v with
     | none =>
      refine ⟨s1,fun hk => ?_⟩
      rw [show ok = false from s2] at hk
      cases hk
     | some y => exact s2.elim
    | some x =>
     cases v with
     | none => exact s2.elim
     | some y =>
      obtain ⟨x1,x2,x3⟩ := x
      obtain ⟨y1,y2,y3⟩ := y
      obtain ⟨t1,t2⟩ := s2
      cases t2
      exact ⟨s1,fun _ => ⟨t1,h2,rfl,rfl⟩⟩
 ·rw [if_neg hp,if_neg hp]
  by_cases hq : mv.party = 1
  ·rw [if_pos hq,if_pos hq]
   obtain ⟨s1,s2⟩ := side_al h2 cap d.toB d.toA mv.send mv.label
   revert s1 s2
   cases sideC b.edges cap c.b d.toB d.toA mv.send mv.label with
   | mk u ok =>
    cases sideC b'.edges cap d.b d.toB d.toA mv.send mv.label with
    | mk v ok' =>
     intro s1 s2
     dsimp only at s1 s2
     cases u with
     | none =>
      cases v with
      | none =>
       refine ⟨s1,fun hk => ?_⟩
       rw [show ok = false from s2] at hk
       cases hk
      | some y => exact s2.elim
     | some x =>
      cases v with
      | none => exact s2.elim
      | some y =>
       obtain ⟨x1,x2,x3⟩ := x
       obtain ⟨y1,y2,y3⟩ := y
       obtain ⟨t1,t2⟩ := s2
       cases t2
       exact ⟨s1,fun _ => ⟨h1,t1,rfl,rfl⟩⟩
  ·rw [if_neg hq,if_neg hq]
   exact ⟨rfl,fun hk => by cases hk⟩
theorem side_next {es : List Edge} {cap st : Int} {i o : List Int} {send : Bool} {label : Int} (h : (sideC es cap st i o send label).2 = true) : ∃ q,nextE st send label es = some q := by
 unfold sideC at h
 cases hn : nextE st send label es with
 | none => rw [hn] at h; cases h
 | some q => exact ⟨q,rfl⟩
theorem movesC_iff (ha : a.Good) (hb : b.Good) {c : Cfg} {m : Mov} : m ∈ movesC a b cap c.a c.b c.toA c.toB ↔ (afterG a b cap c m).2 = true := by
 refine ⟨fun h => (movesC_mem h).1,fun h => ?_⟩
 have h' := h
 unfold afterG afterC at h'
 unfold movesC
 rw [List.mem_append,mvsOf_mem,mvsOf_mem]
 obtain ⟨p,s,l⟩ := m
 dsimp only at h'
 by_cases hp : p = 0
 ·rw [if_pos hp] at h'
  have h2 : (sideC a.edges cap c.a c.toA c.toB s l).2 = true := by
   revert h'
   cases sideC a.edges cap c.a c.toA c.toB s l with
   | mk u ok => cases u <;> exact id
  obtain ⟨q,hq⟩ := side_next h2
  exact .inl ⟨_,(nextE_some ha.apt).1 hq,rfl,by rw [hp]; rfl,h⟩
 ·rw [if_neg hp] at h'
  by_cases hp1 : p = 1
  ·rw [if_pos hp1] at h'
   have h2 : (sideC b.edges cap c.b c.toB c.toA s l).2 = true := by
    revert h'
    cases sideC b.edges cap c.b c.toB c.toA s l with
    | mk u ok => cases u <;> exact id
   obtain ⟨q,hq⟩ := side_next h2
   exact .inr ⟨_,(nextE_some hb.apt).1 hq,rfl,by rw [hp1]; rfl,h⟩
  ·rw [if_neg hp1] at h'
   cases h'
theorem mvC_iff (ha : a.Good) (hb : b.Good) {c d : Cfg} {m : Mov} : (m,d) ∈ mvC a b cap c ↔ (afterG a b cap c m).2 = true ∧ (afterG a b cap c m).1 = d := by
 constructor
 ·intro h
  obtain ⟨_,h1,h2⟩ := mvC_after h
  exact ⟨h2,h1⟩
 ·rintro ⟨h1,rfl⟩
  exact List.mem_map.2 ⟨m,(movesC_iff ha hb).2 h1,rfl⟩
def RF (a b a' b' : Auto) (cap : Int) (c d : Cfg) : Prop := RC a b a' b' c d ∧ fitsB a b cap c.a c.b c.toA c.toB = true ∧ fitsB a' b' cap d.a d.b d.toA d.toB = true
theorem RF.sim (ha : a.Good) (hb : b.Good) (ha' : a'.Good) (hb' : b'.Good) : Sim (mvC a b cap) (mvC a' b' cap) (RF a b a' b' cap) := by
 refine ⟨fun c d h m c' hm => ?_,fun c d h m d' hm => ?_⟩
 ·obtain ⟨h1,rfl⟩ := (mvC_iff ha hb).1 hm
  obtain ⟨g1,g2⟩ := after_sim (cap := cap) h.1 m
  exact ⟨_,(mvC_iff ha' hb').2 ⟨by rw [← g1]; exact h1,rfl⟩,g2 h1,fits_after h.2.1 h1,fits_after h.2.2 (by have := g1; rw [h1] at this; exact this.symm)⟩
 ·obtain ⟨h1,rfl⟩ := (mvC_iff ha' hb').1 hm
  obtain ⟨g1,g2⟩ := after_sim (cap := cap) h.1 m
  have h2 := g1.trans h1
  exact ⟨_,(mvC_iff ha hb).2 ⟨h2,rfl⟩,g2 h2,fits_after h.2.1 h2,fits_after h.2.2 h1⟩
theorem RF.done {c d : Cfg} (h : RF a b a' b' cap c d) : doneC a b cap c = doneC a' b' cap d := by
 obtain ⟨⟨h1,h2,h3,h4⟩,h5,h6⟩ := h
 unfold doneC doneB
 rw [h5,h6,h3,h4,h1.isEnd,h2.isEnd]
theorem RF.kind (ha : a.Good) (hb : b.Good) (ha' : a'.Good) (hb' : b'.Good) {c d : Cfg} (h : RF a b a' b' cap c d) : kindB a b c.a c.b c.toA c.toB (movesC a b cap c.a c.b c.toA c.toB).length = kindB a' b' d.a d.b d.toA d.toB (movesC a' b' cap d.a d.b d.toA d.toB).length := by
 have hm : (movesC a b cap c.a c.b c.toA c.toB).length = 0 ↔ (movesC a' b' cap d.a d.b d.toA d.toB).length = 0 := by
  rw [List.length_eq_zero_iff,List.length_eq_zero_iff,List.eq_nil_iff_forall_not_mem,List.eq_nil_iff_forall_not_mem]
  constructor
  ·intro hh m hm
   exact hh m ((movesC_iff ha hb).2 (by rw [(after_sim h.1 m).1]; exact (movesC_iff ha' hb').1 hm))
  ·intro hh m hm
   exact hh m ((movesC_iff ha' hb').2 (by rw [← (after_sim h.1 m).1]; exact (movesC_iff ha hb).1 hm))
 obtain ⟨⟨h1,h2,h3,h4⟩,_,_⟩ := h
 unfold kindB
 rw [h1.isEnd,h2.isEnd,h1.block,h2.block,h3,h4]
 rw [h3,h4] at hm
 simp only [hm]
def badC (a b : Auto) (cap : Int) (c : Cfg) : Prop := ¬ ∃ l e,Run (mvC a b cap) c l e ∧ doneC a b cap e = true
theorem RF.bad (ha : a.Good) (hb : b.Good) (ha' : a'.Good) (hb' : b'.Good) {c d : Cfg} (h : RF a b a' b' cap c d) : badC a b cap c ↔ badC a' b' cap d := by
 have hs := RF.sim (cap := cap) ha hb ha' hb'
 unfold badC
 refine not_congr ⟨?_,?_⟩
 ·rintro ⟨l,e,h1,h2⟩
  obtain ⟨e',g1,g2⟩ := hs.stp h h1.stp
  exact ⟨l,e',g1.run,by rw [← g2.done]; exact h2⟩
 ·rintro ⟨l,e,h1,h2⟩
  obtain ⟨e',g1,g2⟩ := hs.flip.stp h h1.stp
  exact ⟨l,e',g1.run,by rw [g2.done]; exact h2⟩
variable {s t : Cfg} {p q : Cfg → Prop} {out out' : List Nd}
theorem Spc.bad (h : Spc a b cap s p out) {j : Nat} {x : Nd} (hx : out[j]? = some x) : badC a b cap x.c ↔ (rkN a b cap out).getD j (-1) < 0 := by
 constructor
 ·intro hb
  rcases Int.lt_or_le ((rkN a b cap out).getD j (-1)) 0 with h0 | h0
  ·exact h0
  ·obtain ⟨l,d,h1,h2,_⟩ := h.rank_run ((rkN a b cap out).getD j (-1)).toNat hx (by omega)
   exact (hb ⟨l,d,h1,h2⟩).elim
 ·rintro h0 ⟨l,d,h1,h2⟩
  have := h.rank_le h1 h2 hx rfl
  omega
theorem Mov.lt_tr (x y z : Mov) (h1 : Mov.lt x y = true) (h2 : Mov.lt y z = true) : Mov.lt x z = true := Edge.lt_tr _ _ _ h1 h2
theorem Mov.lt_irr (x : Mov) : ¬ Mov.lt x x = true := by
 unfold Mov.lt
 rw [Edge.lt_irr]
 decide
theorem spc_shl (hr : Runs29 a b cap p) (h0 : p s) {n lim : Nat} (hn : nodL (mvC a b cap) lim n [nod0 s] 0 = some out) : Shl (mvC a b cap) (fun x y => Mov.lt x y = true) p out out.length := by
 refine nodL_shl Mov.lt_tr (fun c hc => ?_) (fun c hc e he => ?_) (shl0 h0) hn
 ·have : (mvC a b cap c).map (·.1) = movesC a b cap c.a c.b c.toA c.toB := by
   unfold mvC
   rw [List.map_map]
   exact List.map_id _
  rw [this]
  exact hr.so c hc
 ·exact hr.nx c hc _ (by rw [← mvC_suc]; exact List.mem_map.2 ⟨e,he,rfl⟩)
theorem atL_none {x : Int} {l : List Int} (h : x ∉ l) : atL x l < 0 := by
 rcases Int.lt_or_le (atL x l) 0 with h0 | h0
 ·exact h0
 ·exact (h (atL_pos.1 h0)).elim
theorem stuck_same (ha : a.Good) (hb : b.Good) (ha' : a'.Good) (hb' : b'.Good) (h : Spc a b cap s p out) (h' : Spc a' b' cap t q out') (g : Shl (mvC a b cap) (fun x y => Mov.lt x y = true) p out out.length) (g' : Shl (mvC a' b' cap) (fun x y => Mov.lt x y = true) q out' out'.length) (h0 : RF a b a' b' cap s t) :
  ((-1 : Int) ∉ rkN a b cap out ∧ (-1 : Int) ∉ rkN a' b' cap out') ∨ ∃ (j j' : Nat) (x x' : Nd),atL (-1) (rkN a b cap out) = (j : Int) ∧ atL (-1) (rkN a' b' cap out') = (j' : Int) ∧ out[j]? = some x ∧ out'[j']? = some x' ∧ x.path = x'.path ∧ RF a b a' b' cap x.c x'.c := by
 have hs := RF.sim (cap := cap) ha hb ha' hb'
 have key : ∀ {a b : Auto} {s : Cfg} {p : Cfg → Prop} {out : List Nd},Spc a b cap s p out → (-1 : Int) ∈ rkN a b cap out → ∃ (j : Nat) (x : Nd),atL (-1) (rkN a b cap out) = (j : Int) ∧ out[j]? = some x ∧ badC a b cap x.c ∧ ∀ k y,k < j → out[k]? = some y → ¬ badC a b cap y.c := by
  intro a b s p out h hm
  obtain ⟨j,hj,hjg⟩ := atL_get hm
  have hjl : j < out.length := by rw [← rkN_len h]; exact (List.getElem?_eq_some_iff.1 hjg).1
  obtain ⟨x,hx⟩ := get_at (l := out) (k := j) hjl
  have hrk : (rkN a b cap out).getD j (-1) = -1 := by rw [List.getD_eq_getElem?_getD,hjg]; rfl
  refine ⟨j,x,hj,hx,(h.bad hx).2 (by omega),fun k y hk hy hb => ?_⟩
  have h1 := h.stuck hj k y hk hy
  have h2 := (h.bad hy).1 hb
  omega
 have mem : ∀ {a b : Auto} {s : Cfg} {p : Cfg → Prop} {out : List Nd},Spc a b cap s p out → ∀ y ∈ out,badC a b cap y.c → (-1 : Int) ∈ rkN a b cap out := by
  intro a b s p out h y hy hb
  obtain ⟨k,hk⟩ := mem_get hy
  have hkl := (List.getElem?_eq_some_iff.1 hk).1
  have h1 := (h.bad hk).1 hb
  have h2 := h.dist.low k hkl
  have h3 := rkN_len h
  have hkr : k < (rkN a b cap out).length := by omega
  have e : (rkN a b cap out).getD k (-1) = (rkN a b cap out)[k] := by simp [hkr]
  rw [e] at h1 h2
  have : (rkN a b cap out)[k] = -1 := by omega
  rw [← this]
  exact List.getElem_mem hkr
 by_cases hm : (-1 : Int) ∈ rkN a b cap out
 ·right
  obtain ⟨j,x,j1,j2,j3,j4⟩ := key h hm
  obtain ⟨y,hy,hby⟩ := some_same hs h0 h.fnd h'.fnd (fun c d hcd => hcd.bad ha hb ha' hb') (List.mem_of_getElem? j2) j3
  obtain ⟨j',x',k1,k2,k3,k4⟩ := key h' (mem h' y hy hby)
  have hp : x.path = x'.path := first_same Mov.lt_tr Mov.lt_irr hs h0 g g' h.fnd h'.fnd (fun c d hcd => hcd.bad ha hb ha' hb') j2 k2 j3 k3 j4 k4
  refine ⟨j,j',x,x',j1,k1,j2,k2,hp,?_⟩
  obtain ⟨d,d1,d2⟩ := hs.stp h0 (h.fnd.stp j j x (Nat.le_refl _) j2)
  have e1 := (run_spec d1.run).1
  have e2 := (run_spec (h'.run k2)).1
  rw [hp,e2] at e1
  rw [e1]
  exact d2
 ·left
  refine ⟨hm,fun hm' => ?_⟩
  obtain ⟨j',x',k1,k2,k3,k4⟩ := key h' hm'
  obtain ⟨y,hy,hby⟩ := some_same hs.flip h0 h'.fnd h.fnd (fun d c hcd => (hcd.bad ha hb ha' hb').symm) (List.mem_of_getElem? k2) k3
  exact hm (mem h y hy hby)
theorem mini_low {a : Auto} {n : Int} (h : ∀ e ∈ a.edges,e.label ≤ n) : ∀ e ∈ a.mini.edges,e.label ≤ n := by
 intro e he
 have he := (isort_perm Edge.lt _).mem_iff.1 he
 obtain ⟨f,hf,rfl⟩ := List.mem_map.1 he
 obtain ⟨k,hk,rfl⟩ := List.mem_map.1 (List.mem_filter.1 hf).1
 exact h k (List.mem_filter.1 hk).1
end Go.Pv
namespace Go.Pv
theorem r549 (t u : Nat) (l : List Mov) (hl : l.length ≤ 2147483647) : res A PrA 549 [.lst t (mvs3 l),.lst u (mvs3 l)] = some [.bool true] := by
 refine res_of a549 rfl rfl ?_
 simp only [F549]; try delta sS tT zZ nN gG bB pZ
 have hml := mvs3_length l
 have hz : decide ((l.length : Int) = (l.length : Int)) = true := decide_eq_true rfl
 simp (disch := omega) only [go_sem]
 refine W.upto l.length (fun k => ⟨[(1,.pv (.lst u (mvs3 l))),(12,.pv (.lst t (mvs3 l))),(13,.pv (.int .i64 l.length)),(14,.pv (.int .i64 k))],⟨[],[],[]⟩⟩) (fun _ => True) rfl trivial fun k hk _ => ?_
 simp (disch := omega) only [go_sem]
 refine Br.ofP (fun c1 => ?_) (fun c1 => ?_)
 ·obtain ⟨x,hx⟩ := get_at (l := l) (k := k) (by omega)
  simp (disch := omega) only [go_sem,hx,Option.map_some]
  exact .of (by omega) rfl trivial
 ·simp (disch := omega) only [go_sem]
set_option maxRecDepth 10000 in
set_option maxHeartbeats 8000000 in
theorem r546 (r548 : res A PrA 548 [] = some [.bool true]) (d : Draft × Draft × Int) (hd : d.1.ok ∧ d.2.1.ok ∧ 0 ≤ d.2.2 ∧ d.2.2 ≤ 255) : res A PrA 546 [.agg [.int .u8 d.1.n,.lst 0 (d.1.arcs.map Arc.c),.int .u8 d.2.1.n,.lst 0 (d.2.1.arcs.map Arc.c),.int .u8 d.2.2]] = some [.bool true] := by
 obtain ⟨x,y,c⟩ := d
 obtain ⟨hx,hy,hc⟩ := hd
 dsimp only at hx hy hc ⊢
 refine res_of a546 rfl rfl ?_
 simp only [F546]; try delta sS tT zZ nN gG bB pZ
 have h547 := r547 x y hx hy c hc
 obtain ⟨s1,s2,s3,s4,s5,s6⟩ := parSys hx hy hc
 have hlx := x.low
 have hly := y.low
 have q1 : 1 + x.n % 4 = x.auto.states := rfl
 have q2 : 1 + y.n % 4 = y.auto.states := rfl
 have q4 : x.auto.start = 0 := rfl
 have q5 : y.auto.start = 0 := rfl
 have q6 : x.auto.edges.map Edge.c = edgs x.auto.edges := rfl
 have q7 : y.auto.edges.map Edge.c = edgs y.auto.edges := rfl
 rw [q1,q2] at h547
 generalize 1 + c % 2 = cp at *
 generalize (decide ((x.arcs.length : Int) ≤ 12) && decide ((y.arcs.length : Int) ≤ 12)) = ok at *
 generalize x.auto = a at *
 generalize y.auto = b at *
 obtain ⟨ga,gb,gc1,gc2⟩ := sys_good s1
 have ma := ga.mini_good
 have mb := gb.mini_good
 have msa := ga.mini_states
 have msb := gb.mini_states
 have mla := ma.len
 have mlb := mb.len
 have t1 : sysErr a.mini b.mini cp = 0 := by
  unfold sysErr
  have e1 : a.mini.err = 0 := Auto.good_iff.2 ma
  have e2 : b.mini.err = 0 := Auto.good_iff.2 mb
  rw [if_neg (by simp [e1]),if_neg (by simp [e2]),if_neg (by omega)]
 have low2 : ∀ {a b : Auto},(∀ e ∈ a.edges,e.label ≤ 3) → (∀ e ∈ b.edges,e.label ≤ 3) → ∀ e ∈ a.edges ++ b.edges,e.label ≤ 3 := fun h1 h2 e he => by
  rcases List.mem_append.1 he with he | he
  ·exact h1 e he
  ·exact h2 e he
 have hl1 := low2 hlx hly
 have hl2 := low2 (mini_low hlx) (mini_low hly)
 have hF := few_smD s1 hl1 s2 s3 s4
 have hF' := few_smD t1 hl2 (by omega) (by omega) s4
 have hr := smD_runs s1 hl1
 have hr' := smD_runs t1 hl2
 have hst : smD a b cp (cfgStart a b) := hr.st
 have hst' : smD a.mini b.mini cp (cfgStart a.mini b.mini) := hr'.st
 obtain ⟨out,ho,hS,hlo⟩ := hF.space hst
 obtain ⟨out',ho',hS',hlo'⟩ := hF'.space hst'
 have hR : SpcR a b cp (cfgStart a b) (smD a b cp) out := ⟨hS,hF.sp,hlo,by omega,by omega⟩
 have hR' : SpcR a.mini b.mini cp (cfgStart a.mini b.mini) (smD a.mini b.mini cp) out' := ⟨hS',hF'.sp,hlo',by omega,by omega⟩
 have h242 := r242 hR hst s1 ho
 have h242' := r242 hR' hst' t1 ho'
 have h240 := r240 hR hst s1 (by omega) (by omega) ho
 have h240' := r240 hR' hst' t1 (by omega) (by omega) ho'
 have h0 : RF a b a.mini b.mini cp (cfgStart a b) (cfgStart a.mini b.mini) := ⟨⟨ga.mini_al,gb.mini_al,rfl,rfl⟩,hst.1,hst'.1⟩
 have hsame := stuck_same ga gb ma mb hS hS' (spc_shl hr hst ho) (spc_shl hr' hst' ho') h0
 have h12a := r12 0 a (by omega)
 have h12b := r12 0 b (by omega)
 rw [if_pos (Auto.good_iff.2 ga)] at h12a
 rw [if_pos (Auto.good_iff.2 gb)] at h12b
 have p4 : a.mini.start = 0 := rfl
 have p5 : b.mini.start = 0 := rfl
 have p6 : a.mini.edges.map Edge.c = edgs a.mini.edges := rfl
 have p7 : b.mini.edges.map Edge.c = edgs b.mini.edges := rfl
 cases ok with
 | false => simp (disch := omega) only [go_sem,h547,r548]
 | true =>
  rcases hsame with ⟨m1,m2⟩ | ⟨j,j',u,u',j1,j2,k1,k2,hpath,hRF⟩
  ·have hi := atL_none m1
   have hi' := atL_none m2
   have hz : (atL (-1) (rkN a b cp out)).toNat = 0 := by omega
   have hz' : (atL (-1) (rkN a.mini b.mini cp out')).toNat = 0 := by omega
   have hQ : stuckR a b cp out = [.lst 0 [],cfgP cfg0,.int .i64 0,.int .i64 15] := by
    unfold stuckR
    rw [hz,hS.fnd.first]
    simp only
    rw [if_pos hi]
   have hQ' : stuckR a.mini b.mini cp out' = [.lst 0 [],cfgP cfg0,.int .i64 0,.int .i64 15] := by
    unfold stuckR
    rw [hz',hS'.fnd.first]
    simp only
    rw [if_pos hi']
   rw [hQ] at h240
   rw [hQ'] at h240'
   rw [decide_eq_false m1] at h242
   rw [decide_eq_false m2] at h242'
   have h549 := fun t u => r549 t u [] (by simp)
   rw [mvs3_nil] at h549
   simp only [q4,q5,q6,q7,p4,p5,p6,p7,Bool.not_false] at h240 h242 h240' h242' h12a h12b
   simp (disch := omega) only [go_sem,h547,r548,h12a,h12b,h242,h242',h240,h240',h549]
  ·have hm : (-1 : Int) ∈ rkN a b cp out := atL_pos.1 (by omega)
   have hm' : (-1 : Int) ∈ rkN a.mini b.mini cp out' := atL_pos.1 (by omega)
   have hQ : stuckR a b cp out = [.lst 0 (mvs3 u.path),cfgP u.c,.int .i64 (kindB a b u.c.a u.c.b u.c.toA u.c.toB (movesC a b cp u.c.a u.c.b u.c.toA u.c.toB).length),.int .i64 0] := by
    unfold stuckR
    rw [j1,Int.toNat_natCast,k1]
    simp only
    rw [if_neg (by omega)]
   have hQ' : stuckR a.mini b.mini cp out' = [.lst 0 (mvs3 u.path),cfgP u'.c,.int .i64 (kindB a b u.c.a u.c.b u.c.toA u.c.toB (movesC a b cp u.c.a u.c.b u.c.toA u.c.toB).length),.int .i64 0] := by
    unfold stuckR
    rw [j2,Int.toNat_natCast,k2]
    simp only
    rw [if_neg (by omega),hpath,hRF.kind ga gb ma mb]
   rw [hQ] at h240
   rw [hQ'] at h240'
   rw [decide_eq_true hm] at h242
   rw [decide_eq_true hm'] at h242'
   generalize kindB a b u.c.a u.c.b u.c.toA u.c.toB (movesC a b cp u.c.a u.c.b u.c.toA u.c.toB).length = kd at h240 h240'
   have hpl := hS.fnd.plen j j u (Nat.le_refl _) k1
   have hjl := (List.getElem?_eq_some_iff.1 k1).1
   have h549 := fun t v => r549 t v u.path (by omega)
   simp only [q4,q5,q6,q7,p4,p5,p6,p7,Bool.not_true] at h240 h242 h240' h242' h12a h12b
   simp (disch := omega) only [go_sem,h547,r548,h12a,h12b,h242,h242',h240,h240',h549]
end Go.Pv
namespace Go.Pv
theorem r548 : res A PrA 548 [] = some [.bool true] := res_some.2 ⟨3000,by kernel_rfl⟩
end Go.Pv
