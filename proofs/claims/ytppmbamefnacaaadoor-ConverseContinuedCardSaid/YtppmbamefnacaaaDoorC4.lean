/-
 What the functions of the law give.
-/
import Derived.Test.YtppmbamefnacaaaDoorC3
set_option linter.unusedSimpArgs false
set_option linter.unusedVariables false
namespace Go.Pv
section
variable {α μ : Type}
inductive Run (mv : α → List (μ × α)) : α → List μ → α → Prop
 | nil (c : α) : Run mv c [] c
 | cons {c d e : α} {l : List μ} {m : μ} : (m,d) ∈ mv c → Run mv d l e → Run mv c (m :: l) e
theorem Run.snoc {mv : α → List (μ × α)} {c d e : α} {l : List μ} {m : μ} (h : Run mv c l d) (hm : (m,e) ∈ mv d) : Run mv c (l ++ [m]) e := by
 induction h with
 | nil => exact .cons hm (.nil _)
 | cons h1 _ ih => exact .cons h1 (ih hm)
theorem Stp.run {mv : α → List (μ × α)} {c e : α} {l : List μ} (h : Stp mv c l e) : Run mv c l e := by
 induction h with
 | nil => exact .nil _
 | snoc _ hm ih => exact ih.snoc hm
theorem Stp.head {mv : α → List (μ × α)} {c d e : α} {l : List μ} {m : μ} (hm : (m,d) ∈ mv c) (h : Stp mv d l e) : Stp mv c (m :: l) e := by
 induction h with
 | nil => exact Stp.snoc (l := []) (.nil _) hm
 | snoc _ h2 ih => exact Stp.snoc (l := m :: _) ih h2
theorem Run.stp {mv : α → List (μ × α)} {c e : α} {l : List μ} (h : Run mv c l e) : Stp mv c l e := by
 induction h with
 | nil => exact .nil _
 | cons hm _ ih => exact .head hm ih
end
structure Spc (a b : Auto) (cap : Int) (s : Cfg) (p : Cfg → Prop) (out : List Nd) : Prop where
 fnd : Fnd (mvC a b cap) s out out.length
 all : ∀ x ∈ out,p x.c
def rowsN (a b : Auto) (cap : Int) (out : List Nd) : List (List Int) := out.map fun x => (sucC a b cap x.c).map (posZ out)
variable {a b : Auto} {cap : Int} {s : Cfg} {p : Cfg → Prop} {out : List Nd}
theorem posZ_at (hn : (out.map Nod.c).Nodup) {z : Nat} {y : Nd} (hy : out[z]? = some y) : posZ out y.c = (z : Int) := by
 unfold posZ
 rw [pos_at hn hy]
 rfl
theorem Spc.closed (h : Spc a b cap s p out) {i : Nat} {x : Nd} (hx : out[i]? = some x) {d : Cfg} (hd : d ∈ sucC a b cap x.c) : ∃ (j : Nat) (y : Nd),out[j]? = some y ∧ y.c = d ∧ posZ out d = (j : Int) := by
 obtain ⟨j,y,h1,h2,_⟩ := h.fnd.dn i x (List.getElem?_eq_some_iff.1 hx).1 hx d (by rw [mvC_suc]; exact hd)
 exact ⟨j,y,h1,h2,by rw [← h2]; exact posZ_at h.fnd.nd h1⟩
theorem rowsN_len : (rowsN a b cap out).length = out.length := by simp [rowsN]
theorem Spc.inR (h : Spc a b cap s p out) : ∀ l ∈ rowsN a b cap out,∀ z ∈ l,0 ≤ z ∧ z < ((rowsN a b cap out).length : Int) := fun l hl z hz => by
 rw [rowsN_len]
 obtain ⟨x,hx,rfl⟩ := List.mem_map.1 hl
 obtain ⟨d,hd,rfl⟩ := List.mem_map.1 hz
 obtain ⟨i,hi⟩ := mem_get hx
 obtain ⟨j,y,h1,h2,h3⟩ := h.closed hi hd
 have := (List.getElem?_eq_some_iff.1 h1).1
 omega
def doneC (a b : Auto) (cap : Int) (c : Cfg) : Bool := doneB a b cap c.a c.b c.toA c.toB
def dnN (a b : Auto) (cap : Int) (out : List Nd) : List Int := doneUp (doneAt a b cap (out.map Nod.c)) out.length
def rkN (a b : Auto) (cap : Int) (out : List Nd) : List Int := ranksC (rowsN a b cap out) (dnN a b cap out)
theorem dnN_mem {i : Nat} {x : Nd} (hx : out[i]? = some x) : (i : Int) ∈ dnN a b cap out ↔ doneC a b cap x.c = true := by
 have hi := (List.getElem?_eq_some_iff.1 hx).1
 have hc : (out.map Nod.c)[i]? = some x.c := by rw [List.getElem?_map,hx]; rfl
 unfold dnN
 rw [doneUp_mem]
 constructor
 ·rintro ⟨j,_,h2,h3⟩
  obtain rfl : i = j := by omega
  unfold doneAt at h2
  rw [hc] at h2
  exact h2
 ·intro h
  refine ⟨i,hi,?_,rfl⟩
  unfold doneAt
  rw [hc]
  exact h
theorem Spc.dist (h : Spc a b cap s p out) : Dist out.length (edR (rowsN a b cap out)) (dnN a b cap out) (rkN a b cap out) := by
 have := ranks_dist (dn := dnN a b cap out) h.inR (fun x hx => by
  obtain ⟨i,h1,_,rfl⟩ := doneUp_mem.1 hx
  rw [rowsN_len]
  omega)
 rwa [rowsN_len] at this
theorem Spc.ed (h : Spc a b cap s p out) {i j : Nat} {x y : Nd} (hx : out[i]? = some x) (hy : out[j]? = some y) (hd : y.c ∈ sucC a b cap x.c) : edR (rowsN a b cap out) (i : Int) (j : Int) := by
 refine ⟨by omega,?_⟩
 rw [Int.toNat_natCast]
 have : (rowsN a b cap out).getD i [] = (sucC a b cap x.c).map (posZ out) := by simp [rowsN,hx]
 rw [this,← posZ_at h.fnd.nd hy]
 exact List.mem_map.2 ⟨_,hd,rfl⟩
theorem Spc.ed_inv (h : Spc a b cap s p out) {i : Nat} {x : Nd} {u : Int} (hx : out[i]? = some x) (he : edR (rowsN a b cap out) (i : Int) u) : ∃ (j : Nat) (y : Nd) (m : Mov),u = (j : Int) ∧ out[j]? = some y ∧ (m,y.c) ∈ mvC a b cap x.c := by
 obtain ⟨_,h2⟩ := he
 rw [Int.toNat_natCast] at h2
 have : (rowsN a b cap out).getD i [] = (sucC a b cap x.c).map (posZ out) := by simp [rowsN,hx]
 rw [this] at h2
 obtain ⟨d,hd,rfl⟩ := List.mem_map.1 h2
 obtain ⟨j,y,h3,h4,h5⟩ := h.closed hx hd
 rw [← mvC_suc] at hd
 obtain ⟨w,hw,hwd⟩ := List.mem_map.1 hd
 exact ⟨j,y,w.1,h5,h3,by rw [h4,← hwd]; exact hw⟩
theorem Spc.rank_le (h : Spc a b cap s p out) {c d : Cfg} {l : List Mov} (hr : Run (mvC a b cap) c l d) (hd : doneC a b cap d = true) : ∀ {i : Nat} {x : Nd},out[i]? = some x → x.c = c → 0 ≤ (rkN a b cap out).getD i (-1) ∧ (rkN a b cap out).getD i (-1) ≤ l.length := by
 have hD := h.dist
 induction hr with
 | nil c =>
  intro i x hx hc
  have hi := (List.getElem?_eq_some_iff.1 hx).1
  have := (hD.zero (i : Int) (by omega) (by omega)).2 ((dnN_mem hx).2 (by rw [hc]; exact hd))
  rw [Int.toNat_natCast] at this
  rw [this]
  exact ⟨by omega,by simp⟩
 | @cons c e d l m hm _ ih =>
  intro i x hx hc
  have hi := (List.getElem?_eq_some_iff.1 hx).1
  subst hc
  have hs : e ∈ sucC a b cap x.c := by rw [← mvC_suc]; exact List.mem_map.2 ⟨_,hm,rfl⟩
  obtain ⟨j,y,h1,h2,h3⟩ := h.closed hx hs
  have hj := (List.getElem?_eq_some_iff.1 h1).1
  obtain ⟨g1,g2⟩ := ih hd h1 h2
  have := hD.step (i : Int) (j : Int) (h.ed hx h1 (by rw [h2]; exact hs)) ⟨by omega,by omega,by omega,by omega⟩ (by rw [Int.toNat_natCast]; exact g1)
  rw [Int.toNat_natCast,Int.toNat_natCast] at this
  refine ⟨this.1,?_⟩
  rw [List.length_cons]
  omega
theorem Spc.rank_run (h : Spc a b cap s p out) : ∀ (k : Nat) {i : Nat} {x : Nd},out[i]? = some x → (rkN a b cap out).getD i (-1) = (k : Int) → ∃ (l : List Mov) (d : Cfg),Run (mvC a b cap) x.c l d ∧ doneC a b cap d = true ∧ l.length = k
 | 0,i,x,hx,hk => by
  have hi := (List.getElem?_eq_some_iff.1 hx).1
  have := (h.dist.zero (i : Int) (by omega) (by omega)).1 (by rw [Int.toNat_natCast]; exact hk)
  exact ⟨[],x.c,.nil _,(dnN_mem hx).1 this,rfl⟩
 | k + 1,i,x,hx,hk => by
  have hi := (List.getElem?_eq_some_iff.1 hx).1
  obtain ⟨u,u1,u2,u3,u4⟩ := h.dist.back (i : Int) (by omega) (by omega) (by rw [Int.toNat_natCast]; omega)
  obtain ⟨j,y,m,rfl,hy,hm⟩ := h.ed_inv hx u1
  rw [Int.toNat_natCast,Int.toNat_natCast] at u4
  obtain ⟨l,d,h1,h2,h3⟩ := h.rank_run k hy (by omega)
  exact ⟨m :: l,d,.cons hm h1,h2,by rw [List.length_cons,h3]⟩
theorem Spc.rank_eq (h : Spc a b cap s p out) {s' : Cfg} {p' : Cfg → Prop} {out' : List Nd} (h' : Spc a b cap s' p' out') {i j : Nat} {x y : Nd} (hx : out[i]? = some x) (hy : out'[j]? = some y) (hc : x.c = y.c) : (rkN a b cap out).getD i (-1) = (rkN a b cap out').getD j (-1) := by
 have key : ∀ {s s' : Cfg} {p p' : Cfg → Prop} {out out' : List Nd},Spc a b cap s p out → Spc a b cap s' p' out' → ∀ {i j : Nat} {x y : Nd},out[i]? = some x → out'[j]? = some y → x.c = y.c → 0 ≤ (rkN a b cap out).getD i (-1) → 0 ≤ (rkN a b cap out').getD j (-1) ∧ (rkN a b cap out').getD j (-1) ≤ (rkN a b cap out).getD i (-1) := by
  intro s s' p p' out out' h h' i j x y hx hy hc h0
  obtain ⟨l,d,h1,h2,h3⟩ := h.rank_run ((rkN a b cap out).getD i (-1)).toNat hx (by omega)
  have := h'.rank_le h1 h2 hy hc.symm
  omega
 have hi := (List.getElem?_eq_some_iff.1 hx).1
 have hj := (List.getElem?_eq_some_iff.1 hy).1
 have l1 := h.dist.low i hi
 have l2 := h'.dist.low j hj
 by_cases h1 : 0 ≤ (rkN a b cap out).getD i (-1)
 ·have k1 := key h h' hx hy hc h1
  have k2 := key h' h hy hx hc.symm k1.1
  omega
 ·by_cases h2 : 0 ≤ (rkN a b cap out').getD j (-1)
  ·have k2 := key h' h hy hx hc.symm h2
   omega
  ·omega
end Go.Pv
namespace Go.Pv
end Go.Pv
namespace Go.Pv
def revK (l : List Mov) (k : Nat) : List Mov := (List.range l.length).map fun p => if p < k ∨ l.length ≤ p + k then l.getD (l.length - 1 - p) default else l.getD p default
theorem revK_len (l : List Mov) (k : Nat) : (revK l k).length = l.length := by simp [revK]
theorem revK_get {l : List Mov} {k p : Nat} (h : p < l.length) : (revK l k)[p]? = some (if p < k ∨ l.length ≤ p + k then l.getD (l.length - 1 - p) default else l.getD p default) := by simp [revK,h]
theorem revK_zero (l : List Mov) : revK l 0 = l := by
 apply List.ext_getElem?
 intro p
 rcases Nat.lt_or_ge p l.length with h | h
 ·rw [revK_get h,if_neg (by omega),List.getElem?_eq_getElem h]
  simp [h]
 ·rw [List.getElem?_eq_none (by rw [revK_len]; exact h),List.getElem?_eq_none h]
theorem revK_succ {l : List Mov} {k : Nat} (h : k + k + 1 < l.length) : ((revK l k).set k (l.getD (l.length - 1 - k) default)).set (l.length - 1 - k) (l.getD k default) = revK l (k + 1) := by
 apply List.ext_getElem?
 intro p
 rcases Nat.lt_or_ge p l.length with hp | hp
 ·rw [revK_get hp]
  by_cases e1 : l.length - 1 - k = p
  ·subst e1
   rw [List.getElem?_set_self (by rw [List.length_set,revK_len]; exact hp),if_pos (by omega)]
   congr 2
   omega
  ·rw [List.getElem?_set_ne e1]
   by_cases e2 : k = p
   ·subst e2
    rw [List.getElem?_set_self (by rw [revK_len]; exact hp),if_pos (by omega)]
   ·rw [List.getElem?_set_ne e2,revK_get hp]
    by_cases c : p < k ∨ l.length ≤ p + k
    ·rw [if_pos c,if_pos (by omega)]
    ·rw [if_neg c,if_neg (by omega)]
 ·rw [List.getElem?_eq_none (by simp [revK_len,hp]),List.getElem?_eq_none (by rw [revK_len]; exact hp)]
theorem revK_end {l : List Mov} {k : Nat} (h : l.length ≤ k + k + 1) : revK l k = l.reverse := by
 apply List.ext_getElem?
 intro p
 rcases Nat.lt_or_ge p l.length with hp | hp
 ·rw [revK_get hp,List.getElem?_reverse hp]
  have hq : l.length - 1 - p < l.length := by omega
  have e : l.getD (l.length - 1 - p) default = l[l.length - 1 - p] := by simp [hq]
  rw [List.getElem?_eq_getElem hq,← e]
  by_cases c : p < k ∨ l.length ≤ p + k
  ·rw [if_pos c]
  ·rw [if_neg c]
   congr 2
   omega
 ·rw [List.getElem?_eq_none (by rw [revK_len]; exact hp),List.getElem?_eq_none (by rw [List.length_reverse]; exact hp)]
theorem mvs3_set (l : List Mov) (i : Nat) (a : Int) (b : Bool) (c : Int) : (mvs3 l).set i [.int .i64 a,.bool b,.int .i64 c] = mvs3 (l.set i ⟨a,b,c⟩) := by simp [mvs3,Mov.c,List.map_set]
theorem storeRow_mvs {id row ver : Nat} {a c : Int} {b : Bool} {r : List Mov} (h : row < r.length) : storeRow id row 0 [.pv (.int .i64 a),.pv (.bool b),.pv (.int .i64 c)] ⟨ver,3,.inl (mvs3 r)⟩ = some { ar := some (id,⟨ver,3,.inl (mvs3 (r.set row ⟨a,b,c⟩))⟩) } := by
 have h1 : row < (⟨ver,3,.inl (mvs3 r)⟩ : Arr).size := by simpa [Arr.size,mvs3] using h
 have h2 : (mvs3 r).getD row [] = (r[row]).c := by simp [mvs3,h]
 have h3 : (r[row]).c.drop 3 = [] := rfl
 simp [storeRow,h1,setBody,mapO,V.purec,PV.perm,V.calm,← mvs3_set]
 simp [mvs3,h,Mov.c]
set_option maxHeartbeats 4000000 in
theorem rev_run (v m : Nat) (l : List Mov) (hl : l.length = m + 1) (hm : m < 1000000) (Q : Ex → St → Prop) (hQ : ∀ env,Q .normal ⟨env,⟨[],[⟨v,3,.inl (mvs3 l.reverse)⟩],[]⟩⟩) : W A PrA F254.body ⟨[(0,.own 0 v 0 (m + 1))],⟨[],[⟨v,3,.inl (mvs3 l)⟩],[]⟩⟩ Q := by
 simp only [F254]; try delta sS tT zZ nN gG bB pZ
 simp (disch := omega) only [go_sem]
 refine W.upto (m + 1) (fun k => ⟨[(0,.own 0 v 0 (m + 1)),(2,.pv (.int .i64 k)),(3,.pv (.int .i64 ((m : Int) - k)))],⟨[],[⟨v,3,.inl (mvs3 (revK l k))⟩],[]⟩⟩) (fun _ => True) (by rw [revK_zero,show (((m + 1 : Nat) : Int) - 1) = (m : Int) - ((0 : Nat) : Int) by omega]; rfl) trivial fun k hk _ => ?_
 simp (disch := omega) only [go_sem]
 refine Br.ofP (fun c => ?_) (fun c => ?_)
 ·have hkl : k < l.length := by omega
  have hjl : m - k < l.length := by omega
  have h1 : (revK l k)[k]? = some (l.getD k default) := by rw [revK_get hkl,if_neg (by omega)]
  have h2 : (revK l k)[m - k]? = some (l.getD (m - k) default) := by rw [revK_get hjl,if_neg (by omega)]
  have hs := revK_succ (l := l) (k := k) (by omega)
  rw [show l.length - 1 - k = m - k by omega] at hs
  have hrl : (revK l k).length = m + 1 := by rw [revK_len,hl]
  have hti : ((m : Int) - (k : Int)).toNat = m - k := by omega
  generalize revK l k = r at *
  generalize l.getD k default = x at *
  generalize l.getD (m - k) default = y at *
  have hrl2 : (r.set k ⟨y.party,y.send,y.label⟩).length = m + 1 := by rw [List.length_set,hrl]
  simp (disch := omega) only [go_sem,h1,h2,hti,storeRow_mvs]
  refine .of (by omega) ?_ trivial
  rw [← hs,show ((m : Int) - (k : Int) - 1) = (m : Int) - ((k + 1 : Nat) : Int) by omega]
  rfl
 ·have := revK_end (l := l) (k := k) (by omega)
  rw [this]
  simp (disch := omega) only [go_sem]
  exact hQ _
theorem call254 {v : V} {bx : List (Nat × List V)} {ar : List Arr} {mp : List (List (PV × PV))} {K : V → Tn → Prop} (hv : v = .tl [] ∨ ∃ a b c d,v = .own a b c d) (h : W A PrA F254.body ⟨[(0,v)],⟨[],ar,mp⟩⟩ (inlK [] [] K)) : IW A PrA 254 [v] ⟨bx,ar,mp⟩ K := by
 rw [IW_eq a254]
 rcases hv with rfl | ⟨_,_,_,_,rfl⟩ <;> exact ⟨rfl,_,rfl,_,rfl,h⟩
set_option maxHeartbeats 4000000 in
theorem r249 (t : Nat) (s0 s1 s2 s3 s4 s5 s6 C M N : PV) (mvf : Cfg → List (Mov × Cfg)) (s : Cfg) (nodes : List Nd) (i0 : Nat) (hf : Fnd mvf s nodes i0) (hn : nodes.length ≤ 100000) (k : Nat) (x : Nd) (hx : nodes[k]? = some x) : res A PrA 249 [.ro t [s0,s1,s2,s3,s4,s5,s6,C,M,N,.lst 0 (ints (nodes.map Nod.bef)),.lst 0 (mvs3 (nodes.map Nd.mv))],.int .i64 k] = some [.lst 0 (mvs3 x.path)] := by
 refine res_of a249 rfl rfl ?_
 simp only [F249]; try delta sS tT zZ nN gG bB pZ
 have hk := (List.getElem?_eq_some_iff.1 hx).1
 simp (disch := omega) only [go_sem]
 refine W.loop (α := Nat × Nd × List Mov) (fun q => ⟨[(0,.pv (.ro t [s0,s1,s2,s3,s4,s5,s6,C,M,N,.lst 0 (ints (nodes.map Nod.bef)),.lst 0 (mvs3 (nodes.map Nd.mv))])),(1,.pv (.int .i64 q.1)),(5,grV 0 (mvs3 q.2.2))],⟨[],grA 3 (mvs3 q.2.2),[]⟩⟩)
  (fun q => nodes[q.1]? = some q.2.1 ∧ x.path = q.2.1.path ++ q.2.2.reverse ∧ q.2.2.length + q.1 ≤ k) (fun q => q.1) (k,x,[]) rfl ⟨hx,by simp,by simp⟩ fun q hq => ?_
 obtain ⟨j,y,acc⟩ := q
 obtain ⟨h1,h2,h3⟩ := hq
 dsimp only at h1 h2 h3
 have hb : (nodes.map Nod.bef)[j]? = some y.bef := by rw [List.getElem?_map,h1]; rfl
 have hm : (nodes.map Nd.mv)[j]? = some (Nd.mv y) := by rw [List.getElem?_map,h1]; rfl
 have hjl := (List.getElem?_eq_some_iff.1 h1).1
 have hbl : (nodes.map Nod.bef).length = nodes.length := List.length_map _
 have hml : (nodes.map Nd.mv).length = nodes.length := List.length_map _
 rcases Nat.eq_zero_or_pos j with h0 | h0
 ·subst h0
  rw [hf.first] at h1
  cases h1
  simp only [nod0,List.nil_append] at h2 hb hm
  have hge : decide ((-1 : Int) ≥ 0) = false := rfl
  cases acc with
  | nil =>
   simp (disch := omega) only [go_sem,hb]
   refine call254 (.inl rfl) ?_
   simp only [F254]; try delta sS tT zZ nN gG bB pZ
   simp (disch := omega) only [go_sem]
   refine W.loop (α := Unit) (fun _ => ⟨[(0,.tl []),(2,.pv (.int .i64 0)),(3,.pv (.int .i64 (-1)))],⟨[],[],[]⟩⟩) (fun _ => True) (fun _ => 0) () rfl trivial fun _ _ => ?_
   have ho : outBx (toOut []) [] outer [] = some [] := rfl
   simp (disch := omega) only [go_sem,ho]
   rw [h2]
   rfl
  | cons m0 acc =>
   simp (disch := omega) only [go_sem,hb]
   rw [grV_own (n := acc.length) (by rw [mvs3_length]; rfl),grA_own (n := acc.length) (by rw [mvs3_length]; rfl)]
   refine call254 (.inr ⟨_,_,_,_,rfl⟩) (rev_run acc.length acc.length (m0 :: acc) rfl (by simp at h3; omega) _ fun env => ?_)
   have ho : outBx (toOut []) [] outer [] = some [] := rfl
   have htk : (mvs3 (m0 :: acc).reverse).take (acc.length + 1) = mvs3 (m0 :: acc).reverse := List.take_of_length_le (by rw [mvs3_length,List.length_reverse]; exact Nat.le_refl _)
   simp (disch := omega) only [go_sem,ho,htk]
   rw [h2]
 ·obtain ⟨k2,y2,m,e1,e2,e3,e4,e5⟩ := hf.way j y h1 h0
  have hyb : y.bef = (k2 : Int) := by rw [e5]
  have hym : Nd.mv y = m := by rw [e5]; rfl
  have hyp : y.path = y2.path ++ [m] := by rw [e5]
  rw [hyb] at hb
  rw [hym] at hm
  have hal : (mvs3 acc).length ≤ 200000 := by rw [mvs3_length]; omega
  simp (disch := omega) only [go_sem,hb]
  refine Br.ofP (fun _ => ?_) (fun h => (h (by omega)).elim)
  simp (disch := omega) only [go_sem,hb,hm]
  refine ⟨(k2,y2,acc ++ [m]),⟨e3,?_,?_⟩,by dsimp only; omega,rfl⟩
  ·dsimp only
   rw [h2,hyp,List.reverse_append]
   simp
  ·dsimp only
   rw [List.length_append]
   simp
   omega
end Go.Pv
namespace Go.Pv
@[go_sem] theorem takev_ro (n t : Nat) (cs : List PV) : takev n (.ro t cs) = (.pv (.ro t cs),[]) := rfl
@[go_sem] theorem takev_nilp (n : Nat) : takev n .nilp = (.pv .nilp,[]) := rfl
theorem spc_perm (a b : Auto) (cap : Int) (out : List Nd) : (spc a b cap out).all PV.perm = true := rfl
variable {a b : Auto} {cap : Int} {s : Cfg} {p : Cfg → Prop} {out : List Nd}
theorem r246 (hp : Sp30 a b cap p) (h0 : p (cfgStart a b)) (ha : a.edges.length ≤ 1000000) (hb : b.edges.length ≤ 1000000) (hs : sysErr a b cap = 0) (hn : nodL (mvC a b cap) 5000 5002 [nod0 (cfgStart a b)] 0 = some out) : res A PrA 246 [.agg [.int .i64 a.states,.int .i64 a.start,.lst 0 (a.edges.map Edge.c),.int .i64 b.states,.int .i64 b.start,.lst 0 (b.edges.map Edge.c),.int .i64 cap]] = some [.ro 0 (spc a b cap out),.int .i64 0] := by
 refine res_of a246 rfl rfl ?_
 simp only [F246]; try delta sS tT zZ nN gG bB pZ
 have h253 := r253 a b cap (cfgStart a b) hp h0 ha hb hs
 rw [hn] at h253
 simp only [cfgStart,ints_nil] at h253
 have hd : decide (sysErr a b cap = 0) = true := decide_eq_true hs
 simp (disch := omega) only [go_sem,hd,h253,spc_perm]
theorem r248 (hp : Sp30 a b cap p) (h0 : p s) (ha : a.edges.length ≤ 1000000) (hb : b.edges.length ≤ 1000000) (hs : sysErr a b cap = 0) (hn : nodL (mvC a b cap) 5000 5002 [nod0 s] 0 = some out) : res A PrA 248 [.agg [.int .i64 a.states,.int .i64 a.start,.lst 0 (a.edges.map Edge.c),.int .i64 b.states,.int .i64 b.start,.lst 0 (b.edges.map Edge.c),.int .i64 cap],.agg [.int .i64 s.a,.int .i64 s.b,.lst 0 (ints s.toA),.lst 0 (ints s.toB)]] = some [.ro 0 (spc a b cap out),.int .i64 0] := by
 refine res_of a248 rfl rfl ?_
 simp only [F248]; try delta sS tT zZ nN gG bB pZ
 have h253 := r253 a b cap s hp h0 ha hb hs
 rw [hn] at h253
 have hd : decide (sysErr a b cap = 0) = true := decide_eq_true hs
 have hf := hp.fit s h0
 have hok := hp.ok s h0
 have h1 := hok.2.2.2.2.1
 have h2 := hok.2.2.2.2.2
 have h157 := r157 0 0 a b cap 0 0 s.a s.b s.toA s.toB (by omega) (by omega) (by omega) (by omega)
 rw [hf] at h157
 simp (disch := omega) only [go_sem,hd,h253,h157,spc_perm]
structure SpcR (a b : Auto) (cap : Int) (s : Cfg) (p : Cfg → Prop) (out : List Nd) : Prop extends Spc a b cap s p out where
 sp : Sp30 a b cap p
 len : out.length ≤ 5000
 ea : a.edges.length ≤ 10000
 eb : b.edges.length ≤ 10000
theorem SpcR.rk (h : SpcR a b cap s p out) (t : Nat) : res A PrA 247 [.ro t [.int .i64 a.states,.int .i64 a.start,.lst 0 (a.edges.map Edge.c),.int .i64 b.states,.int .i64 b.start,.lst 0 (b.edges.map Edge.c),.int .i64 cap,.lst 0 (cfgs (out.map Nod.c)),.lst 0 (mvRows (out.map fun x => movesC a b cap x.c.a x.c.b x.c.toA x.c.toB)),.lst 0 (lls (out.map fun x => (sucC a b cap x.c).map (posZ out))),.lst 0 (ints (out.map Nod.bef)),.lst 0 (mvs3 (out.map Nd.mv))]] = some [.lst 0 (ints (rkN a b cap out))] := by
 have hea := h.ea
 have heb := h.eb
 have := r247 t a b cap (out.map Nod.c) (rowsN a b cap out) (.lst 0 (mvRows (out.map fun x => movesC a b cap x.c.a x.c.b x.c.toA x.c.toB))) (.lst 0 (ints (out.map Nod.bef))) (.lst 0 (mvs3 (out.map Nd.mv))) (by rw [rowsN_len,List.length_map]) (by rw [rowsN_len]; exact h.len) h.inR (fun l hl => by
  obtain ⟨x,_,rfl⟩ := List.mem_map.1 hl
  have h1 := mvsOf_len a b cap x.c.a x.c.b x.c.toA x.c.toB 0 x.c.a a.edges
  have h2 := mvsOf_len a b cap x.c.a x.c.b x.c.toA x.c.toB 1 x.c.b b.edges
  rw [List.length_map,sucC,List.length_map,movesC,List.length_append]
  omega) (fun c hc => by
  obtain ⟨x,hx,rfl⟩ := List.mem_map.1 hc
  have := h.sp.ok _ (h.all x hx)
  have h1 := this.2.2.2.2.1
  have h2 := this.2.2.2.2.2
  omega) (by omega) (by omega)
 rw [rowsN_len] at this
 exact this
theorem rkN_len (h : Spc a b cap s p out) : (rkN a b cap out).length = out.length := h.dist.len
end Go.Pv
namespace Go.Pv
end Go.Pv
namespace Go.Pv
variable {a b : Auto} {cap : Int} {s : Cfg} {p : Cfg → Prop} {out : List Nd}
end Go.Pv
namespace Go.Pv
variable {a b : Auto} {cap : Int} {s : Cfg} {p : Cfg → Prop} {out : List Nd}
end Go.Pv
namespace Go.Pv
structure Few (a b : Auto) (cap : Int) (p : Cfg → Prop) (U : List Cfg) : Prop where
 sp : Sp30 a b cap p
 len : U.length ≤ 5000
 all : ∀ c,p c → c ∈ U
theorem bfsL_len {α : Type} [DecidableEq α] {succ : α → List α} {lim : Nat} : ∀ {n : Nat} {o o' : List α} {i : Nat},o.length ≤ lim → bfsL succ lim n o i = some o' → o'.length ≤ lim
 | 0,_,_,_,_,h => by cases h
 | n + 1,o,o',i,hl,h => by
  unfold bfsL at h
  split at h
  ·cases h
   exact hl
  ·split at h
   ·cases h
   ·rename_i o2 ha
    exact bfsL_len ((addUs_some ha).2.2.2 hl) h
open Classical in
theorem Few.space {a b : Auto} {cap : Int} {p : Cfg → Prop} {U : List Cfg} (h : Few a b cap p U) {c : Cfg} (hc : p c) : ∃ out,nodL (mvC a b cap) 5000 5002 [nod0 c] 0 = some out ∧ Spc a b cap c p out ∧ out.length ≤ 5000 := by
 have hU : ∀ c,p c → c ∈ U.filter fun c => decide (p c) := fun c hc => List.mem_filter.2 ⟨h.all c hc,by simpa using hc⟩
 have hlen : (U.filter fun c => decide (p c)).length ≤ 5000 := by
  have h1 := List.length_filter_le (fun c => decide (p c)) U
  have h2 := h.len
  omega
 have hs : sucOf (mvC a b cap) = sucC a b cap := funext fun c => mvC_suc a b cap c
 obtain ⟨o,ho⟩ := bfsL_total (succ := sucC a b cap) (s := c) (lim := 5000) (n := 5002) hlen (fun c hc x hx => hU x (h.sp.nx c (by simpa using (List.mem_filter.1 hc).2) x hx)) (bfs0 _ _) (fun x hx => by
  rw [List.mem_singleton.1 hx]
  exact hU _ hc) (Nat.zero_le _) (by omega)
 have hall := (bfsL_spec h.sp.nx (bfs0 (sucC a b cap) c) (fun x hx => by
  rw [List.mem_singleton.1 hx]
  exact hc) ho).2.1
 have hl := bfsL_len (by simp) ho
 rw [← hs] at ho
 obtain ⟨out,h1,h2⟩ := nodL_some ho
 refine ⟨out,h1,⟨nodL_end h1,fun x hx => hall _ ?_⟩,?_⟩
 ·rw [← h2]
  exact List.mem_map.2 ⟨x,hx,rfl⟩
 ·rw [← h2,List.length_map] at hl
  exact hl
theorem few_sm {a b : Auto} {cap : Int} (hs : sysErr a b cap = 0) (hl : ∀ e ∈ a.edges ++ b.edges,e.label ≤ 2) (ha : a.states ≤ 3) (hb : b.states ≤ 3) (hc : cap ≤ 2) : Few a b cap (smC a b cap) cfgU := by
 have hr := smC_runs hs hl
 refine ⟨⟨hr.nx,hr.ok,fun c h => h.1⟩,?_,fun c h => ?_⟩
 ·have h2 : cfgU.length = 441 := by decide +kernel
  omega
 ·obtain ⟨h1,h2,h3⟩ := h
  obtain ⟨_,h4,h5,h6,h7⟩ := fitsB_iff.1 h1
  exact cfgU_mem (by omega) (by omega) (chans_mem h6 h2 hc) (chans_mem h7 h3 hc)
end Go.Pv
namespace Go.Pv
end Go.Pv
namespace Go.Pv
variable {a b : Auto} {cap : Int}
theorem atFrom_before {x : Int} : ∀ {l : List Int} {k j : Nat},atFrom x k l = ((k + j : Nat) : Int) → ∀ i,i < j → l[i]? ≠ some x
 | [],k,j,h,i,hi => by simp
 | y :: r,k,j,h,i,hi => by
  unfold atFrom at h
  split at h
  ·omega
  ·rename_i hne
   cases i with
   | zero => intro e; simp at e; exact hne e
   | succ i =>
    have := atFrom_before (l := r) (k := k + 1) (j := j - 1) (by rw [h]; congr 1; omega) i (by omega)
    simpa using this
theorem atL_before {x : Int} {l : List Int} {j : Nat} (h : atL x l = (j : Int)) : ∀ i,i < j → l[i]? ≠ some x := atFrom_before (k := 0) (by rw [Nat.zero_add]; exact h)
variable {s : Cfg} {p : Cfg → Prop} {out : List Nd}
theorem Spc.run (h : Spc a b cap s p out) {j : Nat} {x : Nd} (hx : out[j]? = some x) : Run (mvC a b cap) s x.path x.c := (h.fnd.stp j j x (Nat.le_refl _) hx).run
end Go.Pv
namespace Go.Pv
def smallA (m : Int) (x : Arc) : Arc := ⟨x.fr % m,x.act % 4,x.to % m⟩
def smallL (m : Int) (l : List Arc) (k : Nat) : List Arc := (l.take k).map (smallA m)
theorem smallL_len {m : Int} {l : List Arc} {k : Nat} (h : k ≤ l.length) : (smallL m l k).length = k := by rw [smallL,List.length_map,List.length_take]; omega
theorem smallL_succ {m : Int} {l : List Arc} {k : Nat} {x : Arc} (h : l[k]? = some x) : smallL m l (k + 1) = smallL m l k ++ [smallA m x] := by rw [smallL,List.take_add_one,h,List.map_append]; rfl
def smallD (n : Int) (l : List Arc) : Draft := ⟨n % 3,smallL (n % 3 + 1) l 12⟩
def arcs (l : List Arc) : List (List PV) := l.map Arc.c
@[go_sem] theorem arcs_length (l : List Arc) : (arcs l).length = l.length := List.length_map _
@[go_sem] theorem arcs_get (l : List Arc) (i : Nat) : (arcs l)[i]? = l[i]?.map fun x => [.int .u8 x.fr,.int .u8 x.act,.int .u8 x.to] := by simp [arcs]; rfl
theorem arcs_snoc (l : List Arc) (x : Arc) : arcs l ++ [[.int .u8 x.fr,.int .u8 x.act,.int .u8 x.to]] = arcs (l ++ [x]) := by simp [arcs,Arc.c]
set_option maxHeartbeats 4000000 in
theorem r184 (t : Nat) (n : Int) (l : List Arc) (hn : 0 ≤ n ∧ n ≤ 255) (_hl : l.length ≤ 2 ^ 63 - 1) (ho : ∀ x ∈ l,x.ok) : res A PrA 184 [.int .u8 n,.lst t (arcs l)] = some [.agg [.int .u8 (n % 3),.lst 0 (arcs (smallL (n % 3 + 1) l 12))]] := by
 refine res_of a184 rfl rfl ?_
 simp only [F184]; try delta sS tT zZ nN gG bB pZ
 have hm : n.tmod 3 = n % 3 := Int.tmod_eq_emod_of_nonneg hn.1
 have hb := Int.emod_nonneg n (by decide : (3 : Int) ≠ 0)
 have hc := Int.emod_lt_of_pos n (by decide : (0 : Int) < 3)
 simp (disch := omega) only [go_sem]
 generalize n % 3 = s at *
 refine W.upto 12 (fun k => ⟨[(1,.pv (.lst t (arcs l))),(4,.ptr 4 0),(5,.ptr 5 0),(6,.pv (.int .i64 k))],⟨[(4,[.pv (.int .u8 0),.tl []]),(5,[.pv (.int .u8 s),grV 0 (arcs (smallL (s + 1) l k))])],grA 3 (arcs (smallL (s + 1) l k)),[]⟩⟩) (fun k => k ≤ l.length) rfl (Nat.zero_le _) fun k hk hkl => ?_
 simp (disch := omega) only [go_sem]
 have hlen := smallL_len (m := s + 1) hkl
 have hal : (arcs (smallL (s + 1) l k)).length = k := by rw [arcs_length]; exact hlen
 refine Br.ofP (fun c1 => ?_) (fun c1 => ?_) <;> simp (disch := omega) only [go_sem,c1]
 ·refine Br.ofP (fun c2 => ?_) (fun c2 => ?_) <;> simp (disch := omega) only [go_sem,c2]
  ·obtain ⟨x,hx⟩ := get_at (l := l) (k := k) (by omega)
   obtain ⟨⟨o1,o2⟩,⟨o3,o4⟩,o5,o6⟩ := ho x (List.mem_of_getElem? hx)
   have e1 : x.fr.tmod (s + 1) = x.fr % (s + 1) := Int.tmod_eq_emod_of_nonneg o1
   have e2 : x.to.tmod (s + 1) = x.to % (s + 1) := Int.tmod_eq_emod_of_nonneg o5
   have e3 : x.act.tmod 4 = x.act % 4 := Int.tmod_eq_emod_of_nonneg o3
   have f1 := Int.emod_nonneg x.fr (by omega : s + 1 ≠ 0)
   have f2 := Int.emod_lt_of_pos x.fr (by omega : 0 < s + 1)
   have f3 := Int.emod_nonneg x.to (by omega : s + 1 ≠ 0)
   have f4 := Int.emod_lt_of_pos x.to (by omega : 0 < s + 1)
   have f5 := Int.emod_nonneg x.act (by decide : (4 : Int) ≠ 0)
   have f6 := Int.emod_lt_of_pos x.act (by decide : (0 : Int) < 4)
   have hss := smallL_succ (m := s + 1) hx
   simp (disch := omega) only [go_sem,hx]
   refine .of (by omega) ?_ (by omega)
   rw [hss,← arcs_snoc]
   rfl
  ·have h12 : k = 12 := by omega
   rw [h12]
 ·have hkl2 : k = l.length := by omega
  have : smallL (s + 1) l k = smallL (s + 1) l 12 := by
   unfold smallL
   rw [List.take_of_length_le (by omega),List.take_of_length_le (by omega)]
  rw [this]
structure PDr where
 n : Int
 la : List Arc
 l : List Arc
 mirror : Bool
 skip : Int
 cap : Int
def PDr.ok (d : PDr) : Prop := (0 ≤ d.n ∧ d.n ≤ 255) ∧ (0 ≤ d.skip ∧ d.skip ≤ 255) ∧ (0 ≤ d.cap ∧ d.cap ≤ 255) ∧ d.la.length ≤ 2 ^ 63 - 1 ∧ d.l.length ≤ 2 ^ 63 - 1 ∧ (∀ x ∈ d.la,x.ok) ∧ ∀ x ∈ d.l,x.ok
def PDr.sh (d : PDr) (k : Nat) : Int := d.skip.fdiv (2 ^ (min ((k : Int) % 8).toNat IntKind.u8.bits))
def PDr.bit (d : PDr) (k : Nat) : Int := IntKind.u8.wrap (BitVec.ofInt IntKind.u8.bits (d.sh k) &&& BitVec.ofInt IntKind.u8.bits 1).toNat
theorem PDr.shr_val (d : PDr) (k : Nat) : binV .shr (.pv (.int .u8 d.skip)) (.pv (.int .i64 ((k : Int) % 8))) = some (.pv (.int .u8 (d.sh k))) := by
 show (shiftBin .shr .u8 d.skip ((k : Int) % 8)).map V.pv = _
 unfold shiftBin
 rw [if_neg (by omega)]
 rfl
theorem PDr.and_val (d : PDr) (k : Nat) : binV .and (.pv (.int .u8 (d.sh k))) (.pv (.int .u8 1)) = some (.pv (.int .u8 (d.bit k))) := rfl
def PDr.out (d : PDr) (k : Nat) : Bool := decide (d.bit k = 0)
def PDr.fit (d : PDr) : Bool := decide (d.la.length ≤ 12) && decide (d.l.length ≤ 12)
theorem smallD_ok {n : Int} {l : List Arc} (_hn : 0 ≤ n ∧ n ≤ 255) (_ho : ∀ x ∈ l,x.ok) : (smallD n l).ok := by
 have hb := Int.emod_nonneg n (by decide : (3 : Int) ≠ 0)
 have hc := Int.emod_lt_of_pos n (by decide : (0 : Int) < 3)
 refine ⟨⟨hb,by show n % 3 ≤ 255; omega⟩,?_,fun x hx => ?_⟩
 ·show (smallL (n % 3 + 1) l 12).length ≤ _
  rw [smallL,List.length_map,List.length_take]
  omega
 ·obtain ⟨y,_,rfl⟩ := List.mem_map.1 hx
  generalize n % 3 = s at *
  have f1 := Int.emod_nonneg y.fr (by omega : s + 1 ≠ 0)
  have f2 := Int.emod_lt_of_pos y.fr (by omega : 0 < s + 1)
  have f3 := Int.emod_nonneg y.to (by omega : s + 1 ≠ 0)
  have f4 := Int.emod_lt_of_pos y.to (by omega : 0 < s + 1)
  have f5 := Int.emod_nonneg y.act (by decide : (4 : Int) ≠ 0)
  have f6 := Int.emod_lt_of_pos y.act (by decide : (0 : Int) < 4)
  exact ⟨⟨f1,by show y.fr % (s + 1) ≤ 255; omega⟩,⟨f5,by show y.act % 4 ≤ 255; omega⟩,f3,by show y.to % (s + 1) ≤ 255; omega⟩
theorem raw_from {st : Int} : ∀ (l : List Arc) (es : List Edge) (e : Edge),e ∈ l.foldl (fun es x => addE es (x.edge st)) es → e ∈ es ∨ ∃ x ∈ l,e = x.edge st
 | [],_,_,h => .inl h
 | x :: l,es,e,h => by
  rcases raw_from l (addE es (x.edge st)) e h with h | ⟨y,hy,rfl⟩
  ·rcases addE_mem h with h | rfl
   ·exact .inl h
   ·exact .inr ⟨x,List.mem_cons_self ..,rfl⟩
  ·exact .inr ⟨y,List.mem_cons_of_mem _ hy,rfl⟩
theorem smallD_edges {n : Int} {l : List Arc} (_hn : 0 ≤ n) : ∀ e ∈ (smallD n l).auto.edges,(0 ≤ e.fr ∧ e.fr ≤ 2) ∧ (0 ≤ e.to ∧ e.to ≤ 2) ∧ (1 ≤ e.label ∧ e.label ≤ 2) := by
 intro e he
 have he := (sortB_perm Edge.lt (smallD n l).raw).subset he
 have hb := Int.emod_nonneg n (by decide : (3 : Int) ≠ 0)
 have hc := Int.emod_lt_of_pos n (by decide : (0 : Int) < 3)
 have hst : (smallD n l).n = n % 3 := rfl
 rcases raw_from _ _ e he with h | ⟨x,hx,rfl⟩
 ·cases h
 ·have hx := List.mem_of_mem_take hx
  obtain ⟨y,_,rfl⟩ := List.mem_map.1 hx
  rw [hst]
  generalize n % 3 = s at *
  have hs4 : s % 4 = s := Int.emod_eq_of_lt hb (by omega)
  rw [hs4]
  have f1 := Int.emod_nonneg (smallA (s + 1) y).fr (by omega : 1 + s ≠ 0)
  have f2 := Int.emod_lt_of_pos (smallA (s + 1) y).fr (by omega : 0 < 1 + s)
  have f3 := Int.emod_nonneg (smallA (s + 1) y).to (by omega : 1 + s ≠ 0)
  have f4 := Int.emod_lt_of_pos (smallA (s + 1) y).to (by omega : 0 < 1 + s)
  have hl : (((smallA (s + 1) y).edge (1 + s)).label) = 1 + y.act % 4 / 2 % 3 := rfl
  refine ⟨⟨f1,?_⟩,⟨f3,?_⟩,?_⟩
  ·show (smallA (s + 1) y).fr % (1 + s) ≤ 2
   omega
  ·show (smallA (s + 1) y).to % (1 + s) ≤ 2
   omega
  ·rw [hl]
   omega
def mirA (e : Edge) : Arc := ⟨e.fr,if e.send = true then 2 * (e.label - 1) else 2 * (e.label - 1) + 1,e.to⟩
def mirL (out : Nat → Bool) (es : List Edge) : Nat → List Arc
 | 0 => []
 | k + 1 => match es[k]? with
  | none => mirL out es k
  | some e => if out k = true then mirL out es k ++ [mirA e] else mirL out es k
theorem mirL_len (out : Nat → Bool) (es : List Edge) (k : Nat) : (mirL out es k).length ≤ k := by
 induction k with
 | zero => exact Nat.le_refl _
 | succ k ih =>
  unfold mirL
  split
  ·omega
  ·split
   ·rw [List.length_append,List.length_singleton]
    omega
   ·omega
def PDr.mir (d : PDr) : List Arc := mirL d.out (smallD d.n d.la).auto.edges (smallD d.n d.la).auto.edges.length
def PDr.n2 (d : PDr) : Int := if d.mirror = true then d.n else IntKind.u8.wrap (d.n + d.skip)
def PDr.l2 (d : PDr) : List Arc := (if d.mirror = true then d.mir else []) ++ d.l
def PDr.A (d : PDr) : Auto := (smallD d.n d.la).auto
def PDr.B (d : PDr) : Auto := (smallD d.n2 d.l2).auto
theorem mirL_ok {out : Nat → Bool} {es : List Edge} (h : ∀ e ∈ es,(0 ≤ e.fr ∧ e.fr ≤ 2) ∧ (0 ≤ e.to ∧ e.to ≤ 2) ∧ (1 ≤ e.label ∧ e.label ≤ 2)) : ∀ k,∀ x ∈ mirL out es k,x.ok
 | 0,x,hx => by cases hx
 | k + 1,x,hx => by
  unfold mirL at hx
  split at hx
  ·exact mirL_ok h k x hx
  ·rename_i e he
   split at hx
   ·rcases List.mem_append.1 hx with hx | hx
    ·exact mirL_ok h k x hx
    ·rw [List.mem_singleton.1 hx]
     obtain ⟨f1,f2,f3⟩ := h e (List.mem_of_getElem? he)
     refine ⟨⟨f1.1,by show e.fr ≤ 255; omega⟩,?_,f2.1,by show e.to ≤ 255; omega⟩
     show 0 ≤ (if e.send = true then 2 * (e.label - 1) else 2 * (e.label - 1) + 1) ∧ (if e.send = true then 2 * (e.label - 1) else 2 * (e.label - 1) + 1) ≤ 255
     split <;> omega
   ·exact mirL_ok h k x hx
theorem app_nil0 (h : Heap) (rows : List (List PV)) (hr : ∀ r ∈ rows,r.length = 3) (hm : rows.length ≤ 2147483648) : appendV h 3 (.tl []) (.pv (.lst 0 rows)) = some (if rows.length = 0 then (.tl [],{}) else (.own h.ar.length 0 0 rows.length,{ push := [⟨0,3,.inl rows⟩],base := h.ar.length })) := by
 have hf : (rows.all fun x => x.length == 3) = true := by simpa using hr
 by_cases h0 : rows.length = 0
 ·simp [appendV,srcRows,rowsFit,rowsLen,h0,hf]
 ·simp [appendV,srcRows,rowsFit,rowsLen,h0,hf,mostRows,catRows,hm]
theorem app_own0 (h : Heap) (ver len : Nat) (R rows : List (List PV)) (ho : ownArr h 0 ver = some ⟨ver,3,.inl R⟩) (hl : len = R.length) (hr : ∀ r ∈ rows,r.length = 3) (hm : len + rows.length ≤ 2147483648) : appendV h 3 (.own 0 ver 0 len) (.pv (.lst 0 rows)) = some (if rows.length = 0 then (.own 0 ver 0 len,{ ra2 := some 0 }) else (.own 0 (ver + 1) 0 (len + rows.length),{ ar := some (0,⟨ver + 1,3,.inl (R ++ rows)⟩) })) := by
 have hf : (rows.all fun x => x.length == 3) = true := by simpa using hr
 subst hl
 by_cases h0 : rows.length = 0
 ·simp [appendV,srcRows,rowsFit,rowsLen,h0,hf,ho]
 ·simp [appendV,srcRows,rowsFit,rowsLen,h0,hf,ho,mostRows,catRows,cutRows,hm,Arr.size]
theorem arcs_rows (l : List Arc) : ∀ r ∈ arcs l,r.length = 3 := by
 intro r hr
 obtain ⟨x,_,rfl⟩ := List.mem_map.1 hr
 rfl
theorem wrap_u8_in (x : Int) : 0 ≤ IntKind.wrap .u8 x ∧ IntKind.wrap .u8 x ≤ 255 := by
 have h : IntKind.wrap .u8 x = x % 256 := rfl
 rw [h]
 omega
set_option maxHeartbeats 4000000 in
theorem r164 (d : PDr) (hd : d.ok) : res A PrA 164 [.agg [.int .u8 d.n,.lst 0 (arcs d.la),.lst 0 (arcs d.l),.bool d.mirror,.int .u8 d.skip,.int .u8 d.cap]] = some (if d.fit = true then [.agg [.int .i64 (1 + d.n % 3 % 4),.int .i64 0,.lst 0 (edgs d.A.edges),.int .i64 (1 + d.n2 % 3 % 4),.int .i64 0,.lst 0 (edgs d.B.edges),.int .i64 (1 + d.cap % 2)],.bool true] else [.agg [.int .i64 0,.int .i64 0,.lst 0 [],.int .i64 0,.int .i64 0,.lst 0 [],.int .i64 0],.bool false]) := by
 refine res_of a164 rfl rfl ?_
 simp only [F164]; try delta sS tT zZ nN gG bB pZ
 obtain ⟨h1,h2,h3,h4,h5,h6,h7⟩ := hd
 have e1 := r184 0 d.n d.la h1 h4 h6
 have e2 := r25 0 _ (smallD_ok h1 h6)
 have e3 : (smallD d.n d.la).arcs.map Arc.c = arcs (smallL (d.n % 3 + 1) d.la 12) := rfl
 have e4 : (smallD d.n d.la).n = d.n % 3 := rfl
 rw [e3,e4] at e2
 simp (disch := omega) only [go_sem]
 refine Br.ofP (fun c1 => ?_) (fun c1 => ?_) <;> simp (disch := omega) only [go_sem,c1]
 ·have hf : d.fit = false := by
   have : ¬ d.la.length ≤ 12 := by omega
   simp [PDr.fit,this]
  rw [hf,if_neg (by decide)]
 ·refine Br.ofP (fun c2 => ?_) (fun c2 => ?_) <;> simp (disch := omega) only [go_sem,c2,e1,e2]
  ·have hf : d.fit = false := by
    have : ¬ d.l.length ≤ 12 := by omega
    simp [PDr.fit,this]
   rw [hf,if_neg (by decide)]
  have hf : d.fit = true := by
   have g1 : d.la.length ≤ 12 := by omega
   have g2 : d.l.length ≤ 12 := by omega
   simp [PDr.fit,g1,g2]
  rw [hf,if_pos rfl]
  have hcm : d.cap.tmod 2 = d.cap % 2 := Int.tmod_eq_emod_of_nonneg h3.1
  have hc1 := Int.emod_nonneg d.cap (by decide : (2 : Int) ≠ 0)
  have hc2 := Int.emod_lt_of_pos d.cap (by decide : (0 : Int) < 2)
  have hll : (arcs d.l).length = d.l.length := arcs_length _
  have hn2 : 0 ≤ d.n2 ∧ d.n2 ≤ 255 := by
   unfold PDr.n2
   split
   ·exact h1
   ·exact wrap_u8_in _
  have hml0 := mirL_len d.out (smallD d.n d.la).auto.edges (smallD d.n d.la).auto.edges.length
  have hlen := Draft.len (smallD_ok h1 h6)
  have hl2 : ∀ x ∈ d.l2,x.ok := fun x hx => by
   rcases List.mem_append.1 hx with hx | hx
   ·split at hx
    ·exact mirL_ok (smallD_edges h1.1) _ x hx
    ·cases hx
   ·exact h7 x hx
  have hl2n : d.l2.length ≤ 1000 := by
   unfold PDr.l2
   rw [List.length_append]
   split
   ·unfold PDr.mir
    omega
   ·simp
    omega
  have e5 := fun t => r184 t d.n2 d.l2 hn2 (by omega) hl2
  have e6 := r25 0 _ (smallD_ok hn2 hl2)
  have e7 : (smallD d.n2 d.l2).arcs.map Arc.c = arcs (smallL (d.n2 % 3 + 1) d.l2 12) := rfl
  have e8 : (smallD d.n2 d.l2).n = d.n2 % 3 := rfl
  rw [e7,e8] at e6
  have eB : (smallD d.n2 d.l2).auto.edges = d.B.edges := rfl
  have eA : (smallD d.n d.la).auto.edges = d.A.edges := rfl
  rw [eB] at e6
  clear e7 eB
  generalize smallL (d.n2 % 3 + 1) d.l2 12 = SL at e5 e6
  refine Br.of (fun c3 => ?_) (fun c3 => ?_) <;> simp (disch := omega) only [go_sem,c3]
  ·have hgood := (Draft.good (smallD_ok h1 h6) (s := 0) (by have := (smallD d.n d.la).st; omega)).fit
   have hfit : ∀ e ∈ (smallD d.n d.la).auto.edges,(0 ≤ e.fr ∧ e.fr ≤ 2) ∧ (0 ≤ e.to ∧ e.to ≤ 2) ∧ (1 ≤ e.label ∧ e.label ≤ 2) := smallD_edges h1.1
   have hm2 : d.l2 = mirL d.out (smallD d.n d.la).auto.edges (smallD d.n d.la).auto.edges.length ++ d.l := by unfold PDr.l2; rw [if_pos c3]; rfl
   have hnn : d.n2 = d.n := if_pos c3
   rw [hm2,hnn] at e5
   rw [hnn] at e6
   rw [← eA]
   clear eA
   generalize (smallD d.n d.la).auto.edges = es at *
   refine W.upto es.length (fun k => ⟨[(1,.ptr 1 0),(2,.ptr 2 0),(4,.ptr 4 0),(6,.pv (.int .u8 d.n)),(7,grV 0 (arcs (mirL d.out es k))),(8,.pv (.int .i64 k))],⟨[(1,[.pv (.int .u8 d.n),.pv (.lst 0 (arcs d.la)),.pv (.lst 0 (arcs d.l)),.pv (.bool true),.pv (.int .u8 d.skip),.pv (.int .u8 d.cap)]),(2,[.pv (.int .i64 0),.pv (.int .i64 0),.tl [],.pv (.int .i64 0),.pv (.int .i64 0),.tl [],.pv (.int .i64 0)]),(4,[.pv (.int .i64 (1 + d.n % 3 % 4)),.pv (.int .i64 0),.pv (.lst 0 (edgs es))])],grA 3 (arcs (mirL d.out es k)),[]⟩⟩) (fun _ => True) rfl trivial fun k hk _ => ?_
   have hml := mirL_len d.out es k
   have hal : (arcs (mirL d.out es k)).length = (mirL d.out es k).length := arcs_length _
   simp (disch := omega) only [go_sem]
   refine Br.ofP (fun c4 => ?_) (fun c4 => ?_) <;> simp (disch := omega) only [go_sem,c4]
   ·obtain ⟨e,he⟩ := get_at (l := es) (k := k) (by omega)
    obtain ⟨⟨f1,f2⟩,⟨f3,f4⟩,f5,f6⟩ := hfit e (List.mem_of_getElem? he)
    have hmk : mirL d.out es (k + 1) = if d.out k = true then mirL d.out es k ++ [mirA e] else mirL d.out es k := by
     rw [mirL,he]
    obtain ⟨fr,send,label,to⟩ := e
    dsimp only at f1 f2 f3 f4 f5 f6
    cases send
    all_goals
     have hsv := d.shr_val k
     have hav := d.and_val k
     have hout : d.out k = decide (d.bit k = 0) := rfl
     simp (disch := omega) only [go_sem,he,hsv,hav]
     refine Br.ofP (fun c5 => ?_) (fun c5 => ?_)
     ·rw [hout,decide_eq_true c5,if_pos rfl] at hmk
      simp (disch := omega) only [go_sem]
      refine .of (by omega) ?_ trivial
      rw [hmk,← arcs_snoc]
      rfl
     ·rw [hout,decide_eq_false c5,if_neg (by decide)] at hmk
      simp (disch := omega) only [go_sem]
      refine .of (by omega) ?_ trivial
      rw [hmk]
      rfl
   ·have hkk : k = es.length := by omega
    subst hkk
    rw [hnn]
    generalize hmm : mirL d.out es es.length = mm at *
    cases mm with
    | nil =>
     have hg1 : grV 0 (arcs []) = .tl [] := rfl
     have hg2 : grA 3 (arcs []) = [] := rfl
     rw [hg1,hg2]
     have hcat : arcs ([] ++ d.l) = arcs d.l := rfl
     rw [hcat] at e5
     have happ := fun h => app_nil0 h (arcs d.l) (arcs_rows d.l) (by omega)
     by_cases hd0 : (arcs d.l).length = 0
     ·rw [List.eq_nil_of_length_eq_zero hd0] at e5 happ ⊢
      simp only [List.length_nil,if_true] at happ
      simp (disch := omega) only [go_sem,happ,e5,e6]
     ·simp only [if_neg hd0] at happ
      have htk : ∀ n,(arcs d.l).length ≤ n → (arcs d.l).take n = arcs d.l := fun n h => List.take_of_length_le h
      simp (disch := omega) only [go_sem,happ,htk,e5,e6]
    | cons x q =>
     have hg0 : (arcs (x :: q)).length = q.length + 1 := by rw [arcs_length,List.length_cons]
     have hg1 : grV 0 (arcs (x :: q)) = .own 0 q.length 0 (q.length + 1) := by
      show V.own 0 (arcs q).length 0 ((arcs q).length + 1) = _
      rw [arcs_length]
     have hg2 : grA 3 (arcs (x :: q)) = [⟨q.length,3,.inl (arcs (x :: q))⟩] := by
      show [(⟨(arcs q).length,3,.inl (arcs (x :: q))⟩ : Arr)] = _
      rw [arcs_length]
     rw [hg1,hg2]
     have hcat : arcs (x :: q ++ d.l) = arcs (x :: q) ++ arcs d.l := List.map_append
     rw [hcat] at e5
     have hql : q.length + 1 ≤ 12 := by
      have := mirL_len d.out es es.length
      rw [hmm,List.length_cons] at this
      omega
     have happ := fun h ho => app_own0 h q.length (q.length + 1) (arcs (x :: q)) (arcs d.l) ho hg0.symm (arcs_rows d.l) (by omega)
     by_cases hd0 : (arcs d.l).length = 0
     ·rw [List.eq_nil_of_length_eq_zero hd0,List.append_nil] at e5
      rw [List.eq_nil_of_length_eq_zero hd0] at happ ⊢
      simp only [List.length_nil,if_true] at happ
      generalize arcs (x :: q) = R at *
      rw [happ _ (by simp [ownArr])]
      have htk : ∀ n,R.length ≤ n → R.take n = R := fun n h => List.take_of_length_le h
      simp (disch := omega) only [go_sem,htk,e5,e6]
     ·simp only [if_neg hd0] at happ
      generalize arcs (x :: q) = R at *
      rw [happ _ (by simp [ownArr])]
      have htk : ∀ n,(R ++ arcs d.l).length ≤ n → (R ++ arcs d.l).take n = R ++ arcs d.l := fun n h => List.take_of_length_le h
      have hRl : (R ++ arcs d.l).length = R.length + (arcs d.l).length := List.length_append
      simp (disch := omega) only [go_sem,htk,e5,e6]
  ·have hm2 : d.l2 = d.l := by unfold PDr.l2; rw [if_neg (by simp [c3])]; rfl
   have hnn : d.n2 = IntKind.u8.wrap (d.n + d.skip) := if_neg (by simp [c3])
   rw [hm2,hnn] at e5
   rw [hnn] at e6 ⊢
   rw [← eA]
   have happ := fun h => app_nil0 h (arcs d.l) (arcs_rows d.l) (by omega)
   by_cases hd0 : (arcs d.l).length = 0
   ·rw [List.eq_nil_of_length_eq_zero hd0] at e5 happ ⊢
    simp only [List.length_nil,if_true] at happ
    simp (disch := omega) only [go_sem,happ,e5,e6]
   ·simp only [if_neg hd0] at happ
    have htk : ∀ n,(arcs d.l).length ≤ n → (arcs d.l).take n = arcs d.l := fun n h => List.take_of_length_le h
    simp (disch := omega) only [go_sem,happ,htk,e5,e6]
end Go.Pv
namespace Go.Pv
def PDr.c2 (d : PDr) : Int := 1 + d.cap % 2
theorem PDr.l2_ok {d : PDr} (hd : d.ok) : ∀ x ∈ d.l2,x.ok := fun x hx => by
 obtain ⟨h1,h2,h3,h4,h5,h6,h7⟩ := hd
 rcases List.mem_append.1 hx with hx | hx
 ·split at hx
  ·exact mirL_ok (smallD_edges h1.1) _ x hx
  ·cases hx
 ·exact h7 x hx
theorem PDr.n2_in {d : PDr} (hd : d.ok) : 0 ≤ d.n2 ∧ d.n2 ≤ 255 := by
 unfold PDr.n2
 split
 ·exact hd.1
 ·exact wrap_u8_in _
theorem PDr.sys {d : PDr} (hd : d.ok) : sysErr d.A d.B d.c2 = 0 ∧ (∀ e ∈ d.A.edges ++ d.B.edges,e.label ≤ 2) ∧ d.A.states ≤ 3 ∧ d.B.states ≤ 3 ∧ d.c2 ≤ 2 ∧ d.A.edges.length ≤ 12 ∧ d.B.edges.length ≤ 12 := by
 have hA := smallD_ok hd.1 hd.2.2.2.2.2.1
 have hB := smallD_ok (PDr.n2_in hd) (PDr.l2_ok hd)
 have gA : d.A.Good := Draft.good hA (s := 0) (by have := (smallD d.n d.la).st; omega)
 have gB : d.B.Good := Draft.good hB (s := 0) (by have := (smallD d.n2 d.l2).st; omega)
 have hb := Int.emod_nonneg d.cap (by decide : (2 : Int) ≠ 0)
 have hc := Int.emod_lt_of_pos d.cap (by decide : (0 : Int) < 2)
 refine ⟨?_,fun e he => ?_,?_,?_,by unfold PDr.c2; omega,Draft.len hA,Draft.len hB⟩
 ·unfold sysErr
  have e1 : d.A.err = 0 := Auto.good_iff.2 gA
  have e2 : d.B.err = 0 := Auto.good_iff.2 gB
  rw [if_neg (by simp [e1]),if_neg (by simp [e2]),if_neg (by unfold PDr.c2; omega)]
 ·rcases List.mem_append.1 he with he | he
  ·exact (smallD_edges hd.1.1 e he).2.2.2
  ·exact (smallD_edges (PDr.n2_in hd).1 e he).2.2.2
 ·show 1 + d.n % 3 % 4 ≤ 3
  omega
 ·show 1 + d.n2 % 3 % 4 ≤ 3
  omega
end Go.Pv
namespace Go.Pv
variable {a b : Auto} {cap : Int} {s : Cfg} {p : Cfg → Prop} {out : List Nd}
def complR (a b : Auto) (cap : Int) (out : List Nd) : List PV := match out[(atL 0 (rkN a b cap out)).toNat]? with
 | some x => if atL 0 (rkN a b cap out) < 0 then [.lst 0 [],.int .i64 18] else [.lst 0 (mvs3 x.path),.int .i64 0]
 | none => []
theorem r237 (h : SpcR a b cap s p out) (h0 : p s) (hs : sysErr a b cap = 0) (hn : nodL (mvC a b cap) 5000 5002 [nod0 s] 0 = some out) : res A PrA 237 [.agg [.int .i64 a.states,.int .i64 a.start,.lst 0 (a.edges.map Edge.c),.int .i64 b.states,.int .i64 b.start,.lst 0 (b.edges.map Edge.c),.int .i64 cap],.agg [.int .i64 s.a,.int .i64 s.b,.lst 0 (ints s.toA),.lst 0 (ints s.toB)]] = some (complR a b cap out) := by
 refine res_of a237 rfl rfl ?_
 simp only [F237]; try delta sS tT zZ nN gG bB pZ
 have hea := h.ea
 have heb := h.eb
 have h248 := r248 h.sp h0 (by omega) (by omega) hs hn
 have h247 := h.rk 0
 have hl := rkN_len h.toSpc
 have hle := h.len
 simp only [spc] at h248
 simp (disch := omega) only [go_sem,h248,h247]
 by_cases hi : atL 0 (rkN a b cap out) < 0
 ·have hz : (atL 0 (rkN a b cap out)).toNat = 0 := by omega
  have hR : complR a b cap out = [.lst 0 [],.int .i64 18] := by
   unfold complR
   rw [hz,h.fnd.first]
   simp only
   rw [if_pos hi]
  rw [hR]
  refine Br.ofP (fun _ => ?_) (fun hh => (hh hi).elim)
  simp (disch := omega) only [go_sem]
 ·obtain ⟨j,hj,hjg⟩ := atL_get (atL_pos.1 (Int.not_lt.1 hi))
  have hjl : j < out.length := by rw [← hl]; exact (List.getElem?_eq_some_iff.1 hjg).1
  obtain ⟨x,hx⟩ := get_at (l := out) (k := j) hjl
  have hR : complR a b cap out = [.lst 0 (mvs3 x.path),.int .i64 0] := by
   unfold complR
   rw [hj,Int.toNat_natCast,hx]
   simp only
   rw [if_neg (by omega)]
  rw [hR]
  refine Br.ofP (fun hh => (hi hh).elim) (fun _ => ?_)
  have h249 := fun t => r249 t (.int .i64 a.states) (.int .i64 a.start) (.lst 0 (a.edges.map Edge.c)) (.int .i64 b.states) (.int .i64 b.start) (.lst 0 (b.edges.map Edge.c)) (.int .i64 cap) (.lst 0 (cfgs (out.map Nod.c))) (.lst 0 (mvRows (out.map fun x => movesC a b cap x.c.a x.c.b x.c.toA x.c.toB))) (.lst 0 (lls (out.map fun x => (sucC a b cap x.c).map (posZ out)))) (mvC a b cap) s out out.length h.fnd (by omega) j x hx
  rw [hj]
  simp (disch := omega) only [go_sem,h249]
end Go.Pv
namespace Go.Pv
variable {a b : Auto} {cap : Int} {s : Cfg} {p : Cfg → Prop} {out : List Nd}
theorem Fnd.plen {mv : Cfg → List (Mov × Cfg)} {i0 : Nat} (hf : Fnd mv s out i0) : ∀ (n j : Nat) (x : Nd),j ≤ n → out[j]? = some x → x.path.length ≤ j
 | n,j,x,hj,hx => by
  rcases Nat.eq_zero_or_pos j with h0 | h0
  ·subst h0
   rw [hf.first] at hx
   cases hx
   simp [nod0]
  ·obtain ⟨k,y,m,h1,_,h3,_,h5⟩ := hf.way j x hx h0
   match n with
   | 0 => omega
   | n + 1 =>
    have := Fnd.plen hf n k y (by omega) h3
    rw [h5]
    simp
    omega
end Go.Pv
namespace Go.Pv
variable {a b : Auto} {cap : Int} {s : Cfg} {p : Cfg → Prop} {out : List Nd} {U : List Cfg}
end Go.Pv
namespace Go.Pv
def ckR (L : List (Cfg × Int)) : List (List PV) := L.map fun w => [.int .i64 w.1.a,.int .i64 w.1.b,.lst 0 (ints w.1.toA),.lst 0 (ints w.1.toB),.int .i64 w.2]
@[go_sem] theorem ckR_len (L : List (Cfg × Int)) : (ckR L).length = L.length := List.length_map _
@[go_sem] theorem ckR_get (L : List (Cfg × Int)) (k : Nat) : (ckR L)[k]? = L[k]?.map fun w => [.int .i64 w.1.a,.int .i64 w.1.b,.lst 0 (ints w.1.toA),.lst 0 (ints w.1.toB),.int .i64 w.2] := List.getElem?_map
variable {a b : Auto} {cap : Int} {s : Cfg} {p : Cfg → Prop} {out : List Nd} {U : List Cfg}
def certN (a b : Auto) (cap : Int) (out : List Nd) : List (Cfg × Int) := (List.range out.length).map fun k => (((out.map Nod.c)[k]?).getD cfg0,(rkN a b cap out).getD k (-1))
theorem certN_len : (certN a b cap out).length = out.length := by simp [certN]
theorem certN_get {k : Nat} {x : Nd} (hx : out[k]? = some x) : (certN a b cap out)[k]? = some (x.c,(rkN a b cap out).getD k (-1)) := by
 have hk := (List.getElem?_eq_some_iff.1 hx).1
 unfold certN
 rw [List.getElem?_map,List.getElem?_range hk,Option.map_some,List.getElem?_map,hx]
 rfl
theorem certN_take {k : Nat} {x : Nd} (hx : out[k]? = some x) : ckR ((certN a b cap out).take (k + 1)) = ckR ((certN a b cap out).take k) ++ [[.int .i64 x.c.a,.int .i64 x.c.b,.lst 0 (ints x.c.toA),.lst 0 (ints x.c.toB),.int .i64 ((rkN a b cap out).getD k (-1))]] := by
 rw [List.take_add_one,certN_get hx]
 simp [ckR]
theorem rk_in (hl : (rkN a b cap out).length = out.length) (hall : ∀ i,i < out.length → 0 ≤ (rkN a b cap out).getD i (-1)) : decide ((-1 : Int) ∈ rkN a b cap out) = false := by
 refine decide_eq_false fun hm => ?_
 obtain ⟨j,hj⟩ := List.getElem?_of_mem hm
 have hjl := (List.getElem?_eq_some_iff.1 hj).1
 have h1 := hall j (by omega)
 rw [List.getD_eq_getElem?_getD,hj] at h1
 exact absurd h1 (by decide)
theorem rk_out (h : Spc a b cap s p out) {k : Nat} (hk : k < out.length) (hneg : (rkN a b cap out).getD k (-1) < 0) : decide ((-1 : Int) ∈ rkN a b cap out) = true := by
 have hl := h.dist.len
 have hkl : k < (rkN a b cap out).length := by omega
 have hlo := h.dist.low k hk
 have e : (rkN a b cap out).getD k (-1) = (rkN a b cap out)[k] := by simp [hkl]
 have : (rkN a b cap out)[k] = -1 := by omega
 exact decide_eq_true (this ▸ List.getElem_mem hkl)
def proveR (a b : Auto) (cap : Int) (out : List Nd) (x y : PV) : List PV := if decide ((-1 : Int) ∈ rkN a b cap out) = true then [.lst 0 [],x] else [.lst 0 (ckR (certN a b cap out)),y]
set_option maxHeartbeats 4000000 in
theorem r236 (h : SpcR a b cap (cfgStart a b) p out) (h0 : p (cfgStart a b)) (hs : sysErr a b cap = 0) (hn : nodL (mvC a b cap) 5000 5002 [nod0 (cfgStart a b)] 0 = some out) : res A PrA 236 [.agg [.int .i64 a.states,.int .i64 a.start,.lst 0 (a.edges.map Edge.c),.int .i64 b.states,.int .i64 b.start,.lst 0 (b.edges.map Edge.c),.int .i64 cap]] = some (proveR a b cap out (.int .i64 18) (.int .i64 0)) := by
 refine res_of a236 rfl rfl ?_
 simp only [F236]; try delta sS tT zZ nN gG bB pZ
 have hea := h.ea
 have heb := h.eb
 have h246 := r246 h.sp h0 (by omega) (by omega) hs hn
 have h247 := h.rk 0
 have hl := rkN_len h.toSpc
 have hle := h.len
 simp only [spc] at h246
 simp (disch := omega) only [go_sem,h246,h247,hl]
 refine W.upto out.length (fun k => ⟨[(4,.pv (.ro 0 [.int .i64 a.states,.int .i64 a.start,.lst 0 (a.edges.map Edge.c),.int .i64 b.states,.int .i64 b.start,.lst 0 (b.edges.map Edge.c),.int .i64 cap,.lst 0 (cfgs (out.map Nod.c)),.lst 0 (mvRows (out.map fun x => movesC a b cap x.c.a x.c.b x.c.toA x.c.toB)),.lst 0 (lls (out.map fun x => (sucC a b cap x.c).map (posZ out))),.lst 0 (ints (out.map Nod.bef)),.lst 0 (mvs3 (out.map Nd.mv))])),(6,grV 0 (ckR ((certN a b cap out).take k))),(18,.pv (.lst 0 (ints (rkN a b cap out)))),(19,.pv (.int .i64 out.length)),(20,.pv (.int .i64 k))],⟨[],grA 5 (ckR ((certN a b cap out).take k)),[]⟩⟩) (fun k => ∀ i,i < k → 0 ≤ (rkN a b cap out).getD i (-1)) rfl (fun i hi => absurd hi (by omega)) fun k hk hi => ?_
 simp (disch := omega) only [go_sem]
 have hcl : (certN a b cap out).length = out.length := certN_len
 refine Br.ofP (fun c1 => ?_) (fun c1 => ?_)
 ·obtain ⟨x,hx⟩ := get_at (l := out) (k := k) (by omega)
  have hgk : (rkN a b cap out)[k]? = some ((rkN a b cap out).getD k (-1)) := by
   have : k < (rkN a b cap out).length := by omega
   simp [this]
  have htk := certN_take (a := a) (b := b) (cap := cap) hx
  have hcg : (cfgs (out.map Nod.c))[k]? = some [.int .i64 x.c.a,.int .i64 x.c.b,.lst 0 (ints x.c.toA),.lst 0 (ints x.c.toB)] := by rw [cfgs_get,List.getElem?_map,hx]; rfl
  have hcr : (out.map Nod.c).length = out.length := List.length_map _
  have htl : ((certN a b cap out).take k).length ≤ 5000 := by rw [List.length_take]; omega
  have hgr := grow0 [] [] 5 (ckR ((certN a b cap out).take k)) [.int .i64 x.c.a,.int .i64 x.c.b,.lst 0 (ints x.c.toA),.lst 0 (ints x.c.toB),.int .i64 ((rkN a b cap out).getD k (-1))] rfl (by rw [ckR_len]; omega)
  simp (disch := omega) only [go_sem,hgk]
  refine Br.ofP (fun c2 => ?_) (fun c2 => ?_)
  ·simp (disch := omega) only [go_sem]
   unfold proveR
   rw [rk_out h.toSpc (k := k) (by omega) (by omega),if_pos rfl]
  ·simp (disch := omega) only [go_sem,hcg,hgr]
   refine .of (by omega) ?_ fun i hik => ?_
   ·rw [htk]
    rfl
   ·rcases Nat.lt_or_ge i k with hh | hh
    ·exact hi i hh
    ·have : i = k := by omega
     subst this
     omega
 ·have hkk : k = out.length := by omega
  subst hkk
  have hta : (certN a b cap out).take out.length = certN a b cap out := List.take_of_length_le (by omega)
  rw [hta]
  simp (disch := omega) only [go_sem]
  unfold proveR
  rw [rk_in hl hi]
  rfl
end Go.Pv
namespace Go.Pv
variable {a b : Auto} {cap : Int} {s : Cfg} {p : Cfg → Prop} {out : List Nd} {U : List Cfg}
end Go.Pv
namespace Go.Pv
variable {a b : Auto} {cap : Int} {s : Cfg} {p : Cfg → Prop} {out : List Nd} {U : List Cfg}
theorem rk_all (h : Spc a b cap s p out) (hm : decide ((-1 : Int) ∈ rkN a b cap out) = false) : ∀ i,i < out.length → 0 ≤ (rkN a b cap out).getD i (-1) := fun i hi => by
 rcases Int.lt_or_le ((rkN a b cap out).getD i (-1)) 0 with h0 | h0
 ·rw [rk_out h hi h0] at hm
  cases hm
 ·exact h0
end Go.Pv
namespace Go.Pv
variable {a b : Auto} {cap : Int} {s : Cfg} {p : Cfg → Prop} {out : List Nd} {U : List Cfg}
theorem r239 (t : Nat) (w : Cfg × Int) (c : Cfg) (hw : w.1.ok) (hc : c.ok) : res A PrA 239 [.agg [.int .i64 w.1.a,.int .i64 w.1.b,.lst 0 (ints w.1.toA),.lst 0 (ints w.1.toB),.int .i64 w.2],.ro t [.int .i64 c.a,.int .i64 c.b,.lst 0 (ints c.toA),.lst 0 (ints c.toB)]] = some [.bool (decide (w.1 = c))] := by
 refine res_of a239 rfl rfl ?_
 simp only [F239]; try delta sS tT zZ nN gG bB pZ
 obtain ⟨_,_,_,_,h1,h2⟩ := hw
 obtain ⟨_,_,_,_,h3,h4⟩ := hc
 have h154 := r154 0 0 0 0 w.1.a w.1.b c.a c.b w.1.toA w.1.toB c.toA c.toB (by omega) (by omega) (by omega) (by omega)
 simp (disch := omega) only [go_sem,h154]
set_option maxHeartbeats 1000000 in
theorem r238 (t u : Nat) (L : List (Cfg × Int)) (c : Cfg) (hL : L.length ≤ 100000) (hok : ∀ w ∈ L,w.1.ok) (hc : c.ok) : res A PrA 238 [.lst t (ckR L),.func 239 [.ro u [.int .i64 c.a,.int .i64 c.b,.lst 0 (ints c.toA),.lst 0 (ints c.toB)]]] = some [.int .i64 (match L.findIdx? fun w => decide (w.1 = c) with | some j => (j : Int) | none => -1)] := by
 refine res_of a238 rfl rfl ?_
 simp only [F238]; try delta sS tT zZ nN gG bB pZ
 simp (disch := omega) only [go_sem]
 refine W.upto L.length (fun k => ⟨[(0,.pv (.lst t (ckR L))),(1,.pv (.func 239 [.ro u [.int .i64 c.a,.int .i64 c.b,.lst 0 (ints c.toA),.lst 0 (ints c.toB)]])),(7,.pv (.int .i64 L.length)),(8,.pv (.int .i64 k))],⟨[],[],[]⟩⟩) (fun k => ∀ i w,i < k → L[i]? = some w → w.1 ≠ c) rfl (fun i w hi => absurd hi (by omega)) fun k hk hi => ?_
 simp (disch := omega) only [go_sem]
 refine Br.ofP (fun c1 => ?_) (fun c1 => ?_)
 ·obtain ⟨w,hw⟩ := get_at (l := L) (k := k) (by omega)
  have h239 := fun t => r239 t w c (hok w (List.mem_of_getElem? hw)) hc
  simp (disch := omega) only [go_sem,hw,Option.map_some,h239]
  refine Br.ofP (fun c2 => ?_) (fun c2 => ?_)
  ·simp (disch := omega) only [go_sem]
   have hkl := (List.getElem?_eq_some_iff.1 hw).1
   have hge := (List.getElem?_eq_some_iff.1 hw).2
   have : (L.findIdx? fun w => decide (w.1 = c)) = some k := by
    rw [List.findIdx?_eq_some_iff_getElem]
    refine ⟨hkl,by rw [hge]; exact decide_eq_true c2,fun j hj => ?_⟩
    have := hi j _ hj (List.getElem?_eq_getElem (by omega))
    simpa using this
   rw [this]
  ·simp (disch := omega) only [go_sem]
   exact .of (by omega) rfl fun i v hik hv => by
    rcases Nat.lt_or_ge i k with hh | hh
    ·exact hi i v hh hv
    ·have : i = k := by omega
     subst this
     rw [hw] at hv
     cases hv
     exact c2
 ·simp (disch := omega) only [go_sem]
  have : (L.findIdx? fun w => decide (w.1 = c)) = none := by
   rw [List.findIdx?_eq_none_iff]
   intro w hw
   obtain ⟨i,hii⟩ := List.getElem?_of_mem hw
   have := hi i w (by have := (List.getElem?_eq_some_iff.1 hii).1; omega) hii
   simpa using this
  rw [this]
theorem Spc.compl_len (h' : Spc a b cap s p out) (hr : 0 ≤ (rkN a b cap out).getD 0 (-1)) : ∃ l : List Mov,complR a b cap out = [.lst 0 (mvs3 l),.int .i64 0] ∧ (l.length : Int) = (rkN a b cap out).getD 0 (-1) ∧ l.length ≤ out.length := by
 have hl := h'.dist.len
 have h0 := h'.fnd.first
 obtain ⟨l,d,h1,h2,h3⟩ := h'.rank_run ((rkN a b cap out).getD 0 (-1)).toNat h0 (by omega)
 obtain ⟨k2,y2,g1,g2,g3⟩ := h'.fnd.least h1.stp
 have hk2 := (List.getElem?_eq_some_iff.1 g1).1
 have hz2 : (rkN a b cap out).getD k2 (-1) = 0 := by
  have := (h'.dist.zero (k2 : Int) (by omega) (by omega)).2 ((dnN_mem g1).2 (by rw [g2]; exact h2))
  rwa [Int.toNat_natCast] at this
 have hg2 : (rkN a b cap out)[k2]? = some 0 := by
  have hk : k2 < (rkN a b cap out).length := by omega
  rw [List.getElem?_eq_getElem hk]
  rw [List.getD_eq_getElem?_getD,List.getElem?_eq_getElem hk] at hz2
  exact congrArg some hz2
 obtain ⟨j,hj,hjg⟩ := atL_get (List.mem_of_getElem? hg2)
 have hjl : j < out.length := by rw [← hl]; exact (List.getElem?_eq_some_iff.1 hjg).1
 obtain ⟨x,hx⟩ := get_at (l := out) (k := j) hjl
 have hjk : ¬ k2 < j := fun hlt => atL_before hj k2 hlt hg2
 have hm := h'.fnd.mono j k2 x y2 (by omega) hx g1
 have hzj : (rkN a b cap out).getD j (-1) = 0 := by rw [List.getD_eq_getElem?_getD,hjg]; rfl
 have hdj : doneC a b cap x.c = true := (dnN_mem hx).1 ((h'.dist.zero (j : Int) (by omega) (by omega)).1 (by rw [Int.toNat_natCast]; exact hzj))
 have hle := h'.rank_le (h'.run hx) hdj h0 rfl
 have hpl := h'.fnd.plen j j x (Nat.le_refl _) hx
 refine ⟨x.path,?_,by omega,by omega⟩
 unfold complR
 rw [hj,Int.toNat_natCast,hx]
 simp only
 rw [if_neg (by omega)]
end Go.Pv
namespace Go.Pv
variable {a b : Auto} {cap : Int} {s : Cfg} {p : Cfg → Prop} {out : List Nd} {U : List Cfg}
set_option maxHeartbeats 8000000 in
theorem r232 (r235 : res A PrA 235 [] = some [.bool true]) (d : PDr) (hd : d.ok) (ch : List Int) (hch : ∀ x ∈ ch,0 ≤ x ∧ x ≤ 255) (hcl : ch.length ≤ 2 ^ 63 - 1) : res A PrA 232 [.agg [.int .u8 d.n,.lst 0 (arcs d.la),.lst 0 (arcs d.l),.bool d.mirror,.int .u8 d.skip,.int .u8 d.cap],.lst 0 (ch.map fun x => [.int .u8 x])] = some [.bool true] := by
 refine res_of a232 rfl rfl ?_
 simp only [F232]; try delta sS tT zZ nN gG bB pZ
 have h164 := r164 d hd
 obtain ⟨s1,s2,s3,s4,s5,s6,s7⟩ := PDr.sys hd
 have hF := few_sm s1 s2 s3 s4 s5
 have hruns := smC_runs s1 s2
 have hst : smC d.A d.B d.c2 (cfgStart d.A d.B) := hruns.st
 obtain ⟨out,ho,hS,hlo⟩ := hF.space hst
 have hR : SpcR d.A d.B d.c2 (cfgStart d.A d.B) (smC d.A d.B d.c2) out := ⟨hS,hF.sp,hlo,by omega,by omega⟩
 have h236 := r236 hR hst s1 ho
 have hml : (ch.map fun x => [PV.int .u8 x]).length = ch.length := List.length_map _
 cases hf : d.fit with
 | false =>
  rw [hf,if_neg (by decide)] at h164
  simp (disch := omega) only [go_sem,h164,r235]
 | true =>
  rw [hf,if_pos rfl] at h164
  have q1 : 1 + d.n % 3 % 4 = d.A.states := rfl
  have q2 : 1 + d.n2 % 3 % 4 = d.B.states := rfl
  have q3 : 1 + d.cap % 2 = d.c2 := rfl
  have q4 : d.A.start = 0 := rfl
  have q5 : d.B.start = 0 := rfl
  have q6 : d.A.edges.map Edge.c = edgs d.A.edges := rfl
  have q7 : d.B.edges.map Edge.c = edgs d.B.edges := rfl
  rw [q1,q2,q3] at h164
  by_cases hlen : ch.length ≤ 30
  ·have hlt : decide (30 < (ch.length : Int)) = false := decide_eq_false (by omega)
   cases hm : decide ((-1 : Int) ∈ rkN d.A d.B d.c2 out) with
   | true =>
    unfold proveR at h236
    rw [hm,if_pos rfl] at h236
    simp only [q4,q5,q6,q7] at h236
    simp (disch := omega) only [go_sem,h164,r235,h236,hml,hlt]
   | false =>
    unfold proveR at h236
    rw [hm,if_neg (by decide)] at h236
    have h155 := r155 0 0 d.A d.B d.c2
    simp only [q4,q5,q6,q7] at h236 h155
    simp (disch := omega) only [go_sem,h164,r235,h236,hml,hlt,h155]
    have hall := rk_all hS hm
    refine W.loop (α := Nat × Nat × Nd) (fun q => ⟨[(5,.ptr 5 0),(7,.pv (.lst 0 (ckR (certN d.A d.B d.c2 out)))),(9,.ptr 9 0),(45,.pv (.lst 0 (ch.map fun x => [.int .u8 x]))),(46,.pv (.int .i64 ch.length)),(47,.pv (.int .i64 q.1))],⟨[(5,[.pv (.int .i64 d.A.states),.pv (.int .i64 0),.pv (.lst 0 (edgs d.A.edges)),.pv (.int .i64 d.B.states),.pv (.int .i64 0),.pv (.lst 0 (edgs d.B.edges)),.pv (.int .i64 d.c2)]),(9,[.pv (.int .i64 q.2.2.c.a),.pv (.int .i64 q.2.2.c.b),.pv (.lst 0 (ints q.2.2.c.toA)),.pv (.lst 0 (ints q.2.2.c.toB))])],[],[]⟩⟩) (fun q => q.1 ≤ ch.length ∧ out[q.2.1]? = some q.2.2) (fun q => ch.length - q.1) (0,0,nod0 (cfgStart d.A d.B)) rfl ⟨Nat.zero_le _,hS.fnd.first⟩ (fun q hq => ?_)
    obtain ⟨k,j,y⟩ := q
    obtain ⟨g1,g2⟩ := hq
    dsimp only at g1 g2 ⊢
    have hym := List.mem_of_getElem? g2
    have hpy := hS.all y hym
    have hjl := (List.getElem?_eq_some_iff.1 g2).1
    obtain ⟨_,_,_,_,hya,hyb⟩ := hF.sp.ok _ hpy
    have hchk : chkE d.A d.B d.c2 y.c.a y.c.b y.c.toA y.c.toB = 0 := by
     unfold chkE
     rw [if_neg (by simp [s1]),if_pos (hF.sp.fit _ hpy)]
    have h171 := r171 d.A d.B d.c2 y.c.a y.c.b y.c.toA y.c.toB (by omega) (by omega) (by omega) (by omega)
    rw [if_pos hchk] at h171
    have h174 := fun mv => r174 d.A d.B d.c2 y.c.a y.c.b y.c.toA y.c.toB mv (by omega) (by omega) (by omega) (by omega)
    obtain ⟨o2,ho2,hS2,hlo2⟩ := hF.space hpy
    have hR2 : SpcR d.A d.B d.c2 y.c (smC d.A d.B d.c2) o2 := ⟨hS2,hF.sp,hlo2,by omega,by omega⟩
    have h237 := r237 hR2 hpy s1 ho2
    have hrk : (rkN d.A d.B d.c2 out).getD j (-1) = (rkN d.A d.B d.c2 o2).getD 0 (-1) := hS.rank_eq hS2 g2 hS2.fnd.first rfl
    obtain ⟨pl,hpl,hpl2,hpl3⟩ := hS2.compl_len (by rw [← hrk]; exact hall j hjl)
    rw [hpl] at h237
    have h238 := fun u => r238 0 u (certN d.A d.B d.c2 out) y.c (by rw [certN_len]; omega) (fun w hw => by
     obtain ⟨k,hk⟩ := List.getElem?_of_mem hw
     have hkl := (List.getElem?_eq_some_iff.1 hk).1
     rw [certN_len] at hkl
     obtain ⟨x,hx⟩ := get_at (l := out) (k := k) hkl
     rw [certN_get hx] at hk
     cases hk
     exact hF.sp.ok _ (hS.all x (List.mem_of_getElem? hx))) (hF.sp.ok _ hpy)
    have hfi : ((certN d.A d.B d.c2 out).findIdx? fun w => decide (w.1 = y.c)) = some j := by
     have hcj := certN_get (a := d.A) (b := d.B) (cap := d.c2) g2
     have hjc := (List.getElem?_eq_some_iff.1 hcj).1
     rw [List.findIdx?_eq_some_iff_getElem]
     refine ⟨hjc,by rw [(List.getElem?_eq_some_iff.1 hcj).2]; exact decide_eq_true rfl,fun i hi => ?_⟩
     obtain ⟨x,hx⟩ := get_at (l := out) (k := i) (by omega)
     have hci := certN_get (a := d.A) (b := d.B) (cap := d.c2) hx
     rw [(List.getElem?_eq_some_iff.1 hci).2]
     simp only [decide_eq_true_eq]
     intro e
     have := hS.fnd.same hx g2 e
     omega
    have hcj := certN_get (a := d.A) (b := d.B) (cap := d.c2) g2
    rw [hrk,← hpl2] at hcj
    rw [hfi] at h238
    have hj0 : decide ((j : Int) ≥ 0) = true := decide_eq_true (by omega)
    have hle1 : decide ((pl.length : Int) = (pl.length : Int)) = true := decide_eq_true rfl
    simp only [q4,q5,q6,q7] at h171 h174 h237
    have hcn : (certN d.A d.B d.c2 out).length = out.length := certN_len
    simp (disch := omega) only [go_sem]
    refine Br.ofP (fun c1 => ?_) (fun c1 => ?_)
    ·obtain ⟨x,hx⟩ := get_at (l := ch) (k := k) (by omega)
     have hxg : (ch.map fun x => [PV.int .u8 x])[k]? = some [.int .u8 x] := by rw [List.getElem?_map,hx]; rfl
     have hxb := hch x (List.mem_of_getElem? hx)
     simp (disch := omega) only [go_sem,hxg,h171]
     have hmn : (movesC d.A d.B d.c2 y.c.a y.c.b y.c.toA y.c.toB).length ≤ 24 := by
      have h1 := mvsOf_len d.A d.B d.c2 y.c.a y.c.b y.c.toA y.c.toB 0 y.c.a d.A.edges
      have h2 := mvsOf_len d.A d.B d.c2 y.c.a y.c.b y.c.toA y.c.toB 1 y.c.b d.B.edges
      rw [movesC,List.length_append]
      omega
     refine Br.ofP (fun c2 => ?_) (fun c2 => ?_)
     ·simp (disch := omega) only [go_sem,h237,h238,hcj,Option.map_some,hj0]
     ·have hnx : ∀ m ∈ movesC d.A d.B d.c2 y.c.a y.c.b y.c.toA y.c.toB,∃ (z : Nat) (w : Nd),out[z]? = some w ∧ w.c = (afterC d.A d.B d.c2 y.c.a y.c.b y.c.toA y.c.toB m).1 ∧ (afterC d.A d.B d.c2 y.c.a y.c.b y.c.toA y.c.toB m).2 = true := fun m hm => by
       obtain ⟨z,w,z1,z2,_⟩ := hS.closed g2 (List.mem_map.2 ⟨m,hm,rfl⟩)
       exact ⟨z,w,z1,z2,(movesC_mem hm).1⟩
      generalize movesC d.A d.B d.c2 y.c.a y.c.b y.c.toA y.c.toB = ms at *
      have hr1 := Int.emod_nonneg x (show (ms.length : Int) ≠ 0 by omega)
      have hr2 := Int.emod_lt_of_pos x (show (0 : Int) < ms.length by omega)
      obtain ⟨r,hr⟩ : ∃ r : Nat,x % (ms.length : Int) = (r : Int) := ⟨(x % ms.length).toNat,by omega⟩
      rw [hr] at hr1 hr2
      obtain ⟨mv,hmv⟩ := get_at (l := ms) (k := r) (by omega)
      obtain ⟨z,w,z1,z2,z3⟩ := hnx mv (List.mem_of_getElem? hmv)
      have h174 := h174 mv
      unfold applyC at h174
      rw [if_pos hchk,if_pos z3,← z2] at h174
      simp (disch := omega) only [go_sem,hr,hmv,h174]
      exact ⟨(k + 1,z,w),⟨by dsimp only; omega,z1⟩,by dsimp only; omega,rfl⟩
    ·simp (disch := omega) only [go_sem,h237,h238,hcj,Option.map_some,hj0]
  ·have hlt : decide (30 < (ch.length : Int)) = true := decide_eq_true (by omega)
   simp (disch := omega) only [go_sem,h164,r235,hml,hlt]
end Go.Pv
namespace Go.Pv
theorem r235 : res A PrA 235 [] = some [.bool true] := res_some.2 ⟨3000,by kernel_rfl⟩
end Go.Pv
namespace Go.Pv
variable {P : Program}
theorem slice_dec {α : Type} {c : α → List PV} {ok : α → Prop} {n : Nat} {t el : TypeId} {cs : List PV} (hu : P.underlying t = some (.slice el)) (he : ∀ cs,typed P n el cs → ∃ x,cs = c x ∧ ok x) (h : typed P (n + 1) t cs) : ∃ l : List α,cs = [.lst 0 (l.map c)] ∧ l.length ≤ 2 ^ 63 - 1 ∧ ∀ x ∈ l,ok x := by
 obtain ⟨rows,rfl,hl,hr⟩ := typed_slice hu h
 obtain ⟨l,rfl⟩ := rows_map (c := fun x : {x : α // ok x} => c x.1) (rows := rows) (fun r hr' => by
  obtain ⟨x,rfl,hx⟩ := he r (hr r hr')
  exact ⟨⟨x,hx⟩,rfl⟩)
 refine ⟨l.map (·.1),by simp [],by simpa [maxLen] using hl,fun x hx => ?_⟩
 obtain ⟨y,_,rfl⟩ := List.mem_map.1 hx
 exact y.2
theorem u8_min : IntKind.min .u8 = 0 := by decide
theorem u8_max : IntKind.max .u8 = 255 := by decide
structure DraftT (P : Program) (td tl ta tu : TypeId) : Prop where
 d : ∃ fs,P.underlying td = some (.struct fs) ∧ fs.toList.map (·.type) = [tu,tl]
 l : P.underlying tl = some (.slice ta)
 a : ∃ fs,P.underlying ta = some (.struct fs) ∧ fs.toList.map (·.type) = [tu,tu,tu]
 u : P.underlying tu = some (.int .u8)
theorem arc_typed {td tl ta tu : TypeId} (T : DraftT P td tl ta tu) {n : Nat} (cs : List PV) (h : typed P (n + 2) ta cs) : ∃ x : Arc,cs = x.c ∧ x.ok := by
 obtain ⟨fs,hu,hts⟩ := T.a
 obtain ⟨r0,q0,rfl,h0,r1,q1,rfl,h1,r2,q2,rfl,h2,rfl⟩ := typed_struct hu hts h
 obtain ⟨x,rfl,hx⟩ := typed_int T.u h0
 obtain ⟨y,rfl,hy⟩ := typed_int T.u h1
 obtain ⟨z,rfl,hz⟩ := typed_int T.u h2
 rw [u8_min,u8_max] at hx hy hz
 exact ⟨⟨x,y,z⟩,rfl,hx,hy,hz⟩
theorem draft_typed {td tl ta tu : TypeId} (T : DraftT P td tl ta tu) {n : Nat} (cs : List PV) (h : typed P (n + 4) td cs) : ∃ d : Draft,cs = [.int .u8 d.n,.lst 0 (d.arcs.map Arc.c)] ∧ d.ok := by
 obtain ⟨fs,hu,hts⟩ := T.d
 obtain ⟨r0,q0,rfl,h0,r1,q1,rfl,h1,rfl⟩ := typed_struct hu hts h
 obtain ⟨x,rfl,hx⟩ := typed_int T.u h0
 rw [u8_min,u8_max] at hx
 obtain ⟨l,rfl,hl,hok⟩ := slice_dec T.l (arc_typed T (n := n)) h1
 exact ⟨⟨x,l⟩,rfl,hx,hl,hok⟩
end Go.Pv
namespace Go.Pv
variable {P : Program}
structure SysT (P : Program) (ts tc tl tm ta te le li ti tb : TypeId) : Prop where
 s : ∃ fs,P.underlying ts = some (.struct fs) ∧ fs.toList.map (·.type) = [ta,ta,ti]
 c : ∃ fs,P.underlying tc = some (.struct fs) ∧ fs.toList.map (·.type) = [ti,ti,li,li]
 l : P.underlying tl = some (.slice tm)
 m : ∃ fs,P.underlying tm = some (.struct fs) ∧ fs.toList.map (·.type) = [ti,tb,ti]
 a : ∃ fs,P.underlying ta = some (.struct fs) ∧ fs.toList.map (·.type) = [ti,ti,le]
 le : P.underlying le = some (.slice te)
 e : ∃ fs,P.underlying te = some (.struct fs) ∧ fs.toList.map (·.type) = [ti,tb,ti,ti]
 li : P.underlying li = some (.slice ti)
 i : P.underlying ti = some (.int .i64)
 b : P.underlying tb = some .bool
variable {ts tc tl tm ta te le li ti tb : TypeId}
theorem sedge_typed (T : SysT P ts tc tl tm ta te le li ti tb) {n : Nat} (cs : List PV) (h : typed P (n + 2) te cs) : ∃ x : Edge,cs = x.c ∧ True := by
 obtain ⟨fs,hu,hts⟩ := T.e
 obtain ⟨r0,q0,rfl,h0,r1,q1,rfl,h1,r2,q2,rfl,h2,r3,q3,rfl,h3,rfl⟩ := typed_struct hu hts h
 obtain ⟨x,rfl,_⟩ := typed_int T.i h0
 obtain ⟨y,rfl⟩ := typed_bool T.b h1
 obtain ⟨z,rfl,_⟩ := typed_int T.i h2
 obtain ⟨u,rfl,_⟩ := typed_int T.i h3
 exact ⟨⟨x,y,z,u⟩,rfl,trivial⟩
theorem mov_typed (T : SysT P ts tc tl tm ta te le li ti tb) {n : Nat} (cs : List PV) (h : typed P (n + 2) tm cs) : ∃ x : Mov,cs = x.c ∧ True := by
 obtain ⟨fs,hu,hts⟩ := T.m
 obtain ⟨r0,q0,rfl,h0,r1,q1,rfl,h1,r2,q2,rfl,h2,rfl⟩ := typed_struct hu hts h
 obtain ⟨x,rfl,_⟩ := typed_int T.i h0
 obtain ⟨y,rfl⟩ := typed_bool T.b h1
 obtain ⟨z,rfl,_⟩ := typed_int T.i h2
 exact ⟨⟨x,y,z⟩,rfl,trivial⟩
theorem aut_typed (T : SysT P ts tc tl tm ta te le li ti tb) {n : Nat} (cs : List PV) (h : typed P (n + 4) ta cs) : ∃ a : Auto,cs = [.int .i64 a.states,.int .i64 a.start,.lst 0 (a.edges.map Edge.c)] ∧ a.edges.length ≤ 2 ^ 63 - 1 := by
 obtain ⟨fs,hu,hts⟩ := T.a
 obtain ⟨r0,q0,rfl,h0,r1,q1,rfl,h1,r2,q2,rfl,h2,rfl⟩ := typed_struct hu hts h
 obtain ⟨x,rfl,_⟩ := typed_int T.i h0
 obtain ⟨y,rfl,_⟩ := typed_int T.i h1
 obtain ⟨l,rfl,hl,_⟩ := slice_dec T.le (sedge_typed T (n := n)) h2
 exact ⟨⟨x,y,l⟩,rfl,hl⟩
theorem ints_typed (T : SysT P ts tc tl tm ta te le li ti tb) {n : Nat} (cs : List PV) (h : typed P (n + 2) li cs) : ∃ l : List Int,cs = [.lst 0 (ints l)] ∧ l.length ≤ 2 ^ 63 - 1 := by
 obtain ⟨l,rfl,hl,_⟩ := slice_dec (c := fun x => [PV.int .i64 x]) (ok := fun _ => True) T.li (fun cs hc => by
  obtain ⟨x,rfl,_⟩ := typed_int (n := n) T.i hc
  exact ⟨x,rfl,trivial⟩) h
 exact ⟨l,rfl,hl⟩
def sysArg (T : SysT P ts tc tl tm ta te le li ti tb) : Arg P ts (Auto × Auto × Int) where
 pv x := .agg [.int .i64 x.1.states,.int .i64 x.1.start,.lst 0 (x.1.edges.map Edge.c),.int .i64 x.2.1.states,.int .i64 x.2.1.start,.lst 0 (x.2.1.edges.map Edge.c),.int .i64 x.2.2]
 ok x := x.1.edges.length ≤ 2 ^ 63 - 1 ∧ x.2.1.edges.length ≤ 2 ^ 63 - 1
 dec cs h := by
  obtain ⟨fs,hu,hts⟩ := T.s
  obtain ⟨r0,q0,rfl,h0,r1,q1,rfl,h1,r2,q2,rfl,h2,rfl⟩ := typed_struct (n := 11) hu hts h
  obtain ⟨a,rfl,ha⟩ := aut_typed T (n := 7) _ h0
  obtain ⟨b,rfl,hb⟩ := aut_typed T (n := 7) _ h1
  obtain ⟨c,rfl,_⟩ := typed_int (n := 10) T.i h2
  exact ⟨⟨a,b,c⟩,⟨ha,hb⟩,by simp only [argPV,isAgg_struct hu,if_true]; rfl⟩
def cfgArg (T : SysT P ts tc tl tm ta te le li ti tb) : Arg P tc Cfg where
 pv x := .agg [.int .i64 x.a,.int .i64 x.b,.lst 0 (ints x.toA),.lst 0 (ints x.toB)]
 ok x := x.toA.length ≤ 2 ^ 63 - 1 ∧ x.toB.length ≤ 2 ^ 63 - 1
 dec cs h := by
  obtain ⟨fs,hu,hts⟩ := T.c
  obtain ⟨r0,q0,rfl,h0,r1,q1,rfl,h1,r2,q2,rfl,h2,r3,q3,rfl,h3,rfl⟩ := typed_struct (n := 11) hu hts h
  obtain ⟨a,rfl,_⟩ := typed_int (n := 10) T.i h0
  obtain ⟨b,rfl,_⟩ := typed_int (n := 10) T.i h1
  obtain ⟨l,rfl,hl⟩ := ints_typed T (n := 9) _ h2
  obtain ⟨m,rfl,hm⟩ := ints_typed T (n := 9) _ h3
  exact ⟨⟨a,b,l,m⟩,⟨hl,hm⟩,by simp only [argPV,isAgg_struct hu,if_true]; rfl⟩
def movArg (T : SysT P ts tc tl tm ta te le li ti tb) : Arg P tm Mov where
 pv x := .agg [.int .i64 x.party,.bool x.send,.int .i64 x.label]
 ok _ := True
 dec cs h := by
  obtain ⟨x,rfl,_⟩ := mov_typed T (n := 10) _ h
  obtain ⟨fs,hu,_⟩ := T.m
  exact ⟨x,trivial,by simp only [argPV,isAgg_struct hu,if_true]; rfl⟩
def mvsArg (T : SysT P ts tc tl tm ta te le li ti tb) : Arg P tl (List Mov) where
 pv l := .lst 0 (l.map Mov.c)
 ok l := l.length ≤ 2 ^ 63 - 1
 dec cs h := by
  obtain ⟨l,rfl,hl,_⟩ := slice_dec T.l (mov_typed T (n := 9)) h
  have : isAggT P tl = some false := by simp [isAggT,T.l]
  exact ⟨l,hl,by simp [argPV,this]⟩
end Go.Pv
namespace Go.Pv
variable {P : Program}
structure PDrT (P : Program) (tp td tl ta tu tb : TypeId) : Prop where
 d : DraftT P td tl ta tu
 p : ∃ fs,P.underlying tp = some (.struct fs) ∧ fs.toList.map (·.type) = [td,tl,tb,tu,tu]
 b : P.underlying tb = some .bool
def pdrArg {tp td tl ta tu tb : TypeId} (T : PDrT P tp td tl ta tu tb) : Arg P tp PDr where
 pv d := .agg [.int .u8 d.n,.lst 0 (arcs d.la),.lst 0 (arcs d.l),.bool d.mirror,.int .u8 d.skip,.int .u8 d.cap]
 ok := PDr.ok
 dec cs h := by
  obtain ⟨fs,hu,hts⟩ := T.p
  obtain ⟨r0,q0,rfl,h0,r1,q1,rfl,h1,r2,q2,rfl,h2,r3,q3,rfl,h3,r4,q4,rfl,h4,rfl⟩ := typed_struct (n := 11) hu hts h
  obtain ⟨a,rfl,ha⟩ := draft_typed (n := 7) T.d _ h0
  obtain ⟨l,rfl,hl,hok⟩ := slice_dec T.d.l (arc_typed T.d (n := 8)) h1
  obtain ⟨m,rfl⟩ := typed_bool (n := 10) T.b h2
  obtain ⟨s,rfl,hs⟩ := typed_int (n := 10) T.d.u h3
  obtain ⟨c,rfl,hc⟩ := typed_int (n := 10) T.d.u h4
  rw [u8_min,u8_max] at hs hc
  exact ⟨⟨a.n,a.arcs,l,m,s,c⟩,⟨ha.1,hs,hc,ha.2.1,hl,ha.2.2,hok⟩,by simp only [argPV,isAgg_struct hu,if_true]; rfl⟩
end Go.Pv
namespace Go.Pv
variable {P : Program}
def u8sArg {tv ti : TypeId} (hv : P.underlying tv = some (.slice ti)) (hi : P.underlying ti = some (.int .u8)) : Arg P tv (List Int) where
 pv l := .lst 0 (l.map fun x => [.int .u8 x])
 ok l := (∀ x ∈ l,0 ≤ x ∧ x ≤ 255) ∧ l.length ≤ 2 ^ 63 - 1
 dec cs h := by
  obtain ⟨l,rfl,hl,hok⟩ := slice_dec (c := fun x => [PV.int .u8 x]) (ok := fun x : Int => 0 ≤ x ∧ x ≤ 255) hv (fun cs hc => by
   obtain ⟨x,rfl,hx⟩ := typed_int (n := 10) hi hc
   rw [u8_min,u8_max] at hx
   exact ⟨x,rfl,hx⟩) h
  have : isAggT P tv = some false := by simp [isAggT,hv]
  exact ⟨l,⟨hok,hl⟩,by simp [argPV,this]⟩
end Go.Pv
