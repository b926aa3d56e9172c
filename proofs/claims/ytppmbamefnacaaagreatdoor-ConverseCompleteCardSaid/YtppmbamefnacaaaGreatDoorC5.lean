/-
 What the functions of the law give.
-/
import Derived.Test.YtppmbamefnacaaaGreatDoorC4
namespace Go.Pv
def wRows (ws : List (PV × Cfg)) : List (List PV) := ws.map fun w => w.1 :: w.2.c
@[go_sem] theorem wRows_len (ws : List (PV × Cfg)) : (wRows ws).length = ws.length := List.length_map _
theorem wRows_get {ws : List (PV × Cfg)} {k : Nat} {w : PV × Cfg} (h : ws[k]? = some w) : (wRows ws)[k]? = some [w.1,.int .i64 w.2.a,.int .i64 w.2.b,.lst 0 (ints w.2.toA),.lst 0 (ints w.2.toB)] := by simp [wRows,h,Cfg.c]
set_option maxHeartbeats 2000000 in
theorem r542 (t : Nat) (ws : List (PV × Cfg)) (c : Cfg) (hl : ws.length ≤ 100000) (ho : ∀ x ∈ ws,x.2.ok) (hc : c.ok) : res A PrA 542 [.lst t (wRows ws),.agg [.int .i64 c.a,.int .i64 c.b,.lst 0 (ints c.toA),.lst 0 (ints c.toB)]] = some [.bool (ws.any fun w => decide (w.2 = c))] := by
 refine res_of a542 rfl rfl ?_
 simp only [F542]; try delta sS tT zZ nN gG bB pZ
 simp (disch := omega) only [go_sem]
 refine W.find ws (fun w => decide (w.2 = c)) (fun k => ⟨[(0,.pv (.lst t (wRows ws))),(3,.ptr 3 0),(5,.pv (.int .i64 k))],⟨[(3,[.pv (.int .i64 c.a),.pv (.int .i64 c.b),.pv (.lst 0 (ints c.toA)),.pv (.lst 0 (ints c.toB))])],[],[]⟩⟩) rfl (fun k x hx hk hf => ?_) (fun hno => ?_)
 ·have hcg := wRows_get hx
  have hox := ho x (List.mem_of_getElem? hx)
  have h1 := hox.2.2.2.2.1
  have h2 := hox.2.2.2.2.2
  have h3 := hc.2.2.2.2.1
  have h4 := hc.2.2.2.2.2
  have h154 := r154 0 0 0 0 x.2.a x.2.b c.a c.b x.2.toA x.2.toB c.toA c.toB (by omega) (by omega) (by omega) (by omega)
  have he : (⟨x.2.a,x.2.b,x.2.toA,x.2.toB⟩ : Cfg) = x.2 := rfl
  have he2 : (⟨c.a,c.b,c.toA,c.toB⟩ : Cfg) = c := rfl
  rw [he,he2] at h154
  simp (disch := omega) only [go_sem]
  refine Br.ofP (fun h => ?_) (fun h => (h (by omega)).elim)
  simp (disch := omega) only [go_sem,hcg,h154]
  refine Br.of (fun h2 => ?_) (fun h2 => ?_) <;> simp (disch := omega) only [go_sem]
  ·rw [show (ws.any fun w => decide (w.2 = c)) = true from List.any_eq_true.2 ⟨x,List.mem_of_getElem? hx,h2⟩]
  ·exact findK.of h2 rfl
 ·simp (disch := omega) only [go_sem]
  rw [hno.any]
def revK (l : List Mov) (k : Nat) : List Mov := (List.range l.length).map fun p => if p < k ∨ l.length ≤ p + k then l.getD (l.length - 1 - p) default else l.getD p default
theorem revK_len (l : List Mov) (k : Nat) : (revK l k).length = l.length := by simp [revK]
theorem revK_get {l : List Mov} {k p : Nat} (h : p < l.length) : (revK l k)[p]? = some (if p < k ∨ l.length ≤ p + k then l.getD (l.length - 1 - p) default else l.getD p default) := by simp [revK,h]
theorem revK_zero (l : List Mov) : revK l 0 = l := by
 apply List.ext_getElem?
 intro p
 rcases Nat.lt_or_ge p l.length with h | h
 ·rw [revK_get h,if_neg (by omega),List.getElem?_eq_getElem h]
  simp [h]
 ·rw [List.getElem?_eq_none (by rw [revK_len]; exact h),List.getElem?_eq_none h]
theorem revK_succ {l : List Mov} {k : Nat} (h : k + k + 1 < l.length) : ((revK l k).set k (l.getD (l.length - 1 - k) default)).set (l.length - 1 - k) (l.getD k default) = revK l (k + 1) := by
 apply List.ext_getElem?
 intro p
 rcases Nat.lt_or_ge p l.length with hp | hp
 ·rw [revK_get hp]
  by_cases e1 : l.length - 1 - k = p
  ·subst e1
   rw [List.getElem?_set_self (by rw [List.length_set,revK_len]; exact hp),if_pos (by omega)]
   congr 2
   omega
  ·rw [List.getElem?_set_ne e1]
   by_cases e2 : k = p
   ·subst e2
    rw [List.getElem?_set_self (by rw [revK_len]; exact hp),if_pos (by omega)]
   ·rw [List.getElem?_set_ne e2,revK_get hp]
    by_cases c : p < k ∨ l.length ≤ p + k
    ·rw [if_pos c,if_pos (by omega)]
    ·rw [if_neg c,if_neg (by omega)]
 ·rw [List.getElem?_eq_none (by simp [revK_len,hp]),List.getElem?_eq_none (by rw [revK_len]; exact hp)]
theorem revK_end {l : List Mov} {k : Nat} (h : l.length ≤ k + k + 1) : revK l k = l.reverse := by
 apply List.ext_getElem?
 intro p
 rcases Nat.lt_or_ge p l.length with hp | hp
 ·rw [revK_get hp,List.getElem?_reverse hp]
  have hq : l.length - 1 - p < l.length := by omega
  have e : l.getD (l.length - 1 - p) default = l[l.length - 1 - p] := by simp [hq]
  rw [List.getElem?_eq_getElem hq,← e]
  by_cases c : p < k ∨ l.length ≤ p + k
  ·rw [if_pos c]
  ·rw [if_neg c]
   congr 2
   omega
 ·rw [List.getElem?_eq_none (by rw [revK_len]; exact hp),List.getElem?_eq_none (by rw [List.length_reverse]; exact hp)]
theorem mvs3_set (l : List Mov) (i : Nat) (a : Int) (b : Bool) (c : Int) : (mvs3 l).set i [.int .i64 a,.bool b,.int .i64 c] = mvs3 (l.set i ⟨a,b,c⟩) := by simp [mvs3,Mov.c,List.map_set]
theorem storeRow_mvs {id row ver : Nat} {a c : Int} {b : Bool} {r : List Mov} (h : row < r.length) : storeRow id row 0 [.pv (.int .i64 a),.pv (.bool b),.pv (.int .i64 c)] ⟨ver,3,.inl (mvs3 r)⟩ = some { ar := some (id,⟨ver,3,.inl (mvs3 (r.set row ⟨a,b,c⟩))⟩) } := by
 have h1 : row < (⟨ver,3,.inl (mvs3 r)⟩ : Arr).size := by simpa [Arr.size,mvs3] using h
 have h2 : (mvs3 r).getD row [] = (r[row]).c := by simp [mvs3,h]
 have h3 : (r[row]).c.drop 3 = [] := rfl
 simp [storeRow,h1,setBody,mapO,V.purec,PV.perm,V.calm,← mvs3_set]
 simp [mvs3,h,Mov.c]
set_option maxHeartbeats 4000000 in
theorem rev_run (v m : Nat) (l : List Mov) (hl : l.length = m + 1) (hm : m < 1000000) (Q : Ex → St → Prop) (hQ : ∀ env,Q .normal ⟨env,⟨[],[⟨v,3,.inl (mvs3 l.reverse)⟩],[]⟩⟩) : W A PrA F254.body ⟨[(0,.own 0 v 0 (m + 1))],⟨[],[⟨v,3,.inl (mvs3 l)⟩],[]⟩⟩ Q := by
 simp only [F254]; try delta sS tT zZ nN gG bB pZ
 simp (disch := omega) only [go_sem]
 refine W.upto (m + 1) (fun k => ⟨[(0,.own 0 v 0 (m + 1)),(2,.pv (.int .i64 k)),(3,.pv (.int .i64 ((m : Int) - k)))],⟨[],[⟨v,3,.inl (mvs3 (revK l k))⟩],[]⟩⟩) (fun _ => True) (by rw [revK_zero,show (((m + 1 : Nat) : Int) - 1) = (m : Int) - ((0 : Nat) : Int) by omega]; rfl) trivial fun k hk _ => ?_
 simp (disch := omega) only [go_sem]
 refine Br.ofP (fun c => ?_) (fun c => ?_)
 ·have hkl : k < l.length := by omega
  have hjl : m - k < l.length := by omega
  have h1 : (revK l k)[k]? = some (l.getD k default) := by rw [revK_get hkl,if_neg (by omega)]
  have h2 : (revK l k)[m - k]? = some (l.getD (m - k) default) := by rw [revK_get hjl,if_neg (by omega)]
  have hs := revK_succ (l := l) (k := k) (by omega)
  rw [show l.length - 1 - k = m - k by omega] at hs
  have hrl : (revK l k).length = m + 1 := by rw [revK_len,hl]
  have hti : ((m : Int) - (k : Int)).toNat = m - k := by omega
  generalize revK l k = r at *
  generalize l.getD k default = x at *
  generalize l.getD (m - k) default = y at *
  have hrl2 : (r.set k ⟨y.party,y.send,y.label⟩).length = m + 1 := by rw [List.length_set,hrl]
  simp (disch := omega) only [go_sem,h1,h2,hti,storeRow_mvs]
  refine .of (by omega) ?_ trivial
  rw [← hs,show ((m : Int) - (k : Int) - 1) = (m : Int) - ((k + 1 : Nat) : Int) by omega]
  rfl
 ·have := revK_end (l := l) (k := k) (by omega)
  rw [this]
  simp (disch := omega) only [go_sem]
  exact hQ _
theorem call254 {v : V} {bx : List (Nat × List V)} {ar : List Arr} {mp : List (List (PV × PV))} {K : V → Tn → Prop} (hv : v = .tl [] ∨ ∃ a b c d,v = .own a b c d) (h : W A PrA F254.body ⟨[(0,v)],⟨[],ar,mp⟩⟩ (inlK [] [] K)) : IW A PrA 254 [v] ⟨bx,ar,mp⟩ K := by
 rw [IW_eq a254]
 rcases hv with rfl | ⟨_,_,_,_,rfl⟩ <;> exact ⟨rfl,_,rfl,_,rfl,h⟩
set_option maxHeartbeats 4000000 in
theorem r249 (t : Nat) (s0 s1 s2 s3 s4 s5 s6 C M N : PV) (mvf : Cfg → List (Mov × Cfg)) (s : Cfg) (nodes : List Nd) (i0 : Nat) (hf : Fnd mvf s nodes i0) (hn : nodes.length ≤ 100000) (k : Nat) (x : Nd) (hx : nodes[k]? = some x) : res A PrA 249 [.ro t [s0,s1,s2,s3,s4,s5,s6,C,M,N,.lst 0 (ints (nodes.map Nod.bef)),.lst 0 (mvs3 (nodes.map Nd.mv))],.int .i64 k] = some [.lst 0 (mvs3 x.path)] := by
 refine res_of a249 rfl rfl ?_
 simp only [F249]; try delta sS tT zZ nN gG bB pZ
 have hk := (List.getElem?_eq_some_iff.1 hx).1
 simp (disch := omega) only [go_sem]
 refine W.loop (α := Nat × Nd × List Mov) (fun q => ⟨[(0,.pv (.ro t [s0,s1,s2,s3,s4,s5,s6,C,M,N,.lst 0 (ints (nodes.map Nod.bef)),.lst 0 (mvs3 (nodes.map Nd.mv))])),(1,.pv (.int .i64 q.1)),(5,grV 0 (mvs3 q.2.2))],⟨[],grA 3 (mvs3 q.2.2),[]⟩⟩)
  (fun q => nodes[q.1]? = some q.2.1 ∧ x.path = q.2.1.path ++ q.2.2.reverse ∧ q.2.2.length + q.1 ≤ k) (fun q => q.1) (k,x,[]) rfl ⟨hx,by simp,by simp⟩ fun q hq => ?_
 obtain ⟨j,y,acc⟩ := q
 obtain ⟨h1,h2,h3⟩ := hq
 dsimp only at h1 h2 h3
 have hb : (nodes.map Nod.bef)[j]? = some y.bef := by rw [List.getElem?_map,h1]; rfl
 have hm : (nodes.map Nd.mv)[j]? = some (Nd.mv y) := by rw [List.getElem?_map,h1]; rfl
 have hjl := (List.getElem?_eq_some_iff.1 h1).1
 have hbl : (nodes.map Nod.bef).length = nodes.length := List.length_map _
 have hml : (nodes.map Nd.mv).length = nodes.length := List.length_map _
 rcases Nat.eq_zero_or_pos j with h0 | h0
 ·subst h0
  rw [hf.first] at h1
  cases h1
  simp only [nod0,List.nil_append] at h2 hb hm
  have hge : decide ((-1 : Int) ≥ 0) = false := rfl
  cases acc with
  | nil =>
   simp (disch := omega) only [go_sem,hb]
   refine call254 (.inl rfl) ?_
   simp only [F254]; try delta sS tT zZ nN gG bB pZ
   simp (disch := omega) only [go_sem]
   refine W.loop (α := Unit) (fun _ => ⟨[(0,.tl []),(2,.pv (.int .i64 0)),(3,.pv (.int .i64 (-1)))],⟨[],[],[]⟩⟩) (fun _ => True) (fun _ => 0) () rfl trivial fun _ _ => ?_
   have ho : outBx (toOut []) [] outer [] = some [] := rfl
   simp (disch := omega) only [go_sem,ho]
   rw [h2]
   rfl
  | cons m0 acc =>
   simp (disch := omega) only [go_sem,hb]
   rw [grV_own (n := acc.length) (by rw [mvs3_length]; rfl),grA_own (n := acc.length) (by rw [mvs3_length]; rfl)]
   refine call254 (.inr ⟨_,_,_,_,rfl⟩) (rev_run acc.length acc.length (m0 :: acc) rfl (by simp at h3; omega) _ fun env => ?_)
   have ho : outBx (toOut []) [] outer [] = some [] := rfl
   have htk : (mvs3 (m0 :: acc).reverse).take (acc.length + 1) = mvs3 (m0 :: acc).reverse := List.take_of_length_le (by rw [mvs3_length,List.length_reverse]; exact Nat.le_refl _)
   simp (disch := omega) only [go_sem,ho,htk]
   rw [h2]
 ·obtain ⟨k2,y2,m,e1,e2,e3,e4,e5⟩ := hf.way j y h1 h0
  have hyb : y.bef = (k2 : Int) := by rw [e5]
  have hym : Nd.mv y = m := by rw [e5]; rfl
  have hyp : y.path = y2.path ++ [m] := by rw [e5]
  rw [hyb] at hb
  rw [hym] at hm
  have hal : (mvs3 acc).length ≤ 200000 := by rw [mvs3_length]; omega
  simp (disch := omega) only [go_sem,hb]
  refine Br.ofP (fun _ => ?_) (fun h => (h (by omega)).elim)
  simp (disch := omega) only [go_sem,hb,hm]
  refine ⟨(k2,y2,acc ++ [m]),⟨e3,?_,?_⟩,by dsimp only; omega,rfl⟩
  ·dsimp only
   rw [h2,hyp,List.reverse_append]
   simp
  ·dsimp only
   rw [List.length_append]
   simp
   omega
end Go.Pv
namespace Go.Pv
@[go_sem] theorem takev_ro (n t : Nat) (cs : List PV) : takev n (.ro t cs) = (.pv (.ro t cs),[]) := rfl
@[go_sem] theorem takev_nilp (n : Nat) : takev n .nilp = (.pv .nilp,[]) := rfl
theorem spc_perm (a b : Auto) (cap : Int) (out : List Nd) : (spc a b cap out).all PV.perm = true := rfl
variable {a b : Auto} {cap : Int} {s : Cfg} {p : Cfg → Prop} {out : List Nd}
theorem r248 (hp : Sp30 a b cap p) (h0 : p s) (ha : a.edges.length ≤ 1000000) (hb : b.edges.length ≤ 1000000) (hs : sysErr a b cap = 0) (hn : nodL (mvC a b cap) 5000 5002 [nod0 s] 0 = some out) : res A PrA 248 [.agg [.int .i64 a.states,.int .i64 a.start,.lst 0 (a.edges.map Edge.c),.int .i64 b.states,.int .i64 b.start,.lst 0 (b.edges.map Edge.c),.int .i64 cap],.agg [.int .i64 s.a,.int .i64 s.b,.lst 0 (ints s.toA),.lst 0 (ints s.toB)]] = some [.ro 0 (spc a b cap out),.int .i64 0] := by
 refine res_of a248 rfl rfl ?_
 simp only [F248]; try delta sS tT zZ nN gG bB pZ
 have h253 := r253 a b cap s hp h0 ha hb hs
 rw [hn] at h253
 have hd : decide (sysErr a b cap = 0) = true := decide_eq_true hs
 have hf := hp.fit s h0
 have hok := hp.ok s h0
 have h1 := hok.2.2.2.2.1
 have h2 := hok.2.2.2.2.2
 have h157 := r157 0 0 a b cap 0 0 s.a s.b s.toA s.toB (by omega) (by omega) (by omega) (by omega)
 rw [hf] at h157
 simp (disch := omega) only [go_sem,hd,h253,h157,spc_perm]
theorem r248n (x y : Int) (l m : List Int) (ha : a.edges.length ≤ 1000000) (hb : b.edges.length ≤ 1000000) (hl : l.length ≤ 2000000000) (hm : m.length ≤ 2000000000) (hs : sysErr a b cap = 0) (hf : fitsB a b cap x y l m = false) : res A PrA 248 [.agg [.int .i64 a.states,.int .i64 a.start,.lst 0 (a.edges.map Edge.c),.int .i64 b.states,.int .i64 b.start,.lst 0 (b.edges.map Edge.c),.int .i64 cap],.agg [.int .i64 x,.int .i64 y,.lst 0 (ints l),.lst 0 (ints m)]] = some [.nilp,.int .i64 1] := by
 refine res_of a248 rfl rfl ?_
 simp only [F248]; try delta sS tT zZ nN gG bB pZ
 have hd : decide (sysErr a b cap = 0) = true := decide_eq_true hs
 have h157 := r157 0 0 a b cap 0 0 x y l m (by omega) (by omega) (by omega) (by omega)
 rw [hf] at h157
 simp (disch := omega) only [go_sem,hd,h157]
structure SpcR (a b : Auto) (cap : Int) (s : Cfg) (p : Cfg → Prop) (out : List Nd) : Prop extends Spc a b cap s p out where
 sp : Sp30 a b cap p
 len : out.length ≤ 5000
 ea : a.edges.length ≤ 10000
 eb : b.edges.length ≤ 10000
theorem SpcR.rk (h : SpcR a b cap s p out) (t : Nat) : res A PrA 247 [.ro t [.int .i64 a.states,.int .i64 a.start,.lst 0 (a.edges.map Edge.c),.int .i64 b.states,.int .i64 b.start,.lst 0 (b.edges.map Edge.c),.int .i64 cap,.lst 0 (cfgs (out.map Nod.c)),.lst 0 (mvRows (out.map fun x => movesC a b cap x.c.a x.c.b x.c.toA x.c.toB)),.lst 0 (lls (out.map fun x => (sucC a b cap x.c).map (posZ out))),.lst 0 (ints (out.map Nod.bef)),.lst 0 (mvs3 (out.map Nd.mv))]] = some [.lst 0 (ints (rkN a b cap out))] := by
 have hea := h.ea
 have heb := h.eb
 have := r247 t a b cap (out.map Nod.c) (rowsN a b cap out) (.lst 0 (mvRows (out.map fun x => movesC a b cap x.c.a x.c.b x.c.toA x.c.toB))) (.lst 0 (ints (out.map Nod.bef))) (.lst 0 (mvs3 (out.map Nd.mv))) (by rw [rowsN_len,List.length_map]) (by rw [rowsN_len]; exact h.len) h.inR (fun l hl => by
  obtain ⟨x,_,rfl⟩ := List.mem_map.1 hl
  have h1 := mvsOf_len a b cap x.c.a x.c.b x.c.toA x.c.toB 0 x.c.a a.edges
  have h2 := mvsOf_len a b cap x.c.a x.c.b x.c.toA x.c.toB 1 x.c.b b.edges
  rw [List.length_map,sucC,List.length_map,movesC,List.length_append]
  omega) (fun c hc => by
  obtain ⟨x,hx,rfl⟩ := List.mem_map.1 hc
  have := h.sp.ok _ (h.all x hx)
  have h1 := this.2.2.2.2.1
  have h2 := this.2.2.2.2.2
  omega) (by omega) (by omega)
 rw [rowsN_len] at this
 exact this
theorem rkN_len (h : Spc a b cap s p out) : (rkN a b cap out).length = out.length := h.dist.len
end Go.Pv
namespace Go.Pv
end Go.Pv
namespace Go.Pv
theorem r544 (t : Nat) (a : Auto) (s : Int) (hl : a.edges.length ≤ 2 ^ 63 - 1) : res A PrA 544 [.agg [.int .i64 a.states,.int .i64 a.start,.lst t (a.edges.map Edge.c)],.int .i64 s] = some [.bool (sendsB s a.edges)] := by
 refine res_of a544 rfl rfl ?_
 simp only [F544]; try delta sS tT zZ nN gG bB pZ
 simp (disch := omega) only [go_sem]
 refine W.find a.edges (fun e => decide (e.fr = s) && e.send) (fun k => ⟨[(1,.pv (.int .i64 s)),(2,.ptr 2 0),(5,.pv (.int .i64 k))],⟨[(2,[.pv (.int .i64 a.states),.pv (.int .i64 a.start),.pv (.lst t (a.edges.map Edge.c))])],[],[]⟩⟩) rfl (fun k e he hk hf => ?_) (fun hno => ?_)
 ·have hcg : (a.edges.map Edge.c)[k]? = some e.c := by rw [List.getElem?_map,he]; rfl
  simp (disch := omega) only [go_sem]
  refine Br.ofP (fun h => ?_) (fun h => (h (by omega)).elim)
  simp only [Edge.c] at hcg
  by_cases h1 : e.fr = s
  ·cases h2 : e.send with
   | true =>
    rw [h2] at hcg
    simp (disch := omega) only [go_sem,hcg,h1,decide_true]
    rw [show sendsB s a.edges = true from List.any_eq_true.2 ⟨e,List.mem_of_getElem? he,by simp [h1,h2]⟩]
   | false =>
    rw [h2] at hcg
    simp (disch := omega) only [go_sem,hcg,h1,decide_true]
    exact findK.of (by simp []) rfl
  ·simp (disch := omega) only [go_sem,hcg,h1,decide_false]
   exact findK.of (by simp [h1]) rfl
 ·simp (disch := omega) only [go_sem]
  have : sendsB s a.edges = false := hno.any
  rw [this]
theorem r539 (t u : Nat) (a : Auto) (s : Int) (l : List Int) (hl : a.edges.length ≤ 2 ^ 63 - 1) : res A PrA 539 [.agg [.int .i64 a.states,.int .i64 a.start,.lst t (a.edges.map Edge.c)],.int .i64 s,.lst u (ints l)] = some [.bool (blockB a s l)] := by
 refine res_of a539 rfl rfl ?_
 simp only [F539]; try delta sS tT zZ nN gG bB pZ
 have h544 := r544 t a s hl
 cases l with
 | nil =>
  have hB : blockB a s [] = false := rfl
  rw [hB]
  have hz : decide (((0 : Nat) : Int) = 0) = true := rfl
  simp (disch := omega) only [go_sem,ints_nil,hz]
 | cons x l =>
  have h39 := r39 t a s false x hl
  obtain ⟨L,hL⟩ : ∃ L,L = x :: l := ⟨_,rfl⟩
  have hx : L[0]? = some x := by rw [hL]; rfl
  have hl1 : 0 < L.length := by rw [hL]; simp
  have hlz : decide ((L.length : Int) = 0) = false := decide_eq_false (by omega)
  rw [← hL]
  cases hs : sendsB s a.edges with
  | true =>
   rw [hs] at h544
   have hB : blockB a s L = false := by rw [hL]; simp [blockB,hs]
   rw [hB]
   simp (disch := omega) only [go_sem,h544,hlz]
  | false =>
   rw [hs] at h544
   cases hn : nextE s false x a.edges with
   | none =>
    rw [hn] at h39
    simp only [Option.isSome_none,Option.getD_none] at h39
    have hB : blockB a s L = true := by rw [hL]; simp [blockB,hn,hs]
    rw [hB]
    simp (disch := omega) only [go_sem,h544,hlz,idxR_int,hx,h39]
   | some y =>
    rw [hn] at h39
    simp only [Option.isSome_some,Option.getD_some] at h39
    have hB : blockB a s L = false := by rw [hL]; simp [blockB,hn]
    rw [hB]
    simp (disch := omega) only [go_sem,h544,hlz,idxR_int,hx,h39]
set_option maxHeartbeats 2000000 in
theorem r531 (a b : Auto) (cap : Int) (x y : Int) (l m : List Int) (ha : a.edges.length ≤ 1000000) (hb : b.edges.length ≤ 1000000) (hl : l.length ≤ 2000000000) (hm : m.length ≤ 2000000000) : res A PrA 531 [.agg [.int .i64 a.states,.int .i64 a.start,.lst 0 (a.edges.map Edge.c),.int .i64 b.states,.int .i64 b.start,.lst 0 (b.edges.map Edge.c),.int .i64 cap],.agg [.int .i64 x,.int .i64 y,.lst 0 (ints l),.lst 0 (ints m)]] = some [.int .i64 (kindB a b x y l m (movesC a b cap x y l m).length)] := by
  refine res_of a531 rfl rfl ?_
  simp only [F531]; try delta sS tT zZ nN gG bB pZ
  have h173 := r173 a b cap x y l m ha hb hl hm
  have e1 := r106 0 a x (by omega)
  have e2 := r106 0 b y (by omega)
  have u1 := r539 0 0 a x l (by omega)
  have u2 := r539 0 0 b y m (by omega)
  have hmv := mvs3_length (movesC a b cap x y l m)
  have key : ∀ v : Int,v = kindB a b x y l m (movesC a b cap x y l m).length → some [PV.int .i64 v] = some [PV.int .i64 (kindB a b x y l m (movesC a b cap x y l m).length)] := fun v hv => by rw [hv]
  cases h1 : isEnd x a.edges <;> cases h2 : isEnd y b.edges <;> cases h3 : blockB a x l <;> cases h4 : blockB b y m <;> rw [h1] at e1 <;> rw [h2] at e2 <;> rw [h3] at u1 <;> rw [h4] at u2 <;> simp (disch := omega) only [go_sem,h173,e1,e2,u1,u2,hmv]
  all_goals first
    | (refine key _ ?_; simp [kindB,h1,h2,h3,h4]; done)
    | (refine Br.ofP (fun hz => ?_) (fun hz => ?_)
       · have hz2 : (movesC a b cap x y l m).length = 0 := by omega
         simp (disch := omega) only [go_sem]
         refine key _ ?_
         simp [kindB,h1,h2,h3,h4,hz2]
       · have hz2 : (movesC a b cap x y l m).length ≠ 0 := by omega
         simp (disch := omega) only [go_sem]
         refine key _ ?_
         simp [kindB,h1,h2,h3,h4,hz2])
variable {a b : Auto} {cap : Int} {s : Cfg} {p : Cfg → Prop} {out : List Nd}
end Go.Pv
namespace Go.Pv
def wOf (out : List Nd) : List (PV × Cfg) := out.map fun x => (.lst 0 (mvs3 x.path),x.c)
def OwnM (ars : List Arr) (x : V) (l : List Mov) : Prop := (x = .tl [] ∧ l = []) ∨ ∃ id ver,x = .own (id + 1) ver 0 l.length ∧ l ≠ [] ∧ ars[id]? = some ⟨ver,3,.inl (mvs3 l)⟩
theorem OwnM.push {ars : List Arr} {x : V} {l : List Mov} (h : OwnM ars x l) (r : List Arr) : OwnM (ars ++ r) x l := by
 rcases h with h | ⟨id,ver,h1,h2,h3⟩
 ·exact .inl h
 ·exact .inr ⟨id,ver,h1,h2,by rw [List.getElem?_append_left (List.getElem?_eq_some_iff.1 h3).1]; exact h3⟩
theorem OwnM.calm {ars : List Arr} {v : V} {l : List Mov} (h : OwnM ars v l) : v.calm = true ∧ v.sized = true ∧ v.purec = none ∧ v.cells = [v] := by
 rcases h with ⟨rfl,_⟩ | ⟨id,ver,rfl,_,_⟩ <;> exact ⟨rfl,rfl,rfl,rfl⟩
def wRow (v : V) (c : Cfg) : List V := [v,.pv (.int .i64 c.a),.pv (.int .i64 c.b),.pv (.lst 0 (ints c.toA)),.pv (.lst 0 (ints c.toB))]
structure WRep (out : List Nd) (rows : List (List V)) (ars : List Arr) : Prop where
 len : rows.length = out.length
 row : ∀ (i : Nat) (x : Nd),out[i]? = some x → ∃ v,rows[i]? = some (wRow v x.c) ∧ OwnM ars v x.path
theorem WRep.push {out : List Nd} {rows : List (List V)} {ars : List Arr} (h : WRep out rows ars) (r : List Arr) : WRep out rows (ars ++ r) := ⟨h.len,fun i x hx => by
 obtain ⟨v,h1,h2⟩ := h.row i x hx
 exact ⟨v,h1,h2.push r⟩⟩
theorem WRep.snoc {out : List Nd} {rows : List (List V)} {ars : List Arr} (h : WRep out rows ars) {x : Nd} {v : V} (hv : OwnM ars v x.path) : WRep (out ++ [x]) (rows ++ [wRow v x.c]) ars := ⟨by simp [h.len],fun i y hy => by
 rcases Nat.lt_or_ge i out.length with hi | hi
 ·rw [List.getElem?_append_left hi] at hy
  obtain ⟨w,h1,h2⟩ := h.row i y hy
  exact ⟨w,by rw [List.getElem?_append_left (by rw [h.len]; exact hi)]; exact h1,h2⟩
 ·rw [List.getElem?_append_right hi] at hy
  have h0 : i - out.length = 0 := by
   have := (List.getElem?_eq_some_iff.1 hy).1
   simp at this
   omega
  rw [h0] at hy
  cases hy
  refine ⟨v,?_,hv⟩
  rw [List.getElem?_append_right (by rw [h.len]; exact hi),h.len,h0]
  rfl⟩
theorem OwnM.keep {ars : List Arr} {x : V} {l : List Mov} (h : OwnM ars x l) (bx : List (Nat × List V)) (mp : List (List (PV × PV))) (A1 : Arr) (d : Nat) : keepc ⟨bx,A1 :: ars,mp⟩ (d + 1) x = some (.lst 0 (mvs3 l)) := by
 rcases h with ⟨rfl,rfl⟩ | ⟨id,ver,rfl,_,h2⟩
 ·rfl
 ·have e : (mvs3 l).length = l.length := mvs3_length l
  simp [keepc_own,ownArr,h2,keepRows,cutRows,List.take_of_length_le (Nat.le_of_eq e)]
theorem WRep.keep {out : List Nd} {rows : List (List V)} {ars : List Arr} (h : WRep out rows ars) (bx : List (Nat × List V)) (mp : List (List (PV × PV))) (A1 : Arr) (d : Nat) : mapO (mapO (keepc ⟨bx,A1 :: ars,mp⟩ (d + 1))) rows = some (wRows (wOf out)) := by
 have key : ∀ (rows : List (List V)) (out : List Nd),rows.length = out.length → (∀ (i : Nat) (x : Nd),out[i]? = some x → ∃ v,rows[i]? = some (wRow v x.c) ∧ OwnM ars v x.path) → mapO (mapO (keepc ⟨bx,A1 :: ars,mp⟩ (d + 1))) rows = some (wRows (wOf out)) := by
  intro rows
  induction rows with
  | nil =>
   intro s hl _
   have : s = [] := List.eq_nil_of_length_eq_zero hl.symm
   subst this
   rfl
  | cons r rows ih =>
   intro s hl ho
   match s,hl with
   | x :: s,hl =>
    obtain ⟨v,h0,hv⟩ := ho 0 x rfl
    cases h0
    have h1 := hv.keep bx mp A1 d
    have h2 := ih s (by simpa using hl) fun i y hy => ho (i + 1) y (by simpa using hy)
    rw [mapO_cons',h2]
    have h3 : mapO (keepc ⟨bx,A1 :: ars,mp⟩ (d + 1)) (wRow v x.c) = some (.lst 0 (mvs3 x.path) :: x.c.c) := by
     unfold wRow
     rw [mapO_cons',h1]
     rfl
    rw [h3]
    rfl
 exact key rows out h.len h.row
def wOfL (out : List Nd) (t : Nd → Nat) : List (PV × Cfg) := out.map fun x => (.lst (t x) (mvs3 x.path),x.c)
theorem OwnM.lend {ars : List Arr} {x : V} {l : List Mov} (h : OwnM ars x l) (bx : List (Nat × List V)) (mp : List (List (PV × PV))) (A1 : Arr) (d : Nat) : lendc ⟨bx,A1 :: ars,mp⟩ (d + 1) x = some (.lst (if l = [] then 0 else 1) (mvs3 l)) := by
 rcases h with ⟨rfl,rfl⟩ | ⟨id,ver,rfl,hn,h2⟩
 ·rfl
 ·have e : (mvs3 l).length = l.length := mvs3_length l
  rw [if_neg hn]
  simp [lendc_own,ownArr,h2,lendRows,cutRows,List.take_of_length_le (Nat.le_of_eq e)]
theorem WRep.lend {out : List Nd} {rows : List (List V)} {ars : List Arr} (h : WRep out rows ars) (bx : List (Nat × List V)) (mp : List (List (PV × PV))) (A1 : Arr) (d : Nat) : mapO (mapO (lendc ⟨bx,A1 :: ars,mp⟩ (d + 1))) rows = some (wRows (wOfL out fun x => if x.path = [] then 0 else 1)) := by
 have key : ∀ (rows : List (List V)) (out : List Nd),rows.length = out.length → (∀ (i : Nat) (x : Nd),out[i]? = some x → ∃ v,rows[i]? = some (wRow v x.c) ∧ OwnM ars v x.path) → mapO (mapO (lendc ⟨bx,A1 :: ars,mp⟩ (d + 1))) rows = some (wRows (wOfL out fun x => if x.path = [] then 0 else 1)) := by
  intro rows
  induction rows with
  | nil =>
   intro s hl _
   have : s = [] := List.eq_nil_of_length_eq_zero hl.symm
   subst this
   rfl
  | cons r rows ih =>
   intro s hl ho
   match s,hl with
   | x :: s,hl =>
    obtain ⟨v,h0,hv⟩ := ho 0 x rfl
    cases h0
    have h1 := hv.lend bx mp A1 d
    have h2 := ih s (by simpa using hl) fun i y hy => ho (i + 1) y (by simpa using hy)
    rw [mapO_cons',h2]
    have h3 : mapO (lendc ⟨bx,A1 :: ars,mp⟩ (d + 1)) (wRow v x.c) = some (.lst (if x.path = [] then 0 else 1) (mvs3 x.path) :: x.c.c) := by
     unfold wRow
     rw [mapO_cons',h1]
     rfl
    rw [h3]
    rfl
 exact key rows out h.len h.row
theorem wOf_any (o : List Nd) (t : Nd → Nat) (d : Cfg) : ((wOfL o t).any fun w => decide (w.2 = d)) = decide (d ∈ o.map Nod.c) := by
 rw [Bool.eq_iff_iff,List.any_eq_true,decide_eq_true_iff,List.mem_map]
 constructor
 ·rintro ⟨w,hw,h⟩
  obtain ⟨x,hx,rfl⟩ := List.mem_map.1 hw
  exact ⟨x,hx,by simpa using h⟩
 ·rintro ⟨x,hx,rfl⟩
  exact ⟨_,List.mem_map.2 ⟨x,hx,rfl⟩,by simp⟩
theorem app_nn (h : Heap) : appendV h 3 (.tl []) (.tl []) = some (.tl [],{}) := by
 simp [appendV,srcRows,rowsFit,rowsLen]
theorem app_copyM {bx : List (Nat × List V)} {mp : List (List (PV × PV))} {A0 : Arr} {ars : List Arr} {id ver : Nat} {l : List Mov} (h : ars[id]? = some ⟨ver,3,.inl (mvs3 l)⟩) (hl : l ≠ []) (hn : l.length ≤ 10000) : appendV ⟨bx,A0 :: ars,mp⟩ 3 (.tl []) (.own (id + 1) ver 0 l.length) = some (.own (ars.length + 1) 0 0 l.length,{ push := [⟨0,3,.inl (mvs3 l)⟩],ra := some (id + 1),base := ars.length + 1 }) := by
 have e : (mvs3 l).length = l.length := mvs3_length l
 have e2 : (mvs3 l).take l.length = mvs3 l := List.take_of_length_le (by omega)
 have e3 : rowsFit 3 (.inl (mvs3 l)) = true := by simp [rowsFit,mvs3,Mov.c]
 have e4 : rowsFit 3 (.inl []) = true := rfl
 simp [appendV,srcRows,ownArr,h,cutRows,e2,e3,rowsLen,e,catRows,mostRows,hl,e4]
 omega
theorem app_mv0 (h : Heap) (m : Mov) : appendV h 3 (.tl []) (.tl [[.int .i64 m.party,.bool m.send,.int .i64 m.label]]) = some (.own h.ar.length 0 0 1,{ push := [⟨0,3,.inl (mvs3 [m])⟩],base := h.ar.length }) :=
 app_tlr h 3 [] [.int .i64 m.party,.bool m.send,.int .i64 m.label] rfl (fun x hx => by cases hx) (by simp)
theorem app_mv1 {bx : List (Nat × List V)} {mp : List (List (PV × PV))} {ar : List Arr} {id : Nat} {l : List Mov} {m : Mov} (h : ar[id]? = some ⟨0,3,.inl (mvs3 l)⟩) (hn : l.length ≤ 10000) : appendV ⟨bx,ar,mp⟩ 3 (.own id 0 0 l.length) (.tl [[.int .i64 m.party,.bool m.send,.int .i64 m.label]]) = some (.own id 1 0 (l.length + 1),{ ar := some (id,⟨1,3,.inl (mvs3 (l ++ [m]))⟩) }) := by
 have e : (mvs3 l).length = l.length := mvs3_length l
 have e2 : mvs3 l ++ [[.int .i64 m.party,.bool m.send,.int .i64 m.label]] = mvs3 (l ++ [m]) := by simp [mvs3,Mov.c]
 rw [app_ownr ⟨bx,ar,mp⟩ id 0 0 l.length 3 [.int .i64 m.party,.bool m.send,.int .i64 m.label] rfl,← e2]
 simp only [ownArr,h,if_true,Option.bind_some]
 exact apR_ok e.symm (by omega)
theorem app_w {bx : List (Nat × List V)} {mp : List (List (PV × PV))} {ver len m : Nat} {rows : List (List V)} {r : List V} {ar : List Arr} (h1 : ar[m]? = some ⟨0,5,.inr [r]⟩) (h2 : r.length = 5) (h3 : rows.length = len) (h4 : len + 1 ≤ 2147483648) :
  appendV ⟨bx,⟨ver,5,.inr rows⟩ :: ar,mp⟩ 5 (.own 0 ver 0 len) (.own (m + 1) 0 0 1) = some (.own 0 (ver + 1) 0 (len + 1),{ ar := some (0,⟨ver + 1,5,.inr (rows ++ [r])⟩),ra := some (m + 1) }) := by
 have e : rows.take len = rows := List.take_of_length_le (by omega)
 simp [appendV,srcRows,ownArr,h1,cutRows,rowsFit,rowsLen,h2,Arr.size,h3,mostRows,h4,catRows,e]
theorem app_mv1S {bx : List (Nat × List V)} {mp : List (List (PV × PV))} {A0 : Arr} {ars : List Arr} {l : List Mov} {m : Mov} (hn : l.length ≤ 10000) : appendV ⟨bx,A0 :: (ars ++ [⟨0,3,.inl (mvs3 l)⟩]),mp⟩ 3 (.own (ars.length + 1) 0 0 l.length) (.tl [[.int .i64 m.party,.bool m.send,.int .i64 m.label]]) = some (.own (ars.length + 1) 1 0 (l.length + 1),{ ar := some (ars.length + 1,⟨1,3,.inl (mvs3 (l ++ [m]))⟩) }) :=
 app_mv1 (by simp) hn
theorem app_wS {bx : List (Nat × List V)} {mp : List (List (PV × PV))} {ver len : Nat} {rows : List (List V)} {r : List V} {P : Arr} {ars : List Arr} (h2 : r.length = 5) (h3 : rows.length = len) (h4 : len + 1 ≤ 2147483648) :
  appendV ⟨bx,⟨ver,5,.inr rows⟩ :: (ars ++ [P] ++ [⟨0,5,.inr [r]⟩]),mp⟩ 5 (.own 0 ver 0 len) (.own (ars.length + 1 + 1) 0 0 1) = some (.own 0 (ver + 1) 0 (len + 1),{ ar := some (0,⟨ver + 1,5,.inr (rows ++ [r])⟩),ra := some (ars.length + 1 + 1) }) :=
 app_w (by simp) h2 h3 h4
theorem set_last {α : Type} (l : List α) (x y : α) : (l ++ [x]).set l.length y = l ++ [y] := by simp
theorem len_snoc {α : Type} (l : List α) (x : α) : (l ++ [x]).length = l.length + 1 := by simp
theorem snoc_plen {o : List Nd} {y : Nd} (h : ∀ (j : Nat) (x : Nd),o[j]? = some x → x.path.length ≤ j) (hy : y.path.length ≤ o.length) : ∀ (j : Nat) (x : Nd),(o ++ [y])[j]? = some x → x.path.length ≤ j := fun j x hx => by
 rcases Nat.lt_or_ge j o.length with hj | hj
 ·rw [List.getElem?_append_left hj] at hx
  exact h j x hx
 ·rw [List.getElem?_append_right hj] at hx
  have h0 : j - o.length = 0 := by
   have := (List.getElem?_eq_some_iff.1 hx).1
   simp at this
   omega
  rw [h0] at hx
  cases hx
  omega
theorem snoc_all {q : Cfg → Prop} {o : List Nd} {y : Nd} (h : ∀ x ∈ o,q x.c) (hy : q y.c) : ∀ x ∈ o ++ [y],q x.c := fun x hx => by
 rcases List.mem_append.1 hx with hx | hx
 ·exact h x hx
 ·rw [List.mem_singleton.1 hx]
  exact hy
variable {a b : Auto} {cap : Int} {s : Cfg} {p : Cfg → Prop} {out : List Nd}
set_option maxHeartbeats 8000000 in
theorem r537 (hp : Sp30 a b cap p) (h0 : p s) (ha : a.edges.length ≤ 1000000) (hb : b.edges.length ≤ 1000000) (hF : nodL (mvC a b cap) 5000 5002 [nod0 s] 0 = some out) : res A PrA 537 [.agg [.int .i64 a.states,.int .i64 a.start,.lst 0 (a.edges.map Edge.c),.int .i64 b.states,.int .i64 b.start,.lst 0 (b.edges.map Edge.c),.int .i64 cap],.agg [.int .i64 s.a,.int .i64 s.b,.lst 0 (ints s.toA),.lst 0 (ints s.toB)]] = some [.lst 0 (wRows (wOf out))] := by
 refine res_of a537 rfl rfl ?_
 simp only [F537]; try delta sS tT zZ nN gG bB pZ
 simp (disch := omega) only [go_sem]
 generalize hS : (⟨[(2,[V.pv (.int .i64 a.states),.pv (.int .i64 a.start),.pv (.lst 0 (a.edges.map Edge.c)),.pv (.int .i64 b.states),.pv (.int .i64 b.start),.pv (.lst 0 (b.edges.map Edge.c)),.pv (.int .i64 cap)])],[],[]⟩ : Heap) = hp0
 subst hS
 refine W.loop (α := List Nd × Nat × Nat × List (List V) × List Arr) (fun q => ⟨[(2,.ptr 2 0),(5,.own 0 q.2.2.1 0 q.1.length),(6,.pv (.int .i64 q.2.1))],⟨[(2,[.pv (.int .i64 a.states),.pv (.int .i64 a.start),.pv (.lst 0 (a.edges.map Edge.c)),.pv (.int .i64 b.states),.pv (.int .i64 b.start),.pv (.lst 0 (b.edges.map Edge.c)),.pv (.int .i64 cap)])],⟨q.2.2.1,5,.inr q.2.2.2.1⟩ :: q.2.2.2.2,[]⟩⟩)
  (fun q => (∀ x ∈ q.1,p x.c) ∧ (∀ (j : Nat) (x : Nd),q.1[j]? = some x → x.path.length ≤ j) ∧ q.1.length ≤ 5000 ∧ 1 ≤ q.1.length ∧ q.2.1 ≤ q.1.length ∧ WRep q.1 q.2.2.2.1 q.2.2.2.2 ∧ nodL (mvC a b cap) 5000 5002 [nod0 s] 0 = nodL (mvC a b cap) 5000 (5002 - q.2.1) q.1 q.2.1) (fun q => 5001 - q.2.1) ([nod0 s],0,0,[wRow (.tl []) s],[]) rfl ⟨?_,?_,by simp,by simp,by simp,⟨rfl,?_⟩,rfl⟩ (fun q hq => ?_)
 ·intro x hx
  rw [List.mem_singleton.1 hx]
  exact h0
 ·intro j x hx
  cases j with
  | zero => cases hx; simp [nod0]
  | succ j => simp at hx
 ·intro i x hx
  cases i with
  | zero => cases hx; exact ⟨.tl [],rfl,.inl ⟨rfl,rfl⟩⟩
  | succ i => simp at hx
 obtain ⟨o0,i,ver,rows,ars⟩ := q
 obtain ⟨x1,x2,x3,x4,x5,x6,x7⟩ := hq
 dsimp only at x1 x2 x3 x4 x5 x6 x7 ⊢
 have hrl := x6.len
 simp (disch := omega) only [go_sem]
 refine Br.ofP (fun c1 => ?_) (fun c1 => ?_) <;> simp (disch := omega) only [go_sem,c1]
 ·obtain ⟨x,hx⟩ := get_at (l := o0) (k := i) (by omega)
  obtain ⟨v,hv,hpv⟩ := x6.row i x hx
  have hpc := x1 x (List.mem_of_getElem? hx)
  have hpl := x2 i x hx
  obtain ⟨k1,k2,k3,k4,k5,k6⟩ := hp.ok _ hpc
  have h173 := r173 a b cap x.c.a x.c.b x.c.toA x.c.toB (by omega) (by omega) (by omega) (by omega)
  have h183 := fun mv => r183 a b cap x.c.a x.c.b x.c.toA x.c.toB mv (by omega) (by omega) (by omega) (by omega)
  obtain ⟨c1',c2',c3',c4'⟩ := hpv.calm
  unfold wRow at hv
  simp (disch := omega) only [go_sem,hv,h173]
  have hml : (movesC a b cap x.c.a x.c.b x.c.toA x.c.toB).length ≤ 2000000 := by
   have h1 := mvsOf_len a b cap x.c.a x.c.b x.c.toA x.c.toB 0 x.c.a a.edges
   have h2 := mvsOf_len a b cap x.c.a x.c.b x.c.toA x.c.toB 1 x.c.b b.edges
   rw [movesC,List.length_append]
   omega
  have hsu : sucD (mvC a b cap) i x = (movesC a b cap x.c.a x.c.b x.c.toA x.c.toB).map fun m => ⟨(afterC a b cap x.c.a x.c.b x.c.toA x.c.toB m).1,(i : Int),some m,x.path ++ [m]⟩ := by unfold sucD mvC; rw [List.map_map]; rfl
  have hnx : ∀ m ∈ movesC a b cap x.c.a x.c.b x.c.toA x.c.toB,p (afterC a b cap x.c.a x.c.b x.c.toA x.c.toB m).1 := fun m hm => hp.nx _ hpc _ (List.mem_map.2 ⟨m,hm,rfl⟩)
  generalize hms : movesC a b cap x.c.a x.c.b x.c.toA x.c.toB = ms at *
  refine W.loop (α := List Nd × Nat × Nat × List (List V) × List Arr) (fun q => ⟨[(2,.ptr 2 0),(5,.own 0 q.2.2.1 0 q.1.length),(6,.pv (.int .i64 i)),(7,.pv (.lst 0 (mvs3 ms))),(8,.pv (.int .i64 q.2.1))],⟨[(2,[.pv (.int .i64 a.states),.pv (.int .i64 a.start),.pv (.lst 0 (a.edges.map Edge.c)),.pv (.int .i64 b.states),.pv (.int .i64 b.start),.pv (.lst 0 (b.edges.map Edge.c)),.pv (.int .i64 cap)])],⟨q.2.2.1,5,.inr q.2.2.2.1⟩ :: q.2.2.2.2,[]⟩⟩)
   (fun q => q.2.1 ≤ ms.length ∧ addDs 5000 o0 ((sucD (mvC a b cap) i x).take q.2.1) = some q.1 ∧ WRep q.1 q.2.2.2.1 q.2.2.2.2 ∧ (∀ (j : Nat) (x : Nd),q.1[j]? = some x → x.path.length ≤ j) ∧ ∀ x ∈ q.1,p x.c) (fun q => ms.length - q.2.1) (o0,0,ver,rows,ars) rfl ⟨Nat.zero_le _,rfl,x6,x2,x1⟩ (fun q hq => ?_)
  obtain ⟨o,k,ver2,rows2,ars2⟩ := q
  obtain ⟨y1,y2,y3,y4,y5⟩ := hq
  dsimp only at y1 y2 y3 y4 y5 ⊢
  obtain ⟨z1,_,z3⟩ := addDs_some y2
  have hol := z3 x3
  have hxo := get_pre z1 hx
  have hio := (List.getElem?_eq_some_iff.1 hxo).1
  obtain ⟨v2,hv2,hpv2⟩ := y3.row i x hxo
  obtain ⟨d1,d2,d3,d4⟩ := hpv2.calm
  unfold wRow at hv2
  have hrl2 := y3.len
  simp (disch := omega) only [go_sem]
  refine Br.ofP (fun c2 => ?_) (fun c2 => ?_) <;> simp (disch := omega) only [go_sem,c2]
  ·obtain ⟨mv,hmv⟩ := get_at (l := ms) (k := k) (by omega)
   have h183 := h183 mv
   have hpd := hnx mv (List.mem_of_getElem? hmv)
   have hdg : (sucD (mvC a b cap) i x)[k]? = some ⟨(afterC a b cap x.c.a x.c.b x.c.toA x.c.toB mv).1,(i : Int),some mv,x.path ++ [mv]⟩ := by rw [hsu,List.getElem?_map,hmv]; rfl
   generalize (afterC a b cap x.c.a x.c.b x.c.toA x.c.toB mv).2 = okb at *
   generalize (afterC a b cap x.c.a x.c.b x.c.toA x.c.toB mv).1 = d at *
   have hok := hp.ok d hpd
   have h542 := fun t => r542 t (wOfL o fun x => if x.path = [] then 0 else 1) d (by unfold wOfL; rw [List.length_map]; omega) (fun w hw => by
    obtain ⟨y,hy,rfl⟩ := List.mem_map.1 hw
    exact hp.ok _ (y5 y hy)) hok
   have hkp := y3.lend
   have htk : rows2.take o.length = rows2 := List.take_of_length_le (by omega)
   simp (disch := omega) only [go_sem,hv2,hmv,h183,htk,hkp,h542,wOf_any]
   have hnext : addDs 5000 o0 ((sucD (mvC a b cap) i x).take (k + 1)) = if 5000 < (addD o ⟨d,(i : Int),some mv,x.path ++ [mv]⟩).length then none else some (addD o ⟨d,(i : Int),some mv,x.path ++ [mv]⟩) := by
    rw [List.take_add_one,hdg,Option.toList_some,addDs_snoc,y2]
    rfl
   refine Br.ofP (fun c3 => ?_) (fun c3 => ?_)
   ·have hau : addD o ⟨d,(i : Int),some mv,x.path ++ [mv]⟩ = o := if_pos c3
    rw [hau,if_neg (by omega)] at hnext
    simp (disch := omega) only [go_sem]
    exact ⟨(o,k + 1,ver2,rows2,ars2),⟨by dsimp only; omega,hnext,y3,y4,y5⟩,by dsimp only; omega,rfl⟩
   ·have hau : addD o ⟨d,(i : Int),some mv,x.path ++ [mv]⟩ = o ++ [⟨d,(i : Int),some mv,x.path ++ [mv]⟩] := if_neg c3
    rw [hau,List.length_append,List.length_singleton] at hnext
    have hfit : ¬ 5000 < o.length + 1 := fun c4 => by
     rw [if_pos c4] at hnext
     rw [hF,show 5002 - i = (5001 - i) + 1 by omega,nodL,hx] at x7
     simp only [addDs_none (k + 1) hnext] at x7
     cases x7
    rw [if_neg hfit] at hnext
    have hpl2 := y4 i x hxo
    rcases hpv2 with ⟨rfl,hp2⟩ | ⟨id,ver3,rfl,hp2,hp3⟩
    ·simp (disch := omega) only [go_sem,hv2,hmv,app_nn,app_mv0]
     rw [app_wS rfl (by omega) (by omega)]
     simp (disch := omega) only [go_sem]
     have hx0 : x.path ++ [mv] = [mv] := by rw [hp2]; rfl
     refine ⟨(o ++ [⟨d,(i : Int),some mv,x.path ++ [mv]⟩],k + 1,ver2 + 1,rows2 ++ [wRow (.own (ars2.length + 1) 0 0 1) d],ars2 ++ [⟨0,3,.inl (mvs3 [mv])⟩] ++ [⟨0,5,.inr [wRow (.own (ars2.length + 1) 0 0 1) d]⟩]),⟨by dsimp only; omega,hnext,?_,?_,?_⟩,by dsimp only; omega,?_⟩
     ·refine ((y3.push _).push _).snoc (x := ⟨d,(i : Int),some mv,x.path ++ [mv]⟩) (.inr ⟨ars2.length,0,?_,by simp,?_⟩)
      ·rw [hx0]
       rfl
      ·rw [hx0]
       simp
     ·exact snoc_plen y4 (by dsimp only; rw [List.length_append]; simp; omega)
     ·exact snoc_all y5 hpd
     ·dsimp only
      rw [List.length_append]
      rfl
    ·have hcp := fun bx mp A0 => app_copyM (bx := bx) (mp := mp) (A0 := A0) hp3 hp2 (by omega)
     have hm1 := fun bx mp A0 => app_mv1S (bx := bx) (mp := mp) (A0 := A0) (ars := ars2) (l := x.path) (m := mv) (by omega)
     simp (disch := omega) only [go_sem,hv2,hmv,hcp,hm1,set_last,len_snoc]
     rw [app_wS rfl (by omega) (by omega)]
     simp (disch := omega) only [go_sem]
     refine ⟨(o ++ [⟨d,(i : Int),some mv,x.path ++ [mv]⟩],k + 1,ver2 + 1,rows2 ++ [wRow (.own (ars2.length + 1) 1 0 (x.path.length + 1)) d],ars2 ++ [⟨1,3,.inl (mvs3 (x.path ++ [mv]))⟩] ++ [⟨0,5,.inr [wRow (.own (ars2.length + 1) 1 0 (x.path.length + 1)) d]⟩]),⟨by dsimp only; omega,hnext,?_,?_,?_⟩,by dsimp only; omega,?_⟩
     ·refine ((y3.push _).push _).snoc (x := ⟨d,(i : Int),some mv,x.path ++ [mv]⟩) (.inr ⟨ars2.length,1,?_,by simp,?_⟩)
      ·rw [List.length_append]
       rfl
      ·simp
     ·exact snoc_plen y4 (by dsimp only; rw [List.length_append]; simp; omega)
     ·exact snoc_all y5 hpd
     ·dsimp only
      rw [List.length_append]
      rfl
  ·have hkm : k = ms.length := by omega
   have hall : (sucD (mvC a b cap) i x).take k = sucD (mvC a b cap) i x := List.take_of_length_le (by rw [hsu,List.length_map]; omega)
   rw [hall] at y2
   refine ⟨(o,i + 1,ver2,rows2,ars2),⟨y5,y4,hol,by dsimp only; omega,by dsimp only; omega,y3,?_⟩,by dsimp only; omega,rfl⟩
   dsimp only
   rw [x7,show 5002 - i = (5002 - (i + 1)) + 1 by omega,nodL,hx]
   simp only [y2]
 ·have hn : o0[i]? = none := List.getElem?_eq_none_iff.2 (by omega)
  rw [hF,show 5002 - i = (5001 - i) + 1 by omega,nodL,hn] at x7
  cases x7
  have htk : rows.take out.length = rows := List.take_of_length_le (by omega)
  rw [htk,x6.keep]
  rfl
end Go.Pv
namespace Go.Pv
end Go.Pv
namespace Go.Pv
variable {a b : Auto} {cap : Int}
theorem atFrom_before {x : Int} : ∀ {l : List Int} {k j : Nat},atFrom x k l = ((k + j : Nat) : Int) → ∀ i,i < j → l[i]? ≠ some x
 | [],k,j,h,i,hi => by simp
 | y :: r,k,j,h,i,hi => by
  unfold atFrom at h
  split at h
  ·omega
  ·rename_i hne
   cases i with
   | zero => intro e; simp at e; exact hne e
   | succ i =>
    have := atFrom_before (l := r) (k := k + 1) (j := j - 1) (by rw [h]; congr 1; omega) i (by omega)
    simpa using this
theorem atL_before {x : Int} {l : List Int} {j : Nat} (h : atL x l = (j : Int)) : ∀ i,i < j → l[i]? ≠ some x := atFrom_before (k := 0) (by rw [Nat.zero_add]; exact h)
variable {s : Cfg} {p : Cfg → Prop} {out : List Nd}
theorem Spc.run (h : Spc a b cap s p out) {j : Nat} {x : Nd} (hx : out[j]? = some x) : Run (mvC a b cap) s x.path x.c := (h.fnd.stp j j x (Nat.le_refl _) hx).run
end Go.Pv
namespace Go.Pv
def smallA (m : Int) (x : Arc) : Arc := ⟨x.fr % m,x.act % 4,x.to % m⟩
def smallL (m : Int) (l : List Arc) (k : Nat) : List Arc := (l.take k).map (smallA m)
theorem smallL_len {m : Int} {l : List Arc} {k : Nat} (h : k ≤ l.length) : (smallL m l k).length = k := by rw [smallL,List.length_map,List.length_take]; omega
theorem smallL_succ {m : Int} {l : List Arc} {k : Nat} {x : Arc} (h : l[k]? = some x) : smallL m l (k + 1) = smallL m l k ++ [smallA m x] := by rw [smallL,List.take_add_one,h,List.map_append]; rfl
def smallD (n : Int) (l : List Arc) : Draft := ⟨n % 3,smallL (n % 3 + 1) l 12⟩
def arcs (l : List Arc) : List (List PV) := l.map Arc.c
@[go_sem] theorem arcs_length (l : List Arc) : (arcs l).length = l.length := List.length_map _
@[go_sem] theorem arcs_get (l : List Arc) (i : Nat) : (arcs l)[i]? = l[i]?.map fun x => [.int .u8 x.fr,.int .u8 x.act,.int .u8 x.to] := by simp [arcs]; rfl
theorem arcs_snoc (l : List Arc) (x : Arc) : arcs l ++ [[.int .u8 x.fr,.int .u8 x.act,.int .u8 x.to]] = arcs (l ++ [x]) := by simp [arcs,Arc.c]
set_option maxHeartbeats 4000000 in
theorem r184 (t : Nat) (n : Int) (l : List Arc) (hn : 0 ≤ n ∧ n ≤ 255) (_hl : l.length ≤ 2 ^ 63 - 1) (ho : ∀ x ∈ l,x.ok) : res A PrA 184 [.int .u8 n,.lst t (arcs l)] = some [.agg [.int .u8 (n % 3),.lst 0 (arcs (smallL (n % 3 + 1) l 12))]] := by
 refine res_of a184 rfl rfl ?_
 simp only [F184]; try delta sS tT zZ nN gG bB pZ
 have hm : n.tmod 3 = n % 3 := Int.tmod_eq_emod_of_nonneg hn.1
 have hb := Int.emod_nonneg n (by decide : (3 : Int) ≠ 0)
 have hc := Int.emod_lt_of_pos n (by decide : (0 : Int) < 3)
 simp (disch := omega) only [go_sem]
 generalize n % 3 = s at *
 refine W.upto 12 (fun k => ⟨[(1,.pv (.lst t (arcs l))),(4,.ptr 4 0),(5,.ptr 5 0),(6,.pv (.int .i64 k))],⟨[(4,[.pv (.int .u8 0),.tl []]),(5,[.pv (.int .u8 s),grV 0 (arcs (smallL (s + 1) l k))])],grA 3 (arcs (smallL (s + 1) l k)),[]⟩⟩) (fun k => k ≤ l.length) rfl (Nat.zero_le _) fun k hk hkl => ?_
 simp (disch := omega) only [go_sem]
 have hlen := smallL_len (m := s + 1) hkl
 have hal : (arcs (smallL (s + 1) l k)).length = k := by rw [arcs_length]; exact hlen
 refine Br.ofP (fun c1 => ?_) (fun c1 => ?_) <;> simp (disch := omega) only [go_sem,c1]
 ·refine Br.ofP (fun c2 => ?_) (fun c2 => ?_) <;> simp (disch := omega) only [go_sem,c2]
  ·obtain ⟨x,hx⟩ := get_at (l := l) (k := k) (by omega)
   obtain ⟨⟨o1,o2⟩,⟨o3,o4⟩,o5,o6⟩ := ho x (List.mem_of_getElem? hx)
   have e1 : x.fr.tmod (s + 1) = x.fr % (s + 1) := Int.tmod_eq_emod_of_nonneg o1
   have e2 : x.to.tmod (s + 1) = x.to % (s + 1) := Int.tmod_eq_emod_of_nonneg o5
   have e3 : x.act.tmod 4 = x.act % 4 := Int.tmod_eq_emod_of_nonneg o3
   have f1 := Int.emod_nonneg x.fr (by omega : s + 1 ≠ 0)
   have f2 := Int.emod_lt_of_pos x.fr (by omega : 0 < s + 1)
   have f3 := Int.emod_nonneg x.to (by omega : s + 1 ≠ 0)
   have f4 := Int.emod_lt_of_pos x.to (by omega : 0 < s + 1)
   have f5 := Int.emod_nonneg x.act (by decide : (4 : Int) ≠ 0)
   have f6 := Int.emod_lt_of_pos x.act (by decide : (0 : Int) < 4)
   have hss := smallL_succ (m := s + 1) hx
   simp (disch := omega) only [go_sem,hx]
   refine .of (by omega) ?_ (by omega)
   rw [hss,← arcs_snoc]
   rfl
  ·have h12 : k = 12 := by omega
   rw [h12]
 ·have hkl2 : k = l.length := by omega
  have : smallL (s + 1) l k = smallL (s + 1) l 12 := by
   unfold smallL
   rw [List.take_of_length_le (by omega),List.take_of_length_le (by omega)]
  rw [this]
structure PDr where
 n : Int
 la : List Arc
 l : List Arc
 mirror : Bool
 skip : Int
 cap : Int
def PDr.ok (d : PDr) : Prop := (0 ≤ d.n ∧ d.n ≤ 255) ∧ (0 ≤ d.skip ∧ d.skip ≤ 255) ∧ (0 ≤ d.cap ∧ d.cap ≤ 255) ∧ d.la.length ≤ 2 ^ 63 - 1 ∧ d.l.length ≤ 2 ^ 63 - 1 ∧ (∀ x ∈ d.la,x.ok) ∧ ∀ x ∈ d.l,x.ok
def PDr.sh (d : PDr) (k : Nat) : Int := d.skip.fdiv (2 ^ (min ((k : Int) % 8).toNat IntKind.u8.bits))
def PDr.bit (d : PDr) (k : Nat) : Int := IntKind.u8.wrap (BitVec.ofInt IntKind.u8.bits (d.sh k) &&& BitVec.ofInt IntKind.u8.bits 1).toNat
theorem PDr.shr_val (d : PDr) (k : Nat) : binV .shr (.pv (.int .u8 d.skip)) (.pv (.int .i64 ((k : Int) % 8))) = some (.pv (.int .u8 (d.sh k))) := by
 show (shiftBin .shr .u8 d.skip ((k : Int) % 8)).map V.pv = _
 unfold shiftBin
 rw [if_neg (by omega)]
 rfl
theorem PDr.and_val (d : PDr) (k : Nat) : binV .and (.pv (.int .u8 (d.sh k))) (.pv (.int .u8 1)) = some (.pv (.int .u8 (d.bit k))) := rfl
def PDr.out (d : PDr) (k : Nat) : Bool := decide (d.bit k = 0)
def PDr.fit (d : PDr) : Bool := decide (d.la.length ≤ 12) && decide (d.l.length ≤ 12)
theorem smallD_ok {n : Int} {l : List Arc} (_hn : 0 ≤ n ∧ n ≤ 255) (_ho : ∀ x ∈ l,x.ok) : (smallD n l).ok := by
 have hb := Int.emod_nonneg n (by decide : (3 : Int) ≠ 0)
 have hc := Int.emod_lt_of_pos n (by decide : (0 : Int) < 3)
 refine ⟨⟨hb,by show n % 3 ≤ 255; omega⟩,?_,fun x hx => ?_⟩
 ·show (smallL (n % 3 + 1) l 12).length ≤ _
  rw [smallL,List.length_map,List.length_take]
  omega
 ·obtain ⟨y,_,rfl⟩ := List.mem_map.1 hx
  generalize n % 3 = s at *
  have f1 := Int.emod_nonneg y.fr (by omega : s + 1 ≠ 0)
  have f2 := Int.emod_lt_of_pos y.fr (by omega : 0 < s + 1)
  have f3 := Int.emod_nonneg y.to (by omega : s + 1 ≠ 0)
  have f4 := Int.emod_lt_of_pos y.to (by omega : 0 < s + 1)
  have f5 := Int.emod_nonneg y.act (by decide : (4 : Int) ≠ 0)
  have f6 := Int.emod_lt_of_pos y.act (by decide : (0 : Int) < 4)
  exact ⟨⟨f1,by show y.fr % (s + 1) ≤ 255; omega⟩,⟨f5,by show y.act % 4 ≤ 255; omega⟩,f3,by show y.to % (s + 1) ≤ 255; omega⟩
theorem raw_from {st : Int} : ∀ (l : List Arc) (es : List Edge) (e : Edge),e ∈ l.foldl (fun es x => addE es (x.edge st)) es → e ∈ es ∨ ∃ x ∈ l,e = x.edge st
 | [],_,_,h => .inl h
 | x :: l,es,e,h => by
  rcases raw_from l (addE es (x.edge st)) e h with h | ⟨y,hy,rfl⟩
  ·rcases addE_mem h with h | rfl
   ·exact .inl h
   ·exact .inr ⟨x,List.mem_cons_self ..,rfl⟩
  ·exact .inr ⟨y,List.mem_cons_of_mem _ hy,rfl⟩
theorem smallD_edges {n : Int} {l : List Arc} (_hn : 0 ≤ n) : ∀ e ∈ (smallD n l).auto.edges,(0 ≤ e.fr ∧ e.fr ≤ 2) ∧ (0 ≤ e.to ∧ e.to ≤ 2) ∧ (1 ≤ e.label ∧ e.label ≤ 2) := by
 intro e he
 have he := (sortB_perm Edge.lt (smallD n l).raw).subset he
 have hb := Int.emod_nonneg n (by decide : (3 : Int) ≠ 0)
 have hc := Int.emod_lt_of_pos n (by decide : (0 : Int) < 3)
 have hst : (smallD n l).n = n % 3 := rfl
 rcases raw_from _ _ e he with h | ⟨x,hx,rfl⟩
 ·cases h
 ·have hx := List.mem_of_mem_take hx
  obtain ⟨y,_,rfl⟩ := List.mem_map.1 hx
  rw [hst]
  generalize n % 3 = s at *
  have hs4 : s % 4 = s := Int.emod_eq_of_lt hb (by omega)
  rw [hs4]
  have f1 := Int.emod_nonneg (smallA (s + 1) y).fr (by omega : 1 + s ≠ 0)
  have f2 := Int.emod_lt_of_pos (smallA (s + 1) y).fr (by omega : 0 < 1 + s)
  have f3 := Int.emod_nonneg (smallA (s + 1) y).to (by omega : 1 + s ≠ 0)
  have f4 := Int.emod_lt_of_pos (smallA (s + 1) y).to (by omega : 0 < 1 + s)
  have hl : (((smallA (s + 1) y).edge (1 + s)).label) = 1 + y.act % 4 / 2 % 3 := rfl
  refine ⟨⟨f1,?_⟩,⟨f3,?_⟩,?_⟩
  ·show (smallA (s + 1) y).fr % (1 + s) ≤ 2
   omega
  ·show (smallA (s + 1) y).to % (1 + s) ≤ 2
   omega
  ·rw [hl]
   omega
def mirA (e : Edge) : Arc := ⟨e.fr,if e.send = true then 2 * (e.label - 1) else 2 * (e.label - 1) + 1,e.to⟩
def mirL (out : Nat → Bool) (es : List Edge) : Nat → List Arc
 | 0 => []
 | k + 1 => match es[k]? with
  | none => mirL out es k
  | some e => if out k = true then mirL out es k ++ [mirA e] else mirL out es k
theorem mirL_len (out : Nat → Bool) (es : List Edge) (k : Nat) : (mirL out es k).length ≤ k := by
 induction k with
 | zero => exact Nat.le_refl _
 | succ k ih =>
  unfold mirL
  split
  ·omega
  ·split
   ·rw [List.length_append,List.length_singleton]
    omega
   ·omega
def PDr.mir (d : PDr) : List Arc := mirL d.out (smallD d.n d.la).auto.edges (smallD d.n d.la).auto.edges.length
def PDr.n2 (d : PDr) : Int := if d.mirror = true then d.n else IntKind.u8.wrap (d.n + d.skip)
def PDr.l2 (d : PDr) : List Arc := (if d.mirror = true then d.mir else []) ++ d.l
def PDr.A (d : PDr) : Auto := (smallD d.n d.la).auto
def PDr.B (d : PDr) : Auto := (smallD d.n2 d.l2).auto
theorem mirL_ok {out : Nat → Bool} {es : List Edge} (h : ∀ e ∈ es,(0 ≤ e.fr ∧ e.fr ≤ 2) ∧ (0 ≤ e.to ∧ e.to ≤ 2) ∧ (1 ≤ e.label ∧ e.label ≤ 2)) : ∀ k,∀ x ∈ mirL out es k,x.ok
 | 0,x,hx => by cases hx
 | k + 1,x,hx => by
  unfold mirL at hx
  split at hx
  ·exact mirL_ok h k x hx
  ·rename_i e he
   split at hx
   ·rcases List.mem_append.1 hx with hx | hx
    ·exact mirL_ok h k x hx
    ·rw [List.mem_singleton.1 hx]
     obtain ⟨f1,f2,f3⟩ := h e (List.mem_of_getElem? he)
     refine ⟨⟨f1.1,by show e.fr ≤ 255; omega⟩,?_,f2.1,by show e.to ≤ 255; omega⟩
     show 0 ≤ (if e.send = true then 2 * (e.label - 1) else 2 * (e.label - 1) + 1) ∧ (if e.send = true then 2 * (e.label - 1) else 2 * (e.label - 1) + 1) ≤ 255
     split <;> omega
   ·exact mirL_ok h k x hx
theorem app_nil0 (h : Heap) (rows : List (List PV)) (hr : ∀ r ∈ rows,r.length = 3) (hm : rows.length ≤ 2147483648) : appendV h 3 (.tl []) (.pv (.lst 0 rows)) = some (if rows.length = 0 then (.tl [],{}) else (.own h.ar.length 0 0 rows.length,{ push := [⟨0,3,.inl rows⟩],base := h.ar.length })) := by
 have hf : (rows.all fun x => x.length == 3) = true := by simpa using hr
 by_cases h0 : rows.length = 0
 ·simp [appendV,srcRows,rowsFit,rowsLen,h0,hf]
 ·simp [appendV,srcRows,rowsFit,rowsLen,h0,hf,mostRows,catRows,hm]
theorem app_own0 (h : Heap) (ver len : Nat) (R rows : List (List PV)) (ho : ownArr h 0 ver = some ⟨ver,3,.inl R⟩) (hl : len = R.length) (hr : ∀ r ∈ rows,r.length = 3) (hm : len + rows.length ≤ 2147483648) : appendV h 3 (.own 0 ver 0 len) (.pv (.lst 0 rows)) = some (if rows.length = 0 then (.own 0 ver 0 len,{ ra2 := some 0 }) else (.own 0 (ver + 1) 0 (len + rows.length),{ ar := some (0,⟨ver + 1,3,.inl (R ++ rows)⟩) })) := by
 have hf : (rows.all fun x => x.length == 3) = true := by simpa using hr
 subst hl
 by_cases h0 : rows.length = 0
 ·simp [appendV,srcRows,rowsFit,rowsLen,h0,hf,ho]
 ·simp [appendV,srcRows,rowsFit,rowsLen,h0,hf,ho,mostRows,catRows,cutRows,hm,Arr.size]
theorem arcs_rows (l : List Arc) : ∀ r ∈ arcs l,r.length = 3 := by
 intro r hr
 obtain ⟨x,_,rfl⟩ := List.mem_map.1 hr
 rfl
theorem wrap_u8_in (x : Int) : 0 ≤ IntKind.wrap .u8 x ∧ IntKind.wrap .u8 x ≤ 255 := by
 have h : IntKind.wrap .u8 x = x % 256 := rfl
 rw [h]
 omega
set_option maxHeartbeats 4000000 in
theorem r164 (d : PDr) (hd : d.ok) : res A PrA 164 [.agg [.int .u8 d.n,.lst 0 (arcs d.la),.lst 0 (arcs d.l),.bool d.mirror,.int .u8 d.skip,.int .u8 d.cap]] = some (if d.fit = true then [.agg [.int .i64 (1 + d.n % 3 % 4),.int .i64 0,.lst 0 (edgs d.A.edges),.int .i64 (1 + d.n2 % 3 % 4),.int .i64 0,.lst 0 (edgs d.B.edges),.int .i64 (1 + d.cap % 2)],.bool true] else [.agg [.int .i64 0,.int .i64 0,.lst 0 [],.int .i64 0,.int .i64 0,.lst 0 [],.int .i64 0],.bool false]) := by
 refine res_of a164 rfl rfl ?_
 simp only [F164]; try delta sS tT zZ nN gG bB pZ
 obtain ⟨h1,h2,h3,h4,h5,h6,h7⟩ := hd
 have e1 := r184 0 d.n d.la h1 h4 h6
 have e2 := r25 0 _ (smallD_ok h1 h6)
 have e3 : (smallD d.n d.la).arcs.map Arc.c = arcs (smallL (d.n % 3 + 1) d.la 12) := rfl
 have e4 : (smallD d.n d.la).n = d.n % 3 := rfl
 rw [e3,e4] at e2
 simp (disch := omega) only [go_sem]
 refine Br.ofP (fun c1 => ?_) (fun c1 => ?_) <;> simp (disch := omega) only [go_sem,c1]
 ·have hf : d.fit = false := by
   have : ¬ d.la.length ≤ 12 := by omega
   simp [PDr.fit,this]
  rw [hf,if_neg (by decide)]
 ·refine Br.ofP (fun c2 => ?_) (fun c2 => ?_) <;> simp (disch := omega) only [go_sem,c2,e1,e2]
  ·have hf : d.fit = false := by
    have : ¬ d.l.length ≤ 12 := by omega
    simp [PDr.fit,this]
   rw [hf,if_neg (by decide)]
  have hf : d.fit = true := by
   have g1 : d.la.length ≤ 12 := by omega
   have g2 : d.l.length ≤ 12 := by omega
   simp [PDr.fit,g1,g2]
  rw [hf,if_pos rfl]
  have hcm : d.cap.tmod 2 = d.cap % 2 := Int.tmod_eq_emod_of_nonneg h3.1
  have hc1 := Int.emod_nonneg d.cap (by decide : (2 : Int) ≠ 0)
  have hc2 := Int.emod_lt_of_pos d.cap (by decide : (0 : Int) < 2)
  have hll : (arcs d.l).length = d.l.length := arcs_length _
  have hn2 : 0 ≤ d.n2 ∧ d.n2 ≤ 255 := by
   unfold PDr.n2
   split
   ·exact h1
   ·exact wrap_u8_in _
  have hml0 := mirL_len d.out (smallD d.n d.la).auto.edges (smallD d.n d.la).auto.edges.length
  have hlen := Draft.len (smallD_ok h1 h6)
  have hl2 : ∀ x ∈ d.l2,x.ok := fun x hx => by
   rcases List.mem_append.1 hx with hx | hx
   ·split at hx
    ·exact mirL_ok (smallD_edges h1.1) _ x hx
    ·cases hx
   ·exact h7 x hx
  have hl2n : d.l2.length ≤ 1000 := by
   unfold PDr.l2
   rw [List.length_append]
   split
   ·unfold PDr.mir
    omega
   ·simp
    omega
  have e5 := fun t => r184 t d.n2 d.l2 hn2 (by omega) hl2
  have e6 := r25 0 _ (smallD_ok hn2 hl2)
  have e7 : (smallD d.n2 d.l2).arcs.map Arc.c = arcs (smallL (d.n2 % 3 + 1) d.l2 12) := rfl
  have e8 : (smallD d.n2 d.l2).n = d.n2 % 3 := rfl
  rw [e7,e8] at e6
  have eB : (smallD d.n2 d.l2).auto.edges = d.B.edges := rfl
  have eA : (smallD d.n d.la).auto.edges = d.A.edges := rfl
  rw [eB] at e6
  clear e7 eB
  generalize smallL (d.n2 % 3 + 1) d.l2 12 = SL at e5 e6
  refine Br.of (fun c3 => ?_) (fun c3 => ?_) <;> simp (disch := omega) only [go_sem,c3]
  ·have hgood := (Draft.good (smallD_ok h1 h6) (s := 0) (by have := (smallD d.n d.la).st; omega)).fit
   have hfit : ∀ e ∈ (smallD d.n d.la).auto.edges,(0 ≤ e.fr ∧ e.fr ≤ 2) ∧ (0 ≤ e.to ∧ e.to ≤ 2) ∧ (1 ≤ e.label ∧ e.label ≤ 2) := smallD_edges h1.1
   have hm2 : d.l2 = mirL d.out (smallD d.n d.la).auto.edges (smallD d.n d.la).auto.edges.length ++ d.l := by unfold PDr.l2; rw [if_pos c3]; rfl
   have hnn : d.n2 = d.n := if_pos c3
   rw [hm2,hnn] at e5
   rw [hnn] at e6
   rw [← eA]
   clear eA
   generalize (smallD d.n d.la).auto.edges = es at *
   refine W.upto es.length (fun k => ⟨[(1,.ptr 1 0),(2,.ptr 2 0),(4,.ptr 4 0),(6,.pv (.int .u8 d.n)),(7,grV 0 (arcs (mirL d.out es k))),(8,.pv (.int .i64 k))],⟨[(1,[.pv (.int .u8 d.n),.pv (.lst 0 (arcs d.la)),.pv (.lst 0 (arcs d.l)),.pv (.bool true),.pv (.int .u8 d.skip),.pv (.int .u8 d.cap)]),(2,[.pv (.int .i64 0),.pv (.int .i64 0),.tl [],.pv (.int .i64 0),.pv (.int .i64 0),.tl [],.pv (.int .i64 0)]),(4,[.pv (.int .i64 (1 + d.n % 3 % 4)),.pv (.int .i64 0),.pv (.lst 0 (edgs es))])],grA 3 (arcs (mirL d.out es k)),[]⟩⟩) (fun _ => True) rfl trivial fun k hk _ => ?_
   have hml := mirL_len d.out es k
   have hal : (arcs (mirL d.out es k)).length = (mirL d.out es k).length := arcs_length _
   simp (disch := omega) only [go_sem]
   refine Br.ofP (fun c4 => ?_) (fun c4 => ?_) <;> simp (disch := omega) only [go_sem,c4]
   ·obtain ⟨e,he⟩ := get_at (l := es) (k := k) (by omega)
    obtain ⟨⟨f1,f2⟩,⟨f3,f4⟩,f5,f6⟩ := hfit e (List.mem_of_getElem? he)
    have hmk : mirL d.out es (k + 1) = if d.out k = true then mirL d.out es k ++ [mirA e] else mirL d.out es k := by
     rw [mirL,he]
    obtain ⟨fr,send,label,to⟩ := e
    dsimp only at f1 f2 f3 f4 f5 f6
    cases send
    all_goals
     have hsv := d.shr_val k
     have hav := d.and_val k
     have hout : d.out k = decide (d.bit k = 0) := rfl
     simp (disch := omega) only [go_sem,he,hsv,hav]
     refine Br.ofP (fun c5 => ?_) (fun c5 => ?_)
     ·rw [hout,decide_eq_true c5,if_pos rfl] at hmk
      simp (disch := omega) only [go_sem]
      refine .of (by omega) ?_ trivial
      rw [hmk,← arcs_snoc]
      rfl
     ·rw [hout,decide_eq_false c5,if_neg (by decide)] at hmk
      simp (disch := omega) only [go_sem]
      refine .of (by omega) ?_ trivial
      rw [hmk]
      rfl
   ·have hkk : k = es.length := by omega
    subst hkk
    rw [hnn]
    generalize hmm : mirL d.out es es.length = mm at *
    cases mm with
    | nil =>
     have hg1 : grV 0 (arcs []) = .tl [] := rfl
     have hg2 : grA 3 (arcs []) = [] := rfl
     rw [hg1,hg2]
     have hcat : arcs ([] ++ d.l) = arcs d.l := rfl
     rw [hcat] at e5
     have happ := fun h => app_nil0 h (arcs d.l) (arcs_rows d.l) (by omega)
     by_cases hd0 : (arcs d.l).length = 0
     ·rw [List.eq_nil_of_length_eq_zero hd0] at e5 happ ⊢
      simp only [List.length_nil,if_true] at happ
      simp (disch := omega) only [go_sem,happ,e5,e6]
     ·simp only [if_neg hd0] at happ
      have htk : ∀ n,(arcs d.l).length ≤ n → (arcs d.l).take n = arcs d.l := fun n h => List.take_of_length_le h
      simp (disch := omega) only [go_sem,happ,htk,e5,e6]
    | cons x q =>
     have hg0 : (arcs (x :: q)).length = q.length + 1 := by rw [arcs_length,List.length_cons]
     have hg1 : grV 0 (arcs (x :: q)) = .own 0 q.length 0 (q.length + 1) := by
      show V.own 0 (arcs q).length 0 ((arcs q).length + 1) = _
      rw [arcs_length]
     have hg2 : grA 3 (arcs (x :: q)) = [⟨q.length,3,.inl (arcs (x :: q))⟩] := by
      show [(⟨(arcs q).length,3,.inl (arcs (x :: q))⟩ : Arr)] = _
      rw [arcs_length]
     rw [hg1,hg2]
     have hcat : arcs (x :: q ++ d.l) = arcs (x :: q) ++ arcs d.l := List.map_append
     rw [hcat] at e5
     have hql : q.length + 1 ≤ 12 := by
      have := mirL_len d.out es es.length
      rw [hmm,List.length_cons] at this
      omega
     have happ := fun h ho => app_own0 h q.length (q.length + 1) (arcs (x :: q)) (arcs d.l) ho hg0.symm (arcs_rows d.l) (by omega)
     by_cases hd0 : (arcs d.l).length = 0
     ·rw [List.eq_nil_of_length_eq_zero hd0,List.append_nil] at e5
      rw [List.eq_nil_of_length_eq_zero hd0] at happ ⊢
      simp only [List.length_nil,if_true] at happ
      generalize arcs (x :: q) = R at *
      rw [happ _ (by simp [ownArr])]
      have htk : ∀ n,R.length ≤ n → R.take n = R := fun n h => List.take_of_length_le h
      simp (disch := omega) only [go_sem,htk,e5,e6]
     ·simp only [if_neg hd0] at happ
      generalize arcs (x :: q) = R at *
      rw [happ _ (by simp [ownArr])]
      have htk : ∀ n,(R ++ arcs d.l).length ≤ n → (R ++ arcs d.l).take n = R ++ arcs d.l := fun n h => List.take_of_length_le h
      have hRl : (R ++ arcs d.l).length = R.length + (arcs d.l).length := List.length_append
      simp (disch := omega) only [go_sem,htk,e5,e6]
  ·have hm2 : d.l2 = d.l := by unfold PDr.l2; rw [if_neg (by simp [c3])]; rfl
   have hnn : d.n2 = IntKind.u8.wrap (d.n + d.skip) := if_neg (by simp [c3])
   rw [hm2,hnn] at e5
   rw [hnn] at e6 ⊢
   rw [← eA]
   have happ := fun h => app_nil0 h (arcs d.l) (arcs_rows d.l) (by omega)
   by_cases hd0 : (arcs d.l).length = 0
   ·rw [List.eq_nil_of_length_eq_zero hd0] at e5 happ ⊢
    simp only [List.length_nil,if_true] at happ
    simp (disch := omega) only [go_sem,happ,e5,e6]
   ·simp only [if_neg hd0] at happ
    have htk : ∀ n,(arcs d.l).length ≤ n → (arcs d.l).take n = arcs d.l := fun n h => List.take_of_length_le h
    simp (disch := omega) only [go_sem,happ,htk,e5,e6]
end Go.Pv
namespace Go.Pv
def PDr.c2 (d : PDr) : Int := 1 + d.cap % 2
theorem PDr.l2_ok {d : PDr} (hd : d.ok) : ∀ x ∈ d.l2,x.ok := fun x hx => by
 obtain ⟨h1,h2,h3,h4,h5,h6,h7⟩ := hd
 rcases List.mem_append.1 hx with hx | hx
 ·split at hx
  ·exact mirL_ok (smallD_edges h1.1) _ x hx
  ·cases hx
 ·exact h7 x hx
theorem PDr.n2_in {d : PDr} (hd : d.ok) : 0 ≤ d.n2 ∧ d.n2 ≤ 255 := by
 unfold PDr.n2
 split
 ·exact hd.1
 ·exact wrap_u8_in _
theorem PDr.sys {d : PDr} (hd : d.ok) : sysErr d.A d.B d.c2 = 0 ∧ (∀ e ∈ d.A.edges ++ d.B.edges,e.label ≤ 2) ∧ d.A.states ≤ 3 ∧ d.B.states ≤ 3 ∧ d.c2 ≤ 2 ∧ d.A.edges.length ≤ 12 ∧ d.B.edges.length ≤ 12 := by
 have hA := smallD_ok hd.1 hd.2.2.2.2.2.1
 have hB := smallD_ok (PDr.n2_in hd) (PDr.l2_ok hd)
 have gA : d.A.Good := Draft.good hA (s := 0) (by have := (smallD d.n d.la).st; omega)
 have gB : d.B.Good := Draft.good hB (s := 0) (by have := (smallD d.n2 d.l2).st; omega)
 have hb := Int.emod_nonneg d.cap (by decide : (2 : Int) ≠ 0)
 have hc := Int.emod_lt_of_pos d.cap (by decide : (0 : Int) < 2)
 refine ⟨?_,fun e he => ?_,?_,?_,by unfold PDr.c2; omega,Draft.len hA,Draft.len hB⟩
 ·unfold sysErr
  have e1 : d.A.err = 0 := Auto.good_iff.2 gA
  have e2 : d.B.err = 0 := Auto.good_iff.2 gB
  rw [if_neg (by simp [e1]),if_neg (by simp [e2]),if_neg (by unfold PDr.c2; omega)]
 ·rcases List.mem_append.1 he with he | he
  ·exact (smallD_edges hd.1.1 e he).2.2.2
  ·exact (smallD_edges (PDr.n2_in hd).1 e he).2.2.2
 ·show 1 + d.n % 3 % 4 ≤ 3
  omega
 ·show 1 + d.n2 % 3 % 4 ≤ 3
  omega
end Go.Pv
namespace Go.Pv
variable {a b : Auto} {cap : Int} {s : Cfg} {p : Cfg → Prop} {out : List Nd}
def complR (a b : Auto) (cap : Int) (out : List Nd) : List PV := match out[(atL 0 (rkN a b cap out)).toNat]? with
 | some x => if atL 0 (rkN a b cap out) < 0 then [.lst 0 [],.int .i64 18] else [.lst 0 (mvs3 x.path),.int .i64 0]
 | none => []
theorem r237 (h : SpcR a b cap s p out) (h0 : p s) (hs : sysErr a b cap = 0) (hn : nodL (mvC a b cap) 5000 5002 [nod0 s] 0 = some out) : res A PrA 237 [.agg [.int .i64 a.states,.int .i64 a.start,.lst 0 (a.edges.map Edge.c),.int .i64 b.states,.int .i64 b.start,.lst 0 (b.edges.map Edge.c),.int .i64 cap],.agg [.int .i64 s.a,.int .i64 s.b,.lst 0 (ints s.toA),.lst 0 (ints s.toB)]] = some (complR a b cap out) := by
 refine res_of a237 rfl rfl ?_
 simp only [F237]; try delta sS tT zZ nN gG bB pZ
 have hea := h.ea
 have heb := h.eb
 have h248 := r248 h.sp h0 (by omega) (by omega) hs hn
 have h247 := h.rk 0
 have hl := rkN_len h.toSpc
 have hle := h.len
 simp only [spc] at h248
 simp (disch := omega) only [go_sem,h248,h247]
 by_cases hi : atL 0 (rkN a b cap out) < 0
 ·have hz : (atL 0 (rkN a b cap out)).toNat = 0 := by omega
  have hR : complR a b cap out = [.lst 0 [],.int .i64 18] := by
   unfold complR
   rw [hz,h.fnd.first]
   simp only
   rw [if_pos hi]
  rw [hR]
  refine Br.ofP (fun _ => ?_) (fun hh => (hh hi).elim)
  simp (disch := omega) only [go_sem]
 ·obtain ⟨j,hj,hjg⟩ := atL_get (atL_pos.1 (Int.not_lt.1 hi))
  have hjl : j < out.length := by rw [← hl]; exact (List.getElem?_eq_some_iff.1 hjg).1
  obtain ⟨x,hx⟩ := get_at (l := out) (k := j) hjl
  have hR : complR a b cap out = [.lst 0 (mvs3 x.path),.int .i64 0] := by
   unfold complR
   rw [hj,Int.toNat_natCast,hx]
   simp only
   rw [if_neg (by omega)]
  rw [hR]
  refine Br.ofP (fun hh => (hi hh).elim) (fun _ => ?_)
  have h249 := fun t => r249 t (.int .i64 a.states) (.int .i64 a.start) (.lst 0 (a.edges.map Edge.c)) (.int .i64 b.states) (.int .i64 b.start) (.lst 0 (b.edges.map Edge.c)) (.int .i64 cap) (.lst 0 (cfgs (out.map Nod.c))) (.lst 0 (mvRows (out.map fun x => movesC a b cap x.c.a x.c.b x.c.toA x.c.toB))) (.lst 0 (lls (out.map fun x => (sucC a b cap x.c).map (posZ out)))) (mvC a b cap) s out out.length h.fnd (by omega) j x hx
  rw [hj]
  simp (disch := omega) only [go_sem,h249]
theorem r237n (x y : Int) (l m : List Int) (ha : a.edges.length ≤ 1000000) (hb : b.edges.length ≤ 1000000) (hl : l.length ≤ 2000000000) (hm : m.length ≤ 2000000000) (hs : sysErr a b cap = 0) (hf : fitsB a b cap x y l m = false) : res A PrA 237 [.agg [.int .i64 a.states,.int .i64 a.start,.lst 0 (a.edges.map Edge.c),.int .i64 b.states,.int .i64 b.start,.lst 0 (b.edges.map Edge.c),.int .i64 cap],.agg [.int .i64 x,.int .i64 y,.lst 0 (ints l),.lst 0 (ints m)]] = some [.lst 0 [],.int .i64 1] := by
 refine res_of a237 rfl rfl ?_
 simp only [F237]; try delta sS tT zZ nN gG bB pZ
 have h248 := r248n x y l m ha hb hl hm hs hf
 simp (disch := omega) only [go_sem,h248]
def kindR (a b : Auto) (cap : Int) (s : Cfg) (out : List Nd) : List PV := if 0 ≤ (rkN a b cap out).getD 0 (-1) then [.int .i64 0,.int .i64 15] else [.int .i64 (kindB a b s.a s.b s.toA s.toB (movesC a b cap s.a s.b s.toA s.toB).length),.int .i64 0]
theorem r241 (h : SpcR a b cap s p out) (h0 : p s) (hs : sysErr a b cap = 0) (hsa : a.states ≤ 12) (hsb : b.states ≤ 12) (hn : nodL (mvC a b cap) 5000 5002 [nod0 s] 0 = some out) : res A PrA 241 [.agg [.int .i64 a.states,.int .i64 a.start,.lst 0 (a.edges.map Edge.c),.int .i64 b.states,.int .i64 b.start,.lst 0 (b.edges.map Edge.c),.int .i64 cap],.agg [.int .i64 s.a,.int .i64 s.b,.lst 0 (ints s.toA),.lst 0 (ints s.toB)]] = some (kindR a b cap s out) := by
 refine res_of a241 rfl rfl ?_
 simp only [F241]; try delta sS tT zZ nN gG bB pZ
 have hea := h.ea
 have heb := h.eb
 have h248 := r248 h.sp h0 (by omega) (by omega) hs hn
 have h247 := h.rk 0
 have hl := rkN_len h.toSpc
 have hle := h.len
 have h1 : 1 ≤ out.length := by have := (List.getElem?_eq_some_iff.1 h.fnd.first).1; omega
 have hg0 : (rkN a b cap out)[0]? = some ((rkN a b cap out).getD 0 (-1)) := by
  have : 0 < (rkN a b cap out).length := by omega
  simp [this]
 simp only [spc] at h248
 obtain ⟨_,f1,f2,_⟩ := fitsB_iff.1 (h.sp.fit _ h0)
 have h250 := r250 0 0 0 0 0 a b cap s.a s.b s.toA s.toB (mvs3 (movesC a b cap s.a s.b s.toA s.toB)) hsa hsb f1 f2 (by omega) (by omega)
 rw [mvs3_length] at h250
 have hmg : (mvRows (out.map fun x => movesC a b cap x.c.a x.c.b x.c.toA x.c.toB))[0]? = some [.lst 0 (mvs3 (movesC a b cap s.a s.b s.toA s.toB))] := by simp [mvRows,h.fnd.first,nod0]
 have hmr : (mvRows (out.map fun x => movesC a b cap x.c.a x.c.b x.c.toA x.c.toB)).length = out.length := by simp [mvRows]
 simp (disch := omega) only [go_sem,h248,h247,idxR_int,hg0]
 unfold kindR
 refine Br.ofP (fun hh => ?_) (fun hh => ?_)
 ·rw [if_pos hh]
  simp (disch := omega) only [go_sem]
 ·rw [if_neg hh]
  have hix : idxR 1 0 (mvRows (out.map fun x => movesC a b cap x.c.a x.c.b x.c.toA x.c.toB)) (some 0) = some (.pv (.ro 0 [.lst 0 (mvs3 (movesC a b cap s.a s.b s.toA s.toB))])) := by
   unfold idxR inRange
   simp only
   rw [if_pos ⟨by omega,by rw [hmr]; omega⟩]
   simp only [Int.toNat_zero,hmg]
   rfl
  simp (disch := omega) only [go_sem,hix,h250]
end Go.Pv
namespace Go.Pv
variable {a b : Auto} {cap : Int} {s : Cfg} {p : Cfg → Prop} {out : List Nd}
theorem Fnd.plen {mv : Cfg → List (Mov × Cfg)} {i0 : Nat} (hf : Fnd mv s out i0) : ∀ (n j : Nat) (x : Nd),j ≤ n → out[j]? = some x → x.path.length ≤ j
 | n,j,x,hj,hx => by
  rcases Nat.eq_zero_or_pos j with h0 | h0
  ·subst h0
   rw [hf.first] at hx
   cases hx
   simp [nod0]
  ·obtain ⟨k,y,m,h1,_,h3,_,h5⟩ := hf.way j x hx h0
   match n with
   | 0 => omega
   | n + 1 =>
    have := Fnd.plen hf n k y (by omega) h3
    rw [h5]
    simp
    omega
end Go.Pv
namespace Go.Pv
variable {a b : Auto} {cap : Int} {s : Cfg} {p : Cfg → Prop} {out : List Nd} {U : List Cfg}
end Go.Pv
namespace Go.Pv
def ckR (L : List (Cfg × Int)) : List (List PV) := L.map fun w => [.int .i64 w.1.a,.int .i64 w.1.b,.lst 0 (ints w.1.toA),.lst 0 (ints w.1.toB),.int .i64 w.2]
variable {a b : Auto} {cap : Int} {s : Cfg} {p : Cfg → Prop} {out : List Nd} {U : List Cfg}
end Go.Pv
namespace Go.Pv
variable {a b : Auto} {cap : Int} {s : Cfg} {p : Cfg → Prop} {out : List Nd} {U : List Cfg}
end Go.Pv
namespace Go.Pv
variable {a b : Auto} {cap : Int} {s : Cfg} {p : Cfg → Prop} {out : List Nd} {U : List Cfg}
end Go.Pv
namespace Go.Pv
variable {a b : Auto} {cap : Int} {s : Cfg} {p : Cfg → Prop} {out : List Nd} {U : List Cfg}
end Go.Pv
namespace Go.Pv
variable {a b : Auto} {cap : Int} {s : Cfg} {p : Cfg → Prop} {out : List Nd} {U : List Cfg}
end Go.Pv
namespace Go.Pv
variable {a b : Auto} {cap : Int} {s : Cfg} {p : Cfg → Prop} {out : List Nd} {U : List Cfg}
end Go.Pv
namespace Go.Pv
variable {a b : Auto} {cap : Int} {s : Cfg} {p : Cfg → Prop} {out : List Nd} {U : List Cfg}
end Go.Pv
namespace Go.Pv
variable {a b : Auto} {cap : Int} {s : Cfg} {p : Cfg → Prop} {out : List Nd} {U : List Cfg}
def comp2 (a b : Auto) (cap : Int) (out : List Nd) : List PV := match out[(atL 0 (rkN a b cap out)).toNat]? with
 | some x => if atL 0 (rkN a b cap out) < 0 then [.lst 0 [],.bool false] else [.lst 0 (mvs3 x.path),.bool true]
 | none => []
theorem Spc.zero_iff (h : Spc a b cap s p out) {k : Nat} {x : Nd} (hx : out[k]? = some x) : (rkN a b cap out)[k]? = some 0 ↔ doneC a b cap x.c = true := by
 have hk := (List.getElem?_eq_some_iff.1 hx).1
 have hl := h.dist.len
 have hkr : k < (rkN a b cap out).length := by omega
 have := h.dist.zero (k : Int) (by omega) (by omega)
 rw [Int.toNat_natCast,dnN_mem hx] at this
 rw [← this,List.getElem?_eq_getElem hkr,Option.some_inj]
 have e : (rkN a b cap out).getD k (-1) = (rkN a b cap out)[k] := by simp [hkr]
 rw [e]
set_option maxHeartbeats 4000000 in
theorem r532 (h : SpcR a b cap s p out) (h0 : p s) (hn : nodL (mvC a b cap) 5000 5002 [nod0 s] 0 = some out) : res A PrA 532 [.agg [.int .i64 a.states,.int .i64 a.start,.lst 0 (a.edges.map Edge.c),.int .i64 b.states,.int .i64 b.start,.lst 0 (b.edges.map Edge.c),.int .i64 cap],.agg [.int .i64 s.a,.int .i64 s.b,.lst 0 (ints s.toA),.lst 0 (ints s.toB)]] = some (comp2 a b cap out) := by
 refine res_of a532 rfl rfl ?_
 simp only [F532]; try delta sS tT zZ nN gG bB pZ
 have hea := h.ea
 have heb := h.eb
 have hle := h.len
 have h537 := r537 h.sp h0 (by omega) (by omega) hn
 have hwl : (wRows (wOf out)).length = out.length := by simp [wRows,wOf]
 simp (disch := omega) only [go_sem,h537]
 refine W.upto out.length (fun k => ⟨[(2,.ptr 2 0),(6,.pv (.lst 0 (wRows (wOf out)))),(7,.pv (.int .i64 k))],⟨[(2,[.pv (.int .i64 a.states),.pv (.int .i64 a.start),.pv (.lst 0 (a.edges.map Edge.c)),.pv (.int .i64 b.states),.pv (.int .i64 b.start),.pv (.lst 0 (b.edges.map Edge.c)),.pv (.int .i64 cap)])],[],[]⟩⟩) (fun k => ∀ i x,i < k → out[i]? = some x → doneC a b cap x.c = false) rfl (fun i x hi => absurd hi (by omega)) fun k hk hi => ?_
 simp (disch := omega) only [go_sem,hwl]
 refine Br.ofP (fun c1 => ?_) (fun c1 => ?_)
 ·obtain ⟨x,hx⟩ := get_at (l := out) (k := k) (by omega)
  have hpx := h.all x (List.mem_of_getElem? hx)
  obtain ⟨_,_,_,_,k5,k6⟩ := h.sp.ok _ hpx
  have hwg : (wOf out)[k]? = some (.lst 0 (mvs3 x.path),x.c) := by unfold wOf; rw [List.getElem?_map,hx]; rfl
  have hwg := wRows_get hwg
  dsimp only at hwg
  have h160 := r160 0 0 a b cap 0 0 x.c.a x.c.b x.c.toA x.c.toB (by omega) (by omega) (by omega) (by omega)
  have hz := h.toSpc.zero_iff hx
  have hdd : doneB a b cap x.c.a x.c.b x.c.toA x.c.toB = doneC a b cap x.c := rfl
  rw [hdd] at h160
  simp (disch := omega) only [go_sem,hwg,h160]
  cases hd : doneC a b cap x.c with
  | true =>
   simp (disch := omega) only [go_sem,hwg]
   have hat : atL 0 (rkN a b cap out) = (k : Int) := by
    obtain ⟨j,hj,hjg⟩ := atL_get (List.mem_of_getElem? (hz.2 hd))
    have hjl : j < out.length := by rw [← rkN_len h.toSpc]; exact (List.getElem?_eq_some_iff.1 hjg).1
    obtain ⟨y,hy⟩ := get_at (l := out) (k := j) hjl
    have h1 : ¬ j < k := fun hjk => by
     have h1 := hi j y hjk hy
     rw [(h.toSpc.zero_iff hy).1 hjg] at h1
     cases h1
    have h2 : ¬ k < j := fun hkj => atL_before hj k hkj (hz.2 hd)
    rw [hj]
    omega
   unfold comp2
   rw [hat,Int.toNat_natCast,hx]
   simp only
   rw [if_neg (by omega)]
  | false =>
   simp (disch := omega) only [go_sem]
   exact .of (by omega) rfl fun i y hik hy => by
    rcases Nat.lt_or_ge i k with hh | hh
    ·exact hi i y hh hy
    ·have : i = k := by omega
     subst this
     rw [hx] at hy
     cases hy
     exact hd
 ·simp (disch := omega) only [go_sem]
  have hneg : atL 0 (rkN a b cap out) < 0 := by
   rw [atL_neg]
   intro hm
   obtain ⟨j,hj⟩ := List.getElem?_of_mem hm
   have hjl : j < out.length := by rw [← rkN_len h.toSpc]; exact (List.getElem?_eq_some_iff.1 hj).1
   obtain ⟨y,hy⟩ := get_at (l := out) (k := j) hjl
   have h1 := hi j y (by omega) hy
   rw [(h.toSpc.zero_iff hy).1 hj] at h1
   cases h1
  have hz : (atL 0 (rkN a b cap out)).toNat = 0 := by omega
  unfold comp2
  rw [hz,h.fnd.first]
  simp only
  rw [if_pos hneg]
theorem r241n (x y : Int) (l m : List Int) (ha : a.edges.length ≤ 1000000) (hb : b.edges.length ≤ 1000000) (hl : l.length ≤ 2000000000) (hm : m.length ≤ 2000000000) (hs : sysErr a b cap = 0) (hf : fitsB a b cap x y l m = false) : res A PrA 241 [.agg [.int .i64 a.states,.int .i64 a.start,.lst 0 (a.edges.map Edge.c),.int .i64 b.states,.int .i64 b.start,.lst 0 (b.edges.map Edge.c),.int .i64 cap],.agg [.int .i64 x,.int .i64 y,.lst 0 (ints l),.lst 0 (ints m)]] = some [.int .i64 0,.int .i64 1] := by
 refine res_of a241 rfl rfl ?_
 simp only [F241]; try delta sS tT zZ nN gG bB pZ
 have h248 := r248n x y l m ha hb hl hm hs hf
 simp (disch := omega) only [go_sem,h248]
theorem Spc.some_done (h : Spc a b cap s p out) : 0 ≤ (rkN a b cap out).getD 0 (-1) ↔ 0 ≤ atL 0 (rkN a b cap out) := by
 have h0 := h.fnd.first
 constructor
 ·intro hr
  obtain ⟨l,d,h1,h2,_⟩ := h.rank_run ((rkN a b cap out).getD 0 (-1)).toNat h0 (by omega)
  obtain ⟨k,y,g1,g2,_⟩ := h.fnd.least h1.stp
  exact atL_pos.2 (List.mem_of_getElem? ((h.zero_iff g1).2 (by rw [g2]; exact h2)))
 ·intro hr
  obtain ⟨j,hj,hjg⟩ := atL_get (atL_pos.1 hr)
  have hjl : j < out.length := by rw [← h.dist.len]; exact (List.getElem?_eq_some_iff.1 hjg).1
  obtain ⟨y,hy⟩ := get_at (l := out) (k := j) hjl
  exact (h.rank_le (h.run hy) ((h.zero_iff hy).1 hjg) h0 rfl).1
set_option maxRecDepth 10000 in
set_option maxHeartbeats 8000000 in
theorem r526 (r235 : res A PrA 235 [] = some [.bool true]) (d : PDr) (hd : d.ok) (c : Cfg) (hcl : c.toA.length ≤ 2 ^ 63 - 1 ∧ c.toB.length ≤ 2 ^ 63 - 1) : res A PrA 526 [.agg [.int .u8 d.n,.lst 0 (arcs d.la),.lst 0 (arcs d.l),.bool d.mirror,.int .u8 d.skip,.int .u8 d.cap],.agg [.int .i64 c.a,.int .i64 c.b,.lst 0 (ints c.toA),.lst 0 (ints c.toB)]] = some [.bool true] := by
 refine res_of a526 rfl rfl ?_
 simp only [F526]; try delta sS tT zZ nN gG bB pZ
 have h164 := r164 d hd
 obtain ⟨s1,s2,s3,s4,s5,s6,s7⟩ := PDr.sys hd
 have hla := ints_length c.toA
 have hlb := ints_length c.toB
 cases hf : d.fit with
 | false =>
  rw [hf,if_neg (by decide)] at h164
  simp (disch := omega) only [go_sem,h164,r235]
 | true =>
  rw [hf,if_pos rfl] at h164
  have q1 : 1 + d.n % 3 % 4 = d.A.states := rfl
  have q2 : 1 + d.n2 % 3 % 4 = d.B.states := rfl
  have q3 : 1 + d.cap % 2 = d.c2 := rfl
  have q4 : d.A.start = 0 := rfl
  have q5 : d.B.start = 0 := rfl
  have q6 : d.A.edges.map Edge.c = edgs d.A.edges := rfl
  have q7 : d.B.edges.map Edge.c = edgs d.B.edges := rfl
  rw [q1,q2,q3] at h164
  have hz0 : decide (((0 : Nat) : Int) = 0) = true := rfl
  by_cases hA : c.toA.length ≤ 4
  ·have hA' : decide (4 < (c.toA.length : Int)) = false := decide_eq_false (by omega)
   by_cases hB : c.toB.length ≤ 4
   ·have hB' : decide (4 < (c.toB.length : Int)) = false := decide_eq_false (by omega)
    have h158 := r158 0 0 d.A d.B d.c2 0 0 c.a c.b c.toA c.toB (by omega) (by omega) (by omega) (by omega)
    cases hft : fitsB d.A d.B d.c2 c.a c.b c.toA c.toB with
    | false =>
     rw [hft] at h158
     have h237 := r237n (a := d.A) (b := d.B) (cap := d.c2) c.a c.b c.toA c.toB (by omega) (by omega) (by omega) (by omega) s1 hft
     have h241 := r241n (a := d.A) (b := d.B) (cap := d.c2) c.a c.b c.toA c.toB (by omega) (by omega) (by omega) (by omega) s1 hft
     simp only [q4,q5,q6,q7] at h158 h237 h241
     simp (disch := omega) only [go_sem,h164,r235,hA',hB',h158,h237,h241,hz0]
    | true =>
     rw [hft] at h158
     obtain ⟨hF,hp⟩ := few_smX s1 s2 s3 s4 s5 hft
     obtain ⟨out,ho,hS,hlo⟩ := hF.space hp
     have hR : SpcR d.A d.B d.c2 c (smX d.A d.B d.c2 c) out := ⟨hS,hF.sp,hlo,by omega,by omega⟩
     have h237 := r237 hR hp s1 ho
     have h241 := r241 hR hp s1 (by omega) (by omega) ho
     have h532 := r532 hR hp ho
     have h531 := r531 d.A d.B d.c2 c.a c.b c.toA c.toB (by omega) (by omega) (by omega) (by omega)
     have hsd := hS.some_done
     unfold complR at h237
     unfold kindR at h241
     unfold comp2 at h532
     by_cases hi : atL 0 (rkN d.A d.B d.c2 out) < 0
     ·have hz : (atL 0 (rkN d.A d.B d.c2 out)).toNat = 0 := by omega
      rw [hz,hS.fnd.first] at h237 h532
      simp only at h237 h532
      rw [if_pos hi] at h237 h532
      rw [if_neg (by omega)] at h241
      generalize kindB d.A d.B c.a c.b c.toA c.toB (movesC d.A d.B d.c2 c.a c.b c.toA c.toB).length = kd at h241 h531
      simp only [q4,q5,q6,q7] at h158 h237 h241 h531 h532
      simp (disch := omega) only [go_sem,h164,r235,hA',hB',h158,h237,h241,h532,h531,hz0]
     ·obtain ⟨j,hj,hjg⟩ := atL_get (atL_pos.1 (Int.not_lt.1 hi))
      have hjl : j < out.length := by rw [← rkN_len hS]; exact (List.getElem?_eq_some_iff.1 hjg).1
      obtain ⟨x,hx⟩ := get_at (l := out) (k := j) hjl
      have hpl := hS.fnd.plen j j x (Nat.le_refl _) hx
      rw [hj,Int.toNat_natCast,hx] at h237 h532
      simp only at h237 h532
      rw [if_neg (by omega)] at h237 h532
      rw [if_pos (by omega)] at h241
      have h172 := fun t u => r172 t u x.path x.path (by omega) (by omega)
      rw [decide_eq_true rfl] at h172
      simp only [q4,q5,q6,q7] at h158 h237 h241 h532
      simp (disch := omega) only [go_sem,h164,r235,hA',hB',h158,h237,h241,h532,h172]
   ·have hB' : decide (4 < (c.toB.length : Int)) = true := decide_eq_true (by omega)
    simp (disch := omega) only [go_sem,h164,r235,hA',hB']
  ·have hA' : decide (4 < (c.toA.length : Int)) = true := decide_eq_true (by omega)
   simp (disch := omega) only [go_sem,h164,r235,hA']
end Go.Pv
namespace Go.Pv
theorem r235 : res A PrA 235 [] = some [.bool true] := res_some.2 ⟨3000,by kernel_rfl⟩
end Go.Pv
namespace Go.Pv
variable {P : Program}
theorem slice_dec {α : Type} {c : α → List PV} {ok : α → Prop} {n : Nat} {t el : TypeId} {cs : List PV} (hu : P.underlying t = some (.slice el)) (he : ∀ cs,typed P n el cs → ∃ x,cs = c x ∧ ok x) (h : typed P (n + 1) t cs) : ∃ l : List α,cs = [.lst 0 (l.map c)] ∧ l.length ≤ 2 ^ 63 - 1 ∧ ∀ x ∈ l,ok x := by
 obtain ⟨rows,rfl,hl,hr⟩ := typed_slice hu h
 obtain ⟨l,rfl⟩ := rows_map (c := fun x : {x : α // ok x} => c x.1) (rows := rows) (fun r hr' => by
  obtain ⟨x,rfl,hx⟩ := he r (hr r hr')
  exact ⟨⟨x,hx⟩,rfl⟩)
 refine ⟨l.map (·.1),by simp [],by simpa [maxLen] using hl,fun x hx => ?_⟩
 obtain ⟨y,_,rfl⟩ := List.mem_map.1 hx
 exact y.2
theorem u8_min : IntKind.min .u8 = 0 := by decide
theorem u8_max : IntKind.max .u8 = 255 := by decide
structure DraftT (P : Program) (td tl ta tu : TypeId) : Prop where
 d : ∃ fs,P.underlying td = some (.struct fs) ∧ fs.toList.map (·.type) = [tu,tl]
 l : P.underlying tl = some (.slice ta)
 a : ∃ fs,P.underlying ta = some (.struct fs) ∧ fs.toList.map (·.type) = [tu,tu,tu]
 u : P.underlying tu = some (.int .u8)
theorem arc_typed {td tl ta tu : TypeId} (T : DraftT P td tl ta tu) {n : Nat} (cs : List PV) (h : typed P (n + 2) ta cs) : ∃ x : Arc,cs = x.c ∧ x.ok := by
 obtain ⟨fs,hu,hts⟩ := T.a
 obtain ⟨r0,q0,rfl,h0,r1,q1,rfl,h1,r2,q2,rfl,h2,rfl⟩ := typed_struct hu hts h
 obtain ⟨x,rfl,hx⟩ := typed_int T.u h0
 obtain ⟨y,rfl,hy⟩ := typed_int T.u h1
 obtain ⟨z,rfl,hz⟩ := typed_int T.u h2
 rw [u8_min,u8_max] at hx hy hz
 exact ⟨⟨x,y,z⟩,rfl,hx,hy,hz⟩
theorem draft_typed {td tl ta tu : TypeId} (T : DraftT P td tl ta tu) {n : Nat} (cs : List PV) (h : typed P (n + 4) td cs) : ∃ d : Draft,cs = [.int .u8 d.n,.lst 0 (d.arcs.map Arc.c)] ∧ d.ok := by
 obtain ⟨fs,hu,hts⟩ := T.d
 obtain ⟨r0,q0,rfl,h0,r1,q1,rfl,h1,rfl⟩ := typed_struct hu hts h
 obtain ⟨x,rfl,hx⟩ := typed_int T.u h0
 rw [u8_min,u8_max] at hx
 obtain ⟨l,rfl,hl,hok⟩ := slice_dec T.l (arc_typed T (n := n)) h1
 exact ⟨⟨x,l⟩,rfl,hx,hl,hok⟩
end Go.Pv
namespace Go.Pv
variable {P : Program}
structure SysT (P : Program) (ts tc tl tm ta te le li ti tb : TypeId) : Prop where
 s : ∃ fs,P.underlying ts = some (.struct fs) ∧ fs.toList.map (·.type) = [ta,ta,ti]
 c : ∃ fs,P.underlying tc = some (.struct fs) ∧ fs.toList.map (·.type) = [ti,ti,li,li]
 l : P.underlying tl = some (.slice tm)
 m : ∃ fs,P.underlying tm = some (.struct fs) ∧ fs.toList.map (·.type) = [ti,tb,ti]
 a : ∃ fs,P.underlying ta = some (.struct fs) ∧ fs.toList.map (·.type) = [ti,ti,le]
 le : P.underlying le = some (.slice te)
 e : ∃ fs,P.underlying te = some (.struct fs) ∧ fs.toList.map (·.type) = [ti,tb,ti,ti]
 li : P.underlying li = some (.slice ti)
 i : P.underlying ti = some (.int .i64)
 b : P.underlying tb = some .bool
variable {ts tc tl tm ta te le li ti tb : TypeId}
theorem sedge_typed (T : SysT P ts tc tl tm ta te le li ti tb) {n : Nat} (cs : List PV) (h : typed P (n + 2) te cs) : ∃ x : Edge,cs = x.c ∧ True := by
 obtain ⟨fs,hu,hts⟩ := T.e
 obtain ⟨r0,q0,rfl,h0,r1,q1,rfl,h1,r2,q2,rfl,h2,r3,q3,rfl,h3,rfl⟩ := typed_struct hu hts h
 obtain ⟨x,rfl,_⟩ := typed_int T.i h0
 obtain ⟨y,rfl⟩ := typed_bool T.b h1
 obtain ⟨z,rfl,_⟩ := typed_int T.i h2
 obtain ⟨u,rfl,_⟩ := typed_int T.i h3
 exact ⟨⟨x,y,z,u⟩,rfl,trivial⟩
theorem mov_typed (T : SysT P ts tc tl tm ta te le li ti tb) {n : Nat} (cs : List PV) (h : typed P (n + 2) tm cs) : ∃ x : Mov,cs = x.c ∧ True := by
 obtain ⟨fs,hu,hts⟩ := T.m
 obtain ⟨r0,q0,rfl,h0,r1,q1,rfl,h1,r2,q2,rfl,h2,rfl⟩ := typed_struct hu hts h
 obtain ⟨x,rfl,_⟩ := typed_int T.i h0
 obtain ⟨y,rfl⟩ := typed_bool T.b h1
 obtain ⟨z,rfl,_⟩ := typed_int T.i h2
 exact ⟨⟨x,y,z⟩,rfl,trivial⟩
theorem aut_typed (T : SysT P ts tc tl tm ta te le li ti tb) {n : Nat} (cs : List PV) (h : typed P (n + 4) ta cs) : ∃ a : Auto,cs = [.int .i64 a.states,.int .i64 a.start,.lst 0 (a.edges.map Edge.c)] ∧ a.edges.length ≤ 2 ^ 63 - 1 := by
 obtain ⟨fs,hu,hts⟩ := T.a
 obtain ⟨r0,q0,rfl,h0,r1,q1,rfl,h1,r2,q2,rfl,h2,rfl⟩ := typed_struct hu hts h
 obtain ⟨x,rfl,_⟩ := typed_int T.i h0
 obtain ⟨y,rfl,_⟩ := typed_int T.i h1
 obtain ⟨l,rfl,hl,_⟩ := slice_dec T.le (sedge_typed T (n := n)) h2
 exact ⟨⟨x,y,l⟩,rfl,hl⟩
theorem ints_typed (T : SysT P ts tc tl tm ta te le li ti tb) {n : Nat} (cs : List PV) (h : typed P (n + 2) li cs) : ∃ l : List Int,cs = [.lst 0 (ints l)] ∧ l.length ≤ 2 ^ 63 - 1 := by
 obtain ⟨l,rfl,hl,_⟩ := slice_dec (c := fun x => [PV.int .i64 x]) (ok := fun _ => True) T.li (fun cs hc => by
  obtain ⟨x,rfl,_⟩ := typed_int (n := n) T.i hc
  exact ⟨x,rfl,trivial⟩) h
 exact ⟨l,rfl,hl⟩
def sysArg (T : SysT P ts tc tl tm ta te le li ti tb) : Arg P ts (Auto × Auto × Int) where
 pv x := .agg [.int .i64 x.1.states,.int .i64 x.1.start,.lst 0 (x.1.edges.map Edge.c),.int .i64 x.2.1.states,.int .i64 x.2.1.start,.lst 0 (x.2.1.edges.map Edge.c),.int .i64 x.2.2]
 ok x := x.1.edges.length ≤ 2 ^ 63 - 1 ∧ x.2.1.edges.length ≤ 2 ^ 63 - 1
 dec cs h := by
  obtain ⟨fs,hu,hts⟩ := T.s
  obtain ⟨r0,q0,rfl,h0,r1,q1,rfl,h1,r2,q2,rfl,h2,rfl⟩ := typed_struct (n := 11) hu hts h
  obtain ⟨a,rfl,ha⟩ := aut_typed T (n := 7) _ h0
  obtain ⟨b,rfl,hb⟩ := aut_typed T (n := 7) _ h1
  obtain ⟨c,rfl,_⟩ := typed_int (n := 10) T.i h2
  exact ⟨⟨a,b,c⟩,⟨ha,hb⟩,by simp only [argPV,isAgg_struct hu,if_true]; rfl⟩
def cfgArg (T : SysT P ts tc tl tm ta te le li ti tb) : Arg P tc Cfg where
 pv x := .agg [.int .i64 x.a,.int .i64 x.b,.lst 0 (ints x.toA),.lst 0 (ints x.toB)]
 ok x := x.toA.length ≤ 2 ^ 63 - 1 ∧ x.toB.length ≤ 2 ^ 63 - 1
 dec cs h := by
  obtain ⟨fs,hu,hts⟩ := T.c
  obtain ⟨r0,q0,rfl,h0,r1,q1,rfl,h1,r2,q2,rfl,h2,r3,q3,rfl,h3,rfl⟩ := typed_struct (n := 11) hu hts h
  obtain ⟨a,rfl,_⟩ := typed_int (n := 10) T.i h0
  obtain ⟨b,rfl,_⟩ := typed_int (n := 10) T.i h1
  obtain ⟨l,rfl,hl⟩ := ints_typed T (n := 9) _ h2
  obtain ⟨m,rfl,hm⟩ := ints_typed T (n := 9) _ h3
  exact ⟨⟨a,b,l,m⟩,⟨hl,hm⟩,by simp only [argPV,isAgg_struct hu,if_true]; rfl⟩
def movArg (T : SysT P ts tc tl tm ta te le li ti tb) : Arg P tm Mov where
 pv x := .agg [.int .i64 x.party,.bool x.send,.int .i64 x.label]
 ok _ := True
 dec cs h := by
  obtain ⟨x,rfl,_⟩ := mov_typed T (n := 10) _ h
  obtain ⟨fs,hu,_⟩ := T.m
  exact ⟨x,trivial,by simp only [argPV,isAgg_struct hu,if_true]; rfl⟩
def mvsArg (T : SysT P ts tc tl tm ta te le li ti tb) : Arg P tl (List Mov) where
 pv l := .lst 0 (l.map Mov.c)
 ok l := l.length ≤ 2 ^ 63 - 1
 dec cs h := by
  obtain ⟨l,rfl,hl,_⟩ := slice_dec T.l (mov_typed T (n := 9)) h
  have : isAggT P tl = some false := by simp [isAggT,T.l]
  exact ⟨l,hl,by simp [argPV,this]⟩
end Go.Pv
namespace Go.Pv
variable {P : Program}
structure PDrT (P : Program) (tp td tl ta tu tb : TypeId) : Prop where
 d : DraftT P td tl ta tu
 p : ∃ fs,P.underlying tp = some (.struct fs) ∧ fs.toList.map (·.type) = [td,tl,tb,tu,tu]
 b : P.underlying tb = some .bool
def pdrArg {tp td tl ta tu tb : TypeId} (T : PDrT P tp td tl ta tu tb) : Arg P tp PDr where
 pv d := .agg [.int .u8 d.n,.lst 0 (arcs d.la),.lst 0 (arcs d.l),.bool d.mirror,.int .u8 d.skip,.int .u8 d.cap]
 ok := PDr.ok
 dec cs h := by
  obtain ⟨fs,hu,hts⟩ := T.p
  obtain ⟨r0,q0,rfl,h0,r1,q1,rfl,h1,r2,q2,rfl,h2,r3,q3,rfl,h3,r4,q4,rfl,h4,rfl⟩ := typed_struct (n := 11) hu hts h
  obtain ⟨a,rfl,ha⟩ := draft_typed (n := 7) T.d _ h0
  obtain ⟨l,rfl,hl,hok⟩ := slice_dec T.d.l (arc_typed T.d (n := 8)) h1
  obtain ⟨m,rfl⟩ := typed_bool (n := 10) T.b h2
  obtain ⟨s,rfl,hs⟩ := typed_int (n := 10) T.d.u h3
  obtain ⟨c,rfl,hc⟩ := typed_int (n := 10) T.d.u h4
  rw [u8_min,u8_max] at hs hc
  exact ⟨⟨a.n,a.arcs,l,m,s,c⟩,⟨ha.1,hs,hc,ha.2.1,hl,ha.2.2,hok⟩,by simp only [argPV,isAgg_struct hu,if_true]; rfl⟩
end Go.Pv
