/-
 What the functions of the law give.
-/
import Derived.Test.YtcdmmccepnbnhaaGreatDoorC4
set_option linter.unusedSimpArgs false
set_option linter.unusedVariables false
namespace Go.Pv
@[go_sem] theorem takev_ro (n t : Nat) (cs : List PV) : takev n (.ro t cs) = (.pv (.ro t cs),[]) := rfl
@[go_sem] theorem takev_nilp (n : Nat) : takev n .nilp = (.pv .nilp,[]) := rfl
theorem spc_perm (a b : Auto) (cap : Int) (out : List Nd) : (spc a b cap out).all PV.perm = true := rfl
variable {a b : Auto} {cap : Int} {s : Cfg} {p : Cfg → Prop} {out : List Nd}
theorem r246 (hp : Sp30 a b cap p) (h0 : p (cfgStart a b)) (ha : a.edges.length ≤ 1000000) (hb : b.edges.length ≤ 1000000) (hs : sysErr a b cap = 0) (hn : nodL (mvC a b cap) 5000 5002 [nod0 (cfgStart a b)] 0 = some out) : res A PrA 246 [.agg [.int .i64 a.states,.int .i64 a.start,.lst 0 (a.edges.map Edge.c),.int .i64 b.states,.int .i64 b.start,.lst 0 (b.edges.map Edge.c),.int .i64 cap]] = some [.ro 0 (spc a b cap out),.int .i64 0] := by
 refine res_of a246 rfl rfl ?_
 simp only [F246]; try delta sS tT zZ nN gG bB pZ
 have h253 := r253 a b cap (cfgStart a b) hp h0 ha hb hs
 rw [hn] at h253
 simp only [cfgStart,ints_nil] at h253
 have hd : decide (sysErr a b cap = 0) = true := decide_eq_true hs
 simp (disch := omega) only [go_sem,hd,h253,spc_perm]
theorem r248 (hp : Sp30 a b cap p) (h0 : p s) (ha : a.edges.length ≤ 1000000) (hb : b.edges.length ≤ 1000000) (hs : sysErr a b cap = 0) (hn : nodL (mvC a b cap) 5000 5002 [nod0 s] 0 = some out) : res A PrA 248 [.agg [.int .i64 a.states,.int .i64 a.start,.lst 0 (a.edges.map Edge.c),.int .i64 b.states,.int .i64 b.start,.lst 0 (b.edges.map Edge.c),.int .i64 cap],.agg [.int .i64 s.a,.int .i64 s.b,.lst 0 (ints s.toA),.lst 0 (ints s.toB)]] = some [.ro 0 (spc a b cap out),.int .i64 0] := by
 refine res_of a248 rfl rfl ?_
 simp only [F248]; try delta sS tT zZ nN gG bB pZ
 have h253 := r253 a b cap s hp h0 ha hb hs
 rw [hn] at h253
 have hd : decide (sysErr a b cap = 0) = true := decide_eq_true hs
 have hf := hp.fit s h0
 have hok := hp.ok s h0
 have h1 := hok.2.2.2.2.1
 have h2 := hok.2.2.2.2.2
 have h157 := r157 0 0 a b cap 0 0 s.a s.b s.toA s.toB (by omega) (by omega) (by omega) (by omega)
 rw [hf] at h157
 simp (disch := omega) only [go_sem,hd,h253,h157,spc_perm]
structure SpcR (a b : Auto) (cap : Int) (s : Cfg) (p : Cfg → Prop) (out : List Nd) : Prop extends Spc a b cap s p out where
 sp : Sp30 a b cap p
 len : out.length ≤ 5000
 ea : a.edges.length ≤ 10000
 eb : b.edges.length ≤ 10000
theorem SpcR.rk (h : SpcR a b cap s p out) (t : Nat) : res A PrA 247 [.ro t [.int .i64 a.states,.int .i64 a.start,.lst 0 (a.edges.map Edge.c),.int .i64 b.states,.int .i64 b.start,.lst 0 (b.edges.map Edge.c),.int .i64 cap,.lst 0 (cfgs (out.map Nod.c)),.lst 0 (mvRows (out.map fun x => movesC a b cap x.c.a x.c.b x.c.toA x.c.toB)),.lst 0 (lls (out.map fun x => (sucC a b cap x.c).map (posZ out))),.lst 0 (ints (out.map Nod.bef)),.lst 0 (mvs3 (out.map Nd.mv))]] = some [.lst 0 (ints (rkN a b cap out))] := by
 have hea := h.ea
 have heb := h.eb
 have := r247 t a b cap (out.map Nod.c) (rowsN a b cap out) (.lst 0 (mvRows (out.map fun x => movesC a b cap x.c.a x.c.b x.c.toA x.c.toB))) (.lst 0 (ints (out.map Nod.bef))) (.lst 0 (mvs3 (out.map Nd.mv))) (by rw [rowsN_len,List.length_map]) (by rw [rowsN_len]; exact h.len) h.inR (fun l hl => by
  obtain ⟨x,_,rfl⟩ := List.mem_map.1 hl
  have h1 := mvsOf_len a b cap x.c.a x.c.b x.c.toA x.c.toB 0 x.c.a a.edges
  have h2 := mvsOf_len a b cap x.c.a x.c.b x.c.toA x.c.toB 1 x.c.b b.edges
  rw [List.length_map,sucC,List.length_map,movesC,List.length_append]
  omega) (fun c hc => by
  obtain ⟨x,hx,rfl⟩ := List.mem_map.1 hc
  have := h.sp.ok _ (h.all x hx)
  have h1 := this.2.2.2.2.1
  have h2 := this.2.2.2.2.2
  omega) (by omega) (by omega)
 rw [rowsN_len] at this
 exact this
theorem rkN_len (h : Spc a b cap s p out) : (rkN a b cap out).length = out.length := h.dist.len
theorem r242 (h : SpcR a b cap (cfgStart a b) p out) (h0 : p (cfgStart a b)) (hs : sysErr a b cap = 0) (hn : nodL (mvC a b cap) 5000 5002 [nod0 (cfgStart a b)] 0 = some out) : res A PrA 242 [.agg [.int .i64 a.states,.int .i64 a.start,.lst 0 (a.edges.map Edge.c),.int .i64 b.states,.int .i64 b.start,.lst 0 (b.edges.map Edge.c),.int .i64 cap]] = some [.bool (!decide ((-1 : Int) ∈ rkN a b cap out)),.int .i64 0] := by
 refine res_of a242 rfl rfl ?_
 simp only [F242]; try delta sS tT zZ nN gG bB pZ
 have hea := h.ea
 have heb := h.eb
 have h246 := r246 h.sp h0 (by omega) (by omega) hs hn
 have h247 := h.rk 0
 have hl := rkN_len h.toSpc
 have hle := h.len
 simp only [spc] at h246
 simp (disch := omega) only [go_sem,h246,h247]
def stuckR (a b : Auto) (cap : Int) (out : List Nd) : List PV := match out[(atL (-1) (rkN a b cap out)).toNat]? with
 | some x => if atL (-1) (rkN a b cap out) < 0 then [.lst 0 [],cfgP cfg0,.int .i64 0,.int .i64 15] else [.lst 0 (mvs3 x.path),cfgP x.c,.int .i64 (kindB a b x.c.a x.c.b x.c.toA x.c.toB (movesC a b cap x.c.a x.c.b x.c.toA x.c.toB).length),.int .i64 0]
 | none => []
theorem r240 (h : SpcR a b cap (cfgStart a b) p out) (h0 : p (cfgStart a b)) (hs : sysErr a b cap = 0) (hsa : a.states ≤ 12) (hsb : b.states ≤ 12) (hn : nodL (mvC a b cap) 5000 5002 [nod0 (cfgStart a b)] 0 = some out) : res A PrA 240 [.agg [.int .i64 a.states,.int .i64 a.start,.lst 0 (a.edges.map Edge.c),.int .i64 b.states,.int .i64 b.start,.lst 0 (b.edges.map Edge.c),.int .i64 cap]] = some (stuckR a b cap out) := by
 refine res_of a240 rfl rfl ?_
 simp only [F240]; try delta sS tT zZ nN gG bB pZ
 have hea := h.ea
 have heb := h.eb
 have h246 := r246 h.sp h0 (by omega) (by omega) hs hn
 have h247 := h.rk 0
 have hl := rkN_len h.toSpc
 have hle := h.len
 simp only [spc] at h246
 simp (disch := omega) only [go_sem,h246,h247]
 by_cases hi : atL (-1) (rkN a b cap out) < 0
 ·have hz : (atL (-1) (rkN a b cap out)).toNat = 0 := by omega
  have hR : stuckR a b cap out = [.lst 0 [],cfgP cfg0,.int .i64 0,.int .i64 15] := by
   unfold stuckR
   rw [hz,h.fnd.first]
   simp only
   rw [if_pos hi]
  rw [hR]
  refine Br.ofP (fun _ => ?_) (fun hh => (hh hi).elim)
  simp (disch := omega) only [go_sem]
  rfl
 ·obtain ⟨j,hj,hjg⟩ := atL_get (atL_pos.1 (Int.not_lt.1 hi))
  have hjl : j < out.length := by rw [← hl]; exact (List.getElem?_eq_some_iff.1 hjg).1
  obtain ⟨x,hx⟩ := get_at (l := out) (k := j) hjl
  have hR : stuckR a b cap out = [.lst 0 (mvs3 x.path),cfgP x.c,.int .i64 (kindB a b x.c.a x.c.b x.c.toA x.c.toB (movesC a b cap x.c.a x.c.b x.c.toA x.c.toB).length),.int .i64 0] := by
   unfold stuckR
   rw [hj,Int.toNat_natCast,hx]
   simp only
   rw [if_neg (by omega)]
  rw [hR]
  refine Br.ofP (fun hh => (hi hh).elim) (fun _ => ?_)
  have h249 := fun t => r249 t (.int .i64 a.states) (.int .i64 a.start) (.lst 0 (a.edges.map Edge.c)) (.int .i64 b.states) (.int .i64 b.start) (.lst 0 (b.edges.map Edge.c)) (.int .i64 cap) (.lst 0 (cfgs (out.map Nod.c))) (.lst 0 (mvRows (out.map fun x => movesC a b cap x.c.a x.c.b x.c.toA x.c.toB))) (.lst 0 (lls (out.map fun x => (sucC a b cap x.c).map (posZ out)))) (mvC a b cap) (cfgStart a b) out out.length h.fnd (by omega) j x hx
  have hcg : (cfgs (out.map Nod.c))[j]? = some [.int .i64 x.c.a,.int .i64 x.c.b,.lst 0 (ints x.c.toA),.lst 0 (ints x.c.toB)] := by rw [cfgs_get,List.getElem?_map,hx]; rfl
  have hmg : (mvRows (out.map fun x => movesC a b cap x.c.a x.c.b x.c.toA x.c.toB))[j]? = some [.lst 0 (mvs3 (movesC a b cap x.c.a x.c.b x.c.toA x.c.toB))] := by simp [mvRows,hx]
  have hmr : (mvRows (out.map fun x => movesC a b cap x.c.a x.c.b x.c.toA x.c.toB)).length = out.length := by simp [mvRows]
  have hcr : (out.map Nod.c).length = out.length := List.length_map _
  obtain ⟨_,f1,f2,_⟩ := fitsB_iff.1 (h.sp.fit _ (h.all x (List.mem_of_getElem? hx)))
  have h250 := r250 0 0 0 0 0 a b cap x.c.a x.c.b x.c.toA x.c.toB (mvs3 (movesC a b cap x.c.a x.c.b x.c.toA x.c.toB)) hsa hsb f1 f2 (by omega) (by omega)
  rw [mvs3_length] at h250
  rw [hj]
  simp (disch := omega) only [go_sem,h249,hcg,hmg,h250]
end Go.Pv
namespace Go.Pv
end Go.Pv
namespace Go.Pv
variable {a b : Auto} {cap : Int} {s : Cfg} {p : Cfg → Prop} {out : List Nd}
end Go.Pv
namespace Go.Pv
variable {a b : Auto} {cap : Int} {s : Cfg} {p : Cfg → Prop} {out : List Nd}
end Go.Pv
namespace Go.Pv
structure Few (a b : Auto) (cap : Int) (p : Cfg → Prop) (U : List Cfg) : Prop where
 sp : Sp30 a b cap p
 len : U.length ≤ 5000
 all : ∀ c,p c → c ∈ U
theorem bfsL_len {α : Type} [DecidableEq α] {succ : α → List α} {lim : Nat} : ∀ {n : Nat} {o o' : List α} {i : Nat},o.length ≤ lim → bfsL succ lim n o i = some o' → o'.length ≤ lim
 | 0,_,_,_,_,h => by cases h
 | n + 1,o,o',i,hl,h => by
  unfold bfsL at h
  split at h
  ·cases h
   exact hl
  ·split at h
   ·cases h
   ·rename_i o2 ha
    exact bfsL_len ((addUs_some ha).2.2.2 hl) h
open Classical in
theorem Few.space {a b : Auto} {cap : Int} {p : Cfg → Prop} {U : List Cfg} (h : Few a b cap p U) {c : Cfg} (hc : p c) : ∃ out,nodL (mvC a b cap) 5000 5002 [nod0 c] 0 = some out ∧ Spc a b cap c p out ∧ out.length ≤ 5000 := by
 have hU : ∀ c,p c → c ∈ U.filter fun c => decide (p c) := fun c hc => List.mem_filter.2 ⟨h.all c hc,by simpa using hc⟩
 have hlen : (U.filter fun c => decide (p c)).length ≤ 5000 := by
  have h1 := List.length_filter_le (fun c => decide (p c)) U
  have h2 := h.len
  omega
 have hs : sucOf (mvC a b cap) = sucC a b cap := funext fun c => mvC_suc a b cap c
 obtain ⟨o,ho⟩ := bfsL_total (succ := sucC a b cap) (s := c) (lim := 5000) (n := 5002) hlen (fun c hc x hx => hU x (h.sp.nx c (by simpa using (List.mem_filter.1 hc).2) x hx)) (bfs0 _ _) (fun x hx => by
  rw [List.mem_singleton.1 hx]
  exact hU _ hc) (Nat.zero_le _) (by omega)
 have hall := (bfsL_spec h.sp.nx (bfs0 (sucC a b cap) c) (fun x hx => by
  rw [List.mem_singleton.1 hx]
  exact hc) ho).2.1
 have hl := bfsL_len (by simp) ho
 rw [← hs] at ho
 obtain ⟨out,h1,h2⟩ := nodL_some ho
 refine ⟨out,h1,⟨nodL_end h1,fun x hx => hall _ ?_⟩,?_⟩
 ·rw [← h2]
  exact List.mem_map.2 ⟨x,hx,rfl⟩
 ·rw [← h2,List.length_map] at hl
  exact hl
end Go.Pv
namespace Go.Pv
def afterG (a b : Auto) (cap : Int) (c : Cfg) (mv : Mov) : Cfg × Bool := afterC a b cap c.a c.b c.toA c.toB mv
def stepTo (a b : Auto) (cap : Int) (c : Cfg) (l : List Mov) : Cfg := l.foldl (fun c mv => (afterG a b cap c mv).1) c
def runBad (a b : Auto) (cap : Int) (c : Cfg) (l : List Mov) (i : Nat) : Bool := !(afterG a b cap (stepTo a b cap c (l.take i)) (l.getD i default)).2
def runN (a b : Auto) (cap : Int) (c : Cfg) (l : List Mov) : Nat := ((List.range l.length).find? (runBad a b cap c l)).getD l.length
theorem stepTo_len (a b : Auto) (cap : Int) : ∀ (l : List Mov) (c : Cfg),(stepTo a b cap c l).toA.length ≤ c.toA.length + l.length ∧ (stepTo a b cap c l).toB.length ≤ c.toB.length + l.length
 | [],c => ⟨Nat.le_refl _,Nat.le_refl _⟩
 | mv :: l,c => by
  have h := after_len a b cap c.a c.b c.toA c.toB mv
  obtain ⟨g1,g2⟩ := stepTo_len a b cap l (afterC a b cap c.a c.b c.toA c.toB mv).1
  have e : stepTo a b cap c (mv :: l) = stepTo a b cap (afterC a b cap c.a c.b c.toA c.toB mv).1 l := rfl
  rw [e,List.length_cons]
  omega
theorem stepTo_succ {a b : Auto} {cap : Int} {c : Cfg} {l : List Mov} {k : Nat} {mv : Mov} (h : l[k]? = some mv) : stepTo a b cap c (l.take (k + 1)) = (afterG a b cap (stepTo a b cap c (l.take k)) mv).1 := by
 unfold stepTo
 rw [List.take_add_one,h,List.foldl_append]
 rfl
set_option maxHeartbeats 4000000 in
theorem r161 (t : Nat) (a b : Auto) (cap : Int) (l : List Mov) (ha : a.edges.length ≤ 2 ^ 63 - 1) (hb : b.edges.length ≤ 2 ^ 63 - 1) (hl : l.length ≤ 1000000) : res A PrA 161 [.agg [.int .i64 a.states,.int .i64 a.start,.lst 0 (a.edges.map Edge.c),.int .i64 b.states,.int .i64 b.start,.lst 0 (b.edges.map Edge.c),.int .i64 cap],.lst t (mvs3 l)] = some (if sysErr a b cap = 0 then [cfgP (stepTo a b cap ⟨a.start,b.start,[],[]⟩ (l.take (runN a b cap ⟨a.start,b.start,[],[]⟩ l))),.int .i64 (runN a b cap ⟨a.start,b.start,[],[]⟩ l : Nat),.int .i64 0] else [cfgP cfg0,.int .i64 0,.int .i64 (sysErr a b cap)]) := by
 refine res_of a161 rfl rfl ?_
 simp only [F161]; try delta sS tT zZ nN gG bB pZ
 by_cases h1 : sysErr a b cap = 0
 rotate_left
 ·have d1 : decide (sysErr a b cap = 0) = false := by simp [h1]
  rw [if_neg h1]
  simp (disch := omega) only [go_sem,d1]
  rfl
 have d1 : decide (sysErr a b cap = 0) = true := by simp [h1]
 rw [if_pos h1]
 generalize hc0 : (⟨a.start,b.start,[],[]⟩ : Cfg) = c0
 have hca : c0.toA.length = 0 ∧ c0.toB.length = 0 := by subst hc0; exact ⟨rfl,rfl⟩
 simp (disch := omega) only [go_sem,d1]
 have hs0 : stepTo a b cap c0 (l.take 0) = c0 := rfl
 refine W.find (List.range l.length) (runBad a b cap c0 l) (fun k => ⟨[(1,.pv (.lst t (mvs3 l))),(2,.ptr 2 0),(4,.ptr 4 0),(8,.ptr 8 0),(21,.pv (.lst t (mvs3 l))),(22,.pv (.int .i64 l.length)),(23,.pv (.int .i64 k))],⟨[(2,[.pv (.int .i64 a.states),.pv (.int .i64 a.start),.pv (.lst 0 (a.edges.map Edge.c)),.pv (.int .i64 b.states),.pv (.int .i64 b.start),.pv (.lst 0 (b.edges.map Edge.c)),.pv (.int .i64 cap)]),(4,[.pv (.int .i64 0),.pv (.int .i64 0),.tl [],.tl []]),(8,[.pv (.int .i64 (stepTo a b cap c0 (l.take k)).a),.pv (.int .i64 (stepTo a b cap c0 (l.take k)).b),.pv (.lst 0 (ints (stepTo a b cap c0 (l.take k)).toA)),.pv (.lst 0 (ints (stepTo a b cap c0 (l.take k)).toB))])],[],[]⟩⟩) ?_ (fun k y hy hk hfd => ?_) (fun hn => ?_)
 ·rw [hs0,← hc0]
  rfl
 ·rw [List.length_range] at hk
  rw [List.getElem?_range hk] at hy
  cases hy
  obtain ⟨mv,hmv⟩ := get_at (l := l) (k := k) hk
  have hlen := stepTo_len a b cap (l.take k) c0
  have htl : (l.take k).length ≤ k := by rw [List.length_take]; omega
  have hss := stepTo_succ (a := a) (b := b) (cap := cap) (c := c0) hmv
  have hbad : runBad a b cap c0 l k = !(afterG a b cap (stepTo a b cap c0 (l.take k)) mv).2 := by
   unfold runBad
   rw [List.getD_eq_getElem?_getD,hmv]
   rfl
  have hrn : runBad a b cap c0 l k = true → runN a b cap c0 l = k := fun h => by
   unfold runN
   rw [(hfd h).find]
   rfl
  rw [hbad] at hrn hfd
  generalize hcc : stepTo a b cap c0 (l.take k) = c at *
  have h182 := r182 a b cap c.a c.b c.toA c.toB mv ha hb (by omega) (by omega)
  have hG : afterC a b cap c.a c.b c.toA c.toB mv = afterG a b cap c mv := rfl
  rw [hG] at h182
  generalize afterG a b cap c mv = r at *
  obtain ⟨c',ok⟩ := r
  dsimp only at h182 hss hrn hfd
  simp (disch := omega) only [go_sem]
  refine Br.ofP (fun h => ?_) (fun h => (h (by omega)).elim)
  simp (disch := omega) only [go_sem,hmv,h182]
  cases ok with
  | true =>
   simp (disch := omega) only [go_sem]
   refine findK.of (by rw [hbad]; rfl) ?_
   rw [hss]
   rfl
  | false =>
   simp (disch := omega) only [go_sem]
   rw [hrn rfl,hcc]
 ·have hrn : runN a b cap c0 l = l.length := by
   unfold runN
   rw [hn.find]
   rfl
  rw [hrn,List.length_range]
  simp (disch := omega) only [go_sem]
end Go.Pv
namespace Go.Pv
variable {a b : Auto} {cap : Int}
theorem mvC_after {c d : Cfg} {m : Mov} (h : (m,d) ∈ mvC a b cap c) : m ∈ movesC a b cap c.a c.b c.toA c.toB ∧ (afterG a b cap c m).1 = d ∧ (afterG a b cap c m).2 = true := by
 obtain ⟨m',hm,e⟩ := List.mem_map.1 h
 injection e with e1 e2
 subst e1
 exact ⟨hm,e2,(movesC_mem hm).1⟩
theorem run_spec {c e : Cfg} {l : List Mov} (h : Run (mvC a b cap) c l e) : stepTo a b cap c l = e ∧ ∀ i,i < l.length → runBad a b cap c l i = false := by
 induction h with
 | nil => exact ⟨rfl,fun i hi => by simp at hi⟩
 | @cons c d e l m hm _ ih =>
  obtain ⟨_,h1,h2⟩ := mvC_after hm
  refine ⟨?_,fun i hi => ?_⟩
  ·show stepTo a b cap (afterG a b cap c m).1 l = e
   rw [h1]
   exact ih.1
  ·cases i with
   | zero =>
    unfold runBad
    show (!(afterG a b cap c m).2) = false
    rw [h2]
    rfl
   | succ i =>
    have := ih.2 i (by simpa using hi)
    unfold runBad at this ⊢
    have e1 : stepTo a b cap c ((m :: l).take (i + 1)) = stepTo a b cap d (l.take i) := by
     show stepTo a b cap (afterG a b cap c m).1 (l.take i) = _
     rw [h1]
    rw [e1]
    exact this
theorem run_runN {c e : Cfg} {l : List Mov} (h : Run (mvC a b cap) c l e) : runN a b cap c l = l.length := by
 unfold runN
 have : (List.range l.length).find? (runBad a b cap c l) = none := by
  rw [List.find?_eq_none]
  intro i hi
  rw [List.mem_range] at hi
  rw [(run_spec h).2 i hi]
  decide
 rw [this]
 rfl
variable {s : Cfg} {p : Cfg → Prop} {out : List Nd}
theorem Spc.run (h : Spc a b cap s p out) {j : Nat} {x : Nd} (hx : out[j]? = some x) : Run (mvC a b cap) s x.path x.c := (h.fnd.stp j j x (Nat.le_refl _) hx).run
end Go.Pv
namespace Go.Pv
def smallA (m : Int) (x : Arc) : Arc := ⟨x.fr % m,x.act % 4,x.to % m⟩
def smallL (m : Int) (l : List Arc) (k : Nat) : List Arc := (l.take k).map (smallA m)
def smallD (n : Int) (l : List Arc) : Draft := ⟨n % 3,smallL (n % 3 + 1) l 12⟩
def arcs (l : List Arc) : List (List PV) := l.map Arc.c
@[go_sem] theorem arcs_get (l : List Arc) (i : Nat) : (arcs l)[i]? = l[i]?.map fun x => [.int .u8 x.fr,.int .u8 x.act,.int .u8 x.to] := by simp [arcs]; rfl
structure PDr where
 n : Int
 la : List Arc
 l : List Arc
 mirror : Bool
 skip : Int
 cap : Int
def PDr.ok (d : PDr) : Prop := (0 ≤ d.n ∧ d.n ≤ 255) ∧ (0 ≤ d.skip ∧ d.skip ≤ 255) ∧ (0 ≤ d.cap ∧ d.cap ≤ 255) ∧ d.la.length ≤ 2 ^ 63 - 1 ∧ d.l.length ≤ 2 ^ 63 - 1 ∧ (∀ x ∈ d.la,x.ok) ∧ ∀ x ∈ d.l,x.ok
def PDr.sh (d : PDr) (k : Nat) : Int := d.skip.fdiv (2 ^ (min ((k : Int) % 8).toNat IntKind.u8.bits))
def PDr.bit (d : PDr) (k : Nat) : Int := IntKind.u8.wrap (BitVec.ofInt IntKind.u8.bits (d.sh k) &&& BitVec.ofInt IntKind.u8.bits 1).toNat
def PDr.out (d : PDr) (k : Nat) : Bool := decide (d.bit k = 0)
def PDr.fit (d : PDr) : Bool := decide (d.la.length ≤ 12) && decide (d.l.length ≤ 12)
theorem raw_from {st : Int} : ∀ (l : List Arc) (es : List Edge) (e : Edge),e ∈ l.foldl (fun es x => addE es (x.edge st)) es → e ∈ es ∨ ∃ x ∈ l,e = x.edge st
 | [],_,_,h => .inl h
 | x :: l,es,e,h => by
  rcases raw_from l (addE es (x.edge st)) e h with h | ⟨y,hy,rfl⟩
  ·rcases addE_mem h with h | rfl
   ·exact .inl h
   ·exact .inr ⟨x,List.mem_cons_self ..,rfl⟩
  ·exact .inr ⟨y,List.mem_cons_of_mem _ hy,rfl⟩
def mirA (e : Edge) : Arc := ⟨e.fr,if e.send = true then 2 * (e.label - 1) else 2 * (e.label - 1) + 1,e.to⟩
def mirL (out : Nat → Bool) (es : List Edge) : Nat → List Arc
 | 0 => []
 | k + 1 => match es[k]? with
  | none => mirL out es k
  | some e => if out k = true then mirL out es k ++ [mirA e] else mirL out es k
def PDr.mir (d : PDr) : List Arc := mirL d.out (smallD d.n d.la).auto.edges (smallD d.n d.la).auto.edges.length
def PDr.n2 (d : PDr) : Int := if d.mirror = true then d.n else IntKind.u8.wrap (d.n + d.skip)
def PDr.l2 (d : PDr) : List Arc := (if d.mirror = true then d.mir else []) ++ d.l
def PDr.A (d : PDr) : Auto := (smallD d.n d.la).auto
def PDr.B (d : PDr) : Auto := (smallD d.n2 d.l2).auto
end Go.Pv
namespace Go.Pv
def PDr.c2 (d : PDr) : Int := 1 + d.cap % 2
end Go.Pv
namespace Go.Pv
variable {a b : Auto} {cap : Int} {s : Cfg} {p : Cfg → Prop} {out : List Nd}
def complR (a b : Auto) (cap : Int) (out : List Nd) : List PV := match out[(atL 0 (rkN a b cap out)).toNat]? with
 | some x => if atL 0 (rkN a b cap out) < 0 then [.lst 0 [],.int .i64 18] else [.lst 0 (mvs3 x.path),.int .i64 0]
 | none => []
theorem r237 (h : SpcR a b cap s p out) (h0 : p s) (hs : sysErr a b cap = 0) (hn : nodL (mvC a b cap) 5000 5002 [nod0 s] 0 = some out) : res A PrA 237 [.agg [.int .i64 a.states,.int .i64 a.start,.lst 0 (a.edges.map Edge.c),.int .i64 b.states,.int .i64 b.start,.lst 0 (b.edges.map Edge.c),.int .i64 cap],.agg [.int .i64 s.a,.int .i64 s.b,.lst 0 (ints s.toA),.lst 0 (ints s.toB)]] = some (complR a b cap out) := by
 refine res_of a237 rfl rfl ?_
 simp only [F237]; try delta sS tT zZ nN gG bB pZ
 have hea := h.ea
 have heb := h.eb
 have h248 := r248 h.sp h0 (by omega) (by omega) hs hn
 have h247 := h.rk 0
 have hl := rkN_len h.toSpc
 have hle := h.len
 simp only [spc] at h248
 simp (disch := omega) only [go_sem,h248,h247]
 by_cases hi : atL 0 (rkN a b cap out) < 0
 ·have hz : (atL 0 (rkN a b cap out)).toNat = 0 := by omega
  have hR : complR a b cap out = [.lst 0 [],.int .i64 18] := by
   unfold complR
   rw [hz,h.fnd.first]
   simp only
   rw [if_pos hi]
  rw [hR]
  refine Br.ofP (fun _ => ?_) (fun hh => (hh hi).elim)
  simp (disch := omega) only [go_sem]
 ·obtain ⟨j,hj,hjg⟩ := atL_get (atL_pos.1 (Int.not_lt.1 hi))
  have hjl : j < out.length := by rw [← hl]; exact (List.getElem?_eq_some_iff.1 hjg).1
  obtain ⟨x,hx⟩ := get_at (l := out) (k := j) hjl
  have hR : complR a b cap out = [.lst 0 (mvs3 x.path),.int .i64 0] := by
   unfold complR
   rw [hj,Int.toNat_natCast,hx]
   simp only
   rw [if_neg (by omega)]
  rw [hR]
  refine Br.ofP (fun hh => (hi hh).elim) (fun _ => ?_)
  have h249 := fun t => r249 t (.int .i64 a.states) (.int .i64 a.start) (.lst 0 (a.edges.map Edge.c)) (.int .i64 b.states) (.int .i64 b.start) (.lst 0 (b.edges.map Edge.c)) (.int .i64 cap) (.lst 0 (cfgs (out.map Nod.c))) (.lst 0 (mvRows (out.map fun x => movesC a b cap x.c.a x.c.b x.c.toA x.c.toB))) (.lst 0 (lls (out.map fun x => (sucC a b cap x.c).map (posZ out)))) (mvC a b cap) s out out.length h.fnd (by omega) j x hx
  rw [hj]
  simp (disch := omega) only [go_sem,h249]
def kindR (a b : Auto) (cap : Int) (s : Cfg) (out : List Nd) : List PV := if 0 ≤ (rkN a b cap out).getD 0 (-1) then [.int .i64 0,.int .i64 15] else [.int .i64 (kindB a b s.a s.b s.toA s.toB (movesC a b cap s.a s.b s.toA s.toB).length),.int .i64 0]
theorem r241 (h : SpcR a b cap s p out) (h0 : p s) (hs : sysErr a b cap = 0) (hsa : a.states ≤ 12) (hsb : b.states ≤ 12) (hn : nodL (mvC a b cap) 5000 5002 [nod0 s] 0 = some out) : res A PrA 241 [.agg [.int .i64 a.states,.int .i64 a.start,.lst 0 (a.edges.map Edge.c),.int .i64 b.states,.int .i64 b.start,.lst 0 (b.edges.map Edge.c),.int .i64 cap],.agg [.int .i64 s.a,.int .i64 s.b,.lst 0 (ints s.toA),.lst 0 (ints s.toB)]] = some (kindR a b cap s out) := by
 refine res_of a241 rfl rfl ?_
 simp only [F241]; try delta sS tT zZ nN gG bB pZ
 have hea := h.ea
 have heb := h.eb
 have h248 := r248 h.sp h0 (by omega) (by omega) hs hn
 have h247 := h.rk 0
 have hl := rkN_len h.toSpc
 have hle := h.len
 have h1 : 1 ≤ out.length := by have := (List.getElem?_eq_some_iff.1 h.fnd.first).1; omega
 have hg0 : (rkN a b cap out)[0]? = some ((rkN a b cap out).getD 0 (-1)) := by
  have : 0 < (rkN a b cap out).length := by omega
  simp [this]
 simp only [spc] at h248
 obtain ⟨_,f1,f2,_⟩ := fitsB_iff.1 (h.sp.fit _ h0)
 have h250 := r250 0 0 0 0 0 a b cap s.a s.b s.toA s.toB (mvs3 (movesC a b cap s.a s.b s.toA s.toB)) hsa hsb f1 f2 (by omega) (by omega)
 rw [mvs3_length] at h250
 have hmg : (mvRows (out.map fun x => movesC a b cap x.c.a x.c.b x.c.toA x.c.toB))[0]? = some [.lst 0 (mvs3 (movesC a b cap s.a s.b s.toA s.toB))] := by simp [mvRows,h.fnd.first,nod0]
 have hmr : (mvRows (out.map fun x => movesC a b cap x.c.a x.c.b x.c.toA x.c.toB)).length = out.length := by simp [mvRows]
 simp (disch := omega) only [go_sem,h248,h247,idxR_int,hg0]
 unfold kindR
 refine Br.ofP (fun hh => ?_) (fun hh => ?_)
 ·rw [if_pos hh]
  simp (disch := omega) only [go_sem]
 ·rw [if_neg hh]
  have hix : idxR 1 0 (mvRows (out.map fun x => movesC a b cap x.c.a x.c.b x.c.toA x.c.toB)) (some 0) = some (.pv (.ro 0 [.lst 0 (mvs3 (movesC a b cap s.a s.b s.toA s.toB))])) := by
   unfold idxR inRange
   simp only
   rw [if_pos ⟨by omega,by rw [hmr]; omega⟩]
   simp only [Int.toNat_zero,hmg]
   rfl
  simp (disch := omega) only [go_sem,hix,h250]
end Go.Pv
namespace Go.Pv
variable {a b : Auto} {cap : Int} {s : Cfg} {p : Cfg → Prop} {out : List Nd}
theorem run_res (t : Nat) {l : List Mov} {e : Cfg} (h : Run (mvC a b cap) (cfgStart a b) l e) (ha : a.edges.length ≤ 2 ^ 63 - 1) (hb : b.edges.length ≤ 2 ^ 63 - 1) (hl : l.length ≤ 1000000) (hs : sysErr a b cap = 0) : res A PrA 161 [.agg [.int .i64 a.states,.int .i64 a.start,.lst 0 (a.edges.map Edge.c),.int .i64 b.states,.int .i64 b.start,.lst 0 (b.edges.map Edge.c),.int .i64 cap],.lst t (mvs3 l)] = some [cfgP e,.int .i64 l.length,.int .i64 0] := by
 have h1 := r161 t a b cap l ha hb hl
 rw [if_pos hs] at h1
 have h2 : runN a b cap ⟨a.start,b.start,[],[]⟩ l = l.length := run_runN h
 have h3 : stepTo a b cap ⟨a.start,b.start,[],[]⟩ l = e := (run_spec h).1
 rw [h2,List.take_length,h3] at h1
 exact h1
theorem Fnd.plen {mv : Cfg → List (Mov × Cfg)} {i0 : Nat} (hf : Fnd mv s out i0) : ∀ (n j : Nat) (x : Nd),j ≤ n → out[j]? = some x → x.path.length ≤ j
 | n,j,x,hj,hx => by
  rcases Nat.eq_zero_or_pos j with h0 | h0
  ·subst h0
   rw [hf.first] at hx
   cases hx
   simp [nod0]
  ·obtain ⟨k,y,m,h1,_,h3,_,h5⟩ := hf.way j x hx h0
   match n with
   | 0 => omega
   | n + 1 =>
    have := Fnd.plen hf n k y (by omega) h3
    rw [h5]
    simp
    omega
theorem Spc.compl_none (h : Spc a b cap s p out) {j : Nat} {x : Nd} (hx : out[j]? = some x) (hr : (rkN a b cap out).getD j (-1) < 0) {p' : Cfg → Prop} {out' : List Nd} (h' : Spc a b cap x.c p' out') : complR a b cap out' = [.lst 0 [],.int .i64 18] := by
 have hn : atL 0 (rkN a b cap out') < 0 := by
  rw [atL_neg]
  intro hm
  obtain ⟨k,hk⟩ := List.getElem?_of_mem hm
  have hkl : k < out'.length := by rw [← h'.dist.len]; exact (List.getElem?_eq_some_iff.1 hk).1
  obtain ⟨y,hy⟩ := get_at (l := out') (k := k) hkl
  have hz : (rkN a b cap out').getD k (-1) = 0 := by rw [List.getD_eq_getElem?_getD,hk]; rfl
  have hd := (dnN_mem hy).1 ((h'.dist.zero (k : Int) (by omega) (by omega)).1 (by rw [Int.toNat_natCast]; exact hz))
  have := h.rank_le (h'.run hy) hd hx rfl
  omega
 have hz : (atL 0 (rkN a b cap out')).toNat = 0 := by omega
 unfold complR
 rw [hz,h'.fnd.first]
 simp only
 rw [if_pos hn]
end Go.Pv
namespace Go.Pv
variable {a b : Auto} {cap : Int} {s : Cfg} {p : Cfg → Prop} {out : List Nd} {U : List Cfg}
end Go.Pv
namespace Go.Pv
def ckR (L : List (Cfg × Int)) : List (List PV) := L.map fun w => [.int .i64 w.1.a,.int .i64 w.1.b,.lst 0 (ints w.1.toA),.lst 0 (ints w.1.toB),.int .i64 w.2]
@[go_sem] theorem ckR_len (L : List (Cfg × Int)) : (ckR L).length = L.length := List.length_map _
@[go_sem] theorem ckR_get (L : List (Cfg × Int)) (k : Nat) : (ckR L)[k]? = L[k]?.map fun w => [.int .i64 w.1.a,.int .i64 w.1.b,.lst 0 (ints w.1.toA),.lst 0 (ints w.1.toB),.int .i64 w.2] := List.getElem?_map
variable {a b : Auto} {cap : Int} {s : Cfg} {p : Cfg → Prop} {out : List Nd} {U : List Cfg}
def certN (a b : Auto) (cap : Int) (out : List Nd) : List (Cfg × Int) := (List.range out.length).map fun k => (((out.map Nod.c)[k]?).getD cfg0,(rkN a b cap out).getD k (-1))
theorem certN_len : (certN a b cap out).length = out.length := by simp [certN]
theorem certN_get {k : Nat} {x : Nd} (hx : out[k]? = some x) : (certN a b cap out)[k]? = some (x.c,(rkN a b cap out).getD k (-1)) := by
 have hk := (List.getElem?_eq_some_iff.1 hx).1
 unfold certN
 rw [List.getElem?_map,List.getElem?_range hk,Option.map_some,List.getElem?_map,hx]
 rfl
theorem certN_take {k : Nat} {x : Nd} (hx : out[k]? = some x) : ckR ((certN a b cap out).take (k + 1)) = ckR ((certN a b cap out).take k) ++ [[.int .i64 x.c.a,.int .i64 x.c.b,.lst 0 (ints x.c.toA),.lst 0 (ints x.c.toB),.int .i64 ((rkN a b cap out).getD k (-1))]] := by
 rw [List.take_add_one,certN_get hx]
 simp [ckR]
theorem rk_in (hl : (rkN a b cap out).length = out.length) (hall : ∀ i,i < out.length → 0 ≤ (rkN a b cap out).getD i (-1)) : decide ((-1 : Int) ∈ rkN a b cap out) = false := by
 refine decide_eq_false fun hm => ?_
 obtain ⟨j,hj⟩ := List.getElem?_of_mem hm
 have hjl := (List.getElem?_eq_some_iff.1 hj).1
 have h1 := hall j (by omega)
 rw [List.getD_eq_getElem?_getD,hj] at h1
 exact absurd h1 (by decide)
theorem rk_out (h : Spc a b cap s p out) {k : Nat} (hk : k < out.length) (hneg : (rkN a b cap out).getD k (-1) < 0) : decide ((-1 : Int) ∈ rkN a b cap out) = true := by
 have hl := h.dist.len
 have hkl : k < (rkN a b cap out).length := by omega
 have hlo := h.dist.low k hk
 have e : (rkN a b cap out).getD k (-1) = (rkN a b cap out)[k] := by simp [hkl]
 have : (rkN a b cap out)[k] = -1 := by omega
 exact decide_eq_true (this ▸ List.getElem_mem hkl)
def proveR (a b : Auto) (cap : Int) (out : List Nd) (x y : PV) : List PV := if decide ((-1 : Int) ∈ rkN a b cap out) = true then [.lst 0 [],x] else [.lst 0 (ckR (certN a b cap out)),y]
set_option maxHeartbeats 4000000 in
theorem r236 (h : SpcR a b cap (cfgStart a b) p out) (h0 : p (cfgStart a b)) (hs : sysErr a b cap = 0) (hn : nodL (mvC a b cap) 5000 5002 [nod0 (cfgStart a b)] 0 = some out) : res A PrA 236 [.agg [.int .i64 a.states,.int .i64 a.start,.lst 0 (a.edges.map Edge.c),.int .i64 b.states,.int .i64 b.start,.lst 0 (b.edges.map Edge.c),.int .i64 cap]] = some (proveR a b cap out (.int .i64 18) (.int .i64 0)) := by
 refine res_of a236 rfl rfl ?_
 simp only [F236]; try delta sS tT zZ nN gG bB pZ
 have hea := h.ea
 have heb := h.eb
 have h246 := r246 h.sp h0 (by omega) (by omega) hs hn
 have h247 := h.rk 0
 have hl := rkN_len h.toSpc
 have hle := h.len
 simp only [spc] at h246
 simp (disch := omega) only [go_sem,h246,h247,hl]
 refine W.upto out.length (fun k => ⟨[(4,.pv (.ro 0 [.int .i64 a.states,.int .i64 a.start,.lst 0 (a.edges.map Edge.c),.int .i64 b.states,.int .i64 b.start,.lst 0 (b.edges.map Edge.c),.int .i64 cap,.lst 0 (cfgs (out.map Nod.c)),.lst 0 (mvRows (out.map fun x => movesC a b cap x.c.a x.c.b x.c.toA x.c.toB)),.lst 0 (lls (out.map fun x => (sucC a b cap x.c).map (posZ out))),.lst 0 (ints (out.map Nod.bef)),.lst 0 (mvs3 (out.map Nd.mv))])),(6,grV 0 (ckR ((certN a b cap out).take k))),(18,.pv (.lst 0 (ints (rkN a b cap out)))),(19,.pv (.int .i64 out.length)),(20,.pv (.int .i64 k))],⟨[],grA 5 (ckR ((certN a b cap out).take k)),[]⟩⟩) (fun k => ∀ i,i < k → 0 ≤ (rkN a b cap out).getD i (-1)) rfl (fun i hi => absurd hi (by omega)) fun k hk hi => ?_
 simp (disch := omega) only [go_sem]
 have hcl : (certN a b cap out).length = out.length := certN_len
 refine Br.ofP (fun c1 => ?_) (fun c1 => ?_)
 ·obtain ⟨x,hx⟩ := get_at (l := out) (k := k) (by omega)
  have hgk : (rkN a b cap out)[k]? = some ((rkN a b cap out).getD k (-1)) := by
   have : k < (rkN a b cap out).length := by omega
   simp [this]
  have htk := certN_take (a := a) (b := b) (cap := cap) hx
  have hcg : (cfgs (out.map Nod.c))[k]? = some [.int .i64 x.c.a,.int .i64 x.c.b,.lst 0 (ints x.c.toA),.lst 0 (ints x.c.toB)] := by rw [cfgs_get,List.getElem?_map,hx]; rfl
  have hcr : (out.map Nod.c).length = out.length := List.length_map _
  have htl : ((certN a b cap out).take k).length ≤ 5000 := by rw [List.length_take]; omega
  have hgr := grow0 [] [] 5 (ckR ((certN a b cap out).take k)) [.int .i64 x.c.a,.int .i64 x.c.b,.lst 0 (ints x.c.toA),.lst 0 (ints x.c.toB),.int .i64 ((rkN a b cap out).getD k (-1))] rfl (by rw [ckR_len]; omega)
  simp (disch := omega) only [go_sem,hgk]
  refine Br.ofP (fun c2 => ?_) (fun c2 => ?_)
  ·simp (disch := omega) only [go_sem]
   unfold proveR
   rw [rk_out h.toSpc (k := k) (by omega) (by omega),if_pos rfl]
  ·simp (disch := omega) only [go_sem,hcg,hgr]
   refine .of (by omega) ?_ fun i hik => ?_
   ·rw [htk]
    rfl
   ·rcases Nat.lt_or_ge i k with hh | hh
    ·exact hi i hh
    ·have : i = k := by omega
     subst this
     omega
 ·have hkk : k = out.length := by omega
  subst hkk
  have hta : (certN a b cap out).take out.length = certN a b cap out := List.take_of_length_le (by omega)
  rw [hta]
  simp (disch := omega) only [go_sem]
  unfold proveR
  rw [rk_in hl hi]
  rfl
end Go.Pv
namespace Go.Pv
variable {a b : Auto} {cap : Int} {s : Cfg} {p : Cfg → Prop} {out : List Nd} {U : List Cfg}
def valM (f : Nat → Int) (l : List ByteArray) : List (PV × PV) := l.zipIdx.map fun p => (.str p.1,.int .i64 (f p.2))
theorem findKey_val (f : Nat → Int) (x : ByteArray) : ∀ (l : List ByteArray) (k i : Nat),findKey false [2] (.str x) ((l.zipIdx k).map fun (p : ByteArray × Nat) => (PV.str p.1,PV.int .i64 (f p.2))) i = some ((l.findIdx? fun s => decide (s = x)).map fun j => (j + i,.int .i64 (f (j + k))))
 | [],k,i => by
  show (if (keyEq false [2] (.str x) (.str x)).isSome then some none else none) = _
  rw [keyEq_str]
  rfl
 | y :: l,k,i => by
  show (match keyEq false [2] (.str x) (.str y) with
   | some true => some (some (i,PV.int .i64 (f k)))
   | some false => findKey false [2] (.str x) ((l.zipIdx (k + 1)).map fun (p : ByteArray × Nat) => (PV.str p.1,PV.int .i64 (f p.2))) (i + 1)
   | none => none) = _
  rw [keyEq_str]
  by_cases h : x = y
  ·subst h
   simp [List.findIdx?_cons]
  ·have h' : ¬ y = x := fun e => h e.symm
   simp only [h,decide_false]
   rw [findKey_val f x l (k + 1) (i + 1)]
   simp only [List.findIdx?_cons,h',decide_false]
   cases l.findIdx? fun s => decide (s = x) with
   | none => rfl
   | some j =>
    have e1 : j + (i + 1) = j + 1 + i := by omega
    have e2 : j + (k + 1) = j + 1 + k := by omega
    simp [e1,e2]
theorem find_valM (f : Nat → Int) (x : ByteArray) (l : List ByteArray) : findKey false [2] (.str x) (valM f l) 0 = some ((l.findIdx? fun s => decide (s = x)).map fun j => (j,.int .i64 (f j))) := by
 have := findKey_val f x l 0 0
 simpa [valM] using this
theorem upd_valM (f : Nat → Int) (x : ByteArray) (l : List ByteArray) (z : Int) (id : Nat) (hz : z = f l.length) (h : (l.findIdx? fun s => decide (s = x)) = none) : updM false [2] (.str x) (.int .i64 z) id (valM f l) = some { mp := some (id,valM f (l ++ [x])) } := by
 unfold updM
 rw [find_valM,h,hz]
 simp [valM,List.zipIdx_append]
theorem Spc.key (h : Spc a b cap s p out) (hok : ∀ x ∈ out,x.c.ok) {j : Nat} {y : Nd} (hy : out[j]? = some y) {c : Cfg} (hc : y.c = c) : ((keysN out).findIdx? fun s => decide (s = c.keyB)) = some j := by
 subst hc
 rw [idx_dec hok (hok y (List.mem_of_getElem? hy))]
 exact pos_at h.fnd.nd hy
theorem Spc.key_new (h : Spc a b cap s p out) (hok : ∀ x ∈ out,x.c.ok) {k : Nat} {x : Nd} (hx : out[k]? = some x) : ((keysN (out.take k)).findIdx? fun s => decide (s = x.c.keyB)) = none := by
 rw [List.findIdx?_eq_none_iff]
 intro t ht
 obtain ⟨y,hy,rfl⟩ := List.mem_map.1 ht
 refine decide_eq_false fun e => ?_
 have hyo := List.mem_of_mem_take hy
 have hc := keyB_inj (hok y hyo) (hok x (List.mem_of_getElem? hx)) e
 obtain ⟨i,hi⟩ := List.getElem?_of_mem hy
 have hik : i < k := by
  have := (List.getElem?_eq_some_iff.1 hi).1
  rw [List.length_take] at this
  omega
 rw [List.getElem?_take,if_pos hik] at hi
 have := h.fnd.same hi hx hc
 omega
set_option maxHeartbeats 4000000 in
theorem r243 (h : SpcR a b cap (cfgStart a b) p out) (hs : sysErr a b cap = 0) (hall : ∀ i,i < out.length → 0 ≤ (rkN a b cap out).getD i (-1)) : res A PrA 243 [.agg [.int .i64 a.states,.int .i64 a.start,.lst 0 (a.edges.map Edge.c),.int .i64 b.states,.int .i64 b.start,.lst 0 (b.edges.map Edge.c),.int .i64 cap],.lst 0 (ckR (certN a b cap out))] = some [.bool true] := by
 refine res_of a243 rfl rfl ?_
 simp only [F243]; try delta sS tT zZ nN gG bB pZ
 have hea := h.ea
 have heb := h.eb
 have hl := rkN_len h.toSpc
 have hle := h.len
 have hd : decide (sysErr a b cap = 0) = true := decide_eq_true hs
 have hok : ∀ x ∈ out,x.c.ok := fun x hx => h.sp.ok _ (h.all x hx)
 have hcl : (certN a b cap out).length = out.length := certN_len
 simp (disch := omega) only [go_sem,hd,hcl]
 obtain ⟨f,hf⟩ : ∃ f : Nat → Int,f = fun i => (rkN a b cap out).getD i (-1) := ⟨_,rfl⟩
 refine W.upto out.length (fun k => ⟨[(1,.pv (.lst 0 (ckR (certN a b cap out)))),(2,.ptr 2 0),(5,.map 0),(28,.pv (.lst 0 (ckR (certN a b cap out)))),(29,.pv (.int .i64 out.length)),(30,.pv (.int .i64 k))],⟨[(2,[.pv (.int .i64 a.states),.pv (.int .i64 a.start),.pv (.lst 0 (a.edges.map Edge.c)),.pv (.int .i64 b.states),.pv (.int .i64 b.start),.pv (.lst 0 (b.edges.map Edge.c)),.pv (.int .i64 cap)])],[],[valM f (keysN (out.take k))]⟩⟩) (fun _ => True) rfl trivial fun k hk _ => ?_
 simp (disch := omega) only [go_sem]
 refine Br.ofP (fun c1 => ?_) (fun c1 => ?_)
 ·obtain ⟨x,hx⟩ := get_at (l := out) (k := k) (by omega)
  have hcg := certN_get (a := a) (b := b) (cap := cap) hx
  have hxk := hok x (List.mem_of_getElem? hx)
  have hkey := r251 0 0 x.c.a x.c.b x.c.toA x.c.toB hxk
  have hnew : ((keysN (out.take k)).findIdx? fun s => decide (s = keyBS x.c.a x.c.b x.c.toA x.c.toB)) = none := h.toSpc.key_new hok hx
  have hfz : (rkN a b cap out).getD k (-1) = f (keysN (out.take k)).length := by
   rw [hf]
   have : (keysN (out.take k)).length = k := by unfold keysN; rw [List.length_map,List.length_take]; omega
   rw [this]
  have hupd := upd_valM f (keyBS x.c.a x.c.b x.c.toA x.c.toB) (keysN (out.take k)) ((rkN a b cap out).getD k (-1)) 0 hfz hnew
  obtain ⟨_,_,_,_,hxa,hxb⟩ := hxk
  have h157 := r157 0 0 a b cap 0 0 x.c.a x.c.b x.c.toA x.c.toB (by omega) (by omega) (by omega) (by omega)
  rw [h.sp.fit _ (h.all x (List.mem_of_getElem? hx))] at h157
  simp (disch := omega) only [go_sem,hcg,Option.map_some,hkey,find_valM,hnew,Option.map_none,foundT_none,h157,hupd]
  refine .of (by omega) ?_ trivial
  have hsn : keysN (out.take (k + 1)) = keysN (out.take k) ++ [keyBS x.c.a x.c.b x.c.toA x.c.toB] := by
   unfold keysN
   rw [List.take_add_one,hx]
   simp [Cfg.keyB]
  rw [hsn]
  rfl
 ·have hkk : k = out.length := by omega
  subst hkk
  have hta : out.take out.length = out := List.take_length
  rw [hta]
  have hkey0 := r251 0 0 a.start b.start [] [] (hok _ (List.mem_of_getElem? h.fnd.first))
  simp only [ints_nil] at hkey0
  have hk0 : ((keysN out).findIdx? fun s => decide (s = keyBS a.start b.start [] [])) = some 0 := h.toSpc.key hok h.fnd.first rfl
  simp (disch := omega) only [go_sem,hkey0,find_valM,hk0,Option.map_some,foundT_some,hcl]
  refine W.upto out.length (fun k => ⟨[(2,.ptr 2 0),(5,.map 0),(66,.pv (.lst 0 (ckR (certN a b cap out)))),(67,.pv (.int .i64 out.length)),(68,.pv (.int .i64 k))],⟨[(2,[.pv (.int .i64 a.states),.pv (.int .i64 a.start),.pv (.lst 0 (a.edges.map Edge.c)),.pv (.int .i64 b.states),.pv (.int .i64 b.start),.pv (.lst 0 (b.edges.map Edge.c)),.pv (.int .i64 cap)])],[],[valM f (keysN out)]⟩⟩) (fun _ => True) rfl trivial fun k hk _ => ?_
  simp (disch := omega) only [go_sem]
  refine Br.ofP (fun c2 => ?_) (fun c2 => ?_)
  ·obtain ⟨x,hx⟩ := get_at (l := out) (k := k) (by omega)
   have hxm := List.mem_of_getElem? hx
   have hcg := certN_get (a := a) (b := b) (cap := cap) hx
   obtain ⟨_,_,_,_,hxa,hxb⟩ := hok x hxm
   have hfit := h.sp.fit _ (h.all x hxm)
   have hchk : chkE a b cap x.c.a x.c.b x.c.toA x.c.toB = 0 := by
    unfold chkE
    rw [if_neg (by simp [hs]),if_pos hfit]
   have h171 := r171 a b cap x.c.a x.c.b x.c.toA x.c.toB (by omega) (by omega) (by omega) (by omega)
   rw [if_pos hchk] at h171
   have h174 := fun mv => r174 a b cap x.c.a x.c.b x.c.toA x.c.toB mv (by omega) (by omega) (by omega) (by omega)
   have h159 := r159 0 0 a b cap 0 0 x.c.a x.c.b x.c.toA x.c.toB (by omega) (by omega) (by omega) (by omega)
   have hml : (movesC a b cap x.c.a x.c.b x.c.toA x.c.toB).length ≤ 2000000 := by
    have h1 := mvsOf_len a b cap x.c.a x.c.b x.c.toA x.c.toB 0 x.c.a a.edges
    have h2 := mvsOf_len a b cap x.c.a x.c.b x.c.toA x.c.toB 1 x.c.b b.edges
    rw [movesC,List.length_append]
    omega
   have hfk : (rkN a b cap out).getD k (-1) = f k := by rw [hf]
   rw [hfk] at hcg
   obtain ⟨g,hg⟩ : ∃ g : Mov → Bool,g = fun mv => decide (f ((out.findIdx? fun y => decide (y.c = (afterC a b cap x.c.a x.c.b x.c.toA x.c.toB mv).1)).getD 0) < f k) := ⟨_,rfl⟩
   simp (disch := omega) only [go_sem,hcg,Option.map_some,h171]
   have hmvs : ∀ mv ∈ movesC a b cap x.c.a x.c.b x.c.toA x.c.toB,∃ (z : Nat) (y : Nd),out[z]? = some y ∧ y.c = (afterC a b cap x.c.a x.c.b x.c.toA x.c.toB mv).1 ∧ (afterC a b cap x.c.a x.c.b x.c.toA x.c.toB mv).2 = true ∧ g mv = decide (f z < f k) := fun mv hmv => by
    obtain ⟨z,y,z1,z2,_⟩ := h.closed hx (List.mem_map.2 ⟨mv,hmv,rfl⟩)
    refine ⟨z,y,z1,z2,(movesC_mem hmv).1,?_⟩
    rw [hg]
    dsimp only
    rw [← z2,pos_at h.fnd.nd z1]
    rfl
   have hless : (movesC a b cap x.c.a x.c.b x.c.toA x.c.toB).any g = true ∨ f k = 0 := by
    rcases Int.lt_or_le 0 (f k) with h0 | h0
    ·left
     have hkl : k < out.length := by omega
     obtain ⟨u,u1,u2,u3,u4⟩ := h.dist.back (k : Int) (by omega) (by omega) (by rw [Int.toNat_natCast,hfk]; exact h0)
     obtain ⟨z,y,m,rfl,hy,hm⟩ := h.ed_inv hx u1
     rw [Int.toNat_natCast,Int.toNat_natCast] at u4
     obtain ⟨m1,m2,_⟩ := mvC_after hm
     refine List.any_eq_true.2 ⟨m,m1,?_⟩
     rw [hg]
     have e : (afterC a b cap x.c.a x.c.b x.c.toA x.c.toB m).1 = y.c := m2
     dsimp only
     rw [e,pos_at h.fnd.nd hy]
     refine decide_eq_true ?_
     rw [hf]
     dsimp only [Option.getD_some]
     omega
    ·right
     have := hall k (by omega)
     rw [hfk] at this
     omega
   generalize hms : movesC a b cap x.c.a x.c.b x.c.toA x.c.toB = ms at *
   refine W.upto ms.length (fun j => ⟨[(2,.ptr 2 0),(5,.map 0),(14,.ptr 14 0),(17,.pv (.bool ((ms.take j).any g))),(66,.pv (.lst 0 (ckR (certN a b cap out)))),(67,.pv (.int .i64 out.length)),(68,.pv (.int .i64 k)),(81,.pv (.lst 0 (mvs3 ms))),(82,.pv (.int .i64 ms.length)),(83,.pv (.int .i64 j))],⟨[(2,[.pv (.int .i64 a.states),.pv (.int .i64 a.start),.pv (.lst 0 (a.edges.map Edge.c)),.pv (.int .i64 b.states),.pv (.int .i64 b.start),.pv (.lst 0 (b.edges.map Edge.c)),.pv (.int .i64 cap)]),(14,[.pv (.int .i64 x.c.a),.pv (.int .i64 x.c.b),.pv (.lst 0 (ints x.c.toA)),.pv (.lst 0 (ints x.c.toB)),.pv (.int .i64 (f k))])],[],[valM f (keysN out)]⟩⟩) (fun _ => True) rfl trivial fun j hj _ => ?_
   simp (disch := omega) only [go_sem]
   refine Br.ofP (fun c3 => ?_) (fun c3 => ?_)
   ·obtain ⟨mv,hmv⟩ := get_at (l := ms) (k := j) (by omega)
    obtain ⟨z,y,z1,z2,z3,z4⟩ := hmvs mv (List.mem_of_getElem? hmv)
    have h174 := h174 mv
    unfold applyC at h174
    rw [if_pos hchk,if_pos z3,← z2] at h174
    have hyo := hok y (List.mem_of_getElem? z1)
    have hkey := r251 0 0 y.c.a y.c.b y.c.toA y.c.toB hyo
    have hkz : ((keysN out).findIdx? fun s => decide (s = keyBS y.c.a y.c.b y.c.toA y.c.toB)) = some z := h.toSpc.key hok z1 rfl
    have htk : (ms.take (j + 1)).any g = ((ms.take j).any g || decide (f z < f k)) := by rw [List.take_add_one,hmv]; simp [z4]
    cases hB : (ms.take j).any g with
    | true =>
     rw [hB,Bool.true_or] at htk
     simp (disch := omega) only [go_sem,hmv,h174,hkey,find_valM,hkz,Option.map_some,foundT_some]
     refine .of (by omega) ?_ trivial
     rw [htk]
     rfl
    | false =>
     rw [hB,Bool.false_or] at htk
     simp (disch := omega) only [go_sem,hmv,h174,hkey,find_valM,hkz,Option.map_some,foundT_some]
     refine .of (by omega) ?_ trivial
     rw [htk]
     rfl
   ·have hjm : j = ms.length := by omega
    subst hjm
    rw [List.take_length]
    have hf0 := hall k (by omega)
    rw [hfk] at hf0
    by_cases hz : f k = 0
    ·have hdn : doneB a b cap x.c.a x.c.b x.c.toA x.c.toB = true := (dnN_mem hx).1 ((h.dist.zero (k : Int) (by omega) (by omega)).1 (by rw [Int.toNat_natCast,hfk]; exact hz))
     rw [hdn] at h159
     have e1 : decide (f k = 0) = true := decide_eq_true hz
     simp (disch := omega) only [go_sem,e1,h159]
     exact .of (by omega) rfl trivial
    ·have hany : ms.any g = true := hless.resolve_right hz
     have e1 : decide (f k = 0) = false := decide_eq_false hz
     have e2 : decide (0 < f k) = true := decide_eq_true (by omega)
     simp (disch := omega) only [go_sem,e1,e2,hany]
     exact .of (by omega) rfl trivial
  ·simp (disch := omega) only [go_sem]
end Go.Pv
namespace Go.Pv
variable {a b : Auto} {cap : Int} {s : Cfg} {p : Cfg → Prop} {out : List Nd} {U : List Cfg}
theorem rk_all (h : Spc a b cap s p out) (hm : decide ((-1 : Int) ∈ rkN a b cap out) = false) : ∀ i,i < out.length → 0 ≤ (rkN a b cap out).getD i (-1) := fun i hi => by
 rcases Int.lt_or_le ((rkN a b cap out).getD i (-1)) 0 with h0 | h0
 ·rw [rk_out h hi h0] at hm
  cases hm
 ·exact h0
end Go.Pv
namespace Go.Pv
variable {a b : Auto} {cap : Int} {s : Cfg} {p : Cfg → Prop} {out : List Nd} {U : List Cfg}
end Go.Pv
namespace Go.Pv
variable {a b : Auto} {cap : Int} {s : Cfg} {p : Cfg → Prop} {out : List Nd} {U : List Cfg}
end Go.Pv
namespace Go.Pv
variable {a b : Auto} {cap : Int} {s : Cfg} {p : Cfg → Prop} {out : List Nd} {U : List Cfg}
theorem cert_idx (h : Spc a b cap s p out) {j : Nat} {y : Nd} (g2 : out[j]? = some y) : ((certN a b cap out).findIdx? fun w => decide (w.1 = y.c)) = some j := by
 have hjl := (List.getElem?_eq_some_iff.1 g2).1
 have hcj := certN_get (a := a) (b := b) (cap := cap) g2
 have hjc := (List.getElem?_eq_some_iff.1 hcj).1
 rw [List.findIdx?_eq_some_iff_getElem]
 refine ⟨hjc,by rw [(List.getElem?_eq_some_iff.1 hcj).2]; exact decide_eq_true rfl,fun i hi => ?_⟩
 obtain ⟨x,hx⟩ := get_at (l := out) (k := i) (by omega)
 have hci := certN_get (a := a) (b := b) (cap := cap) hx
 rw [(List.getElem?_eq_some_iff.1 hci).2]
 simp only [decide_eq_true_eq]
 intro e
 have := h.fnd.same hx g2 e
 omega
theorem certN_ok (h : SpcR a b cap s p out) : ∀ w ∈ certN a b cap out,w.1.ok := fun w hw => by
 obtain ⟨k,hk⟩ := List.getElem?_of_mem hw
 have hkl := (List.getElem?_eq_some_iff.1 hk).1
 rw [certN_len] at hkl
 obtain ⟨x,hx⟩ := get_at (l := out) (k := k) hkl
 rw [certN_get hx] at hk
 cases hk
 exact h.sp.ok _ (h.all x (List.mem_of_getElem? hx))
set_option maxHeartbeats 1000000 in
theorem r540 (t u1 u2 : Nat) (L : List (Cfg × Int)) (c : Cfg) (hL : L.length ≤ 100000) (hok : ∀ w ∈ L,w.1.ok) (hc : c.ok) : res A PrA 540 [.lst t (ckR L),.agg [.int .i64 c.a,.int .i64 c.b,.lst u1 (ints c.toA),.lst u2 (ints c.toB)]] = some [.int .i64 (match L.findIdx? fun w => decide (w.1 = c) with | some j => (j : Int) | none => -1)] := by
 refine res_of a540 rfl rfl ?_
 simp only [F540]; try delta sS tT zZ nN gG bB pZ
 simp (disch := omega) only [go_sem]
 refine W.upto L.length (fun k => ⟨[(0,.pv (.lst t (ckR L))),(3,.ptr 3 0),(5,.pv (.int .i64 k))],⟨[(3,[.pv (.int .i64 c.a),.pv (.int .i64 c.b),.pv (.lst u1 (ints c.toA)),.pv (.lst u2 (ints c.toB))])],[],[]⟩⟩) (fun k => ∀ i w,i < k → L[i]? = some w → w.1 ≠ c) rfl (fun i w hi => absurd hi (by omega)) fun k hk hi => ?_
 simp (disch := omega) only [go_sem]
 refine Br.ofP (fun c1 => ?_) (fun c1 => ?_)
 ·obtain ⟨w,hw⟩ := get_at (l := L) (k := k) (by omega)
  obtain ⟨_,_,_,_,h1,h2⟩ := hok w (List.mem_of_getElem? hw)
  obtain ⟨_,_,_,_,h3,h4⟩ := hc
  have h154 := r154 0 0 u1 u2 w.1.a w.1.b c.a c.b w.1.toA w.1.toB c.toA c.toB (by omega) (by omega) (by omega) (by omega)
  have e1 : (⟨w.1.a,w.1.b,w.1.toA,w.1.toB⟩ : Cfg) = w.1 := rfl
  have e2 : (⟨c.a,c.b,c.toA,c.toB⟩ : Cfg) = c := rfl
  rw [e1,e2] at h154
  simp (disch := omega) only [go_sem,hw,Option.map_some,h154]
  refine Br.ofP (fun c2 => ?_) (fun c2 => ?_)
  ·simp (disch := omega) only [go_sem]
   have hkl := (List.getElem?_eq_some_iff.1 hw).1
   have hge := (List.getElem?_eq_some_iff.1 hw).2
   have : (L.findIdx? fun w => decide (w.1 = c)) = some k := by
    rw [List.findIdx?_eq_some_iff_getElem]
    refine ⟨hkl,by rw [hge]; exact decide_eq_true c2,fun j hj => ?_⟩
    have := hi j _ hj (List.getElem?_eq_getElem (by omega))
    simpa using this
   rw [this]
  ·simp (disch := omega) only [go_sem]
   exact .of (by omega) rfl fun i v hik hv => by
    rcases Nat.lt_or_ge i k with hh | hh
    ·exact hi i v hh hv
    ·have : i = k := by omega
     subst this
     rw [hw] at hv
     cases hv
     exact c2
 ·simp (disch := omega) only [go_sem]
  have : (L.findIdx? fun w => decide (w.1 = c)) = none := by
   rw [List.findIdx?_eq_none_iff]
   intro w hw
   obtain ⟨i,hii⟩ := List.getElem?_of_mem hw
   have := hi i w (by have := (List.getElem?_eq_some_iff.1 hii).1; omega) hii
   simpa using this
  rw [this]
end Go.Pv
namespace Go.Pv
variable {a b : Auto} {cap : Int} {s : Cfg} {p : Cfg → Prop} {out : List Nd} {U : List Cfg}
set_option maxHeartbeats 8000000 in
theorem r533 (h : SpcR a b cap (cfgStart a b) p out) (hs : sysErr a b cap = 0) (hall : ∀ i,i < out.length → 0 ≤ (rkN a b cap out).getD i (-1)) : res A PrA 533 [.agg [.int .i64 a.states,.int .i64 a.start,.lst 0 (a.edges.map Edge.c),.int .i64 b.states,.int .i64 b.start,.lst 0 (b.edges.map Edge.c),.int .i64 cap],.lst 0 (ckR (certN a b cap out))] = some [.bool true] := by
 refine res_of a533 rfl rfl ?_
 simp only [F533]; try delta sS tT zZ nN gG bB pZ
 have hea := h.ea
 have heb := h.eb
 have hl := rkN_len h.toSpc
 have hle := h.len
 have hd : decide (sysErr a b cap = 0) = true := decide_eq_true hs
 have hok : ∀ x ∈ out,x.c.ok := fun x hx => h.sp.ok _ (h.all x hx)
 have hcl : (certN a b cap out).length = out.length := certN_len
 obtain ⟨f,hf⟩ : ∃ f : Nat → Int,f = fun i => (rkN a b cap out).getD i (-1) := ⟨_,rfl⟩
 have h540 : ∀ (z : Nat) (y : Nd),out[z]? = some y → res A PrA 540 [.lst 0 (ckR (certN a b cap out)),.agg [.int .i64 y.c.a,.int .i64 y.c.b,.lst 0 (ints y.c.toA),.lst 0 (ints y.c.toB)]] = some [.int .i64 z] := fun z y hy => by
  have := r540 0 0 0 (certN a b cap out) y.c (by omega) (certN_ok h) (hok y (List.mem_of_getElem? hy))
  rw [cert_idx h.toSpc hy] at this
  exact this
 have h5400 := h540 0 _ h.fnd.first
 simp only [nod0,cfgStart,ints_nil] at h5400
 have hz0 : decide (((0 : Nat) : Int) < 0) = false := rfl
 have hz1 : decide ((0 : Int) < 0) = false := rfl
 simp (disch := omega) only [go_sem,hd,h5400,hz0]
 refine W.upto out.length (fun k => ⟨[(1,.pv (.lst 0 (ckR (certN a b cap out)))),(2,.ptr 2 0),(5,.pv (.int .i64 k))],⟨[(2,[.pv (.int .i64 a.states),.pv (.int .i64 a.start),.pv (.lst 0 (a.edges.map Edge.c)),.pv (.int .i64 b.states),.pv (.int .i64 b.start),.pv (.lst 0 (b.edges.map Edge.c)),.pv (.int .i64 cap)])],[],[]⟩⟩) (fun _ => True) rfl trivial fun k hk _ => ?_
 simp (disch := omega) only [go_sem,hcl]
 refine Br.ofP (fun c2 => ?_) (fun c2 => ?_)
 ·obtain ⟨x,hx⟩ := get_at (l := out) (k := k) (by omega)
  have hxm := List.mem_of_getElem? hx
  have hcg := certN_get (a := a) (b := b) (cap := cap) hx
  obtain ⟨_,_,_,_,hxa,hxb⟩ := hok x hxm
  have hfit := h.sp.fit _ (h.all x hxm)
  have hchk : chkE a b cap x.c.a x.c.b x.c.toA x.c.toB = 0 := by
   unfold chkE
   rw [if_neg (by simp [hs]),if_pos hfit]
  have hml : (movesC a b cap x.c.a x.c.b x.c.toA x.c.toB).length ≤ 2000000 := by
   have h1 := mvsOf_len a b cap x.c.a x.c.b x.c.toA x.c.toB 0 x.c.a a.edges
   have h2 := mvsOf_len a b cap x.c.a x.c.b x.c.toA x.c.toB 1 x.c.b b.edges
   rw [movesC,List.length_append]
   omega
  have hfk : (rkN a b cap out).getD k (-1) = f k := by rw [hf]
  rw [hfk] at hcg
  obtain ⟨g,hg⟩ : ∃ g : Mov → Bool,g = fun mv => decide (f ((out.findIdx? fun y => decide (y.c = (afterC a b cap x.c.a x.c.b x.c.toA x.c.toB mv).1)).getD 0) < f k) := ⟨_,rfl⟩
  have hmvs : ∀ mv ∈ movesC a b cap x.c.a x.c.b x.c.toA x.c.toB,∃ (z : Nat) (y : Nd),out[z]? = some y ∧ y.c = (afterC a b cap x.c.a x.c.b x.c.toA x.c.toB mv).1 ∧ (afterC a b cap x.c.a x.c.b x.c.toA x.c.toB mv).2 = true ∧ g mv = decide (f z < f k) := fun mv hmv => by
   obtain ⟨z,y,z1,z2,_⟩ := h.closed hx (List.mem_map.2 ⟨mv,hmv,rfl⟩)
   refine ⟨z,y,z1,z2,(movesC_mem hmv).1,?_⟩
   rw [hg]
   dsimp only
   rw [← z2,pos_at h.fnd.nd z1]
   rfl
  have hless : (movesC a b cap x.c.a x.c.b x.c.toA x.c.toB).any g = true ∨ f k = 0 := by
   rcases Int.lt_or_le 0 (f k) with h0 | h0
   ·left
    have hkl : k < out.length := by omega
    obtain ⟨u,u1,u2,u3,u4⟩ := h.dist.back (k : Int) (by omega) (by omega) (by rw [Int.toNat_natCast,hfk]; exact h0)
    obtain ⟨z,y,m,rfl,hy,hm⟩ := h.ed_inv hx u1
    rw [Int.toNat_natCast,Int.toNat_natCast] at u4
    obtain ⟨m1,m2,_⟩ := mvC_after hm
    refine List.any_eq_true.2 ⟨m,m1,?_⟩
    rw [hg]
    have e : (afterC a b cap x.c.a x.c.b x.c.toA x.c.toB m).1 = y.c := m2
    dsimp only
    rw [e,pos_at h.fnd.nd hy]
    refine decide_eq_true ?_
    rw [hf]
    dsimp only [Option.getD_some]
    omega
   ·right
    have := hall k (by omega)
    rw [hfk] at this
    omega
  have h173 := r173 a b cap x.c.a x.c.b x.c.toA x.c.toB (by omega) (by omega) (by omega) (by omega)
  have h183 := fun mv => r183 a b cap x.c.a x.c.b x.c.toA x.c.toB mv (by omega) (by omega) (by omega) (by omega)
  have h158 := r158 0 0 a b cap 0 0 x.c.a x.c.b x.c.toA x.c.toB (by omega) (by omega) (by omega) (by omega)
  rw [hfit] at h158
  have h160 := r160 0 0 a b cap 0 0 x.c.a x.c.b x.c.toA x.c.toB (by omega) (by omega) (by omega) (by omega)
  have h540k := h540 k x hx
  generalize hms : movesC a b cap x.c.a x.c.b x.c.toA x.c.toB = ms at *
  have hkk : decide ((k : Int) = (k : Int)) = true := decide_eq_true rfl
  simp (disch := omega) only [go_sem,hcg,Option.map_some,h158,h540k,h173]
  refine W.upto ms.length (fun j => ⟨[(1,.pv (.lst 0 (ckR (certN a b cap out)))),(2,.ptr 2 0),(5,.pv (.int .i64 k)),(6,.pv (.lst 0 (mvs3 ms))),(7,.pv (.bool ((ms.take j).any g))),(8,.pv (.int .i64 j))],⟨[(2,[.pv (.int .i64 a.states),.pv (.int .i64 a.start),.pv (.lst 0 (a.edges.map Edge.c)),.pv (.int .i64 b.states),.pv (.int .i64 b.start),.pv (.lst 0 (b.edges.map Edge.c)),.pv (.int .i64 cap)])],[],[]⟩⟩) (fun _ => True) rfl trivial fun j hj _ => ?_
  simp (disch := omega) only [go_sem]
  refine Br.ofP (fun c3 => ?_) (fun c3 => ?_)
  ·obtain ⟨mv,hmv⟩ := get_at (l := ms) (k := j) (by omega)
   obtain ⟨z,y,z1,z2,z3,z4⟩ := hmvs mv (List.mem_of_getElem? hmv)
   have h183 := h183 mv
   rw [z3,← z2] at h183
   have h540z := h540 z y z1
   have hcz := certN_get (a := a) (b := b) (cap := cap) z1
   have hfz : (rkN a b cap out).getD z (-1) = f z := by rw [hf]
   rw [hfz] at hcz
   have hzl := (List.getElem?_eq_some_iff.1 z1).1
   have hzn : decide ((z : Int) < 0) = false := decide_eq_false (by omega)
   have htk : (ms.take (j + 1)).any g = ((ms.take j).any g || decide (f z < f k)) := by rw [List.take_add_one,hmv]; simp [z4]
   cases hB : (ms.take j).any g with
   | true =>
    rw [hB,Bool.true_or] at htk
    simp (disch := omega) only [go_sem,hcg,Option.map_some,hmv,h183,h540z,hzn]
    refine .of (by omega) ?_ trivial
    rw [htk]
    rfl
   | false =>
    rw [hB,Bool.false_or] at htk
    simp (disch := omega) only [go_sem,hcg,hcz,Option.map_some,hmv,h183,h540z,hzn]
    refine .of (by omega) ?_ trivial
    rw [htk]
    rfl
  ·have hjm : j = ms.length := by omega
   subst hjm
   rw [List.take_length]
   have hf0 := hall k (by omega)
   rw [hfk] at hf0
   by_cases hz : f k = 0
   ·have hdn : doneB a b cap x.c.a x.c.b x.c.toA x.c.toB = true := (dnN_mem hx).1 ((h.dist.zero (k : Int) (by omega) (by omega)).1 (by rw [Int.toNat_natCast,hfk]; exact hz))
    rw [hdn] at h160
    have e1 : decide (f k = 0) = true := decide_eq_true hz
    simp (disch := omega) only [go_sem,hcg,Option.map_some,e1,h160]
    exact .of (by omega) rfl trivial
   ·have hany : ms.any g = true := hless.resolve_right hz
    have e1 : decide (f k = 0) = false := decide_eq_false hz
    have e2 : decide (f k ≤ 0) = false := decide_eq_false (by omega)
    simp (disch := omega) only [go_sem,hcg,Option.map_some,e1,e2,hany]
    exact .of (by omega) rfl trivial
 ·simp (disch := omega) only [go_sem]
end Go.Pv
namespace Go.Pv
def smD (a b : Auto) (cap : Int) (c : Cfg) : Prop := fitsB a b cap c.a c.b c.toA c.toB = true ∧ (∀ z ∈ c.toA,z ≤ 3) ∧ ∀ z ∈ c.toB,z ≤ 3
theorem smD_small {l : List Int} {cap : Int} (h : chanB l cap = true) (h2 : ∀ z ∈ l,z ≤ 3) : l.all smallI = true := by
 rw [List.all_eq_true]
 intro z hz
 have h3 := (chan_ok h).2 z hz
 have h4 := h2 z hz
 simp only [smallI,Bool.and_eq_true,decide_eq_true_eq]
 omega
theorem smD_runs {a b : Auto} {cap : Int} (hs : sysErr a b cap = 0) (hl : ∀ e ∈ a.edges ++ b.edges,e.label ≤ 3) : Runs29 a b cap (smD a b cap) := by
 obtain ⟨ga,gb,hc1,hc2⟩ := sys_good hs
 refine ⟨⟨?_,by simp,by simp⟩,?_,?_,?_⟩
 ·rw [fitsB_iff]
  refine ⟨hs,ga.st,gb.st,?_,?_⟩ <;> simp [chanB] <;> omega
 ·intro c hc x hx
  obtain ⟨mv,hmv,rfl⟩ := List.mem_map.1 hx
  obtain ⟨h1,e,he,h2⟩ := movesC_mem hmv
  obtain ⟨h3,h4⟩ := after_lab (P := fun z => z ≤ 3) (a := a) (b := b) (cap := cap) (x := c.a) (y := c.b) (mv := mv) hc.2.1 hc.2.2 (by rw [h2]; exact hl e he)
  exact ⟨fits_after hc.1 h1,h3,h4⟩
 ·intro c hc
  obtain ⟨h1,h2,h3⟩ := hc
  obtain ⟨_,h4,h5,h6,h7⟩ := fitsB_iff.1 h1
  have m1 := ga.mx
  have m2 := gb.mx
  have q1 := (chan_ok h6).1
  have q2 := (chan_ok h7).1
  refine ⟨?_,?_,smD_small h6 h2,smD_small h7 h3,by omega,by omega⟩
  ·simp only [smallI,Bool.and_eq_true,decide_eq_true_eq]
   omega
  ·simp only [smallI,Bool.and_eq_true,decide_eq_true_eq]
   omega
 ·intro c _
  exact movesC_asc ga.asc gb.asc
def chans3 : List (List Int) := [] :: (([1,2,3] : List Int).map fun x => [x]) ++ ([1,2,3] : List Int).flatMap fun x => ([1,2,3] : List Int).map fun y => [x,y]
theorem chans3_mem {l : List Int} {cap : Int} (h : chanB l cap = true) (h2 : ∀ z ∈ l,z ≤ 3) (hc : cap ≤ 2) : l ∈ chans3 := by
 obtain ⟨h3,h4⟩ := chan_ok h
 match l,h2,h3,h4 with
 | [],_,_,_ => simp [chans3]
 | [x],h2,_,h4 =>
  have a1 := h2 x (by simp)
  have a2 := h4 x (by simp)
  obtain rfl | rfl | rfl : x = 1 ∨ x = 2 ∨ x = 3 := by omega
  all_goals simp [chans3]
 | [x,y],h2,_,h4 =>
  have a1 := h2 x (by simp)
  have a2 := h4 x (by simp)
  have b1 := h2 y (by simp)
  have b2 := h4 y (by simp)
  obtain rfl | rfl | rfl : x = 1 ∨ x = 2 ∨ x = 3 := by omega
  all_goals
   obtain rfl | rfl | rfl : y = 1 ∨ y = 2 ∨ y = 3 := by omega
   all_goals simp [chans3]
 | x :: y :: z :: r,_,h3,_ =>
  simp only [List.length_cons] at h3
  omega
def cfgU4 : List Cfg := [(0 : Int),1,2,3].flatMap fun a => [(0 : Int),1,2,3].flatMap fun b => chans3.flatMap fun l => chans3.map fun m => ⟨a,b,l,m⟩
theorem cfgU4_mem {c : Cfg} (h1 : 0 ≤ c.a ∧ c.a < 4) (h2 : 0 ≤ c.b ∧ c.b < 4) (h3 : c.toA ∈ chans3) (h4 : c.toB ∈ chans3) : c ∈ cfgU4 := by
 obtain ⟨a,b,l,m⟩ := c
 simp only at h1 h2 h3 h4
 unfold cfgU4
 rw [List.mem_flatMap]
 refine ⟨a,?_,?_⟩
 ·obtain rfl | rfl | rfl | rfl : a = 0 ∨ a = 1 ∨ a = 2 ∨ a = 3 := by omega
  all_goals simp
 rw [List.mem_flatMap]
 refine ⟨b,?_,?_⟩
 ·obtain rfl | rfl | rfl | rfl : b = 0 ∨ b = 1 ∨ b = 2 ∨ b = 3 := by omega
  all_goals simp
 rw [List.mem_flatMap]
 exact ⟨l,h3,List.mem_map.2 ⟨m,h4,rfl⟩⟩
theorem few_smD {a b : Auto} {cap : Int} (hs : sysErr a b cap = 0) (hl : ∀ e ∈ a.edges ++ b.edges,e.label ≤ 3) (ha : a.states ≤ 4) (hb : b.states ≤ 4) (hc : cap ≤ 2) : Few a b cap (smD a b cap) cfgU4 := by
 have hr := smD_runs hs hl
 refine ⟨⟨hr.nx,hr.ok,fun c h => h.1⟩,?_,fun c h => ?_⟩
 ·have h2 : cfgU4.length = 2704 := by decide +kernel
  omega
 ·obtain ⟨h1,h2,h3⟩ := h
  obtain ⟨_,h4,h5,h6,h7⟩ := fitsB_iff.1 h1
  exact cfgU4_mem (by omega) (by omega) (chans3_mem h6 h2 hc) (chans3_mem h7 h3 hc)
end Go.Pv
namespace Go.Pv
theorem r547 (x y : Draft) (hx : x.ok) (hy : y.ok) (c : Int) (hc : 0 ≤ c ∧ c ≤ 255) : res A PrA 547 [.agg [.int .u8 x.n,.lst 0 (x.arcs.map Arc.c),.int .u8 y.n,.lst 0 (y.arcs.map Arc.c),.int .u8 c]] = some [.agg [.int .i64 (1 + x.n % 4),.int .i64 0,.lst 0 (edgs x.auto.edges),.int .i64 (1 + y.n % 4),.int .i64 0,.lst 0 (edgs y.auto.edges),.int .i64 (1 + c % 2)],.bool (decide ((x.arcs.length : Int) ≤ 12) && decide ((y.arcs.length : Int) ≤ 12))] := by
 refine res_of a547 rfl rfl ?_
 simp only [F547]; try delta sS tT zZ nN gG bB pZ
 have h1 := r25 0 x hx
 have h2 := r25 0 y hy
 have hb := Int.emod_nonneg c (by decide : (2 : Int) ≠ 0)
 have hb2 := Int.emod_lt_of_pos c (by decide : (0 : Int) < 2)
 cases e1 : decide ((x.arcs.length : Int) ≤ 12) <;> cases e2 : decide ((y.arcs.length : Int) ≤ 12) <;> rw [e1] at h1 <;> rw [e2] at h2 <;> simp (disch := omega) only [go_sem,h1,h2]
end Go.Pv
namespace Go.Pv
theorem parSys {x y : Draft} (hx : x.ok) (hy : y.ok) {c : Int} (_hc : 0 ≤ c ∧ c ≤ 255) : sysErr x.auto y.auto (1 + c % 2) = 0 ∧ x.auto.states ≤ 4 ∧ y.auto.states ≤ 4 ∧ 1 + c % 2 ≤ 2 ∧ x.auto.edges.length ≤ 12 ∧ y.auto.edges.length ≤ 12 := by
 have gA : x.auto.Good := Draft.good hx (s := 0) (by have := x.st; omega)
 have gB : y.auto.Good := Draft.good hy (s := 0) (by have := y.st; omega)
 have hb := Int.emod_nonneg c (by decide : (2 : Int) ≠ 0)
 have hc := Int.emod_lt_of_pos c (by decide : (0 : Int) < 2)
 refine ⟨?_,?_,?_,by omega,Draft.len hx,Draft.len hy⟩
 ·unfold sysErr
  have e1 : x.auto.err = 0 := Auto.good_iff.2 gA
  have e2 : y.auto.err = 0 := Auto.good_iff.2 gB
  rw [if_neg (by simp [e1]),if_neg (by simp [e2]),if_neg (by omega)]
 ·show 1 + x.n % 4 ≤ 4
  omega
 ·show 1 + y.n % 4 ≤ 4
  omega
end Go.Pv
namespace Go.Pv
variable {a b : Auto} {cap : Int} {s : Cfg} {p : Cfg → Prop} {out : List Nd} {U : List Cfg}
theorem Draft.low (d : Draft) : ∀ e ∈ d.auto.edges,e.label ≤ 3 := by
 intro e he
 have he := (sortB_perm Edge.lt d.raw).subset he
 rcases raw_from _ _ e he with h | ⟨x,hx,rfl⟩
 ·cases h
 ·have hc := Int.emod_lt_of_pos (x.act / 2) (by decide : (0 : Int) < 3)
  show 1 + x.act / 2 % 3 ≤ 3
  omega
theorem Spc.compl_run (h' : Spc a b cap s p out) (hr : 0 ≤ (rkN a b cap out).getD 0 (-1)) : ∃ (l : List Mov) (e : Cfg),complR a b cap out = [.lst 0 (mvs3 l),.int .i64 0] ∧ Run (mvC a b cap) s l e ∧ doneC a b cap e = true ∧ p e ∧ l.length ≤ out.length := by
 have hl := h'.dist.len
 have h0 := h'.fnd.first
 obtain ⟨l,d,h1,h2,h3⟩ := h'.rank_run ((rkN a b cap out).getD 0 (-1)).toNat h0 (by omega)
 obtain ⟨k2,y2,g1,g2,g3⟩ := h'.fnd.least h1.stp
 have hk2 := (List.getElem?_eq_some_iff.1 g1).1
 have hz2 : (rkN a b cap out).getD k2 (-1) = 0 := by
  have := (h'.dist.zero (k2 : Int) (by omega) (by omega)).2 ((dnN_mem g1).2 (by rw [g2]; exact h2))
  rwa [Int.toNat_natCast] at this
 have hg2 : (rkN a b cap out)[k2]? = some 0 := by
  have hk : k2 < (rkN a b cap out).length := by omega
  rw [List.getElem?_eq_getElem hk]
  rw [List.getD_eq_getElem?_getD,List.getElem?_eq_getElem hk] at hz2
  exact congrArg some hz2
 obtain ⟨j,hj,hjg⟩ := atL_get (List.mem_of_getElem? hg2)
 have hjl : j < out.length := by rw [← hl]; exact (List.getElem?_eq_some_iff.1 hjg).1
 obtain ⟨x,hx⟩ := get_at (l := out) (k := j) hjl
 have hzj : (rkN a b cap out).getD j (-1) = 0 := by rw [List.getD_eq_getElem?_getD,hjg]; rfl
 have hdj : doneC a b cap x.c = true := (dnN_mem hx).1 ((h'.dist.zero (j : Int) (by omega) (by omega)).1 (by rw [Int.toNat_natCast]; exact hzj))
 have hpl := h'.fnd.plen j j x (Nat.le_refl _) hx
 refine ⟨x.path,x.c,?_,h'.run hx,hdj,h'.all x (List.mem_of_getElem? hx),by omega⟩
 unfold complR
 rw [hj,Int.toNat_natCast,hx]
 simp only
 rw [if_neg (by omega)]
theorem Run.step {e c : Cfg} {l : List Mov} {k : Nat} (h : Run (mvC a b cap) c (l.drop k) e) (hk : k < l.length) : ∃ m d,l[k]? = some m ∧ (m,d) ∈ mvC a b cap c ∧ Run (mvC a b cap) d (l.drop (k + 1)) e := by
 rw [List.drop_eq_getElem_cons hk] at h
 cases h with
 | cons hm hr => exact ⟨_,_,List.getElem?_eq_getElem hk,hm,hr⟩
set_option maxRecDepth 10000 in
set_option maxHeartbeats 8000000 in
theorem r545 (r548 : res A PrA 548 [] = some [.bool true]) (d : Draft × Draft × Int) (hd : d.1.ok ∧ d.2.1.ok ∧ 0 ≤ d.2.2 ∧ d.2.2 ≤ 255) (ch : List Int) (hch : ∀ x ∈ ch,0 ≤ x ∧ x ≤ 255) (hcl : ch.length ≤ 2 ^ 63 - 1) : res A PrA 545 [.agg [.int .u8 d.1.n,.lst 0 (d.1.arcs.map Arc.c),.int .u8 d.2.1.n,.lst 0 (d.2.1.arcs.map Arc.c),.int .u8 d.2.2],.lst 0 (ch.map fun x => [.int .u8 x])] = some [.bool true] := by
 obtain ⟨x,y,c⟩ := d
 obtain ⟨hx,hy,hc⟩ := hd
 dsimp only at hx hy hc ⊢
 refine res_of a545 rfl rfl ?_
 simp only [F545]; try delta sS tT zZ nN gG bB pZ
 have h547 := r547 x y hx hy c hc
 obtain ⟨s1,s2,s3,s4,s5,s6⟩ := parSys hx hy hc
 have hlo3 : ∀ e ∈ x.auto.edges ++ y.auto.edges,e.label ≤ 3 := fun e he => by
  rcases List.mem_append.1 he with he | he
  ·exact x.low e he
  ·exact y.low e he
 have q1 : 1 + x.n % 4 = x.auto.states := rfl
 have q2 : 1 + y.n % 4 = y.auto.states := rfl
 have q4 : x.auto.start = 0 := rfl
 have q5 : y.auto.start = 0 := rfl
 have q6 : x.auto.edges.map Edge.c = edgs x.auto.edges := rfl
 have q7 : y.auto.edges.map Edge.c = edgs y.auto.edges := rfl
 rw [q1,q2] at h547
 generalize 1 + c % 2 = cp at *
 have hF := few_smD s1 hlo3 s2 s3 s4
 have hruns := smD_runs s1 hlo3
 have hst : smD x.auto y.auto cp (cfgStart x.auto y.auto) := hruns.st
 generalize (decide ((x.arcs.length : Int) ≤ 12) && decide ((y.arcs.length : Int) ≤ 12)) = ok at *
 generalize x.auto = a at *
 generalize y.auto = b at *
 obtain ⟨out,ho,hS,hlo⟩ := hF.space hst
 have hR : SpcR a b cp (cfgStart a b) (smD a b cp) out := ⟨hS,hF.sp,hlo,by omega,by omega⟩
 have h236 := r236 hR hst s1 ho
 have h242 := r242 hR hst s1 ho
 have h240 := r240 hR hst s1 (by omega) (by omega) ho
 have hml : (ch.map fun x => [PV.int .u8 x]).length = ch.length := List.length_map _
 cases ok with
 | false => simp (disch := omega) only [go_sem,h547,r548]
 | true =>
  by_cases hlen : ch.length ≤ 30
  ·have hlt : decide (30 < (ch.length : Int)) = false := decide_eq_false (by omega)
   cases hm : decide ((-1 : Int) ∈ rkN a b cp out) with
   | true =>
    unfold proveR at h236
    rw [hm,if_pos rfl] at h236
    rw [hm] at h242
    obtain ⟨j,hj,hjg⟩ := atL_get (of_decide_eq_true hm)
    have hjl : j < out.length := by rw [← rkN_len hS]; exact (List.getElem?_eq_some_iff.1 hjg).1
    obtain ⟨x,hx⟩ := get_at (l := out) (k := j) hjl
    have hQ : stuckR a b cp out = [.lst 0 (mvs3 x.path),cfgP x.c,.int .i64 (kindB a b x.c.a x.c.b x.c.toA x.c.toB (movesC a b cp x.c.a x.c.b x.c.toA x.c.toB).length),.int .i64 0] := by
     unfold stuckR
     rw [hj,Int.toNat_natCast,hx]
     simp only
     rw [if_neg (by omega)]
    rw [hQ] at h240
    have hrk : (rkN a b cp out).getD j (-1) = -1 := by rw [List.getD_eq_getElem?_getD,hjg]; rfl
    have hpl := hS.fnd.plen j j x (Nat.le_refl _) hx
    have hpx := hS.all x (List.mem_of_getElem? hx)
    obtain ⟨o2,ho2,hS2,hlo2⟩ := hF.space hpx
    have hR2 : SpcR a b cp x.c (smD a b cp) o2 := ⟨hS2,hF.sp,hlo2,by omega,by omega⟩
    have h237 := r237 hR2 hpx s1 ho2
    rw [hS.compl_none hx (by omega) hS2] at h237
    have h241 := r241 hR2 hpx s1 (by omega) (by omega) ho2
    have hrk2 : (rkN a b cp out).getD j (-1) = (rkN a b cp o2).getD 0 (-1) := hS.rank_eq hS2 hx hS2.fnd.first rfl
    unfold kindR at h241
    rw [if_neg (by omega)] at h241
    generalize kindB a b x.c.a x.c.b x.c.toA x.c.toB (movesC a b cp x.c.a x.c.b x.c.toA x.c.toB).length = kd at h240 h241
    have h161 := run_res 0 (hS.run hx) (by omega) (by omega) (by omega) s1
    obtain ⟨_,_,_,_,hxa,hxb⟩ := hF.sp.ok _ hpx
    simp only [q4,q5,q6,q7,Bool.not_true] at h236 h240 h237 h161 h241 h242
    simp (disch := omega) only [go_sem,h547,r548,h236,h242,h240,h161,h237,h241,hml,hlt]
   | false =>
    unfold proveR at h236
    rw [hm,if_neg (by decide)] at h236
    rw [hm] at h242
    have h155 := r155 0 0 a b cp
    simp only [q4,q5,q6,q7,Bool.not_false] at h236 h155 h242
    simp (disch := omega) only [go_sem,h547,r548,h242,hml,hlt,h155]
    have h243 := r243 hR s1 (rk_all hS hm)
    have h533 := r533 hR s1 (rk_all hS hm)
    simp only [q4,q5,q6,q7] at h243 h533
    have hall := rk_all hS hm
    have step : ∀ c,smD a b cp c → ∀ mv,(afterG a b cp c mv).2 = true → res A PrA 174 [.agg [.int .i64 a.states,.int .i64 0,.lst 0 (edgs a.edges),.int .i64 b.states,.int .i64 0,.lst 0 (edgs b.edges),.int .i64 cp],.agg [.int .i64 c.a,.int .i64 c.b,.lst 0 (ints c.toA),.lst 0 (ints c.toB)],.agg [.int .i64 mv.party,.bool mv.send,.int .i64 mv.label]] = some [cfgP (afterG a b cp c mv).1,.int .i64 0] := fun c hc mv hmv => by
     obtain ⟨_,_,_,_,hca,hcb⟩ := hF.sp.ok _ hc
     have hchk : chkE a b cp c.a c.b c.toA c.toB = 0 := by
      unfold chkE
      rw [if_neg (by simp [s1]),if_pos (hF.sp.fit _ hc)]
     have h := r174 a b cp c.a c.b c.toA c.toB mv (by omega) (by omega) (by omega) (by omega)
     unfold applyC at h
     rw [if_pos hchk,if_pos (show (afterC a b cp c.a c.b c.toA c.toB mv).2 = true from hmv)] at h
     simp only [q4,q5,q6,q7] at h
     exact h
    refine W.loop (α := Nat × Nat × Nd) (fun q => ⟨[(5,.ptr 5 0),(22,.ptr 22 0),(116,.pv (.lst 0 (ch.map fun x => [.int .u8 x]))),(117,.pv (.int .i64 ch.length)),(118,.pv (.int .i64 q.1))],⟨[(5,[.pv (.int .i64 a.states),.pv (.int .i64 0),.pv (.lst 0 (edgs a.edges)),.pv (.int .i64 b.states),.pv (.int .i64 0),.pv (.lst 0 (edgs b.edges)),.pv (.int .i64 cp)]),(22,[.pv (.int .i64 q.2.2.c.a),.pv (.int .i64 q.2.2.c.b),.pv (.lst 0 (ints q.2.2.c.toA)),.pv (.lst 0 (ints q.2.2.c.toB))])],[],[]⟩⟩) (fun q => q.1 ≤ ch.length ∧ out[q.2.1]? = some q.2.2) (fun q => ch.length - q.1) (0,0,nod0 (cfgStart a b)) (by simp only [nod0,cfgStart,q4,q5,ints_nil]; rfl) ⟨Nat.zero_le _,hS.fnd.first⟩ (fun q hq => ?_)
    obtain ⟨k,j,y⟩ := q
    obtain ⟨g1,g2⟩ := hq
    dsimp only at g1 g2 ⊢
    have hpy := hS.all y (List.mem_of_getElem? g2)
    have hjl := (List.getElem?_eq_some_iff.1 g2).1
    obtain ⟨_,_,_,_,hya,hyb⟩ := hF.sp.ok _ hpy
    have hchk : chkE a b cp y.c.a y.c.b y.c.toA y.c.toB = 0 := by
     unfold chkE
     rw [if_neg (by simp [s1]),if_pos (hF.sp.fit _ hpy)]
    have h171 := r171 a b cp y.c.a y.c.b y.c.toA y.c.toB (by omega) (by omega) (by omega) (by omega)
    rw [if_pos hchk] at h171
    obtain ⟨o2,ho2,hS2,hlo2⟩ := hF.space hpy
    have hR2 : SpcR a b cp y.c (smD a b cp) o2 := ⟨hS2,hF.sp,hlo2,by omega,by omega⟩
    have h237 := r237 hR2 hpy s1 ho2
    have hrk : (rkN a b cp out).getD j (-1) = (rkN a b cp o2).getD 0 (-1) := hS.rank_eq hS2 g2 hS2.fnd.first rfl
    obtain ⟨pl,e,hpl,hrun,hde,hpe,hpll⟩ := hS2.compl_run (by rw [← hrk]; exact hall j hjl)
    rw [hpl] at h237
    simp only [q4,q5,q6,q7] at h171 h237
    simp (disch := omega) only [go_sem]
    refine Br.ofP (fun c1 => ?_) (fun c1 => ?_)
    ·obtain ⟨x,hx⟩ := get_at (l := ch) (k := k) (by omega)
     have hxg : (ch.map fun x => [PV.int .u8 x])[k]? = some [.int .u8 x] := by rw [List.getElem?_map,hx]; rfl
     have hxb := hch x (List.mem_of_getElem? hx)
     simp (disch := omega) only [go_sem,hxg,h171]
     have hmn : (movesC a b cp y.c.a y.c.b y.c.toA y.c.toB).length ≤ 24 := by
      have h1 := mvsOf_len a b cp y.c.a y.c.b y.c.toA y.c.toB 0 y.c.a a.edges
      have h2 := mvsOf_len a b cp y.c.a y.c.b y.c.toA y.c.toB 1 y.c.b b.edges
      rw [movesC,List.length_append]
      omega
     refine Br.ofP (fun c2 => ?_) (fun c2 => ?_)
     ·simp (disch := omega) only [go_sem,h237]
      refine W.loop (α := Nat × Cfg) (fun q => ⟨[(5,.ptr 5 0),(22,.ptr 22 0),(158,.pv (.lst 0 (mvs3 pl))),(159,.pv (.int .i64 pl.length)),(160,.pv (.int .i64 q.1))],⟨[(5,[.pv (.int .i64 a.states),.pv (.int .i64 0),.pv (.lst 0 (edgs a.edges)),.pv (.int .i64 b.states),.pv (.int .i64 0),.pv (.lst 0 (edgs b.edges)),.pv (.int .i64 cp)]),(22,[.pv (.int .i64 q.2.a),.pv (.int .i64 q.2.b),.pv (.lst 0 (ints q.2.toA)),.pv (.lst 0 (ints q.2.toB))])],[],[]⟩⟩) (fun q => q.1 ≤ pl.length ∧ smD a b cp q.2 ∧ Run (mvC a b cp) q.2 (pl.drop q.1) e) (fun q => pl.length - q.1) (0,y.c) rfl ⟨Nat.zero_le _,hpy,hrun⟩ (fun q hq => ?_)
      obtain ⟨k2,d⟩ := q
      obtain ⟨f1,f2,f3⟩ := hq
      dsimp only at f1 f2 f3 ⊢
      simp (disch := omega) only [go_sem]
      refine Br.ofP (fun c3 => ?_) (fun c3 => ?_)
      ·obtain ⟨mv,d2,t1,t2,t3⟩ := f3.step (by omega)
       obtain ⟨_,t4,t5⟩ := mvC_after t2
       have h174 := step d f2 mv t5
       rw [show (afterG a b cp d mv).1 = d2 from t4] at h174
       simp (disch := omega) only [go_sem,t1,Option.map_some,h174]
       exact ⟨(k2 + 1,d2),⟨by dsimp only; omega,hruns.nx d f2 d2 (by rw [← mvC_suc]; exact List.mem_map.2 ⟨_,t2,rfl⟩),t3⟩,by dsimp only; omega,rfl⟩
      ·obtain rfl : k2 = pl.length := by omega
       rw [List.drop_length] at f3
       cases f3
       obtain ⟨_,_,_,_,hea,heb⟩ := hF.sp.ok _ f2
       have h159 := r159 0 0 a b cp 0 0 e.a e.b e.toA e.toB (by omega) (by omega) (by omega) (by omega)
       rw [show doneB a b cp e.a e.b e.toA e.toB = true from hde] at h159
       simp only [q4,q5,q6,q7] at h159
       simp (disch := omega) only [go_sem,h236,h159,h243,h533]
     ·have hnx : ∀ m ∈ movesC a b cp y.c.a y.c.b y.c.toA y.c.toB,∃ (z : Nat) (w : Nd),out[z]? = some w ∧ w.c = (afterG a b cp y.c m).1 ∧ (afterG a b cp y.c m).2 = true := fun m hm => by
       obtain ⟨z,w,z1,z2,_⟩ := hS.closed g2 (List.mem_map.2 ⟨m,hm,rfl⟩)
       exact ⟨z,w,z1,z2,(movesC_mem hm).1⟩
      generalize movesC a b cp y.c.a y.c.b y.c.toA y.c.toB = ms at *
      have hr1 := Int.emod_nonneg x (show (ms.length : Int) ≠ 0 by omega)
      have hr2 := Int.emod_lt_of_pos x (show (0 : Int) < ms.length by omega)
      obtain ⟨r,hr⟩ : ∃ r : Nat,x % (ms.length : Int) = (r : Int) := ⟨(x % ms.length).toNat,by omega⟩
      rw [hr] at hr1 hr2
      obtain ⟨mv,hmv⟩ := get_at (l := ms) (k := r) (by omega)
      obtain ⟨z,w,z1,z2,z3⟩ := hnx mv (List.mem_of_getElem? hmv)
      have h174 := step y.c hpy mv z3
      rw [← z2] at h174
      simp (disch := omega) only [go_sem,hr,hmv,h174]
      exact ⟨(k + 1,z,w),⟨by dsimp only; omega,z1⟩,by dsimp only; omega,rfl⟩
    ·simp (disch := omega) only [go_sem,h237]
     refine W.loop (α := Nat × Cfg) (fun q => ⟨[(5,.ptr 5 0),(22,.ptr 22 0),(158,.pv (.lst 0 (mvs3 pl))),(159,.pv (.int .i64 pl.length)),(160,.pv (.int .i64 q.1))],⟨[(5,[.pv (.int .i64 a.states),.pv (.int .i64 0),.pv (.lst 0 (edgs a.edges)),.pv (.int .i64 b.states),.pv (.int .i64 0),.pv (.lst 0 (edgs b.edges)),.pv (.int .i64 cp)]),(22,[.pv (.int .i64 q.2.a),.pv (.int .i64 q.2.b),.pv (.lst 0 (ints q.2.toA)),.pv (.lst 0 (ints q.2.toB))])],[],[]⟩⟩) (fun q => q.1 ≤ pl.length ∧ smD a b cp q.2 ∧ Run (mvC a b cp) q.2 (pl.drop q.1) e) (fun q => pl.length - q.1) (0,y.c) rfl ⟨Nat.zero_le _,hpy,hrun⟩ (fun q hq => ?_)
     obtain ⟨k2,d⟩ := q
     obtain ⟨f1,f2,f3⟩ := hq
     dsimp only at f1 f2 f3 ⊢
     simp (disch := omega) only [go_sem]
     refine Br.ofP (fun c3 => ?_) (fun c3 => ?_)
     ·obtain ⟨mv,d2,t1,t2,t3⟩ := f3.step (by omega)
      obtain ⟨_,t4,t5⟩ := mvC_after t2
      have h174 := step d f2 mv t5
      rw [show (afterG a b cp d mv).1 = d2 from t4] at h174
      simp (disch := omega) only [go_sem,t1,Option.map_some,h174]
      exact ⟨(k2 + 1,d2),⟨by dsimp only; omega,hruns.nx d f2 d2 (by rw [← mvC_suc]; exact List.mem_map.2 ⟨_,t2,rfl⟩),t3⟩,by dsimp only; omega,rfl⟩
     ·obtain rfl : k2 = pl.length := by omega
      rw [List.drop_length] at f3
      cases f3
      obtain ⟨_,_,_,_,hea,heb⟩ := hF.sp.ok _ f2
      have h159 := r159 0 0 a b cp 0 0 e.a e.b e.toA e.toB (by omega) (by omega) (by omega) (by omega)
      rw [show doneB a b cp e.a e.b e.toA e.toB = true from hde] at h159
      simp only [q4,q5,q6,q7] at h159
      simp (disch := omega) only [go_sem,h236,h159,h243,h533]
  ·have hlt : decide (30 < (ch.length : Int)) = true := decide_eq_true (by omega)
   simp (disch := omega) only [go_sem,h547,r548,hml,hlt]
end Go.Pv
namespace Go.Pv
theorem r548 : res A PrA 548 [] = some [.bool true] := res_some.2 ⟨3000,by kernel_rfl⟩
end Go.Pv
namespace Go.Pv
variable {P : Program}
theorem slice_dec {α : Type} {c : α → List PV} {ok : α → Prop} {n : Nat} {t el : TypeId} {cs : List PV} (hu : P.underlying t = some (.slice el)) (he : ∀ cs,typed P n el cs → ∃ x,cs = c x ∧ ok x) (h : typed P (n + 1) t cs) : ∃ l : List α,cs = [.lst 0 (l.map c)] ∧ l.length ≤ 2 ^ 63 - 1 ∧ ∀ x ∈ l,ok x := by
 obtain ⟨rows,rfl,hl,hr⟩ := typed_slice hu h
 obtain ⟨l,rfl⟩ := rows_map (c := fun x : {x : α // ok x} => c x.1) (rows := rows) (fun r hr' => by
  obtain ⟨x,rfl,hx⟩ := he r (hr r hr')
  exact ⟨⟨x,hx⟩,rfl⟩)
 refine ⟨l.map (·.1),by simp [],by simpa [maxLen] using hl,fun x hx => ?_⟩
 obtain ⟨y,_,rfl⟩ := List.mem_map.1 hx
 exact y.2
theorem u8_min : IntKind.min .u8 = 0 := by decide
theorem u8_max : IntKind.max .u8 = 255 := by decide
structure DraftT (P : Program) (td tl ta tu : TypeId) : Prop where
 d : ∃ fs,P.underlying td = some (.struct fs) ∧ fs.toList.map (·.type) = [tu,tl]
 l : P.underlying tl = some (.slice ta)
 a : ∃ fs,P.underlying ta = some (.struct fs) ∧ fs.toList.map (·.type) = [tu,tu,tu]
 u : P.underlying tu = some (.int .u8)
theorem arc_typed {td tl ta tu : TypeId} (T : DraftT P td tl ta tu) {n : Nat} (cs : List PV) (h : typed P (n + 2) ta cs) : ∃ x : Arc,cs = x.c ∧ x.ok := by
 obtain ⟨fs,hu,hts⟩ := T.a
 obtain ⟨r0,q0,rfl,h0,r1,q1,rfl,h1,r2,q2,rfl,h2,rfl⟩ := typed_struct hu hts h
 obtain ⟨x,rfl,hx⟩ := typed_int T.u h0
 obtain ⟨y,rfl,hy⟩ := typed_int T.u h1
 obtain ⟨z,rfl,hz⟩ := typed_int T.u h2
 rw [u8_min,u8_max] at hx hy hz
 exact ⟨⟨x,y,z⟩,rfl,hx,hy,hz⟩
theorem draft_typed {td tl ta tu : TypeId} (T : DraftT P td tl ta tu) {n : Nat} (cs : List PV) (h : typed P (n + 4) td cs) : ∃ d : Draft,cs = [.int .u8 d.n,.lst 0 (d.arcs.map Arc.c)] ∧ d.ok := by
 obtain ⟨fs,hu,hts⟩ := T.d
 obtain ⟨r0,q0,rfl,h0,r1,q1,rfl,h1,rfl⟩ := typed_struct hu hts h
 obtain ⟨x,rfl,hx⟩ := typed_int T.u h0
 rw [u8_min,u8_max] at hx
 obtain ⟨l,rfl,hl,hok⟩ := slice_dec T.l (arc_typed T (n := n)) h1
 exact ⟨⟨x,l⟩,rfl,hx,hl,hok⟩
end Go.Pv
namespace Go.Pv
variable {P : Program}
def u8sArg {tv ti : TypeId} (hv : P.underlying tv = some (.slice ti)) (hi : P.underlying ti = some (.int .u8)) : Arg P tv (List Int) where
 pv l := .lst 0 (l.map fun x => [.int .u8 x])
 ok l := (∀ x ∈ l,0 ≤ x ∧ x ≤ 255) ∧ l.length ≤ 2 ^ 63 - 1
 dec cs h := by
  obtain ⟨l,rfl,hl,hok⟩ := slice_dec (c := fun x => [PV.int .u8 x]) (ok := fun x : Int => 0 ≤ x ∧ x ≤ 255) hv (fun cs hc => by
   obtain ⟨x,rfl,hx⟩ := typed_int (n := 10) hi hc
   rw [u8_min,u8_max] at hx
   exact ⟨x,rfl,hx⟩) h
  have : isAggT P tv = some false := by simp [isAggT,hv]
  exact ⟨l,⟨hok,hl⟩,by simp [argPV,this]⟩
end Go.Pv
namespace Go.Pv
variable {P : Program}
structure ParT (P : Program) (tp td tl ta tu : TypeId) : Prop where
 d : DraftT P td tl ta tu
 p : ∃ fs,P.underlying tp = some (.struct fs) ∧ fs.toList.map (·.type) = [td,td,tu]
def parArg {tp td tl ta tu : TypeId} (T : ParT P tp td tl ta tu) : Arg P tp (Draft × Draft × Int) where
 pv d := .agg [.int .u8 d.1.n,.lst 0 (d.1.arcs.map Arc.c),.int .u8 d.2.1.n,.lst 0 (d.2.1.arcs.map Arc.c),.int .u8 d.2.2]
 ok d := d.1.ok ∧ d.2.1.ok ∧ 0 ≤ d.2.2 ∧ d.2.2 ≤ 255
 dec cs h := by
  obtain ⟨fs,hu,hts⟩ := T.p
  obtain ⟨r0,q0,rfl,h0,r1,q1,rfl,h1,r2,q2,rfl,h2,rfl⟩ := typed_struct (n := 11) hu hts h
  obtain ⟨a,rfl,ha⟩ := draft_typed (n := 7) T.d _ h0
  obtain ⟨b,rfl,hb⟩ := draft_typed (n := 7) T.d _ h1
  obtain ⟨c,rfl,hc⟩ := typed_int (n := 10) T.d.u h2
  rw [u8_min,u8_max] at hc
  exact ⟨⟨a,b,c⟩,⟨ha,hb,hc⟩,by simp only [argPV,isAgg_struct hu,if_true]; rfl⟩
end Go.Pv
