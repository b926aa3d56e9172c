/-
 What the functions of the law give.
-/
import Derived.Test.YtppmbamefnacaaaGreatDoorC4
namespace Go.Pv
@[go_sem] theorem takev_ro (n t : Nat) (cs : List PV) : takev n (.ro t cs) = (.pv (.ro t cs),[]) := rfl
@[go_sem] theorem takev_nilp (n : Nat) : takev n .nilp = (.pv .nilp,[]) := rfl
theorem spc_perm (a b : Auto) (cap : Int) (out : List Nd) : (spc a b cap out).all PV.perm = true := rfl
variable {a b : Auto} {cap : Int} {s : Cfg} {p : Cfg → Prop} {out : List Nd}
theorem r246 (hp : Sp30 a b cap p) (h0 : p (cfgStart a b)) (ha : a.edges.length ≤ 1000000) (hb : b.edges.length ≤ 1000000) (hs : sysErr a b cap = 0) (hn : nodL (mvC a b cap) 5000 5002 [nod0 (cfgStart a b)] 0 = some out) : res A PrA 246 [.agg [.int .i64 a.states,.int .i64 a.start,.lst 0 (a.edges.map Edge.c),.int .i64 b.states,.int .i64 b.start,.lst 0 (b.edges.map Edge.c),.int .i64 cap]] = some [.ro 0 (spc a b cap out),.int .i64 0] := by
 refine res_of a246 rfl rfl ?_
 simp only [F246]; try delta sS tT zZ nN gG bB pZ
 have h253 := r253 a b cap (cfgStart a b) hp h0 ha hb hs
 rw [hn] at h253
 simp only [cfgStart,ints_nil] at h253
 have hd : decide (sysErr a b cap = 0) = true := decide_eq_true hs
 simp (disch := omega) only [go_sem,hd,h253,spc_perm]
structure SpcR (a b : Auto) (cap : Int) (s : Cfg) (p : Cfg → Prop) (out : List Nd) : Prop extends Spc a b cap s p out where
 sp : Sp30 a b cap p
 len : out.length ≤ 5000
 ea : a.edges.length ≤ 10000
 eb : b.edges.length ≤ 10000
theorem SpcR.rk (h : SpcR a b cap s p out) (t : Nat) : res A PrA 247 [.ro t [.int .i64 a.states,.int .i64 a.start,.lst 0 (a.edges.map Edge.c),.int .i64 b.states,.int .i64 b.start,.lst 0 (b.edges.map Edge.c),.int .i64 cap,.lst 0 (cfgs (out.map Nod.c)),.lst 0 (mvRows (out.map fun x => movesC a b cap x.c.a x.c.b x.c.toA x.c.toB)),.lst 0 (lls (out.map fun x => (sucC a b cap x.c).map (posZ out))),.lst 0 (ints (out.map Nod.bef)),.lst 0 (mvs3 (out.map Nd.mv))]] = some [.lst 0 (ints (rkN a b cap out))] := by
 have hea := h.ea
 have heb := h.eb
 have := r247 t a b cap (out.map Nod.c) (rowsN a b cap out) (.lst 0 (mvRows (out.map fun x => movesC a b cap x.c.a x.c.b x.c.toA x.c.toB))) (.lst 0 (ints (out.map Nod.bef))) (.lst 0 (mvs3 (out.map Nd.mv))) (by rw [rowsN_len,List.length_map]) (by rw [rowsN_len]; exact h.len) h.inR (fun l hl => by
  obtain ⟨x,_,rfl⟩ := List.mem_map.1 hl
  have h1 := mvsOf_len a b cap x.c.a x.c.b x.c.toA x.c.toB 0 x.c.a a.edges
  have h2 := mvsOf_len a b cap x.c.a x.c.b x.c.toA x.c.toB 1 x.c.b b.edges
  rw [List.length_map,sucC,List.length_map,movesC,List.length_append]
  omega) (fun c hc => by
  obtain ⟨x,hx,rfl⟩ := List.mem_map.1 hc
  have := h.sp.ok _ (h.all x hx)
  have h1 := this.2.2.2.2.1
  have h2 := this.2.2.2.2.2
  omega) (by omega) (by omega)
 rw [rowsN_len] at this
 exact this
theorem rkN_len (h : Spc a b cap s p out) : (rkN a b cap out).length = out.length := h.dist.len
theorem r242 (h : SpcR a b cap (cfgStart a b) p out) (h0 : p (cfgStart a b)) (hs : sysErr a b cap = 0) (hn : nodL (mvC a b cap) 5000 5002 [nod0 (cfgStart a b)] 0 = some out) : res A PrA 242 [.agg [.int .i64 a.states,.int .i64 a.start,.lst 0 (a.edges.map Edge.c),.int .i64 b.states,.int .i64 b.start,.lst 0 (b.edges.map Edge.c),.int .i64 cap]] = some [.bool (!decide ((-1 : Int) ∈ rkN a b cap out)),.int .i64 0] := by
 refine res_of a242 rfl rfl ?_
 simp only [F242]; try delta sS tT zZ nN gG bB pZ
 have hea := h.ea
 have heb := h.eb
 have h246 := r246 h.sp h0 (by omega) (by omega) hs hn
 have h247 := h.rk 0
 have hl := rkN_len h.toSpc
 have hle := h.len
 simp only [spc] at h246
 simp (disch := omega) only [go_sem,h246,h247]
end Go.Pv
namespace Go.Pv
end Go.Pv
namespace Go.Pv
variable {a b : Auto} {cap : Int} {s : Cfg} {p : Cfg → Prop} {out : List Nd}
theorem nod_bfs (hn : nodL (mvC a b cap) 5000 5002 [nod0 s] 0 = some out) : bfsL (sucC a b cap) 5000 5002 [s] 0 = some (out.map Nod.c) := by
 have h := nodL_map (mvC a b cap) (lim := 5000) 5002 [nod0 s] 0
 rw [hn,show sucOf (mvC a b cap) = sucC a b cap from funext fun c => mvC_suc a b cap c] at h
 exact h.symm
theorem SpcR.rk2 (h : SpcR a b cap s p out) (t : Nat) : res A PrA 541 [.agg [.int .i64 a.states,.int .i64 a.start,.lst 0 (a.edges.map Edge.c),.int .i64 b.states,.int .i64 b.start,.lst 0 (b.edges.map Edge.c),.int .i64 cap],.lst t (cfgs (out.map Nod.c))] = some [.lst 0 (ints (rkN a b cap out))] := by
 have hea := h.ea
 have heb := h.eb
 have hle := h.len
 have h1 := r541 t a b cap (out.map Nod.c) (fun c hc => by
  obtain ⟨x,hx,rfl⟩ := List.mem_map.1 hc
  exact h.sp.ok _ (h.all x hx)) (by rw [List.length_map]; exact hle) (fun c hc d hd => by
  obtain ⟨x,hx,rfl⟩ := List.mem_map.1 hc
  obtain ⟨i,hi⟩ := mem_get hx
  obtain ⟨j,y,g1,g2,_⟩ := h.closed hi hd
  exact List.mem_map.2 ⟨y,List.mem_of_getElem? g1,g2⟩) (by omega) (by omega)
 rw [← h.rows,List.length_map] at h1
 have h2 := rk_both (rows := rowsN a b cap out) (dn := dnN a b cap out) h.inR (fun x hx => by
  obtain ⟨i,g1,_,rfl⟩ := doneUp_mem.1 hx
  rw [rowsN_len]
  omega)
 rw [rowsN_len] at h2
 unfold dnN at h2
 rw [h2] at h1
 exact h1
end Go.Pv
namespace Go.Pv
variable {a b : Auto} {cap : Int} {s : Cfg} {p : Cfg → Prop} {out : List Nd}
end Go.Pv
namespace Go.Pv
structure Few (a b : Auto) (cap : Int) (p : Cfg → Prop) (U : List Cfg) : Prop where
 sp : Sp30 a b cap p
 len : U.length ≤ 5000
 all : ∀ c,p c → c ∈ U
theorem bfsL_len {α : Type} [DecidableEq α] {succ : α → List α} {lim : Nat} : ∀ {n : Nat} {o o' : List α} {i : Nat},o.length ≤ lim → bfsL succ lim n o i = some o' → o'.length ≤ lim
 | 0,_,_,_,_,h => by cases h
 | n + 1,o,o',i,hl,h => by
  unfold bfsL at h
  split at h
  ·cases h
   exact hl
  ·split at h
   ·cases h
   ·rename_i o2 ha
    exact bfsL_len ((addUs_some ha).2.2.2 hl) h
open Classical in
theorem Few.space {a b : Auto} {cap : Int} {p : Cfg → Prop} {U : List Cfg} (h : Few a b cap p U) {c : Cfg} (hc : p c) : ∃ out,nodL (mvC a b cap) 5000 5002 [nod0 c] 0 = some out ∧ Spc a b cap c p out ∧ out.length ≤ 5000 := by
 have hU : ∀ c,p c → c ∈ U.filter fun c => decide (p c) := fun c hc => List.mem_filter.2 ⟨h.all c hc,by simpa using hc⟩
 have hlen : (U.filter fun c => decide (p c)).length ≤ 5000 := by
  have h1 := List.length_filter_le (fun c => decide (p c)) U
  have h2 := h.len
  omega
 have hs : sucOf (mvC a b cap) = sucC a b cap := funext fun c => mvC_suc a b cap c
 obtain ⟨o,ho⟩ := bfsL_total (succ := sucC a b cap) (s := c) (lim := 5000) (n := 5002) hlen (fun c hc x hx => hU x (h.sp.nx c (by simpa using (List.mem_filter.1 hc).2) x hx)) (bfs0 _ _) (fun x hx => by
  rw [List.mem_singleton.1 hx]
  exact hU _ hc) (Nat.zero_le _) (by omega)
 have hall := (bfsL_spec h.sp.nx (bfs0 (sucC a b cap) c) (fun x hx => by
  rw [List.mem_singleton.1 hx]
  exact hc) ho).2.1
 have hl := bfsL_len (by simp) ho
 rw [← hs] at ho
 obtain ⟨out,h1,h2⟩ := nodL_some ho
 refine ⟨out,h1,⟨nodL_end h1,fun x hx => hall _ ?_⟩,?_⟩
 ·rw [← h2]
  exact List.mem_map.2 ⟨x,hx,rfl⟩
 ·rw [← h2,List.length_map] at hl
  exact hl
theorem few_sm {a b : Auto} {cap : Int} (hs : sysErr a b cap = 0) (hl : ∀ e ∈ a.edges ++ b.edges,e.label ≤ 2) (ha : a.states ≤ 3) (hb : b.states ≤ 3) (hc : cap ≤ 2) : Few a b cap (smC a b cap) cfgU := by
 have hr := smC_runs hs hl
 refine ⟨⟨hr.nx,hr.ok,fun c h => h.1⟩,?_,fun c h => ?_⟩
 ·have h2 : cfgU.length = 441 := by decide +kernel
  omega
 ·obtain ⟨h1,h2,h3⟩ := h
  obtain ⟨_,h4,h5,h6,h7⟩ := fitsB_iff.1 h1
  exact cfgU_mem (by omega) (by omega) (chans_mem h6 h2 hc) (chans_mem h7 h3 hc)
end Go.Pv
namespace Go.Pv
def afterG (a b : Auto) (cap : Int) (c : Cfg) (mv : Mov) : Cfg × Bool := afterC a b cap c.a c.b c.toA c.toB mv
end Go.Pv
namespace Go.Pv
variable {a b : Auto} {cap : Int}
theorem mvC_after {c d : Cfg} {m : Mov} (h : (m,d) ∈ mvC a b cap c) : m ∈ movesC a b cap c.a c.b c.toA c.toB ∧ (afterG a b cap c m).1 = d ∧ (afterG a b cap c m).2 = true := by
 obtain ⟨m',hm,e⟩ := List.mem_map.1 h
 injection e with e1 e2
 subst e1
 exact ⟨hm,e2,(movesC_mem hm).1⟩
variable {s : Cfg} {p : Cfg → Prop} {out : List Nd}
end Go.Pv
namespace Go.Pv
def smallA (m : Int) (x : Arc) : Arc := ⟨x.fr % m,x.act % 4,x.to % m⟩
def smallL (m : Int) (l : List Arc) (k : Nat) : List Arc := (l.take k).map (smallA m)
theorem smallL_len {m : Int} {l : List Arc} {k : Nat} (h : k ≤ l.length) : (smallL m l k).length = k := by rw [smallL,List.length_map,List.length_take]; omega
theorem smallL_succ {m : Int} {l : List Arc} {k : Nat} {x : Arc} (h : l[k]? = some x) : smallL m l (k + 1) = smallL m l k ++ [smallA m x] := by rw [smallL,List.take_add_one,h,List.map_append]; rfl
def smallD (n : Int) (l : List Arc) : Draft := ⟨n % 3,smallL (n % 3 + 1) l 12⟩
def arcs (l : List Arc) : List (List PV) := l.map Arc.c
@[go_sem] theorem arcs_length (l : List Arc) : (arcs l).length = l.length := List.length_map _
@[go_sem] theorem arcs_get (l : List Arc) (i : Nat) : (arcs l)[i]? = l[i]?.map fun x => [.int .u8 x.fr,.int .u8 x.act,.int .u8 x.to] := by simp [arcs]; rfl
theorem arcs_snoc (l : List Arc) (x : Arc) : arcs l ++ [[.int .u8 x.fr,.int .u8 x.act,.int .u8 x.to]] = arcs (l ++ [x]) := by simp [arcs,Arc.c]
set_option maxHeartbeats 4000000 in
theorem r184 (t : Nat) (n : Int) (l : List Arc) (hn : 0 ≤ n ∧ n ≤ 255) (_hl : l.length ≤ 2 ^ 63 - 1) (ho : ∀ x ∈ l,x.ok) : res A PrA 184 [.int .u8 n,.lst t (arcs l)] = some [.agg [.int .u8 (n % 3),.lst 0 (arcs (smallL (n % 3 + 1) l 12))]] := by
 refine res_of a184 rfl rfl ?_
 simp only [F184]; try delta sS tT zZ nN gG bB pZ
 have hm : n.tmod 3 = n % 3 := Int.tmod_eq_emod_of_nonneg hn.1
 have hb := Int.emod_nonneg n (by decide : (3 : Int) ≠ 0)
 have hc := Int.emod_lt_of_pos n (by decide : (0 : Int) < 3)
 simp (disch := omega) only [go_sem]
 generalize n % 3 = s at *
 refine W.upto 12 (fun k => ⟨[(1,.pv (.lst t (arcs l))),(4,.ptr 4 0),(5,.ptr 5 0),(6,.pv (.int .i64 k))],⟨[(4,[.pv (.int .u8 0),.tl []]),(5,[.pv (.int .u8 s),grV 0 (arcs (smallL (s + 1) l k))])],grA 3 (arcs (smallL (s + 1) l k)),[]⟩⟩) (fun k => k ≤ l.length) rfl (Nat.zero_le _) fun k hk hkl => ?_
 simp (disch := omega) only [go_sem]
 have hlen := smallL_len (m := s + 1) hkl
 have hal : (arcs (smallL (s + 1) l k)).length = k := by rw [arcs_length]; exact hlen
 refine Br.ofP (fun c1 => ?_) (fun c1 => ?_) <;> simp (disch := omega) only [go_sem,c1]
 ·refine Br.ofP (fun c2 => ?_) (fun c2 => ?_) <;> simp (disch := omega) only [go_sem,c2]
  ·obtain ⟨x,hx⟩ := get_at (l := l) (k := k) (by omega)
   obtain ⟨⟨o1,o2⟩,⟨o3,o4⟩,o5,o6⟩ := ho x (List.mem_of_getElem? hx)
   have e1 : x.fr.tmod (s + 1) = x.fr % (s + 1) := Int.tmod_eq_emod_of_nonneg o1
   have e2 : x.to.tmod (s + 1) = x.to % (s + 1) := Int.tmod_eq_emod_of_nonneg o5
   have e3 : x.act.tmod 4 = x.act % 4 := Int.tmod_eq_emod_of_nonneg o3
   have f1 := Int.emod_nonneg x.fr (by omega : s + 1 ≠ 0)
   have f2 := Int.emod_lt_of_pos x.fr (by omega : 0 < s + 1)
   have f3 := Int.emod_nonneg x.to (by omega : s + 1 ≠ 0)
   have f4 := Int.emod_lt_of_pos x.to (by omega : 0 < s + 1)
   have f5 := Int.emod_nonneg x.act (by decide : (4 : Int) ≠ 0)
   have f6 := Int.emod_lt_of_pos x.act (by decide : (0 : Int) < 4)
   have hss := smallL_succ (m := s + 1) hx
   simp (disch := omega) only [go_sem,hx]
   refine .of (by omega) ?_ (by omega)
   rw [hss,← arcs_snoc]
   rfl
  ·have h12 : k = 12 := by omega
   rw [h12]
 ·have hkl2 : k = l.length := by omega
  have : smallL (s + 1) l k = smallL (s + 1) l 12 := by
   unfold smallL
   rw [List.take_of_length_le (by omega),List.take_of_length_le (by omega)]
  rw [this]
structure PDr where
 n : Int
 la : List Arc
 l : List Arc
 mirror : Bool
 skip : Int
 cap : Int
def PDr.ok (d : PDr) : Prop := (0 ≤ d.n ∧ d.n ≤ 255) ∧ (0 ≤ d.skip ∧ d.skip ≤ 255) ∧ (0 ≤ d.cap ∧ d.cap ≤ 255) ∧ d.la.length ≤ 2 ^ 63 - 1 ∧ d.l.length ≤ 2 ^ 63 - 1 ∧ (∀ x ∈ d.la,x.ok) ∧ ∀ x ∈ d.l,x.ok
def PDr.sh (d : PDr) (k : Nat) : Int := d.skip.fdiv (2 ^ (min ((k : Int) % 8).toNat IntKind.u8.bits))
def PDr.bit (d : PDr) (k : Nat) : Int := IntKind.u8.wrap (BitVec.ofInt IntKind.u8.bits (d.sh k) &&& BitVec.ofInt IntKind.u8.bits 1).toNat
theorem PDr.shr_val (d : PDr) (k : Nat) : binV .shr (.pv (.int .u8 d.skip)) (.pv (.int .i64 ((k : Int) % 8))) = some (.pv (.int .u8 (d.sh k))) := by
 show (shiftBin .shr .u8 d.skip ((k : Int) % 8)).map V.pv = _
 unfold shiftBin
 rw [if_neg (by omega)]
 rfl
theorem PDr.and_val (d : PDr) (k : Nat) : binV .and (.pv (.int .u8 (d.sh k))) (.pv (.int .u8 1)) = some (.pv (.int .u8 (d.bit k))) := rfl
def PDr.out (d : PDr) (k : Nat) : Bool := decide (d.bit k = 0)
def PDr.fit (d : PDr) : Bool := decide (d.la.length ≤ 12) && decide (d.l.length ≤ 12)
theorem smallD_ok {n : Int} {l : List Arc} (_hn : 0 ≤ n ∧ n ≤ 255) (_ho : ∀ x ∈ l,x.ok) : (smallD n l).ok := by
 have hb := Int.emod_nonneg n (by decide : (3 : Int) ≠ 0)
 have hc := Int.emod_lt_of_pos n (by decide : (0 : Int) < 3)
 refine ⟨⟨hb,by show n % 3 ≤ 255; omega⟩,?_,fun x hx => ?_⟩
 ·show (smallL (n % 3 + 1) l 12).length ≤ _
  rw [smallL,List.length_map,List.length_take]
  omega
 ·obtain ⟨y,_,rfl⟩ := List.mem_map.1 hx
  generalize n % 3 = s at *
  have f1 := Int.emod_nonneg y.fr (by omega : s + 1 ≠ 0)
  have f2 := Int.emod_lt_of_pos y.fr (by omega : 0 < s + 1)
  have f3 := Int.emod_nonneg y.to (by omega : s + 1 ≠ 0)
  have f4 := Int.emod_lt_of_pos y.to (by omega : 0 < s + 1)
  have f5 := Int.emod_nonneg y.act (by decide : (4 : Int) ≠ 0)
  have f6 := Int.emod_lt_of_pos y.act (by decide : (0 : Int) < 4)
  exact ⟨⟨f1,by show y.fr % (s + 1) ≤ 255; omega⟩,⟨f5,by show y.act % 4 ≤ 255; omega⟩,f3,by show y.to % (s + 1) ≤ 255; omega⟩
theorem raw_from {st : Int} : ∀ (l : List Arc) (es : List Edge) (e : Edge),e ∈ l.foldl (fun es x => addE es (x.edge st)) es → e ∈ es ∨ ∃ x ∈ l,e = x.edge st
 | [],_,_,h => .inl h
 | x :: l,es,e,h => by
  rcases raw_from l (addE es (x.edge st)) e h with h | ⟨y,hy,rfl⟩
  ·rcases addE_mem h with h | rfl
   ·exact .inl h
   ·exact .inr ⟨x,List.mem_cons_self ..,rfl⟩
  ·exact .inr ⟨y,List.mem_cons_of_mem _ hy,rfl⟩
theorem smallD_edges {n : Int} {l : List Arc} (_hn : 0 ≤ n) : ∀ e ∈ (smallD n l).auto.edges,(0 ≤ e.fr ∧ e.fr ≤ 2) ∧ (0 ≤ e.to ∧ e.to ≤ 2) ∧ (1 ≤ e.label ∧ e.label ≤ 2) := by
 intro e he
 have he := (sortB_perm Edge.lt (smallD n l).raw).subset he
 have hb := Int.emod_nonneg n (by decide : (3 : Int) ≠ 0)
 have hc := Int.emod_lt_of_pos n (by decide : (0 : Int) < 3)
 have hst : (smallD n l).n = n % 3 := rfl
 rcases raw_from _ _ e he with h | ⟨x,hx,rfl⟩
 ·cases h
 ·have hx := List.mem_of_mem_take hx
  obtain ⟨y,_,rfl⟩ := List.mem_map.1 hx
  rw [hst]
  generalize n % 3 = s at *
  have hs4 : s % 4 = s := Int.emod_eq_of_lt hb (by omega)
  rw [hs4]
  have f1 := Int.emod_nonneg (smallA (s + 1) y).fr (by omega : 1 + s ≠ 0)
  have f2 := Int.emod_lt_of_pos (smallA (s + 1) y).fr (by omega : 0 < 1 + s)
  have f3 := Int.emod_nonneg (smallA (s + 1) y).to (by omega : 1 + s ≠ 0)
  have f4 := Int.emod_lt_of_pos (smallA (s + 1) y).to (by omega : 0 < 1 + s)
  have hl : (((smallA (s + 1) y).edge (1 + s)).label) = 1 + y.act % 4 / 2 % 3 := rfl
  refine ⟨⟨f1,?_⟩,⟨f3,?_⟩,?_⟩
  ·show (smallA (s + 1) y).fr % (1 + s) ≤ 2
   omega
  ·show (smallA (s + 1) y).to % (1 + s) ≤ 2
   omega
  ·rw [hl]
   omega
def mirA (e : Edge) : Arc := ⟨e.fr,if e.send = true then 2 * (e.label - 1) else 2 * (e.label - 1) + 1,e.to⟩
def mirL (out : Nat → Bool) (es : List Edge) : Nat → List Arc
 | 0 => []
 | k + 1 => match es[k]? with
  | none => mirL out es k
  | some e => if out k = true then mirL out es k ++ [mirA e] else mirL out es k
theorem mirL_len (out : Nat → Bool) (es : List Edge) (k : Nat) : (mirL out es k).length ≤ k := by
 induction k with
 | zero => exact Nat.le_refl _
 | succ k ih =>
  unfold mirL
  split
  ·omega
  ·split
   ·rw [List.length_append,List.length_singleton]
    omega
   ·omega
def PDr.mir (d : PDr) : List Arc := mirL d.out (smallD d.n d.la).auto.edges (smallD d.n d.la).auto.edges.length
def PDr.n2 (d : PDr) : Int := if d.mirror = true then d.n else IntKind.u8.wrap (d.n + d.skip)
def PDr.l2 (d : PDr) : List Arc := (if d.mirror = true then d.mir else []) ++ d.l
def PDr.A (d : PDr) : Auto := (smallD d.n d.la).auto
def PDr.B (d : PDr) : Auto := (smallD d.n2 d.l2).auto
theorem mirL_ok {out : Nat → Bool} {es : List Edge} (h : ∀ e ∈ es,(0 ≤ e.fr ∧ e.fr ≤ 2) ∧ (0 ≤ e.to ∧ e.to ≤ 2) ∧ (1 ≤ e.label ∧ e.label ≤ 2)) : ∀ k,∀ x ∈ mirL out es k,x.ok
 | 0,x,hx => by cases hx
 | k + 1,x,hx => by
  unfold mirL at hx
  split at hx
  ·exact mirL_ok h k x hx
  ·rename_i e he
   split at hx
   ·rcases List.mem_append.1 hx with hx | hx
    ·exact mirL_ok h k x hx
    ·rw [List.mem_singleton.1 hx]
     obtain ⟨f1,f2,f3⟩ := h e (List.mem_of_getElem? he)
     refine ⟨⟨f1.1,by show e.fr ≤ 255; omega⟩,?_,f2.1,by show e.to ≤ 255; omega⟩
     show 0 ≤ (if e.send = true then 2 * (e.label - 1) else 2 * (e.label - 1) + 1) ∧ (if e.send = true then 2 * (e.label - 1) else 2 * (e.label - 1) + 1) ≤ 255
     split <;> omega
   ·exact mirL_ok h k x hx
theorem app_nil0 (h : Heap) (rows : List (List PV)) (hr : ∀ r ∈ rows,r.length = 3) (hm : rows.length ≤ 2147483648) : appendV h 3 (.tl []) (.pv (.lst 0 rows)) = some (if rows.length = 0 then (.tl [],{}) else (.own h.ar.length 0 0 rows.length,{ push := [⟨0,3,.inl rows⟩],base := h.ar.length })) := by
 have hf : (rows.all fun x => x.length == 3) = true := by simpa using hr
 by_cases h0 : rows.length = 0
 ·simp [appendV,srcRows,rowsFit,rowsLen,h0,hf]
 ·simp [appendV,srcRows,rowsFit,rowsLen,h0,hf,mostRows,catRows,hm]
theorem app_own0 (h : Heap) (ver len : Nat) (R rows : List (List PV)) (ho : ownArr h 0 ver = some ⟨ver,3,.inl R⟩) (hl : len = R.length) (hr : ∀ r ∈ rows,r.length = 3) (hm : len + rows.length ≤ 2147483648) : appendV h 3 (.own 0 ver 0 len) (.pv (.lst 0 rows)) = some (if rows.length = 0 then (.own 0 ver 0 len,{ ra2 := some 0 }) else (.own 0 (ver + 1) 0 (len + rows.length),{ ar := some (0,⟨ver + 1,3,.inl (R ++ rows)⟩) })) := by
 have hf : (rows.all fun x => x.length == 3) = true := by simpa using hr
 subst hl
 by_cases h0 : rows.length = 0
 ·simp [appendV,srcRows,rowsFit,rowsLen,h0,hf,ho]
 ·simp [appendV,srcRows,rowsFit,rowsLen,h0,hf,ho,mostRows,catRows,cutRows,hm,Arr.size]
theorem arcs_rows (l : List Arc) : ∀ r ∈ arcs l,r.length = 3 := by
 intro r hr
 obtain ⟨x,_,rfl⟩ := List.mem_map.1 hr
 rfl
theorem wrap_u8_in (x : Int) : 0 ≤ IntKind.wrap .u8 x ∧ IntKind.wrap .u8 x ≤ 255 := by
 have h : IntKind.wrap .u8 x = x % 256 := rfl
 rw [h]
 omega
set_option maxHeartbeats 4000000 in
theorem r164 (d : PDr) (hd : d.ok) : res A PrA 164 [.agg [.int .u8 d.n,.lst 0 (arcs d.la),.lst 0 (arcs d.l),.bool d.mirror,.int .u8 d.skip,.int .u8 d.cap]] = some (if d.fit = true then [.agg [.int .i64 (1 + d.n % 3 % 4),.int .i64 0,.lst 0 (edgs d.A.edges),.int .i64 (1 + d.n2 % 3 % 4),.int .i64 0,.lst 0 (edgs d.B.edges),.int .i64 (1 + d.cap % 2)],.bool true] else [.agg [.int .i64 0,.int .i64 0,.lst 0 [],.int .i64 0,.int .i64 0,.lst 0 [],.int .i64 0],.bool false]) := by
 refine res_of a164 rfl rfl ?_
 simp only [F164]; try delta sS tT zZ nN gG bB pZ
 obtain ⟨h1,h2,h3,h4,h5,h6,h7⟩ := hd
 have e1 := r184 0 d.n d.la h1 h4 h6
 have e2 := r25 0 _ (smallD_ok h1 h6)
 have e3 : (smallD d.n d.la).arcs.map Arc.c = arcs (smallL (d.n % 3 + 1) d.la 12) := rfl
 have e4 : (smallD d.n d.la).n = d.n % 3 := rfl
 rw [e3,e4] at e2
 simp (disch := omega) only [go_sem]
 refine Br.ofP (fun c1 => ?_) (fun c1 => ?_) <;> simp (disch := omega) only [go_sem,c1]
 ·have hf : d.fit = false := by
   have : ¬ d.la.length ≤ 12 := by omega
   simp [PDr.fit,this]
  rw [hf,if_neg (by decide)]
 ·refine Br.ofP (fun c2 => ?_) (fun c2 => ?_) <;> simp (disch := omega) only [go_sem,c2,e1,e2]
  ·have hf : d.fit = false := by
    have : ¬ d.l.length ≤ 12 := by omega
    simp [PDr.fit,this]
   rw [hf,if_neg (by decide)]
  have hf : d.fit = true := by
   have g1 : d.la.length ≤ 12 := by omega
   have g2 : d.l.length ≤ 12 := by omega
   simp [PDr.fit,g1,g2]
  rw [hf,if_pos rfl]
  have hcm : d.cap.tmod 2 = d.cap % 2 := Int.tmod_eq_emod_of_nonneg h3.1
  have hc1 := Int.emod_nonneg d.cap (by decide : (2 : Int) ≠ 0)
  have hc2 := Int.emod_lt_of_pos d.cap (by decide : (0 : Int) < 2)
  have hll : (arcs d.l).length = d.l.length := arcs_length _
  have hn2 : 0 ≤ d.n2 ∧ d.n2 ≤ 255 := by
   unfold PDr.n2
   split
   ·exact h1
   ·exact wrap_u8_in _
  have hml0 := mirL_len d.out (smallD d.n d.la).auto.edges (smallD d.n d.la).auto.edges.length
  have hlen := Draft.len (smallD_ok h1 h6)
  have hl2 : ∀ x ∈ d.l2,x.ok := fun x hx => by
   rcases List.mem_append.1 hx with hx | hx
   ·split at hx
    ·exact mirL_ok (smallD_edges h1.1) _ x hx
    ·cases hx
   ·exact h7 x hx
  have hl2n : d.l2.length ≤ 1000 := by
   unfold PDr.l2
   rw [List.length_append]
   split
   ·unfold PDr.mir
    omega
   ·simp
    omega
  have e5 := fun t => r184 t d.n2 d.l2 hn2 (by omega) hl2
  have e6 := r25 0 _ (smallD_ok hn2 hl2)
  have e7 : (smallD d.n2 d.l2).arcs.map Arc.c = arcs (smallL (d.n2 % 3 + 1) d.l2 12) := rfl
  have e8 : (smallD d.n2 d.l2).n = d.n2 % 3 := rfl
  rw [e7,e8] at e6
  have eB : (smallD d.n2 d.l2).auto.edges = d.B.edges := rfl
  have eA : (smallD d.n d.la).auto.edges = d.A.edges := rfl
  rw [eB] at e6
  clear e7 eB
  generalize smallL (d.n2 % 3 + 1) d.l2 12 = SL at e5 e6
  refine Br.of (fun c3 => ?_) (fun c3 => ?_) <;> simp (disch := omega) only [go_sem,c3]
  ·have hgood := (Draft.good (smallD_ok h1 h6) (s := 0) (by have := (smallD d.n d.la).st; omega)).fit
   have hfit : ∀ e ∈ (smallD d.n d.la).auto.edges,(0 ≤ e.fr ∧ e.fr ≤ 2) ∧ (0 ≤ e.to ∧ e.to ≤ 2) ∧ (1 ≤ e.label ∧ e.label ≤ 2) := smallD_edges h1.1
   have hm2 : d.l2 = mirL d.out (smallD d.n d.la).auto.edges (smallD d.n d.la).auto.edges.length ++ d.l := by unfold PDr.l2; rw [if_pos c3]; rfl
   have hnn : d.n2 = d.n := if_pos c3
   rw [hm2,hnn] at e5
   rw [hnn] at e6
   rw [← eA]
   clear eA
   generalize (smallD d.n d.la).auto.edges = es at *
   refine W.upto es.length (fun k => ⟨[(1,.ptr 1 0),(2,.ptr 2 0),(4,.ptr 4 0),(6,.pv (.int .u8 d.n)),(7,grV 0 (arcs (mirL d.out es k))),(8,.pv (.int .i64 k))],⟨[(1,[.pv (.int .u8 d.n),.pv (.lst 0 (arcs d.la)),.pv (.lst 0 (arcs d.l)),.pv (.bool true),.pv (.int .u8 d.skip),.pv (.int .u8 d.cap)]),(2,[.pv (.int .i64 0),.pv (.int .i64 0),.tl [],.pv (.int .i64 0),.pv (.int .i64 0),.tl [],.pv (.int .i64 0)]),(4,[.pv (.int .i64 (1 + d.n % 3 % 4)),.pv (.int .i64 0),.pv (.lst 0 (edgs es))])],grA 3 (arcs (mirL d.out es k)),[]⟩⟩) (fun _ => True) rfl trivial fun k hk _ => ?_
   have hml := mirL_len d.out es k
   have hal : (arcs (mirL d.out es k)).length = (mirL d.out es k).length := arcs_length _
   simp (disch := omega) only [go_sem]
   refine Br.ofP (fun c4 => ?_) (fun c4 => ?_) <;> simp (disch := omega) only [go_sem,c4]
   ·obtain ⟨e,he⟩ := get_at (l := es) (k := k) (by omega)
    obtain ⟨⟨f1,f2⟩,⟨f3,f4⟩,f5,f6⟩ := hfit e (List.mem_of_getElem? he)
    have hmk : mirL d.out es (k + 1) = if d.out k = true then mirL d.out es k ++ [mirA e] else mirL d.out es k := by
     rw [mirL,he]
    obtain ⟨fr,send,label,to⟩ := e
    dsimp only at f1 f2 f3 f4 f5 f6
    cases send
    all_goals
     have hsv := d.shr_val k
     have hav := d.and_val k
     have hout : d.out k = decide (d.bit k = 0) := rfl
     simp (disch := omega) only [go_sem,he,hsv,hav]
     refine Br.ofP (fun c5 => ?_) (fun c5 => ?_)
     ·rw [hout,decide_eq_true c5,if_pos rfl] at hmk
      simp (disch := omega) only [go_sem]
      refine .of (by omega) ?_ trivial
      rw [hmk,← arcs_snoc]
      rfl
     ·rw [hout,decide_eq_false c5,if_neg (by decide)] at hmk
      simp (disch := omega) only [go_sem]
      refine .of (by omega) ?_ trivial
      rw [hmk]
      rfl
   ·have hkk : k = es.length := by omega
    subst hkk
    rw [hnn]
    generalize hmm : mirL d.out es es.length = mm at *
    cases mm with
    | nil =>
     have hg1 : grV 0 (arcs []) = .tl [] := rfl
     have hg2 : grA 3 (arcs []) = [] := rfl
     rw [hg1,hg2]
     have hcat : arcs ([] ++ d.l) = arcs d.l := rfl
     rw [hcat] at e5
     have happ := fun h => app_nil0 h (arcs d.l) (arcs_rows d.l) (by omega)
     by_cases hd0 : (arcs d.l).length = 0
     ·rw [List.eq_nil_of_length_eq_zero hd0] at e5 happ ⊢
      simp only [List.length_nil,if_true] at happ
      simp (disch := omega) only [go_sem,happ,e5,e6]
     ·simp only [if_neg hd0] at happ
      have htk : ∀ n,(arcs d.l).length ≤ n → (arcs d.l).take n = arcs d.l := fun n h => List.take_of_length_le h
      simp (disch := omega) only [go_sem,happ,htk,e5,e6]
    | cons x q =>
     have hg0 : (arcs (x :: q)).length = q.length + 1 := by rw [arcs_length,List.length_cons]
     have hg1 : grV 0 (arcs (x :: q)) = .own 0 q.length 0 (q.length + 1) := by
      show V.own 0 (arcs q).length 0 ((arcs q).length + 1) = _
      rw [arcs_length]
     have hg2 : grA 3 (arcs (x :: q)) = [⟨q.length,3,.inl (arcs (x :: q))⟩] := by
      show [(⟨(arcs q).length,3,.inl (arcs (x :: q))⟩ : Arr)] = _
      rw [arcs_length]
     rw [hg1,hg2]
     have hcat : arcs (x :: q ++ d.l) = arcs (x :: q) ++ arcs d.l := List.map_append
     rw [hcat] at e5
     have hql : q.length + 1 ≤ 12 := by
      have := mirL_len d.out es es.length
      rw [hmm,List.length_cons] at this
      omega
     have happ := fun h ho => app_own0 h q.length (q.length + 1) (arcs (x :: q)) (arcs d.l) ho hg0.symm (arcs_rows d.l) (by omega)
     by_cases hd0 : (arcs d.l).length = 0
     ·rw [List.eq_nil_of_length_eq_zero hd0,List.append_nil] at e5
      rw [List.eq_nil_of_length_eq_zero hd0] at happ ⊢
      simp only [List.length_nil,if_true] at happ
      generalize arcs (x :: q) = R at *
      rw [happ _ (by simp [ownArr])]
      have htk : ∀ n,R.length ≤ n → R.take n = R := fun n h => List.take_of_length_le h
      simp (disch := omega) only [go_sem,htk,e5,e6]
     ·simp only [if_neg hd0] at happ
      generalize arcs (x :: q) = R at *
      rw [happ _ (by simp [ownArr])]
      have htk : ∀ n,(R ++ arcs d.l).length ≤ n → (R ++ arcs d.l).take n = R ++ arcs d.l := fun n h => List.take_of_length_le h
      have hRl : (R ++ arcs d.l).length = R.length + (arcs d.l).length := List.length_append
      simp (disch := omega) only [go_sem,htk,e5,e6]
  ·have hm2 : d.l2 = d.l := by unfold PDr.l2; rw [if_neg (by simp [c3])]; rfl
   have hnn : d.n2 = IntKind.u8.wrap (d.n + d.skip) := if_neg (by simp [c3])
   rw [hm2,hnn] at e5
   rw [hnn] at e6 ⊢
   rw [← eA]
   have happ := fun h => app_nil0 h (arcs d.l) (arcs_rows d.l) (by omega)
   by_cases hd0 : (arcs d.l).length = 0
   ·rw [List.eq_nil_of_length_eq_zero hd0] at e5 happ ⊢
    simp only [List.length_nil,if_true] at happ
    simp (disch := omega) only [go_sem,happ,e5,e6]
   ·simp only [if_neg hd0] at happ
    have htk : ∀ n,(arcs d.l).length ≤ n → (arcs d.l).take n = arcs d.l := fun n h => List.take_of_length_le h
    simp (disch := omega) only [go_sem,happ,htk,e5,e6]
end Go.Pv
namespace Go.Pv
def PDr.c2 (d : PDr) : Int := 1 + d.cap % 2
theorem PDr.l2_ok {d : PDr} (hd : d.ok) : ∀ x ∈ d.l2,x.ok := fun x hx => by
 obtain ⟨h1,h2,h3,h4,h5,h6,h7⟩ := hd
 rcases List.mem_append.1 hx with hx | hx
 ·split at hx
  ·exact mirL_ok (smallD_edges h1.1) _ x hx
  ·cases hx
 ·exact h7 x hx
theorem PDr.n2_in {d : PDr} (hd : d.ok) : 0 ≤ d.n2 ∧ d.n2 ≤ 255 := by
 unfold PDr.n2
 split
 ·exact hd.1
 ·exact wrap_u8_in _
theorem PDr.sys {d : PDr} (hd : d.ok) : sysErr d.A d.B d.c2 = 0 ∧ (∀ e ∈ d.A.edges ++ d.B.edges,e.label ≤ 2) ∧ d.A.states ≤ 3 ∧ d.B.states ≤ 3 ∧ d.c2 ≤ 2 ∧ d.A.edges.length ≤ 12 ∧ d.B.edges.length ≤ 12 := by
 have hA := smallD_ok hd.1 hd.2.2.2.2.2.1
 have hB := smallD_ok (PDr.n2_in hd) (PDr.l2_ok hd)
 have gA : d.A.Good := Draft.good hA (s := 0) (by have := (smallD d.n d.la).st; omega)
 have gB : d.B.Good := Draft.good hB (s := 0) (by have := (smallD d.n2 d.l2).st; omega)
 have hb := Int.emod_nonneg d.cap (by decide : (2 : Int) ≠ 0)
 have hc := Int.emod_lt_of_pos d.cap (by decide : (0 : Int) < 2)
 refine ⟨?_,fun e he => ?_,?_,?_,by unfold PDr.c2; omega,Draft.len hA,Draft.len hB⟩
 ·unfold sysErr
  have e1 : d.A.err = 0 := Auto.good_iff.2 gA
  have e2 : d.B.err = 0 := Auto.good_iff.2 gB
  rw [if_neg (by simp [e1]),if_neg (by simp [e2]),if_neg (by unfold PDr.c2; omega)]
 ·rcases List.mem_append.1 he with he | he
  ·exact (smallD_edges hd.1.1 e he).2.2.2
  ·exact (smallD_edges (PDr.n2_in hd).1 e he).2.2.2
 ·show 1 + d.n % 3 % 4 ≤ 3
  omega
 ·show 1 + d.n2 % 3 % 4 ≤ 3
  omega
end Go.Pv
namespace Go.Pv
variable {a b : Auto} {cap : Int} {s : Cfg} {p : Cfg → Prop} {out : List Nd}
end Go.Pv
namespace Go.Pv
variable {a b : Auto} {cap : Int} {s : Cfg} {p : Cfg → Prop} {out : List Nd}
end Go.Pv
namespace Go.Pv
variable {a b : Auto} {cap : Int} {s : Cfg} {p : Cfg → Prop} {out : List Nd} {U : List Cfg}
end Go.Pv
namespace Go.Pv
def ckR (L : List (Cfg × Int)) : List (List PV) := L.map fun w => [.int .i64 w.1.a,.int .i64 w.1.b,.lst 0 (ints w.1.toA),.lst 0 (ints w.1.toB),.int .i64 w.2]
@[go_sem] theorem ckR_len (L : List (Cfg × Int)) : (ckR L).length = L.length := List.length_map _
@[go_sem] theorem ckR_get (L : List (Cfg × Int)) (k : Nat) : (ckR L)[k]? = L[k]?.map fun w => [.int .i64 w.1.a,.int .i64 w.1.b,.lst 0 (ints w.1.toA),.lst 0 (ints w.1.toB),.int .i64 w.2] := List.getElem?_map
variable {a b : Auto} {cap : Int} {s : Cfg} {p : Cfg → Prop} {out : List Nd} {U : List Cfg}
def certN (a b : Auto) (cap : Int) (out : List Nd) : List (Cfg × Int) := (List.range out.length).map fun k => (((out.map Nod.c)[k]?).getD cfg0,(rkN a b cap out).getD k (-1))
theorem certN_len : (certN a b cap out).length = out.length := by simp [certN]
theorem certN_get {k : Nat} {x : Nd} (hx : out[k]? = some x) : (certN a b cap out)[k]? = some (x.c,(rkN a b cap out).getD k (-1)) := by
 have hk := (List.getElem?_eq_some_iff.1 hx).1
 unfold certN
 rw [List.getElem?_map,List.getElem?_range hk,Option.map_some,List.getElem?_map,hx]
 rfl
theorem certN_take {k : Nat} {x : Nd} (hx : out[k]? = some x) : ckR ((certN a b cap out).take (k + 1)) = ckR ((certN a b cap out).take k) ++ [[.int .i64 x.c.a,.int .i64 x.c.b,.lst 0 (ints x.c.toA),.lst 0 (ints x.c.toB),.int .i64 ((rkN a b cap out).getD k (-1))]] := by
 rw [List.take_add_one,certN_get hx]
 simp [ckR]
theorem rk_in (hl : (rkN a b cap out).length = out.length) (hall : ∀ i,i < out.length → 0 ≤ (rkN a b cap out).getD i (-1)) : decide ((-1 : Int) ∈ rkN a b cap out) = false := by
 refine decide_eq_false fun hm => ?_
 obtain ⟨j,hj⟩ := List.getElem?_of_mem hm
 have hjl := (List.getElem?_eq_some_iff.1 hj).1
 have h1 := hall j (by omega)
 rw [List.getD_eq_getElem?_getD,hj] at h1
 exact absurd h1 (by decide)
theorem rk_out (h : Spc a b cap s p out) {k : Nat} (hk : k < out.length) (hneg : (rkN a b cap out).getD k (-1) < 0) : decide ((-1 : Int) ∈ rkN a b cap out) = true := by
 have hl := h.dist.len
 have hkl : k < (rkN a b cap out).length := by omega
 have hlo := h.dist.low k hk
 have e : (rkN a b cap out).getD k (-1) = (rkN a b cap out)[k] := by simp [hkl]
 have : (rkN a b cap out)[k] = -1 := by omega
 exact decide_eq_true (this ▸ List.getElem_mem hkl)
def proveR (a b : Auto) (cap : Int) (out : List Nd) (x y : PV) : List PV := if decide ((-1 : Int) ∈ rkN a b cap out) = true then [.lst 0 [],x] else [.lst 0 (ckR (certN a b cap out)),y]
set_option maxHeartbeats 4000000 in
theorem r236 (h : SpcR a b cap (cfgStart a b) p out) (h0 : p (cfgStart a b)) (hs : sysErr a b cap = 0) (hn : nodL (mvC a b cap) 5000 5002 [nod0 (cfgStart a b)] 0 = some out) : res A PrA 236 [.agg [.int .i64 a.states,.int .i64 a.start,.lst 0 (a.edges.map Edge.c),.int .i64 b.states,.int .i64 b.start,.lst 0 (b.edges.map Edge.c),.int .i64 cap]] = some (proveR a b cap out (.int .i64 18) (.int .i64 0)) := by
 refine res_of a236 rfl rfl ?_
 simp only [F236]; try delta sS tT zZ nN gG bB pZ
 have hea := h.ea
 have heb := h.eb
 have h246 := r246 h.sp h0 (by omega) (by omega) hs hn
 have h247 := h.rk 0
 have hl := rkN_len h.toSpc
 have hle := h.len
 simp only [spc] at h246
 simp (disch := omega) only [go_sem,h246,h247,hl]
 refine W.upto out.length (fun k => ⟨[(4,.pv (.ro 0 [.int .i64 a.states,.int .i64 a.start,.lst 0 (a.edges.map Edge.c),.int .i64 b.states,.int .i64 b.start,.lst 0 (b.edges.map Edge.c),.int .i64 cap,.lst 0 (cfgs (out.map Nod.c)),.lst 0 (mvRows (out.map fun x => movesC a b cap x.c.a x.c.b x.c.toA x.c.toB)),.lst 0 (lls (out.map fun x => (sucC a b cap x.c).map (posZ out))),.lst 0 (ints (out.map Nod.bef)),.lst 0 (mvs3 (out.map Nd.mv))])),(6,grV 0 (ckR ((certN a b cap out).take k))),(18,.pv (.lst 0 (ints (rkN a b cap out)))),(19,.pv (.int .i64 out.length)),(20,.pv (.int .i64 k))],⟨[],grA 5 (ckR ((certN a b cap out).take k)),[]⟩⟩) (fun k => ∀ i,i < k → 0 ≤ (rkN a b cap out).getD i (-1)) rfl (fun i hi => absurd hi (by omega)) fun k hk hi => ?_
 simp (disch := omega) only [go_sem]
 have hcl : (certN a b cap out).length = out.length := certN_len
 refine Br.ofP (fun c1 => ?_) (fun c1 => ?_)
 ·obtain ⟨x,hx⟩ := get_at (l := out) (k := k) (by omega)
  have hgk : (rkN a b cap out)[k]? = some ((rkN a b cap out).getD k (-1)) := by
   have : k < (rkN a b cap out).length := by omega
   simp [this]
  have htk := certN_take (a := a) (b := b) (cap := cap) hx
  have hcg : (cfgs (out.map Nod.c))[k]? = some [.int .i64 x.c.a,.int .i64 x.c.b,.lst 0 (ints x.c.toA),.lst 0 (ints x.c.toB)] := by rw [cfgs_get,List.getElem?_map,hx]; rfl
  have hcr : (out.map Nod.c).length = out.length := List.length_map _
  have htl : ((certN a b cap out).take k).length ≤ 5000 := by rw [List.length_take]; omega
  have hgr := grow0 [] [] 5 (ckR ((certN a b cap out).take k)) [.int .i64 x.c.a,.int .i64 x.c.b,.lst 0 (ints x.c.toA),.lst 0 (ints x.c.toB),.int .i64 ((rkN a b cap out).getD k (-1))] rfl (by rw [ckR_len]; omega)
  simp (disch := omega) only [go_sem,hgk]
  refine Br.ofP (fun c2 => ?_) (fun c2 => ?_)
  ·simp (disch := omega) only [go_sem]
   unfold proveR
   rw [rk_out h.toSpc (k := k) (by omega) (by omega),if_pos rfl]
  ·simp (disch := omega) only [go_sem,hcg,hgr]
   refine .of (by omega) ?_ fun i hik => ?_
   ·rw [htk]
    rfl
   ·rcases Nat.lt_or_ge i k with hh | hh
    ·exact hi i hh
    ·have : i = k := by omega
     subst this
     omega
 ·have hkk : k = out.length := by omega
  subst hkk
  have hta : (certN a b cap out).take out.length = certN a b cap out := List.take_of_length_le (by omega)
  rw [hta]
  simp (disch := omega) only [go_sem]
  unfold proveR
  rw [rk_in hl hi]
  rfl
set_option maxHeartbeats 4000000 in
theorem r535 (hr : Runs29 a b cap p) (h : SpcR a b cap (cfgStart a b) p out) (hn : nodL (mvC a b cap) 5000 5002 [nod0 (cfgStart a b)] 0 = some out) : res A PrA 535 [.agg [.int .i64 a.states,.int .i64 a.start,.lst 0 (a.edges.map Edge.c),.int .i64 b.states,.int .i64 b.start,.lst 0 (b.edges.map Edge.c),.int .i64 cap]] = some (proveR a b cap out (.bool false) (.bool true)) := by
 refine res_of a535 rfl rfl ?_
 simp only [F535]; try delta sS tT zZ nN gG bB pZ
 have hea := h.ea
 have heb := h.eb
 have hl := rkN_len h.toSpc
 have hle := h.len
 have h167 := r167 a b cap hr (by omega) (by omega) (nod_bfs hn)
 have h541 := fun t => h.rk2 t
 simp (disch := omega) only [go_sem,h167,h541]
 refine W.upto out.length (fun k => ⟨[(4,.pv (.lst 0 (cfgs (out.map Nod.c)))),(5,.pv (.lst 0 (ints (rkN a b cap out)))),(6,grV 0 (ckR ((certN a b cap out).take k))),(7,.pv (.int .i64 k))],⟨[],grA 5 (ckR ((certN a b cap out).take k)),[]⟩⟩) (fun k => ∀ i,i < k → 0 ≤ (rkN a b cap out).getD i (-1)) rfl (fun i hi => absurd hi (by omega)) fun k hk hi => ?_
 have hcr0 : (out.map Nod.c).length = out.length := List.length_map _
 simp (disch := omega) only [go_sem,hcr0]
 have hcl : (certN a b cap out).length = out.length := certN_len
 refine Br.ofP (fun c1 => ?_) (fun c1 => ?_)
 ·obtain ⟨x,hx⟩ := get_at (l := out) (k := k) (by omega)
  have hgk : (rkN a b cap out)[k]? = some ((rkN a b cap out).getD k (-1)) := by
   have : k < (rkN a b cap out).length := by omega
   simp [this]
  have htk := certN_take (a := a) (b := b) (cap := cap) hx
  have hcg : (cfgs (out.map Nod.c))[k]? = some [.int .i64 x.c.a,.int .i64 x.c.b,.lst 0 (ints x.c.toA),.lst 0 (ints x.c.toB)] := by rw [cfgs_get,List.getElem?_map,hx]; rfl
  have hcr : (out.map Nod.c).length = out.length := List.length_map _
  have htl : ((certN a b cap out).take k).length ≤ 5000 := by rw [List.length_take]; omega
  have hgr := grow0 [] [] 5 (ckR ((certN a b cap out).take k)) [.int .i64 x.c.a,.int .i64 x.c.b,.lst 0 (ints x.c.toA),.lst 0 (ints x.c.toB),.int .i64 ((rkN a b cap out).getD k (-1))] rfl (by rw [ckR_len]; omega)
  simp (disch := omega) only [go_sem,hgk]
  refine Br.ofP (fun c2 => ?_) (fun c2 => ?_)
  ·simp (disch := omega) only [go_sem]
   unfold proveR
   rw [rk_out h.toSpc (k := k) (by omega) (by omega),if_pos rfl]
  ·simp (disch := omega) only [go_sem,hcg,hgk,hgr]
   refine .of (by omega) ?_ fun i hik => ?_
   ·rw [htk]
    rfl
   ·rcases Nat.lt_or_ge i k with hh | hh
    ·exact hi i hh
    ·have : i = k := by omega
     subst this
     omega
 ·have hkk : k = out.length := by omega
  subst hkk
  have hta : (certN a b cap out).take out.length = certN a b cap out := List.take_of_length_le (by omega)
  rw [hta]
  simp (disch := omega) only [go_sem]
  unfold proveR
  rw [rk_in hl hi]
  rfl
set_option maxHeartbeats 4000000 in
theorem r536 (t u : Nat) (L : List (Cfg × Int)) (hL : L.length ≤ 100000) (hok : ∀ w ∈ L,w.1.ok) : res A PrA 536 [.lst t (ckR L),.lst u (ckR L)] = some [.bool true] := by
 refine res_of a536 rfl rfl ?_
 simp only [F536]; try delta sS tT zZ nN gG bB pZ
 simp (disch := omega) only [go_sem]
 refine W.upto L.length (fun k => ⟨[(0,.pv (.lst t (ckR L))),(1,.pv (.lst u (ckR L))),(5,.pv (.int .i64 k))],⟨[],[],[]⟩⟩) (fun _ => True) rfl trivial fun k hk _ => ?_
 simp (disch := omega) only [go_sem]
 refine Br.ofP (fun c1 => ?_) (fun c1 => ?_)
 ·obtain ⟨w,hw⟩ := get_at (l := L) (k := k) (by omega)
  obtain ⟨_,_,_,_,h1,h2⟩ := hok w (List.mem_of_getElem? hw)
  have h154 := r154 0 0 0 0 w.1.a w.1.b w.1.a w.1.b w.1.toA w.1.toB w.1.toA w.1.toB (by omega) (by omega) (by omega) (by omega)
  rw [decide_eq_true rfl] at h154
  have hne : decide (w.2 = w.2) = true := decide_eq_true rfl
  have hcg : (ckR L)[k]? = some [.int .i64 w.1.a,.int .i64 w.1.b,.lst 0 (ints w.1.toA),.lst 0 (ints w.1.toB),.int .i64 w.2] := by rw [ckR_get,hw]; rfl
  simp (disch := omega) only [go_sem,hw,Option.map_some,h154]
  exact .of (by omega) rfl trivial
 ·simp (disch := omega) only [go_sem]
end Go.Pv
namespace Go.Pv
variable {a b : Auto} {cap : Int} {s : Cfg} {p : Cfg → Prop} {out : List Nd} {U : List Cfg}
def valM (f : Nat → Int) (l : List ByteArray) : List (PV × PV) := l.zipIdx.map fun p => (.str p.1,.int .i64 (f p.2))
theorem findKey_val (f : Nat → Int) (x : ByteArray) : ∀ (l : List ByteArray) (k i : Nat),findKey false [2] (.str x) ((l.zipIdx k).map fun (p : ByteArray × Nat) => (PV.str p.1,PV.int .i64 (f p.2))) i = some ((l.findIdx? fun s => decide (s = x)).map fun j => (j + i,.int .i64 (f (j + k))))
 | [],k,i => by
  show (if (keyEq false [2] (.str x) (.str x)).isSome then some none else none) = _
  rw [keyEq_str]
  rfl
 | y :: l,k,i => by
  show (match keyEq false [2] (.str x) (.str y) with
   | some true => some (some (i,PV.int .i64 (f k)))
   | some false => findKey false [2] (.str x) ((l.zipIdx (k + 1)).map fun (p : ByteArray × Nat) => (PV.str p.1,PV.int .i64 (f p.2))) (i + 1)
   | none => none) = _
  rw [keyEq_str]
  by_cases h : x = y
  ·subst h
   simp [List.findIdx?_cons]
  ·have h' : ¬ y = x := fun e => h e.symm
   simp only [h,decide_false]
   rw [findKey_val f x l (k + 1) (i + 1)]
   simp only [List.findIdx?_cons,h',decide_false]
   cases l.findIdx? fun s => decide (s = x) with
   | none => rfl
   | some j =>
    have e1 : j + (i + 1) = j + 1 + i := by omega
    have e2 : j + (k + 1) = j + 1 + k := by omega
    simp [e1,e2]
theorem find_valM (f : Nat → Int) (x : ByteArray) (l : List ByteArray) : findKey false [2] (.str x) (valM f l) 0 = some ((l.findIdx? fun s => decide (s = x)).map fun j => (j,.int .i64 (f j))) := by
 have := findKey_val f x l 0 0
 simpa [valM] using this
theorem upd_valM (f : Nat → Int) (x : ByteArray) (l : List ByteArray) (z : Int) (id : Nat) (hz : z = f l.length) (h : (l.findIdx? fun s => decide (s = x)) = none) : updM false [2] (.str x) (.int .i64 z) id (valM f l) = some { mp := some (id,valM f (l ++ [x])) } := by
 unfold updM
 rw [find_valM,h,hz]
 simp [valM,List.zipIdx_append]
theorem Spc.key (h : Spc a b cap s p out) (hok : ∀ x ∈ out,x.c.ok) {j : Nat} {y : Nd} (hy : out[j]? = some y) {c : Cfg} (hc : y.c = c) : ((keysN out).findIdx? fun s => decide (s = c.keyB)) = some j := by
 subst hc
 rw [idx_dec hok (hok y (List.mem_of_getElem? hy))]
 exact pos_at h.fnd.nd hy
theorem Spc.key_new (h : Spc a b cap s p out) (hok : ∀ x ∈ out,x.c.ok) {k : Nat} {x : Nd} (hx : out[k]? = some x) : ((keysN (out.take k)).findIdx? fun s => decide (s = x.c.keyB)) = none := by
 rw [List.findIdx?_eq_none_iff]
 intro t ht
 obtain ⟨y,hy,rfl⟩ := List.mem_map.1 ht
 refine decide_eq_false fun e => ?_
 have hyo := List.mem_of_mem_take hy
 have hc := keyB_inj (hok y hyo) (hok x (List.mem_of_getElem? hx)) e
 obtain ⟨i,hi⟩ := List.getElem?_of_mem hy
 have hik : i < k := by
  have := (List.getElem?_eq_some_iff.1 hi).1
  rw [List.length_take] at this
  omega
 rw [List.getElem?_take,if_pos hik] at hi
 have := h.fnd.same hi hx hc
 omega
set_option maxHeartbeats 4000000 in
theorem r243 (h : SpcR a b cap (cfgStart a b) p out) (hs : sysErr a b cap = 0) (hall : ∀ i,i < out.length → 0 ≤ (rkN a b cap out).getD i (-1)) : res A PrA 243 [.agg [.int .i64 a.states,.int .i64 a.start,.lst 0 (a.edges.map Edge.c),.int .i64 b.states,.int .i64 b.start,.lst 0 (b.edges.map Edge.c),.int .i64 cap],.lst 0 (ckR (certN a b cap out))] = some [.bool true] := by
 refine res_of a243 rfl rfl ?_
 simp only [F243]; try delta sS tT zZ nN gG bB pZ
 have hea := h.ea
 have heb := h.eb
 have hl := rkN_len h.toSpc
 have hle := h.len
 have hd : decide (sysErr a b cap = 0) = true := decide_eq_true hs
 have hok : ∀ x ∈ out,x.c.ok := fun x hx => h.sp.ok _ (h.all x hx)
 have hcl : (certN a b cap out).length = out.length := certN_len
 simp (disch := omega) only [go_sem,hd,hcl]
 obtain ⟨f,hf⟩ : ∃ f : Nat → Int,f = fun i => (rkN a b cap out).getD i (-1) := ⟨_,rfl⟩
 refine W.upto out.length (fun k => ⟨[(1,.pv (.lst 0 (ckR (certN a b cap out)))),(2,.ptr 2 0),(5,.map 0),(28,.pv (.lst 0 (ckR (certN a b cap out)))),(29,.pv (.int .i64 out.length)),(30,.pv (.int .i64 k))],⟨[(2,[.pv (.int .i64 a.states),.pv (.int .i64 a.start),.pv (.lst 0 (a.edges.map Edge.c)),.pv (.int .i64 b.states),.pv (.int .i64 b.start),.pv (.lst 0 (b.edges.map Edge.c)),.pv (.int .i64 cap)])],[],[valM f (keysN (out.take k))]⟩⟩) (fun _ => True) rfl trivial fun k hk _ => ?_
 simp (disch := omega) only [go_sem]
 refine Br.ofP (fun c1 => ?_) (fun c1 => ?_)
 ·obtain ⟨x,hx⟩ := get_at (l := out) (k := k) (by omega)
  have hcg := certN_get (a := a) (b := b) (cap := cap) hx
  have hxk := hok x (List.mem_of_getElem? hx)
  have hkey := r251 0 0 x.c.a x.c.b x.c.toA x.c.toB hxk
  have hnew : ((keysN (out.take k)).findIdx? fun s => decide (s = keyBS x.c.a x.c.b x.c.toA x.c.toB)) = none := h.toSpc.key_new hok hx
  have hfz : (rkN a b cap out).getD k (-1) = f (keysN (out.take k)).length := by
   rw [hf]
   have : (keysN (out.take k)).length = k := by unfold keysN; rw [List.length_map,List.length_take]; omega
   rw [this]
  have hupd := upd_valM f (keyBS x.c.a x.c.b x.c.toA x.c.toB) (keysN (out.take k)) ((rkN a b cap out).getD k (-1)) 0 hfz hnew
  obtain ⟨_,_,_,_,hxa,hxb⟩ := hxk
  have h157 := r157 0 0 a b cap 0 0 x.c.a x.c.b x.c.toA x.c.toB (by omega) (by omega) (by omega) (by omega)
  rw [h.sp.fit _ (h.all x (List.mem_of_getElem? hx))] at h157
  simp (disch := omega) only [go_sem,hcg,Option.map_some,hkey,find_valM,hnew,Option.map_none,foundT_none,h157,hupd]
  refine .of (by omega) ?_ trivial
  have hsn : keysN (out.take (k + 1)) = keysN (out.take k) ++ [keyBS x.c.a x.c.b x.c.toA x.c.toB] := by
   unfold keysN
   rw [List.take_add_one,hx]
   simp [Cfg.keyB]
  rw [hsn]
  rfl
 ·have hkk : k = out.length := by omega
  subst hkk
  have hta : out.take out.length = out := List.take_length
  rw [hta]
  have hkey0 := r251 0 0 a.start b.start [] [] (hok _ (List.mem_of_getElem? h.fnd.first))
  simp only [ints_nil] at hkey0
  have hk0 : ((keysN out).findIdx? fun s => decide (s = keyBS a.start b.start [] [])) = some 0 := h.toSpc.key hok h.fnd.first rfl
  simp (disch := omega) only [go_sem,hkey0,find_valM,hk0,Option.map_some,foundT_some,hcl]
  refine W.upto out.length (fun k => ⟨[(2,.ptr 2 0),(5,.map 0),(66,.pv (.lst 0 (ckR (certN a b cap out)))),(67,.pv (.int .i64 out.length)),(68,.pv (.int .i64 k))],⟨[(2,[.pv (.int .i64 a.states),.pv (.int .i64 a.start),.pv (.lst 0 (a.edges.map Edge.c)),.pv (.int .i64 b.states),.pv (.int .i64 b.start),.pv (.lst 0 (b.edges.map Edge.c)),.pv (.int .i64 cap)])],[],[valM f (keysN out)]⟩⟩) (fun _ => True) rfl trivial fun k hk _ => ?_
  simp (disch := omega) only [go_sem]
  refine Br.ofP (fun c2 => ?_) (fun c2 => ?_)
  ·obtain ⟨x,hx⟩ := get_at (l := out) (k := k) (by omega)
   have hxm := List.mem_of_getElem? hx
   have hcg := certN_get (a := a) (b := b) (cap := cap) hx
   obtain ⟨_,_,_,_,hxa,hxb⟩ := hok x hxm
   have hfit := h.sp.fit _ (h.all x hxm)
   have hchk : chkE a b cap x.c.a x.c.b x.c.toA x.c.toB = 0 := by
    unfold chkE
    rw [if_neg (by simp [hs]),if_pos hfit]
   have h171 := r171 a b cap x.c.a x.c.b x.c.toA x.c.toB (by omega) (by omega) (by omega) (by omega)
   rw [if_pos hchk] at h171
   have h174 := fun mv => r174 a b cap x.c.a x.c.b x.c.toA x.c.toB mv (by omega) (by omega) (by omega) (by omega)
   have h159 := r159 0 0 a b cap 0 0 x.c.a x.c.b x.c.toA x.c.toB (by omega) (by omega) (by omega) (by omega)
   have hml : (movesC a b cap x.c.a x.c.b x.c.toA x.c.toB).length ≤ 2000000 := by
    have h1 := mvsOf_len a b cap x.c.a x.c.b x.c.toA x.c.toB 0 x.c.a a.edges
    have h2 := mvsOf_len a b cap x.c.a x.c.b x.c.toA x.c.toB 1 x.c.b b.edges
    rw [movesC,List.length_append]
    omega
   have hfk : (rkN a b cap out).getD k (-1) = f k := by rw [hf]
   rw [hfk] at hcg
   obtain ⟨g,hg⟩ : ∃ g : Mov → Bool,g = fun mv => decide (f ((out.findIdx? fun y => decide (y.c = (afterC a b cap x.c.a x.c.b x.c.toA x.c.toB mv).1)).getD 0) < f k) := ⟨_,rfl⟩
   simp (disch := omega) only [go_sem,hcg,Option.map_some,h171]
   have hmvs : ∀ mv ∈ movesC a b cap x.c.a x.c.b x.c.toA x.c.toB,∃ (z : Nat) (y : Nd),out[z]? = some y ∧ y.c = (afterC a b cap x.c.a x.c.b x.c.toA x.c.toB mv).1 ∧ (afterC a b cap x.c.a x.c.b x.c.toA x.c.toB mv).2 = true ∧ g mv = decide (f z < f k) := fun mv hmv => by
    obtain ⟨z,y,z1,z2,_⟩ := h.closed hx (List.mem_map.2 ⟨mv,hmv,rfl⟩)
    refine ⟨z,y,z1,z2,(movesC_mem hmv).1,?_⟩
    rw [hg]
    dsimp only
    rw [← z2,pos_at h.fnd.nd z1]
    rfl
   have hless : (movesC a b cap x.c.a x.c.b x.c.toA x.c.toB).any g = true ∨ f k = 0 := by
    rcases Int.lt_or_le 0 (f k) with h0 | h0
    ·left
     have hkl : k < out.length := by omega
     obtain ⟨u,u1,u2,u3,u4⟩ := h.dist.back (k : Int) (by omega) (by omega) (by rw [Int.toNat_natCast,hfk]; exact h0)
     obtain ⟨z,y,m,rfl,hy,hm⟩ := h.ed_inv hx u1
     rw [Int.toNat_natCast,Int.toNat_natCast] at u4
     obtain ⟨m1,m2,_⟩ := mvC_after hm
     refine List.any_eq_true.2 ⟨m,m1,?_⟩
     rw [hg]
     have e : (afterC a b cap x.c.a x.c.b x.c.toA x.c.toB m).1 = y.c := m2
     dsimp only
     rw [e,pos_at h.fnd.nd hy]
     refine decide_eq_true ?_
     rw [hf]
     dsimp only [Option.getD_some]
     omega
    ·right
     have := hall k (by omega)
     rw [hfk] at this
     omega
   generalize hms : movesC a b cap x.c.a x.c.b x.c.toA x.c.toB = ms at *
   refine W.upto ms.length (fun j => ⟨[(2,.ptr 2 0),(5,.map 0),(14,.ptr 14 0),(17,.pv (.bool ((ms.take j).any g))),(66,.pv (.lst 0 (ckR (certN a b cap out)))),(67,.pv (.int .i64 out.length)),(68,.pv (.int .i64 k)),(81,.pv (.lst 0 (mvs3 ms))),(82,.pv (.int .i64 ms.length)),(83,.pv (.int .i64 j))],⟨[(2,[.pv (.int .i64 a.states),.pv (.int .i64 a.start),.pv (.lst 0 (a.edges.map Edge.c)),.pv (.int .i64 b.states),.pv (.int .i64 b.start),.pv (.lst 0 (b.edges.map Edge.c)),.pv (.int .i64 cap)]),(14,[.pv (.int .i64 x.c.a),.pv (.int .i64 x.c.b),.pv (.lst 0 (ints x.c.toA)),.pv (.lst 0 (ints x.c.toB)),.pv (.int .i64 (f k))])],[],[valM f (keysN out)]⟩⟩) (fun _ => True) rfl trivial fun j hj _ => ?_
   simp (disch := omega) only [go_sem]
   refine Br.ofP (fun c3 => ?_) (fun c3 => ?_)
   ·obtain ⟨mv,hmv⟩ := get_at (l := ms) (k := j) (by omega)
    obtain ⟨z,y,z1,z2,z3,z4⟩ := hmvs mv (List.mem_of_getElem? hmv)
    have h174 := h174 mv
    unfold applyC at h174
    rw [if_pos hchk,if_pos z3,← z2] at h174
    have hyo := hok y (List.mem_of_getElem? z1)
    have hkey := r251 0 0 y.c.a y.c.b y.c.toA y.c.toB hyo
    have hkz : ((keysN out).findIdx? fun s => decide (s = keyBS y.c.a y.c.b y.c.toA y.c.toB)) = some z := h.toSpc.key hok z1 rfl
    have htk : (ms.take (j + 1)).any g = ((ms.take j).any g || decide (f z < f k)) := by rw [List.take_add_one,hmv]; simp [z4]
    cases hB : (ms.take j).any g with
    | true =>
     rw [hB,Bool.true_or] at htk
     simp (disch := omega) only [go_sem,hmv,h174,hkey,find_valM,hkz,Option.map_some,foundT_some]
     refine .of (by omega) ?_ trivial
     rw [htk]
     rfl
    | false =>
     rw [hB,Bool.false_or] at htk
     simp (disch := omega) only [go_sem,hmv,h174,hkey,find_valM,hkz,Option.map_some,foundT_some]
     refine .of (by omega) ?_ trivial
     rw [htk]
     rfl
   ·have hjm : j = ms.length := by omega
    subst hjm
    rw [List.take_length]
    have hf0 := hall k (by omega)
    rw [hfk] at hf0
    by_cases hz : f k = 0
    ·have hdn : doneB a b cap x.c.a x.c.b x.c.toA x.c.toB = true := (dnN_mem hx).1 ((h.dist.zero (k : Int) (by omega) (by omega)).1 (by rw [Int.toNat_natCast,hfk]; exact hz))
     rw [hdn] at h159
     have e1 : decide (f k = 0) = true := decide_eq_true hz
     simp (disch := omega) only [go_sem,e1,h159]
     exact .of (by omega) rfl trivial
    ·have hany : ms.any g = true := hless.resolve_right hz
     have e1 : decide (f k = 0) = false := decide_eq_false hz
     have e2 : decide (0 < f k) = true := decide_eq_true (by omega)
     simp (disch := omega) only [go_sem,e1,e2,hany]
     exact .of (by omega) rfl trivial
  ·simp (disch := omega) only [go_sem]
end Go.Pv
namespace Go.Pv
variable {a b : Auto} {cap : Int} {s : Cfg} {p : Cfg → Prop} {out : List Nd} {U : List Cfg}
theorem rk_all (h : Spc a b cap s p out) (hm : decide ((-1 : Int) ∈ rkN a b cap out) = false) : ∀ i,i < out.length → 0 ≤ (rkN a b cap out).getD i (-1) := fun i hi => by
 rcases Int.lt_or_le ((rkN a b cap out).getD i (-1)) 0 with h0 | h0
 ·rw [rk_out h hi h0] at hm
  cases hm
 ·exact h0
set_option maxHeartbeats 4000000 in
theorem r529 (r235 : res A PrA 235 [] = some [.bool true]) (d : PDr) (hd : d.ok) : res A PrA 529 [.agg [.int .u8 d.n,.lst 0 (arcs d.la),.lst 0 (arcs d.l),.bool d.mirror,.int .u8 d.skip,.int .u8 d.cap]] = some [.bool true] := by
 refine res_of a529 rfl rfl ?_
 simp only [F529]; try delta sS tT zZ nN gG bB pZ
 have h164 := r164 d hd
 obtain ⟨s1,s2,s3,s4,s5,s6,s7⟩ := PDr.sys hd
 have hF := few_sm s1 s2 s3 s4 s5
 have hruns := smC_runs s1 s2
 have hst : smC d.A d.B d.c2 (cfgStart d.A d.B) := hruns.st
 obtain ⟨out,ho,hS,hlo⟩ := hF.space hst
 have hR : SpcR d.A d.B d.c2 (cfgStart d.A d.B) (smC d.A d.B d.c2) out := ⟨hS,hF.sp,hlo,by omega,by omega⟩
 have h242 := r242 hR hst s1 ho
 have h236 := r236 hR hst s1 ho
 have h535 := r535 hruns hR ho
 cases hf : d.fit with
 | false =>
  rw [hf,if_neg (by decide)] at h164
  simp (disch := omega) only [go_sem,h164,r235]
 | true =>
  rw [hf,if_pos rfl] at h164
  have q1 : 1 + d.n % 3 % 4 = d.A.states := rfl
  have q2 : 1 + d.n2 % 3 % 4 = d.B.states := rfl
  have q3 : 1 + d.cap % 2 = d.c2 := rfl
  have q4 : d.A.start = 0 := rfl
  have q5 : d.B.start = 0 := rfl
  have q6 : d.A.edges.map Edge.c = edgs d.A.edges := rfl
  have q7 : d.B.edges.map Edge.c = edgs d.B.edges := rfl
  rw [q1,q2,q3] at h164
  cases hm : decide ((-1 : Int) ∈ rkN d.A d.B d.c2 out) with
  | true =>
   unfold proveR at h236 h535
   rw [hm,if_pos rfl] at h236 h535
   rw [hm] at h242
   simp only [q4,q5,q6,q7,Bool.not_true] at h236 h535 h242
   have hz0 : decide (((0 : Nat) : Int) = 0) = true := rfl
   simp (disch := omega) only [go_sem,h164,r235,h242,h236,h535,hz0]
  | false =>
   unfold proveR at h236 h535
   rw [hm,if_neg (by decide)] at h236 h535
   rw [hm] at h242
   have h243 := r243 hR s1 (rk_all hS hm)
   have h536 := r536 0 0 (certN d.A d.B d.c2 out) (by rw [certN_len]; omega) (fun w hw => by
    obtain ⟨k,hk⟩ := List.getElem?_of_mem hw
    have hkl := (List.getElem?_eq_some_iff.1 hk).1
    rw [certN_len] at hkl
    obtain ⟨x,hx⟩ := get_at (l := out) (k := k) hkl
    rw [certN_get hx] at hk
    cases hk
    exact hF.sp.ok _ (hS.all x (List.mem_of_getElem? hx)))
   simp only [q4,q5,q6,q7,Bool.not_false] at h236 h535 h242 h243
   simp (disch := omega) only [go_sem,h164,r235,h242,h236,h535,h243,h536]
end Go.Pv
namespace Go.Pv
theorem r235 : res A PrA 235 [] = some [.bool true] := res_some.2 ⟨3000,by kernel_rfl⟩
end Go.Pv
namespace Go.Pv
variable {P : Program}
theorem slice_dec {α : Type} {c : α → List PV} {ok : α → Prop} {n : Nat} {t el : TypeId} {cs : List PV} (hu : P.underlying t = some (.slice el)) (he : ∀ cs,typed P n el cs → ∃ x,cs = c x ∧ ok x) (h : typed P (n + 1) t cs) : ∃ l : List α,cs = [.lst 0 (l.map c)] ∧ l.length ≤ 2 ^ 63 - 1 ∧ ∀ x ∈ l,ok x := by
 obtain ⟨rows,rfl,hl,hr⟩ := typed_slice hu h
 obtain ⟨l,rfl⟩ := rows_map (c := fun x : {x : α // ok x} => c x.1) (rows := rows) (fun r hr' => by
  obtain ⟨x,rfl,hx⟩ := he r (hr r hr')
  exact ⟨⟨x,hx⟩,rfl⟩)
 refine ⟨l.map (·.1),by simp [],by simpa [maxLen] using hl,fun x hx => ?_⟩
 obtain ⟨y,_,rfl⟩ := List.mem_map.1 hx
 exact y.2
theorem u8_min : IntKind.min .u8 = 0 := by decide
theorem u8_max : IntKind.max .u8 = 255 := by decide
structure DraftT (P : Program) (td tl ta tu : TypeId) : Prop where
 d : ∃ fs,P.underlying td = some (.struct fs) ∧ fs.toList.map (·.type) = [tu,tl]
 l : P.underlying tl = some (.slice ta)
 a : ∃ fs,P.underlying ta = some (.struct fs) ∧ fs.toList.map (·.type) = [tu,tu,tu]
 u : P.underlying tu = some (.int .u8)
theorem arc_typed {td tl ta tu : TypeId} (T : DraftT P td tl ta tu) {n : Nat} (cs : List PV) (h : typed P (n + 2) ta cs) : ∃ x : Arc,cs = x.c ∧ x.ok := by
 obtain ⟨fs,hu,hts⟩ := T.a
 obtain ⟨r0,q0,rfl,h0,r1,q1,rfl,h1,r2,q2,rfl,h2,rfl⟩ := typed_struct hu hts h
 obtain ⟨x,rfl,hx⟩ := typed_int T.u h0
 obtain ⟨y,rfl,hy⟩ := typed_int T.u h1
 obtain ⟨z,rfl,hz⟩ := typed_int T.u h2
 rw [u8_min,u8_max] at hx hy hz
 exact ⟨⟨x,y,z⟩,rfl,hx,hy,hz⟩
theorem draft_typed {td tl ta tu : TypeId} (T : DraftT P td tl ta tu) {n : Nat} (cs : List PV) (h : typed P (n + 4) td cs) : ∃ d : Draft,cs = [.int .u8 d.n,.lst 0 (d.arcs.map Arc.c)] ∧ d.ok := by
 obtain ⟨fs,hu,hts⟩ := T.d
 obtain ⟨r0,q0,rfl,h0,r1,q1,rfl,h1,rfl⟩ := typed_struct hu hts h
 obtain ⟨x,rfl,hx⟩ := typed_int T.u h0
 rw [u8_min,u8_max] at hx
 obtain ⟨l,rfl,hl,hok⟩ := slice_dec T.l (arc_typed T (n := n)) h1
 exact ⟨⟨x,l⟩,rfl,hx,hl,hok⟩
end Go.Pv
namespace Go.Pv
variable {P : Program}
structure SysT (P : Program) (ts tc tl tm ta te le li ti tb : TypeId) : Prop where
 s : ∃ fs,P.underlying ts = some (.struct fs) ∧ fs.toList.map (·.type) = [ta,ta,ti]
 c : ∃ fs,P.underlying tc = some (.struct fs) ∧ fs.toList.map (·.type) = [ti,ti,li,li]
 l : P.underlying tl = some (.slice tm)
 m : ∃ fs,P.underlying tm = some (.struct fs) ∧ fs.toList.map (·.type) = [ti,tb,ti]
 a : ∃ fs,P.underlying ta = some (.struct fs) ∧ fs.toList.map (·.type) = [ti,ti,le]
 le : P.underlying le = some (.slice te)
 e : ∃ fs,P.underlying te = some (.struct fs) ∧ fs.toList.map (·.type) = [ti,tb,ti,ti]
 li : P.underlying li = some (.slice ti)
 i : P.underlying ti = some (.int .i64)
 b : P.underlying tb = some .bool
variable {ts tc tl tm ta te le li ti tb : TypeId}
theorem sedge_typed (T : SysT P ts tc tl tm ta te le li ti tb) {n : Nat} (cs : List PV) (h : typed P (n + 2) te cs) : ∃ x : Edge,cs = x.c ∧ True := by
 obtain ⟨fs,hu,hts⟩ := T.e
 obtain ⟨r0,q0,rfl,h0,r1,q1,rfl,h1,r2,q2,rfl,h2,r3,q3,rfl,h3,rfl⟩ := typed_struct hu hts h
 obtain ⟨x,rfl,_⟩ := typed_int T.i h0
 obtain ⟨y,rfl⟩ := typed_bool T.b h1
 obtain ⟨z,rfl,_⟩ := typed_int T.i h2
 obtain ⟨u,rfl,_⟩ := typed_int T.i h3
 exact ⟨⟨x,y,z,u⟩,rfl,trivial⟩
theorem mov_typed (T : SysT P ts tc tl tm ta te le li ti tb) {n : Nat} (cs : List PV) (h : typed P (n + 2) tm cs) : ∃ x : Mov,cs = x.c ∧ True := by
 obtain ⟨fs,hu,hts⟩ := T.m
 obtain ⟨r0,q0,rfl,h0,r1,q1,rfl,h1,r2,q2,rfl,h2,rfl⟩ := typed_struct hu hts h
 obtain ⟨x,rfl,_⟩ := typed_int T.i h0
 obtain ⟨y,rfl⟩ := typed_bool T.b h1
 obtain ⟨z,rfl,_⟩ := typed_int T.i h2
 exact ⟨⟨x,y,z⟩,rfl,trivial⟩
theorem aut_typed (T : SysT P ts tc tl tm ta te le li ti tb) {n : Nat} (cs : List PV) (h : typed P (n + 4) ta cs) : ∃ a : Auto,cs = [.int .i64 a.states,.int .i64 a.start,.lst 0 (a.edges.map Edge.c)] ∧ a.edges.length ≤ 2 ^ 63 - 1 := by
 obtain ⟨fs,hu,hts⟩ := T.a
 obtain ⟨r0,q0,rfl,h0,r1,q1,rfl,h1,r2,q2,rfl,h2,rfl⟩ := typed_struct hu hts h
 obtain ⟨x,rfl,_⟩ := typed_int T.i h0
 obtain ⟨y,rfl,_⟩ := typed_int T.i h1
 obtain ⟨l,rfl,hl,_⟩ := slice_dec T.le (sedge_typed T (n := n)) h2
 exact ⟨⟨x,y,l⟩,rfl,hl⟩
theorem ints_typed (T : SysT P ts tc tl tm ta te le li ti tb) {n : Nat} (cs : List PV) (h : typed P (n + 2) li cs) : ∃ l : List Int,cs = [.lst 0 (ints l)] ∧ l.length ≤ 2 ^ 63 - 1 := by
 obtain ⟨l,rfl,hl,_⟩ := slice_dec (c := fun x => [PV.int .i64 x]) (ok := fun _ => True) T.li (fun cs hc => by
  obtain ⟨x,rfl,_⟩ := typed_int (n := n) T.i hc
  exact ⟨x,rfl,trivial⟩) h
 exact ⟨l,rfl,hl⟩
def sysArg (T : SysT P ts tc tl tm ta te le li ti tb) : Arg P ts (Auto × Auto × Int) where
 pv x := .agg [.int .i64 x.1.states,.int .i64 x.1.start,.lst 0 (x.1.edges.map Edge.c),.int .i64 x.2.1.states,.int .i64 x.2.1.start,.lst 0 (x.2.1.edges.map Edge.c),.int .i64 x.2.2]
 ok x := x.1.edges.length ≤ 2 ^ 63 - 1 ∧ x.2.1.edges.length ≤ 2 ^ 63 - 1
 dec cs h := by
  obtain ⟨fs,hu,hts⟩ := T.s
  obtain ⟨r0,q0,rfl,h0,r1,q1,rfl,h1,r2,q2,rfl,h2,rfl⟩ := typed_struct (n := 11) hu hts h
  obtain ⟨a,rfl,ha⟩ := aut_typed T (n := 7) _ h0
  obtain ⟨b,rfl,hb⟩ := aut_typed T (n := 7) _ h1
  obtain ⟨c,rfl,_⟩ := typed_int (n := 10) T.i h2
  exact ⟨⟨a,b,c⟩,⟨ha,hb⟩,by simp only [argPV,isAgg_struct hu,if_true]; rfl⟩
def cfgArg (T : SysT P ts tc tl tm ta te le li ti tb) : Arg P tc Cfg where
 pv x := .agg [.int .i64 x.a,.int .i64 x.b,.lst 0 (ints x.toA),.lst 0 (ints x.toB)]
 ok x := x.toA.length ≤ 2 ^ 63 - 1 ∧ x.toB.length ≤ 2 ^ 63 - 1
 dec cs h := by
  obtain ⟨fs,hu,hts⟩ := T.c
  obtain ⟨r0,q0,rfl,h0,r1,q1,rfl,h1,r2,q2,rfl,h2,r3,q3,rfl,h3,rfl⟩ := typed_struct (n := 11) hu hts h
  obtain ⟨a,rfl,_⟩ := typed_int (n := 10) T.i h0
  obtain ⟨b,rfl,_⟩ := typed_int (n := 10) T.i h1
  obtain ⟨l,rfl,hl⟩ := ints_typed T (n := 9) _ h2
  obtain ⟨m,rfl,hm⟩ := ints_typed T (n := 9) _ h3
  exact ⟨⟨a,b,l,m⟩,⟨hl,hm⟩,by simp only [argPV,isAgg_struct hu,if_true]; rfl⟩
def movArg (T : SysT P ts tc tl tm ta te le li ti tb) : Arg P tm Mov where
 pv x := .agg [.int .i64 x.party,.bool x.send,.int .i64 x.label]
 ok _ := True
 dec cs h := by
  obtain ⟨x,rfl,_⟩ := mov_typed T (n := 10) _ h
  obtain ⟨fs,hu,_⟩ := T.m
  exact ⟨x,trivial,by simp only [argPV,isAgg_struct hu,if_true]; rfl⟩
def mvsArg (T : SysT P ts tc tl tm ta te le li ti tb) : Arg P tl (List Mov) where
 pv l := .lst 0 (l.map Mov.c)
 ok l := l.length ≤ 2 ^ 63 - 1
 dec cs h := by
  obtain ⟨l,rfl,hl,_⟩ := slice_dec T.l (mov_typed T (n := 9)) h
  have : isAggT P tl = some false := by simp [isAggT,T.l]
  exact ⟨l,hl,by simp [argPV,this]⟩
end Go.Pv
namespace Go.Pv
variable {P : Program}
structure PDrT (P : Program) (tp td tl ta tu tb : TypeId) : Prop where
 d : DraftT P td tl ta tu
 p : ∃ fs,P.underlying tp = some (.struct fs) ∧ fs.toList.map (·.type) = [td,tl,tb,tu,tu]
 b : P.underlying tb = some .bool
def pdrArg {tp td tl ta tu tb : TypeId} (T : PDrT P tp td tl ta tu tb) : Arg P tp PDr where
 pv d := .agg [.int .u8 d.n,.lst 0 (arcs d.la),.lst 0 (arcs d.l),.bool d.mirror,.int .u8 d.skip,.int .u8 d.cap]
 ok := PDr.ok
 dec cs h := by
  obtain ⟨fs,hu,hts⟩ := T.p
  obtain ⟨r0,q0,rfl,h0,r1,q1,rfl,h1,r2,q2,rfl,h2,r3,q3,rfl,h3,r4,q4,rfl,h4,rfl⟩ := typed_struct (n := 11) hu hts h
  obtain ⟨a,rfl,ha⟩ := draft_typed (n := 7) T.d _ h0
  obtain ⟨l,rfl,hl,hok⟩ := slice_dec T.d.l (arc_typed T.d (n := 8)) h1
  obtain ⟨m,rfl⟩ := typed_bool (n := 10) T.b h2
  obtain ⟨s,rfl,hs⟩ := typed_int (n := 10) T.d.u h3
  obtain ⟨c,rfl,hc⟩ := typed_int (n := 10) T.d.u h4
  rw [u8_min,u8_max] at hs hc
  exact ⟨⟨a.n,a.arcs,l,m,s,c⟩,⟨ha.1,hs,hc,ha.2.1,hl,ha.2.2,hok⟩,by simp only [argPV,isAgg_struct hu,if_true]; rfl⟩
end Go.Pv
