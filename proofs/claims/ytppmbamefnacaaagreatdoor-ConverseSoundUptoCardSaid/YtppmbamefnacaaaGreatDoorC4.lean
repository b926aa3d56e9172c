/-
 What the functions of the law give.
-/
import Derived.Test.YtppmbamefnacaaaGreatDoorC3
namespace Go.Pv
def PDr.c2 (d : PDr) : Int := 1 + d.cap % 2
theorem PDr.l2_ok {d : PDr} (hd : d.ok) : ∀ x ∈ d.l2,x.ok := fun x hx => by
 obtain ⟨h1,h2,h3,h4,h5,h6,h7⟩ := hd
 rcases List.mem_append.1 hx with hx | hx
 ·split at hx
  ·exact mirL_ok (smallD_edges h1.1) _ x hx
  ·cases hx
 ·exact h7 x hx
theorem PDr.n2_in {d : PDr} (hd : d.ok) : 0 ≤ d.n2 ∧ d.n2 ≤ 255 := by
 unfold PDr.n2
 split
 ·exact hd.1
 ·exact wrap_u8_in _
theorem PDr.sys {d : PDr} (hd : d.ok) : sysErr d.A d.B d.c2 = 0 ∧ (∀ e ∈ d.A.edges ++ d.B.edges,e.label ≤ 2) ∧ d.A.states ≤ 3 ∧ d.B.states ≤ 3 ∧ d.c2 ≤ 2 ∧ d.A.edges.length ≤ 12 ∧ d.B.edges.length ≤ 12 := by
 have hA := smallD_ok hd.1 hd.2.2.2.2.2.1
 have hB := smallD_ok (PDr.n2_in hd) (PDr.l2_ok hd)
 have gA : d.A.Good := Draft.good hA (s := 0) (by have := (smallD d.n d.la).st; omega)
 have gB : d.B.Good := Draft.good hB (s := 0) (by have := (smallD d.n2 d.l2).st; omega)
 have hb := Int.emod_nonneg d.cap (by decide : (2 : Int) ≠ 0)
 have hc := Int.emod_lt_of_pos d.cap (by decide : (0 : Int) < 2)
 refine ⟨?_,fun e he => ?_,?_,?_,by unfold PDr.c2; omega,Draft.len hA,Draft.len hB⟩
 ·unfold sysErr
  have e1 : d.A.err = 0 := Auto.good_iff.2 gA
  have e2 : d.B.err = 0 := Auto.good_iff.2 gB
  rw [if_neg (by simp [e1]),if_neg (by simp [e2]),if_neg (by unfold PDr.c2; omega)]
 ·rcases List.mem_append.1 he with he | he
  ·exact (smallD_edges hd.1.1 e he).2.2.2
  ·exact (smallD_edges (PDr.n2_in hd).1 e he).2.2.2
 ·show 1 + d.n % 3 % 4 ≤ 3
  omega
 ·show 1 + d.n2 % 3 % 4 ≤ 3
  omega
end Go.Pv
namespace Go.Pv
variable {a b : Auto} {cap : Int} {s : Cfg} {p : Cfg → Prop} {out : List Nd}
end Go.Pv
namespace Go.Pv
variable {a b : Auto} {cap : Int} {s : Cfg} {p : Cfg → Prop} {out : List Nd}
end Go.Pv
namespace Go.Pv
variable {a b : Auto} {cap : Int} {s : Cfg} {p : Cfg → Prop} {out : List Nd} {U : List Cfg}
end Go.Pv
namespace Go.Pv
def ckR (L : List (Cfg × Int)) : List (List PV) := L.map fun w => [.int .i64 w.1.a,.int .i64 w.1.b,.lst 0 (ints w.1.toA),.lst 0 (ints w.1.toB),.int .i64 w.2]
@[go_sem] theorem ckR_len (L : List (Cfg × Int)) : (ckR L).length = L.length := List.length_map _
@[go_sem] theorem ckR_get (L : List (Cfg × Int)) (k : Nat) : (ckR L)[k]? = L[k]?.map fun w => [.int .i64 w.1.a,.int .i64 w.1.b,.lst 0 (ints w.1.toA),.lst 0 (ints w.1.toB),.int .i64 w.2] := List.getElem?_map
variable {a b : Auto} {cap : Int} {s : Cfg} {p : Cfg → Prop} {out : List Nd} {U : List Cfg}
theorem rk_in (hl : (rkN a b cap out).length = out.length) (hall : ∀ i,i < out.length → 0 ≤ (rkN a b cap out).getD i (-1)) : decide ((-1 : Int) ∈ rkN a b cap out) = false := by
 refine decide_eq_false fun hm => ?_
 obtain ⟨j,hj⟩ := List.getElem?_of_mem hm
 have hjl := (List.getElem?_eq_some_iff.1 hj).1
 have h1 := hall j (by omega)
 rw [List.getD_eq_getElem?_getD,hj] at h1
 exact absurd h1 (by decide)
theorem rk_out (h : Spc a b cap s p out) {k : Nat} (hk : k < out.length) (hneg : (rkN a b cap out).getD k (-1) < 0) : decide ((-1 : Int) ∈ rkN a b cap out) = true := by
 have hl := h.dist.len
 have hkl : k < (rkN a b cap out).length := by omega
 have hlo := h.dist.low k hk
 have e : (rkN a b cap out).getD k (-1) = (rkN a b cap out)[k] := by simp [hkl]
 have : (rkN a b cap out)[k] = -1 := by omega
 exact decide_eq_true (this ▸ List.getElem_mem hkl)
end Go.Pv
namespace Go.Pv
variable {a b : Auto} {cap : Int} {s : Cfg} {p : Cfg → Prop} {out : List Nd} {U : List Cfg}
set_option maxHeartbeats 4000000 in
theorem r534 (hr : Runs29 a b cap p) (h : SpcR a b cap (cfgStart a b) p out) (hn : nodL (mvC a b cap) 5000 5002 [nod0 (cfgStart a b)] 0 = some out) : res A PrA 534 [.agg [.int .i64 a.states,.int .i64 a.start,.lst 0 (a.edges.map Edge.c),.int .i64 b.states,.int .i64 b.start,.lst 0 (b.edges.map Edge.c),.int .i64 cap]] = some [.bool (!decide ((-1 : Int) ∈ rkN a b cap out))] := by
 refine res_of a534 rfl rfl ?_
 simp only [F534]; try delta sS tT zZ nN gG bB pZ
 have hea := h.ea
 have heb := h.eb
 have hl := rkN_len h.toSpc
 have hle := h.len
 have h167 := r167 a b cap hr (by omega) (by omega) (nod_bfs hn)
 have h541 := fun t => h.rk2 t
 simp (disch := omega) only [go_sem,h167,h541]
 refine W.upto out.length (fun k => ⟨[(3,.pv (.lst 0 (ints (rkN a b cap out)))),(4,.pv (.int .i64 k))],⟨[],[],[]⟩⟩) (fun k => ∀ i,i < k → 0 ≤ (rkN a b cap out).getD i (-1)) rfl (fun i hi => absurd hi (by omega)) fun k hk hi => ?_
 simp (disch := omega) only [go_sem,hl]
 refine Br.ofP (fun c1 => ?_) (fun c1 => ?_)
 ·have hgk : (rkN a b cap out)[k]? = some ((rkN a b cap out).getD k (-1)) := by
   have : k < (rkN a b cap out).length := by omega
   simp [this]
  simp (disch := omega) only [go_sem,hgk]
  refine Br.ofP (fun c2 => ?_) (fun c2 => ?_)
  ·simp (disch := omega) only [go_sem]
   rw [rk_out h.toSpc (k := k) (by omega) (by omega)]
   rfl
  ·simp (disch := omega) only [go_sem]
   exact .of (by omega) rfl fun i hik => by
    rcases Nat.lt_or_ge i k with hh | hh
    ·exact hi i hh
    ·have : i = k := by omega
     subst this
     omega
 ·have hkk : k = out.length := by omega
  subst hkk
  simp (disch := omega) only [go_sem]
  rw [rk_in hl hi]
  rfl
def valM (f : Nat → Int) (l : List ByteArray) : List (PV × PV) := l.zipIdx.map fun p => (.str p.1,.int .i64 (f p.2))
theorem findKey_val (f : Nat → Int) (x : ByteArray) : ∀ (l : List ByteArray) (k i : Nat),findKey false [2] (.str x) ((l.zipIdx k).map fun (p : ByteArray × Nat) => (PV.str p.1,PV.int .i64 (f p.2))) i = some ((l.findIdx? fun s => decide (s = x)).map fun j => (j + i,.int .i64 (f (j + k))))
 | [],k,i => by
  show (if (keyEq false [2] (.str x) (.str x)).isSome then some none else none) = _
  rw [keyEq_str]
  rfl
 | y :: l,k,i => by
  show (match keyEq false [2] (.str x) (.str y) with
   | some true => some (some (i,PV.int .i64 (f k)))
   | some false => findKey false [2] (.str x) ((l.zipIdx (k + 1)).map fun (p : ByteArray × Nat) => (PV.str p.1,PV.int .i64 (f p.2))) (i + 1)
   | none => none) = _
  rw [keyEq_str]
  by_cases h : x = y
  ·subst h
   simp [List.findIdx?_cons]
  ·have h' : ¬ y = x := fun e => h e.symm
   simp only [h,decide_false]
   rw [findKey_val f x l (k + 1) (i + 1)]
   simp only [List.findIdx?_cons,h',decide_false]
   cases l.findIdx? fun s => decide (s = x) with
   | none => rfl
   | some j =>
    have e1 : j + (i + 1) = j + 1 + i := by omega
    have e2 : j + (k + 1) = j + 1 + k := by omega
    simp [e1,e2]
theorem find_valM (f : Nat → Int) (x : ByteArray) (l : List ByteArray) : findKey false [2] (.str x) (valM f l) 0 = some ((l.findIdx? fun s => decide (s = x)).map fun j => (j,.int .i64 (f j))) := by
 have := findKey_val f x l 0 0
 simpa [valM] using this
theorem upd_valM (f : Nat → Int) (x : ByteArray) (l : List ByteArray) (z : Int) (id : Nat) (hz : z = f l.length) (h : (l.findIdx? fun s => decide (s = x)) = none) : updM false [2] (.str x) (.int .i64 z) id (valM f l) = some { mp := some (id,valM f (l ++ [x])) } := by
 unfold updM
 rw [find_valM,h,hz]
 simp [valM,List.zipIdx_append]
end Go.Pv
namespace Go.Pv
variable {a b : Auto} {cap : Int} {s : Cfg} {p : Cfg → Prop} {out : List Nd} {U : List Cfg}
end Go.Pv
namespace Go.Pv
variable {a b : Auto} {cap : Int} {s : Cfg} {p : Cfg → Prop} {out : List Nd} {U : List Cfg}
end Go.Pv
namespace Go.Pv
variable {a b : Auto} {cap : Int} {s : Cfg} {p : Cfg → Prop} {out : List Nd} {U : List Cfg}
end Go.Pv
namespace Go.Pv
variable {a b : Auto} {cap : Int} {s : Cfg} {p : Cfg → Prop} {out : List Nd} {U : List Cfg}
end Go.Pv
namespace Go.Pv
variable {a b : Auto} {cap : Int} {s : Cfg} {p : Cfg → Prop} {out : List Nd} {U : List Cfg}
end Go.Pv
namespace Go.Pv
variable {a b : Auto} {cap : Int} {L : List (Cfg × Int)}
def fidx (L : List (Cfg × Int)) (c : Cfg) : Option Nat := L.findIdx? fun w => decide (w.1 = c)
def rkL (L : List (Cfg × Int)) (i : Nat) : Int := (L[i]?.map (·.2)).getD 0
def rkC (L : List (Cfg × Int)) (c : Cfg) : Int := rkL L ((fidx L c).getD 0)
def goodW (a b : Auto) (cap : Int) (L : List (Cfg × Int)) (w : Cfg × Int) : Prop :=
 (∀ m ∈ movesC a b cap w.1.a w.1.b w.1.toA w.1.toB,(fidx L (afterC a b cap w.1.a w.1.b w.1.toA w.1.toB m).1).isSome = true) ∧
  ((w.2 = 0 ∧ doneB a b cap w.1.a w.1.b w.1.toA w.1.toB = true) ∨ (0 < w.2 ∧ (movesC a b cap w.1.a w.1.b w.1.toA w.1.toB).any (fun m => decide (rkC L (afterC a b cap w.1.a w.1.b w.1.toA w.1.toB m).1 < w.2)) = true))
def CkP (a b : Auto) (cap : Int) (L : List (Cfg × Int)) : Prop := sysErr a b cap = 0 ∧ (∀ (k : Nat) (w : Cfg × Int),L[k]? = some w → fitsB a b cap w.1.a w.1.b w.1.toA w.1.toB = true ∧ fidx (L.take k) w.1 = none) ∧ (fidx L (cfgStart a b)).isSome = true ∧ ∀ (k : Nat) (w : Cfg × Int),L[k]? = some w → goodW a b cap L w
open Classical in
noncomputable def ckB (a b : Auto) (cap : Int) (L : List (Cfg × Int)) : Bool := decide (CkP a b cap L)
open Classical in
theorem ckB_no (h : ¬ CkP a b cap L) : ckB a b cap L = false := decide_eq_false h
open Classical in
theorem ckB_yes (h : CkP a b cap L) : ckB a b cap L = true := decide_eq_true h
def keysL (L : List (Cfg × Int)) : List ByteArray := L.map fun w => w.1.keyB
theorem keysL_find (L : List (Cfg × Int)) (c : Cfg) : ((keysL L).findIdx? fun s => decide (s = keyBS c.a c.b c.toA c.toB)) = fidx L c := by
 unfold keysL fidx
 rw [List.findIdx?_map]
 congr 1
 funext w
 simp only [Function.comp_apply]
 by_cases h : w.1 = c
 ·rw [decide_eq_true h,← h]
  exact decide_eq_true rfl
 ·rw [decide_eq_false h]
  exact decide_eq_false fun e => h (keyB_inj e)
theorem fits_chk {c : Cfg} (h : fitsB a b cap c.a c.b c.toA c.toB = true) : chkE a b cap c.a c.b c.toA c.toB = 0 := by
 unfold chkE
 rw [if_neg (by simp [(fitsB_iff.1 h).1]),if_pos h]
theorem moves_len (c : Cfg) : (movesC a b cap c.a c.b c.toA c.toB).length ≤ a.edges.length + b.edges.length := by
 have h1 := mvsOf_len a b cap c.a c.b c.toA c.toB 0 c.a a.edges
 have h2 := mvsOf_len a b cap c.a c.b c.toA c.toB 1 c.b b.edges
 rw [movesC,List.length_append]
 omega
theorem pre_take {α : Type} {l : List α} {k : Nat} {x : α} (hx : l[k]? = some x) {Q : Nat → α → Prop} (h : ∀ i y,i < k → l[i]? = some y → Q i y) (hq : Q k x) : ∀ i y,i < k + 1 → l[i]? = some y → Q i y := fun i y hi hy => by
 rcases Nat.lt_or_ge i k with hh | hh
 ·exact h i y hh hy
 ·have : i = k := by omega
  subst this
  rw [hx] at hy
  cases hy
  exact hq
theorem pre_all {α : Type} {l : List α} {k : Nat} (hk : l.length ≤ k) {Q : Nat → α → Prop} (h : ∀ i y,i < k → l[i]? = some y → Q i y) : ∀ i y,l[i]? = some y → Q i y := fun i y hy => h i y (by have := (List.getElem?_eq_some_iff.1 hy).1; omega) hy
set_option maxHeartbeats 8000000 in
theorem r243g (hL : L.length ≤ 500) (hok : ∀ w ∈ L,w.1.ok) (ha : a.edges.length ≤ 1000000) (hb : b.edges.length ≤ 1000000) (hst : wideI a.start = true ∧ wideI b.start = true) : res A PrA 243 [.agg [.int .i64 a.states,.int .i64 a.start,.lst 0 (a.edges.map Edge.c),.int .i64 b.states,.int .i64 b.start,.lst 0 (b.edges.map Edge.c),.int .i64 cap],.lst 0 (ckR L)] = some [.bool (ckB a b cap L)] := by
 refine res_of a243 rfl rfl ?_
 simp only [F243]; try delta sS tT zZ nN gG bB pZ
 by_cases hs : sysErr a b cap = 0
 ·have hd : decide (sysErr a b cap = 0) = true := decide_eq_true hs
  simp (disch := omega) only [go_sem,hd]
  refine W.upto L.length (fun k => ⟨[(1,.pv (.lst 0 (ckR L))),(2,.ptr 2 0),(5,.map 0),(28,.pv (.lst 0 (ckR L))),(29,.pv (.int .i64 L.length)),(30,.pv (.int .i64 k))],⟨[(2,[.pv (.int .i64 a.states),.pv (.int .i64 a.start),.pv (.lst 0 (a.edges.map Edge.c)),.pv (.int .i64 b.states),.pv (.int .i64 b.start),.pv (.lst 0 (b.edges.map Edge.c)),.pv (.int .i64 cap)])],[],[valM (rkL L) (keysL (L.take k))]⟩⟩) (fun k => ∀ i w,i < k → L[i]? = some w → fitsB a b cap w.1.a w.1.b w.1.toA w.1.toB = true ∧ fidx (L.take i) w.1 = none) rfl (fun i w hi => absurd hi (by omega)) fun k hk hi => ?_
  simp (disch := omega) only [go_sem]
  refine Br.ofP (fun c1 => ?_) (fun c1 => ?_)
  ·obtain ⟨w,hw⟩ := get_at (l := L) (k := k) (by omega)
   have hwk := hok w (List.mem_of_getElem? hw)
   have hkey := r251 0 0 w.1.a w.1.b w.1.toA w.1.toB hwk
   have hf := keysL_find (L.take k) w.1
   cases hn : fidx (L.take k) w.1 with
   | some j =>
    rw [hn] at hf
    simp (disch := omega) only [go_sem,hw,Option.map_some,hkey,find_valM,hf,foundT_some]
    rw [ckB_no fun h => by
     have := (h.2.1 k w hw).2
     rw [hn] at this
     cases this]
   | none =>
    rw [hn] at hf
    obtain ⟨_,_,_,_,hxa,hxb⟩ := hwk
    have h157 := r157 0 0 a b cap 0 0 w.1.a w.1.b w.1.toA w.1.toB (by omega) (by omega) (by omega) (by omega)
    cases hft : fitsB a b cap w.1.a w.1.b w.1.toA w.1.toB with
    | false =>
     rw [hft] at h157
     simp (disch := omega) only [go_sem,hw,Option.map_some,hkey,find_valM,hf,Option.map_none,foundT_none,h157]
     rw [ckB_no fun h => by
      have := (h.2.1 k w hw).1
      rw [hft] at this
      cases this]
    | true =>
     rw [hft] at h157
     have hfz : w.2 = rkL L (keysL (L.take k)).length := by
      have : (keysL (L.take k)).length = k := by unfold keysL; rw [List.length_map,List.length_take]; omega
      rw [this]
      unfold rkL
      rw [hw]
      rfl
     have hupd := upd_valM (rkL L) (keyBS w.1.a w.1.b w.1.toA w.1.toB) (keysL (L.take k)) w.2 0 hfz hf
     simp (disch := omega) only [go_sem,hw,Option.map_some,hkey,find_valM,hf,Option.map_none,foundT_none,h157,hupd]
     refine .of (by omega) ?_ (pre_take hw hi ⟨hft,hn⟩)
     have hsn : keysL (L.take (k + 1)) = keysL (L.take k) ++ [keyBS w.1.a w.1.b w.1.toA w.1.toB] := by
      unfold keysL
      rw [List.take_add_one,hw]
      simp [Cfg.keyB]
     rw [hsn]
     rfl
  ·have hkk : k = L.length := by omega
   subst hkk
   have hta : L.take L.length = L := List.take_length
   rw [hta]
   have hall := pre_all (Nat.le_refl _) hi
   have hkey0 := r251 0 0 a.start b.start [] [] ⟨hst.1,hst.2,rfl,rfl,by simp,by simp⟩
   simp only [ints_nil] at hkey0
   have hf0 : ((keysL L).findIdx? fun s => decide (s = keyBS a.start b.start [] [])) = fidx L (cfgStart a b) := keysL_find L (cfgStart a b)
   cases hn0 : fidx L (cfgStart a b) with
   | none =>
    rw [hn0] at hf0
    simp (disch := omega) only [go_sem,hkey0,find_valM,hf0,Option.map_none,foundT_none]
    rw [ckB_no fun h => by
     have := h.2.2.1
     rw [hn0] at this
     cases this]
   | some j0 =>
    rw [hn0] at hf0
    simp (disch := omega) only [go_sem,hkey0,find_valM,hf0,Option.map_some,foundT_some]
    refine W.upto L.length (fun k => ⟨[(2,.ptr 2 0),(5,.map 0),(66,.pv (.lst 0 (ckR L))),(67,.pv (.int .i64 L.length)),(68,.pv (.int .i64 k))],⟨[(2,[.pv (.int .i64 a.states),.pv (.int .i64 a.start),.pv (.lst 0 (a.edges.map Edge.c)),.pv (.int .i64 b.states),.pv (.int .i64 b.start),.pv (.lst 0 (b.edges.map Edge.c)),.pv (.int .i64 cap)])],[],[valM (rkL L) (keysL L)]⟩⟩) (fun k => ∀ i w,i < k → L[i]? = some w → goodW a b cap L w) rfl (fun i w hi => absurd hi (by omega)) fun k hk hg => ?_
    simp (disch := omega) only [go_sem]
    refine Br.ofP (fun c2 => ?_) (fun c2 => ?_)
    ·obtain ⟨w,hw⟩ := get_at (l := L) (k := k) (by omega)
     have hwk := hok w (List.mem_of_getElem? hw)
     obtain ⟨_,_,_,_,hxa,hxb⟩ := hwk
     have hfit := (hall k w hw).1
     have hchk := fits_chk hfit
     have h171 := r171 a b cap w.1.a w.1.b w.1.toA w.1.toB (by omega) (by omega) (by omega) (by omega)
     rw [if_pos hchk] at h171
     have h174 := fun mv => r174 a b cap w.1.a w.1.b w.1.toA w.1.toB mv (by omega) (by omega) (by omega) (by omega)
     have h159 := r159 0 0 a b cap 0 0 w.1.a w.1.b w.1.toA w.1.toB (by omega) (by omega) (by omega) (by omega)
     have hml := moves_len (a := a) (b := b) (cap := cap) w.1
     have hgd : goodW a b cap L w → (∀ m ∈ movesC a b cap w.1.a w.1.b w.1.toA w.1.toB,(fidx L (afterC a b cap w.1.a w.1.b w.1.toA w.1.toB m).1).isSome = true) := fun h => h.1
     have hgd2 : ∀ Q : Bool,(movesC a b cap w.1.a w.1.b w.1.toA w.1.toB).any (fun m => decide (rkC L (afterC a b cap w.1.a w.1.b w.1.toA w.1.toB m).1 < w.2)) = Q → (∀ m ∈ movesC a b cap w.1.a w.1.b w.1.toA w.1.toB,(fidx L (afterC a b cap w.1.a w.1.b w.1.toA w.1.toB m).1).isSome = true) → (goodW a b cap L w ↔ ((w.2 = 0 ∧ doneB a b cap w.1.a w.1.b w.1.toA w.1.toB = true) ∨ (0 < w.2 ∧ Q = true))) := fun Q hQ h => by
      unfold goodW
      rw [hQ]
      exact ⟨fun h => h.2,fun h2 => ⟨h,h2⟩⟩
     simp (disch := omega) only [go_sem,hw,Option.map_some,h171]
     have hmvs : ∀ mv ∈ movesC a b cap w.1.a w.1.b w.1.toA w.1.toB,(afterC a b cap w.1.a w.1.b w.1.toA w.1.toB mv).2 = true ∧ (afterC a b cap w.1.a w.1.b w.1.toA w.1.toB mv).1.ok := fun mv hmv => ⟨(movesC_mem hmv).1,fits_okX (fits_after hfit (movesC_mem hmv).1)⟩
     obtain ⟨g,hg0⟩ : ∃ g : Mov → Bool,g = fun m => decide (rkC L (afterC a b cap w.1.a w.1.b w.1.toA w.1.toB m).1 < w.2) := ⟨_,rfl⟩
     rw [← hg0] at hgd2
     generalize hms : movesC a b cap w.1.a w.1.b w.1.toA w.1.toB = ms at *
     refine W.upto ms.length (fun j => ⟨[(2,.ptr 2 0),(5,.map 0),(14,.ptr 14 0),(17,.pv (.bool ((ms.take j).any g))),(66,.pv (.lst 0 (ckR L))),(67,.pv (.int .i64 L.length)),(68,.pv (.int .i64 k)),(81,.pv (.lst 0 (mvs3 ms))),(82,.pv (.int .i64 ms.length)),(83,.pv (.int .i64 j))],⟨[(2,[.pv (.int .i64 a.states),.pv (.int .i64 a.start),.pv (.lst 0 (a.edges.map Edge.c)),.pv (.int .i64 b.states),.pv (.int .i64 b.start),.pv (.lst 0 (b.edges.map Edge.c)),.pv (.int .i64 cap)]),(14,[.pv (.int .i64 w.1.a),.pv (.int .i64 w.1.b),.pv (.lst 0 (ints w.1.toA)),.pv (.lst 0 (ints w.1.toB)),.pv (.int .i64 w.2)])],[],[valM (rkL L) (keysL L)]⟩⟩) (fun j => ∀ i m,i < j → ms[i]? = some m → (fidx L (afterC a b cap w.1.a w.1.b w.1.toA w.1.toB m).1).isSome = true) rfl (fun i m hi => absurd hi (by omega)) fun j hj hm => ?_
     simp (disch := omega) only [go_sem]
     refine Br.ofP (fun c3 => ?_) (fun c3 => ?_)
     ·obtain ⟨mv,hmv⟩ := get_at (l := ms) (k := j) (by omega)
      obtain ⟨z3,z4⟩ := hmvs mv (List.mem_of_getElem? hmv)
      have h174 := h174 mv
      unfold applyC at h174
      rw [if_pos hchk,if_pos z3] at h174
      have hgm : g mv = decide (rkC L (afterC a b cap w.1.a w.1.b w.1.toA w.1.toB mv).1 < w.2) := by rw [hg0]
      have htk : (ms.take (j + 1)).any g = ((ms.take j).any g || g mv) := by rw [List.take_add_one,hmv]; simp
      have hnom : (fidx L (afterC a b cap w.1.a w.1.b w.1.toA w.1.toB mv).1) = none → ¬ goodW a b cap L w := fun h1 h2 => by
       have := hgd h2 mv (List.mem_of_getElem? hmv)
       rw [h1] at this
       cases this
      have hrk : rkC L (afterC a b cap w.1.a w.1.b w.1.toA w.1.toB mv).1 = rkL L ((fidx L (afterC a b cap w.1.a w.1.b w.1.toA w.1.toB mv).1).getD 0) := rfl
      generalize hy : (afterC a b cap w.1.a w.1.b w.1.toA w.1.toB mv).1 = y at *
      have hkey := r251 0 0 y.a y.b y.toA y.toB z4
      have hkz := keysL_find L y
      cases hfy : fidx L y with
      | none =>
       rw [hfy] at hkz
       simp (disch := omega) only [go_sem,hmv,h174,hkey,find_valM,hkz,Option.map_none,foundT_none]
       rw [ckB_no fun h => hnom hfy (h.2.2.2 k w hw)]
      | some z =>
       rw [hfy] at hkz hrk
       rw [hrk] at hgm
       dsimp only [Option.getD_some] at hgm
       cases hB : (ms.take j).any g with
       | true =>
        rw [hB,Bool.true_or] at htk
        simp (disch := omega) only [go_sem,hmv,h174,hkey,find_valM,hkz,Option.map_some,foundT_some]
        refine .of (by omega) ?_ (pre_take hmv hm (by rw [hy,hfy]; rfl))
        rw [htk]
        rfl
       | false =>
        rw [hB,Bool.false_or,hgm] at htk
        simp (disch := omega) only [go_sem,hmv,h174,hkey,find_valM,hkz,Option.map_some,foundT_some]
        refine .of (by omega) ?_ (pre_take hmv hm (by rw [hy,hfy]; rfl))
        rw [htk]
        rfl
     ·have hjm : j = ms.length := by omega
      subst hjm
      rw [List.take_length]
      have hma : ∀ m ∈ ms,(fidx L (afterC a b cap w.1.a w.1.b w.1.toA w.1.toB m).1).isSome = true := fun m hmm => by
       obtain ⟨i,hii⟩ := List.getElem?_of_mem hmm
       exact pre_all (Nat.le_refl _) hm i m hii
      have hgi := hgd2 _ rfl hma
      have hno : ¬ goodW a b cap L w → ckB a b cap L = false := fun h => ckB_no fun h2 => h (h2.2.2.2 k w hw)
      by_cases hz : w.2 = 0
      ·have e1 : decide (w.2 = 0) = true := decide_eq_true hz
       have e2 : decide (0 < w.2) = false := decide_eq_false (by omega)
       cases hdn : doneB a b cap w.1.a w.1.b w.1.toA w.1.toB with
       | true =>
        rw [hdn] at h159
        simp (disch := omega) only [go_sem,e1,h159]
        exact .of (by omega) rfl (pre_take hw hg (hgi.2 (.inl ⟨hz,hdn⟩)))
       | false =>
        rw [hdn] at h159
        simp (disch := omega) only [go_sem,e1,e2,h159]
        rw [hno fun h => by
         rcases hgi.1 h with h | h
         ·rw [hdn] at h
          cases h.2
         ·omega]
      ·have e1 : decide (w.2 = 0) = false := decide_eq_false hz
       rcases Int.lt_or_le 0 w.2 with h0 | h0
       ·have e2 : decide (0 < w.2) = true := decide_eq_true h0
        cases hany : ms.any g with
        | true =>
         simp (disch := omega) only [go_sem,e1,e2]
         exact .of (by omega) rfl (pre_take hw hg (hgi.2 (.inr ⟨h0,hany⟩)))
        | false =>
         simp (disch := omega) only [go_sem,e1,e2]
         rw [hno fun h => by
          rcases hgi.1 h with h | h
          ·exact hz h.1
          ·rw [hany] at h
           cases h.2]
       ·have e2 : decide (0 < w.2) = false := decide_eq_false (by omega)
        simp (disch := omega) only [go_sem,e1,e2]
        rw [hno fun h => by
         rcases hgi.1 h with h | h
         ·exact hz h.1
         ·omega]
    ·simp (disch := omega) only [go_sem]
     rw [ckB_yes ⟨hs,hall,by rw [hn0]; rfl,pre_all (by omega) hg⟩]
 ·have hd : decide (sysErr a b cap = 0) = false := decide_eq_false hs
  simp (disch := omega) only [go_sem,hd]
  rw [ckB_no fun h => hs h.1]
end Go.Pv
namespace Go.Pv
variable {a b : Auto} {cap : Int} {L : List (Cfg × Int)}
theorem fidx_lt {c : Cfg} {z : Nat} (h : fidx L c = some z) : ∃ w,L[z]? = some w ∧ w.1 = c := by
 unfold fidx at h
 rw [List.findIdx?_eq_some_iff_getElem] at h
 obtain ⟨h1,h2,_⟩ := h
 exact ⟨L[z],List.getElem?_eq_getElem h1,by simpa using h2⟩
end Go.Pv
namespace Go.Pv
variable {P : Program}
theorem slice_dec {α : Type} {c : α → List PV} {ok : α → Prop} {n : Nat} {t el : TypeId} {cs : List PV} (hu : P.underlying t = some (.slice el)) (he : ∀ cs,typed P n el cs → ∃ x,cs = c x ∧ ok x) (h : typed P (n + 1) t cs) : ∃ l : List α,cs = [.lst 0 (l.map c)] ∧ l.length ≤ 2 ^ 63 - 1 ∧ ∀ x ∈ l,ok x := by
 obtain ⟨rows,rfl,hl,hr⟩ := typed_slice hu h
 obtain ⟨l,rfl⟩ := rows_map (c := fun x : {x : α // ok x} => c x.1) (rows := rows) (fun r hr' => by
  obtain ⟨x,rfl,hx⟩ := he r (hr r hr')
  exact ⟨⟨x,hx⟩,rfl⟩)
 refine ⟨l.map (·.1),by simp [],by simpa [maxLen] using hl,fun x hx => ?_⟩
 obtain ⟨y,_,rfl⟩ := List.mem_map.1 hx
 exact y.2
theorem u8_min : IntKind.min .u8 = 0 := by decide
theorem u8_max : IntKind.max .u8 = 255 := by decide
structure DraftT (P : Program) (td tl ta tu : TypeId) : Prop where
 d : ∃ fs,P.underlying td = some (.struct fs) ∧ fs.toList.map (·.type) = [tu,tl]
 l : P.underlying tl = some (.slice ta)
 a : ∃ fs,P.underlying ta = some (.struct fs) ∧ fs.toList.map (·.type) = [tu,tu,tu]
 u : P.underlying tu = some (.int .u8)
theorem arc_typed {td tl ta tu : TypeId} (T : DraftT P td tl ta tu) {n : Nat} (cs : List PV) (h : typed P (n + 2) ta cs) : ∃ x : Arc,cs = x.c ∧ x.ok := by
 obtain ⟨fs,hu,hts⟩ := T.a
 obtain ⟨r0,q0,rfl,h0,r1,q1,rfl,h1,r2,q2,rfl,h2,rfl⟩ := typed_struct hu hts h
 obtain ⟨x,rfl,hx⟩ := typed_int T.u h0
 obtain ⟨y,rfl,hy⟩ := typed_int T.u h1
 obtain ⟨z,rfl,hz⟩ := typed_int T.u h2
 rw [u8_min,u8_max] at hx hy hz
 exact ⟨⟨x,y,z⟩,rfl,hx,hy,hz⟩
theorem draft_typed {td tl ta tu : TypeId} (T : DraftT P td tl ta tu) {n : Nat} (cs : List PV) (h : typed P (n + 4) td cs) : ∃ d : Draft,cs = [.int .u8 d.n,.lst 0 (d.arcs.map Arc.c)] ∧ d.ok := by
 obtain ⟨fs,hu,hts⟩ := T.d
 obtain ⟨r0,q0,rfl,h0,r1,q1,rfl,h1,rfl⟩ := typed_struct hu hts h
 obtain ⟨x,rfl,hx⟩ := typed_int T.u h0
 rw [u8_min,u8_max] at hx
 obtain ⟨l,rfl,hl,hok⟩ := slice_dec T.l (arc_typed T (n := n)) h1
 exact ⟨⟨x,l⟩,rfl,hx,hl,hok⟩
end Go.Pv
namespace Go.Pv
variable {P : Program}
structure SysT (P : Program) (ts tc tl tm ta te le li ti tb : TypeId) : Prop where
 s : ∃ fs,P.underlying ts = some (.struct fs) ∧ fs.toList.map (·.type) = [ta,ta,ti]
 c : ∃ fs,P.underlying tc = some (.struct fs) ∧ fs.toList.map (·.type) = [ti,ti,li,li]
 l : P.underlying tl = some (.slice tm)
 m : ∃ fs,P.underlying tm = some (.struct fs) ∧ fs.toList.map (·.type) = [ti,tb,ti]
 a : ∃ fs,P.underlying ta = some (.struct fs) ∧ fs.toList.map (·.type) = [ti,ti,le]
 le : P.underlying le = some (.slice te)
 e : ∃ fs,P.underlying te = some (.struct fs) ∧ fs.toList.map (·.type) = [ti,tb,ti,ti]
 li : P.underlying li = some (.slice ti)
 i : P.underlying ti = some (.int .i64)
 b : P.underlying tb = some .bool
variable {ts tc tl tm ta te le li ti tb : TypeId}
theorem sedge_typed (T : SysT P ts tc tl tm ta te le li ti tb) {n : Nat} (cs : List PV) (h : typed P (n + 2) te cs) : ∃ x : Edge,cs = x.c ∧ True := by
 obtain ⟨fs,hu,hts⟩ := T.e
 obtain ⟨r0,q0,rfl,h0,r1,q1,rfl,h1,r2,q2,rfl,h2,r3,q3,rfl,h3,rfl⟩ := typed_struct hu hts h
 obtain ⟨x,rfl,_⟩ := typed_int T.i h0
 obtain ⟨y,rfl⟩ := typed_bool T.b h1
 obtain ⟨z,rfl,_⟩ := typed_int T.i h2
 obtain ⟨u,rfl,_⟩ := typed_int T.i h3
 exact ⟨⟨x,y,z,u⟩,rfl,trivial⟩
theorem mov_typed (T : SysT P ts tc tl tm ta te le li ti tb) {n : Nat} (cs : List PV) (h : typed P (n + 2) tm cs) : ∃ x : Mov,cs = x.c ∧ True := by
 obtain ⟨fs,hu,hts⟩ := T.m
 obtain ⟨r0,q0,rfl,h0,r1,q1,rfl,h1,r2,q2,rfl,h2,rfl⟩ := typed_struct hu hts h
 obtain ⟨x,rfl,_⟩ := typed_int T.i h0
 obtain ⟨y,rfl⟩ := typed_bool T.b h1
 obtain ⟨z,rfl,_⟩ := typed_int T.i h2
 exact ⟨⟨x,y,z⟩,rfl,trivial⟩
theorem aut_typed (T : SysT P ts tc tl tm ta te le li ti tb) {n : Nat} (cs : List PV) (h : typed P (n + 4) ta cs) : ∃ a : Auto,cs = [.int .i64 a.states,.int .i64 a.start,.lst 0 (a.edges.map Edge.c)] ∧ a.edges.length ≤ 2 ^ 63 - 1 := by
 obtain ⟨fs,hu,hts⟩ := T.a
 obtain ⟨r0,q0,rfl,h0,r1,q1,rfl,h1,r2,q2,rfl,h2,rfl⟩ := typed_struct hu hts h
 obtain ⟨x,rfl,_⟩ := typed_int T.i h0
 obtain ⟨y,rfl,_⟩ := typed_int T.i h1
 obtain ⟨l,rfl,hl,_⟩ := slice_dec T.le (sedge_typed T (n := n)) h2
 exact ⟨⟨x,y,l⟩,rfl,hl⟩
theorem ints_typed (T : SysT P ts tc tl tm ta te le li ti tb) {n : Nat} (cs : List PV) (h : typed P (n + 2) li cs) : ∃ l : List Int,cs = [.lst 0 (ints l)] ∧ l.length ≤ 2 ^ 63 - 1 := by
 obtain ⟨l,rfl,hl,_⟩ := slice_dec (c := fun x => [PV.int .i64 x]) (ok := fun _ => True) T.li (fun cs hc => by
  obtain ⟨x,rfl,_⟩ := typed_int (n := n) T.i hc
  exact ⟨x,rfl,trivial⟩) h
 exact ⟨l,rfl,hl⟩
def sysArg (T : SysT P ts tc tl tm ta te le li ti tb) : Arg P ts (Auto × Auto × Int) where
 pv x := .agg [.int .i64 x.1.states,.int .i64 x.1.start,.lst 0 (x.1.edges.map Edge.c),.int .i64 x.2.1.states,.int .i64 x.2.1.start,.lst 0 (x.2.1.edges.map Edge.c),.int .i64 x.2.2]
 ok x := x.1.edges.length ≤ 2 ^ 63 - 1 ∧ x.2.1.edges.length ≤ 2 ^ 63 - 1
 dec cs h := by
  obtain ⟨fs,hu,hts⟩ := T.s
  obtain ⟨r0,q0,rfl,h0,r1,q1,rfl,h1,r2,q2,rfl,h2,rfl⟩ := typed_struct (n := 11) hu hts h
  obtain ⟨a,rfl,ha⟩ := aut_typed T (n := 7) _ h0
  obtain ⟨b,rfl,hb⟩ := aut_typed T (n := 7) _ h1
  obtain ⟨c,rfl,_⟩ := typed_int (n := 10) T.i h2
  exact ⟨⟨a,b,c⟩,⟨ha,hb⟩,by simp only [argPV,isAgg_struct hu,if_true]; rfl⟩
def cfgArg (T : SysT P ts tc tl tm ta te le li ti tb) : Arg P tc Cfg where
 pv x := .agg [.int .i64 x.a,.int .i64 x.b,.lst 0 (ints x.toA),.lst 0 (ints x.toB)]
 ok x := x.toA.length ≤ 2 ^ 63 - 1 ∧ x.toB.length ≤ 2 ^ 63 - 1
 dec cs h := by
  obtain ⟨fs,hu,hts⟩ := T.c
  obtain ⟨r0,q0,rfl,h0,r1,q1,rfl,h1,r2,q2,rfl,h2,r3,q3,rfl,h3,rfl⟩ := typed_struct (n := 11) hu hts h
  obtain ⟨a,rfl,_⟩ := typed_int (n := 10) T.i h0
  obtain ⟨b,rfl,_⟩ := typed_int (n := 10) T.i h1
  obtain ⟨l,rfl,hl⟩ := ints_typed T (n := 9) _ h2
  obtain ⟨m,rfl,hm⟩ := ints_typed T (n := 9) _ h3
  exact ⟨⟨a,b,l,m⟩,⟨hl,hm⟩,by simp only [argPV,isAgg_struct hu,if_true]; rfl⟩
def movArg (T : SysT P ts tc tl tm ta te le li ti tb) : Arg P tm Mov where
 pv x := .agg [.int .i64 x.party,.bool x.send,.int .i64 x.label]
 ok _ := True
 dec cs h := by
  obtain ⟨x,rfl,_⟩ := mov_typed T (n := 10) _ h
  obtain ⟨fs,hu,_⟩ := T.m
  exact ⟨x,trivial,by simp only [argPV,isAgg_struct hu,if_true]; rfl⟩
def mvsArg (T : SysT P ts tc tl tm ta te le li ti tb) : Arg P tl (List Mov) where
 pv l := .lst 0 (l.map Mov.c)
 ok l := l.length ≤ 2 ^ 63 - 1
 dec cs h := by
  obtain ⟨l,rfl,hl,_⟩ := slice_dec T.l (mov_typed T (n := 9)) h
  have : isAggT P tl = some false := by simp [isAggT,T.l]
  exact ⟨l,hl,by simp [argPV,this]⟩
end Go.Pv
namespace Go.Pv
variable {P : Program}
structure PDrT (P : Program) (tp td tl ta tu tb : TypeId) : Prop where
 d : DraftT P td tl ta tu
 p : ∃ fs,P.underlying tp = some (.struct fs) ∧ fs.toList.map (·.type) = [td,tl,tb,tu,tu]
 b : P.underlying tb = some .bool
def pdrArg {tp td tl ta tu tb : TypeId} (T : PDrT P tp td tl ta tu tb) : Arg P tp PDr where
 pv d := .agg [.int .u8 d.n,.lst 0 (arcs d.la),.lst 0 (arcs d.l),.bool d.mirror,.int .u8 d.skip,.int .u8 d.cap]
 ok := PDr.ok
 dec cs h := by
  obtain ⟨fs,hu,hts⟩ := T.p
  obtain ⟨r0,q0,rfl,h0,r1,q1,rfl,h1,r2,q2,rfl,h2,r3,q3,rfl,h3,r4,q4,rfl,h4,rfl⟩ := typed_struct (n := 11) hu hts h
  obtain ⟨a,rfl,ha⟩ := draft_typed (n := 7) T.d _ h0
  obtain ⟨l,rfl,hl,hok⟩ := slice_dec T.d.l (arc_typed T.d (n := 8)) h1
  obtain ⟨m,rfl⟩ := typed_bool (n := 10) T.b h2
  obtain ⟨s,rfl,hs⟩ := typed_int (n := 10) T.d.u h3
  obtain ⟨c,rfl,hc⟩ := typed_int (n := 10) T.d.u h4
  rw [u8_min,u8_max] at hs hc
  exact ⟨⟨a.n,a.arcs,l,m,s,c⟩,⟨ha.1,hs,hc,ha.2.1,hl,ha.2.2,hok⟩,by simp only [argPV,isAgg_struct hu,if_true]; rfl⟩
end Go.Pv
namespace Go.Pv
variable {P : Program}
theorem typed_up : ∀ {n : Nat} {t : TypeId} {cs : List PV},typed P n t cs → typed P (n + 1) t cs
 | 0,_,_,h => h.elim
 | n + 1,t,cs,h => by
  unfold typed at h ⊢
  cases hu : P.underlying t with
  | none => simp only [hu] at h
  | some d =>
   cases d <;> simp only [hu] at h ⊢ <;> first | exact h | skip
   ·obtain ⟨parts,h1,h2,h3⟩ := h
    exact ⟨parts,h1,h2,fun r hr => typed_up (h3 r hr)⟩
   ·obtain ⟨rows,h1,h2,h3⟩ := h
    exact ⟨rows,h1,h2,fun r hr => typed_up (h3 r hr)⟩
   ·obtain ⟨parts,h1,h2,h3⟩ := h
    exact ⟨parts,h1,h2,fun i f r hf hr => typed_up (h3 i f r hf hr)⟩
theorem typed_ups {n : Nat} {t : TypeId} {cs : List PV} (h : typed P n t cs) : ∀ k,typed P (n + k) t cs
 | 0 => h
 | k + 1 => typed_up (typed_ups h k)
theorem pdr_typed {tp td tl ta tu tb : TypeId} (T : PDrT P tp td tl ta tu tb) {n : Nat} {cs : List PV} (h : typed P (n + 12) tp cs) : ∃ d : PDr,d.ok ∧ argPV P tp cs = .agg [.int .u8 d.n,.lst 0 (arcs d.la),.lst 0 (arcs d.l),.bool d.mirror,.int .u8 d.skip,.int .u8 d.cap] := by
 obtain ⟨fs,hu,hts⟩ := T.p
 obtain ⟨r0,q0,rfl,h0,r1,q1,rfl,h1,r2,q2,rfl,h2,r3,q3,rfl,h3,r4,q4,rfl,h4,rfl⟩ := typed_struct (n := n + 11) hu hts h
 obtain ⟨a,rfl,ha⟩ := draft_typed (n := n + 7) T.d _ h0
 obtain ⟨l,rfl,hl,hok⟩ := slice_dec T.d.l (arc_typed T.d (n := n + 8)) h1
 obtain ⟨m,rfl⟩ := typed_bool (n := n + 10) T.b h2
 obtain ⟨s,rfl,hs⟩ := typed_int (n := n + 10) T.d.u h3
 obtain ⟨c,rfl,hc⟩ := typed_int (n := n + 10) T.d.u h4
 rw [u8_min,u8_max] at hs hc
 exact ⟨⟨a.n,a.arcs,l,m,s,c⟩,⟨ha.1,hs,hc,ha.2.1,hl,ha.2.2,hok⟩,by simp only [argPV,isAgg_struct hu,if_true]; rfl⟩
variable {ts tc tl tm ta te le li ti tb : TypeId}
structure RkdT (P : Program) (tq tr tc ti : TypeId) : Prop where
 r : ∃ fs,P.underlying tr = some (.struct fs) ∧ fs.toList.map (·.type) = [tc,ti]
 q : P.underlying tq = some (.slice tr)
theorem typed_wide {n : Nat} {cs : List PV} (hu : P.underlying ti = some (.int .i64)) (h : typed P (n + 1) ti cs) : ∃ x,cs = [.int .i64 x] ∧ wideI x = true := by
 obtain ⟨x,rfl,hx⟩ := typed_int hu h
 rw [i64_min,i64_max] at hx
 exact ⟨x,rfl,wideI_iff.2 hx⟩
theorem ints_typedW (T : SysT P ts tc tl tm ta te le li ti tb) {n : Nat} {cs : List PV} (h : typed P (n + 2) li cs) : ∃ l : List Int,cs = [.lst 0 (ints l)] ∧ l.length ≤ 2 ^ 63 - 1 ∧ l.all wideI = true := by
 obtain ⟨l,rfl,hl,hw⟩ := slice_dec (c := fun x => [PV.int .i64 x]) (ok := fun x => wideI x = true) T.li (fun cs hc => typed_wide (n := n) T.i hc) h
 exact ⟨l,rfl,hl,List.all_eq_true.2 hw⟩
def Cfg.okA (c : Cfg) : Prop := wideI c.a = true ∧ wideI c.b = true ∧ c.toA.all wideI = true ∧ c.toB.all wideI = true ∧ c.toA.length ≤ 2 ^ 63 - 1 ∧ c.toB.length ≤ 2 ^ 63 - 1
theorem cfg_typedW (T : SysT P ts tc tl tm ta te le li ti tb) {n : Nat} {cs : List PV} (h : typed P (n + 3) tc cs) : ∃ c : Cfg,cs = [.int .i64 c.a,.int .i64 c.b,.lst 0 (ints c.toA),.lst 0 (ints c.toB)] ∧ c.okA := by
 obtain ⟨fs,hu,hts⟩ := T.c
 obtain ⟨r0,q0,rfl,h0,r1,q1,rfl,h1,r2,q2,rfl,h2,r3,q3,rfl,h3,rfl⟩ := typed_struct (n := n + 2) hu hts h
 obtain ⟨a,rfl,ha⟩ := typed_wide (n := n + 1) T.i h0
 obtain ⟨b,rfl,hb⟩ := typed_wide (n := n + 1) T.i h1
 obtain ⟨l,rfl,hl,hlw⟩ := ints_typedW T (n := n) h2
 obtain ⟨m,rfl,hm,hmw⟩ := ints_typedW T (n := n) h3
 exact ⟨⟨a,b,l,m⟩,rfl,ha,hb,hlw,hmw,hl,hm⟩
theorem rkds_typed {tq tr : TypeId} (T : SysT P ts tc tl tm ta te le li ti tb) (R : RkdT P tq tr tc ti) {n : Nat} {cs : List PV} (h : typed P (n + 5) tq cs) : ∃ L : List (Cfg × Int),cs = [.lst 0 (ckR L)] ∧ L.length ≤ 2 ^ 63 - 1 ∧ ∀ w ∈ L,w.1.okA := by
 obtain ⟨fs,hu,hts⟩ := R.r
 obtain ⟨L,rfl,hL,hw⟩ := slice_dec (c := fun w : Cfg × Int => [PV.int .i64 w.1.a,.int .i64 w.1.b,.lst 0 (ints w.1.toA),.lst 0 (ints w.1.toB),.int .i64 w.2]) (ok := fun w => w.1.okA) R.q (fun cs hc => by
  obtain ⟨r0,q0,rfl,h0,r1,q1,rfl,h1,rfl⟩ := typed_struct (n := n + 3) hu hts hc
  obtain ⟨c,rfl,hok⟩ := cfg_typedW T (n := n) h0
  obtain ⟨x,rfl,_⟩ := typed_int (n := n + 2) T.i h1
  exact ⟨(c,x),rfl,hok⟩) h
 exact ⟨L,rfl,hL,hw⟩
def rkdArg {tq tr : TypeId} (T : SysT P ts tc tl tm ta te le li ti tb) (R : RkdT P tq tr tc ti) : Arg P tq (List (Cfg × Int)) where
 pv L := .lst 0 (ckR L)
 ok L := L.length ≤ 2 ^ 63 - 1 ∧ ∀ w ∈ L,w.1.okA
 dec cs h := by
  obtain ⟨L,rfl,hL,hw⟩ := rkds_typed T R (n := 7) h
  have : isAggT P tq = some false := by simp [isAggT,R.q]
  exact ⟨L,⟨hL,hw⟩,by simp [argPV,this]⟩
theorem aut_typedW (T : SysT P ts tc tl tm ta te le li ti tb) {n : Nat} {cs : List PV} (h : typed P (n + 4) ta cs) : ∃ a : Auto,cs = [.int .i64 a.states,.int .i64 a.start,.lst 0 (a.edges.map Edge.c)] ∧ a.edges.length ≤ 2 ^ 63 - 1 ∧ wideI a.start = true := by
 obtain ⟨fs,hu,hts⟩ := T.a
 obtain ⟨r0,q0,rfl,h0,r1,q1,rfl,h1,r2,q2,rfl,h2,rfl⟩ := typed_struct hu hts h
 obtain ⟨x,rfl,_⟩ := typed_int T.i h0
 obtain ⟨y,rfl,hy⟩ := typed_wide T.i h1
 obtain ⟨l,rfl,hl,_⟩ := slice_dec T.le (sedge_typed T (n := n)) h2
 exact ⟨⟨x,y,l⟩,rfl,hl,hy⟩
def sysArgW (T : SysT P ts tc tl tm ta te le li ti tb) : Arg P ts (Auto × Auto × Int) where
 pv x := .agg [.int .i64 x.1.states,.int .i64 x.1.start,.lst 0 (x.1.edges.map Edge.c),.int .i64 x.2.1.states,.int .i64 x.2.1.start,.lst 0 (x.2.1.edges.map Edge.c),.int .i64 x.2.2]
 ok x := (x.1.edges.length ≤ 2 ^ 63 - 1 ∧ wideI x.1.start = true) ∧ x.2.1.edges.length ≤ 2 ^ 63 - 1 ∧ wideI x.2.1.start = true
 dec cs h := by
  obtain ⟨fs,hu,hts⟩ := T.s
  obtain ⟨r0,q0,rfl,h0,r1,q1,rfl,h1,r2,q2,rfl,h2,rfl⟩ := typed_struct (n := 11) hu hts h
  obtain ⟨a,rfl,ha⟩ := aut_typedW T (n := 7) h0
  obtain ⟨b,rfl,hb⟩ := aut_typedW T (n := 7) h1
  obtain ⟨c,rfl,_⟩ := typed_int (n := 10) T.i h2
  exact ⟨⟨a,b,c⟩,⟨ha,hb⟩,by simp only [argPV,isAgg_struct hu,if_true]; rfl⟩
theorem lst_smallR {M t : Nat} {rows : List (List PV)} (h : Small M (.lst t rows)) : rows.length ≤ M ∧ ∀ r ∈ rows,∀ c ∈ r,Small M c := by
 cases h with
 | lst _ _ h1 h2 => exact ⟨h1,h2⟩
theorem rkds_small {L : List (Cfg × Int)} (h : ∀ c ∈ [PV.lst 0 (ckR L)],Small 1048576 c) (hw : ∀ w ∈ L,w.1.okA) : ∀ w ∈ L,w.1.ok := fun w hm => by
 obtain ⟨_,h2⟩ := lst_smallR (h _ (List.mem_singleton.2 rfl))
 obtain ⟨g1,g2,g3,g4,_,_⟩ := hw w hm
 have hr := h2 _ (List.mem_map.2 ⟨w,hm,rfl⟩)
 have k1 := (lst_smallR (hr (.lst 0 (ints w.1.toA)) (by simp))).1
 have k2 := (lst_smallR (hr (.lst 0 (ints w.1.toB)) (by simp))).1
 rw [ints_length] at k1 k2
 exact ⟨g1,g2,g3,g4,by omega,by omega⟩
end Go.Pv
namespace Go.Pv
variable {a b : Auto} {cap : Int} {s : Cfg} {p : Cfg → Prop} {out : List Nd} {U : List Cfg}
end Go.Pv
namespace Go.Pv
variable {a b : Auto} {cap : Int} {p : Cfg → Prop} {out : List Nd} {L : List (Cfg × Int)}
theorem ck_in (hc : CkP a b cap L) {c e : Cfg} {l : List Mov} (hr : Run (mvC a b cap) c l e) (h0 : (fidx L c).isSome = true) : (fidx L e).isSome = true := by
 induction hr with
 | nil => exact h0
 | @cons c d e l m hm _ ih =>
  refine ih ?_
  obtain ⟨z,hz⟩ := Option.isSome_iff_exists.1 h0
  obtain ⟨w,hw,rfl⟩ := fidx_lt hz
  obtain ⟨h1,h2,_⟩ := mvC_after hm
  rw [← h2]
  exact (hc.2.2.2 z w hw).1 m h1
theorem ck_run (hc : CkP a b cap L) : ∀ (n k : Nat) (w : Cfg × Int),L[k]? = some w → w.2.toNat = n → ∃ (l : List Mov) (d : Cfg),Run (mvC a b cap) w.1 l d ∧ doneC a b cap d = true := by
 intro n
 induction n using Nat.strongRecOn with
 | _ n ih =>
  intro k w hw hn
  obtain ⟨g1,g2⟩ := hc.2.2.2 k w hw
  rcases g2 with ⟨_,g2⟩ | ⟨g2,g3⟩
  ·exact ⟨[],w.1,.nil _,g2⟩
  ·obtain ⟨m,hm,hlt⟩ := List.any_eq_true.1 g3
   obtain ⟨z,hz⟩ := Option.isSome_iff_exists.1 (g1 m hm)
   obtain ⟨v,hv,hvc⟩ := fidx_lt hz
   have hrk : rkC L (afterC a b cap w.1.a w.1.b w.1.toA w.1.toB m).1 = v.2 := by
    unfold rkC rkL
    rw [hz,Option.getD_some,hv]
    rfl
   rw [hrk,decide_eq_true_eq] at hlt
   obtain ⟨l,d,h1,h2⟩ := ih v.2.toNat (by omega) z v hv rfl
   refine ⟨m :: l,d,.cons ?_ h1,h2⟩
   rw [hvc]
   exact List.mem_map.2 ⟨m,hm,rfl⟩
theorem ck_safe (h : Spc a b cap (cfgStart a b) p out) (hc : CkP a b cap L) : ∀ i,i < out.length → 0 ≤ (rkN a b cap out).getD i (-1) := fun i hi => by
 obtain ⟨x,hx⟩ := get_at (l := out) (k := i) hi
 obtain ⟨z,hz⟩ := Option.isSome_iff_exists.1 (ck_in hc (h.run hx) hc.2.2.1)
 obtain ⟨w,hw,hwc⟩ := fidx_lt hz
 obtain ⟨l,d,h1,h2⟩ := ck_run hc _ z w hw rfl
 exact (h.rank_le h1 h2 hx hwc.symm).1
open Classical in
theorem ckB_iff : ckB a b cap L = true ↔ CkP a b cap L := ⟨fun h => of_decide_eq_true h,ckB_yes⟩
set_option maxHeartbeats 4000000 in
theorem r528 (r235 : res A PrA 235 [] = some [.bool true]) (d : PDr) (hd : d.ok) (L : List (Cfg × Int)) (hL : L.length ≤ 2 ^ 63 - 1) (hok : ∀ w ∈ L,w.1.ok) : res A PrA 528 [.agg [.int .u8 d.n,.lst 0 (arcs d.la),.lst 0 (arcs d.l),.bool d.mirror,.int .u8 d.skip,.int .u8 d.cap],.lst 0 (ckR L)] = some [.bool true] := by
 refine res_of a528 rfl rfl ?_
 simp only [F528]; try delta sS tT zZ nN gG bB pZ
 have h164 := r164 d hd
 obtain ⟨s1,s2,s3,s4,s5,s6,s7⟩ := PDr.sys hd
 cases hf : d.fit with
 | false =>
  rw [hf,if_neg (by decide)] at h164
  simp (disch := omega) only [go_sem,h164,r235]
 | true =>
  rw [hf,if_pos rfl] at h164
  have q1 : 1 + d.n % 3 % 4 = d.A.states := rfl
  have q2 : 1 + d.n2 % 3 % 4 = d.B.states := rfl
  have q3 : 1 + d.cap % 2 = d.c2 := rfl
  have q4 : d.A.start = 0 := rfl
  have q5 : d.B.start = 0 := rfl
  have q6 : d.A.edges.map Edge.c = edgs d.A.edges := rfl
  have q7 : d.B.edges.map Edge.c = edgs d.B.edges := rfl
  rw [q1,q2,q3] at h164
  by_cases c1 : L.length ≤ 500
  ·have d1 : decide ((500 : Int) < L.length) = false := decide_eq_false (by omega)
   have hF := few_sm s1 s2 s3 s4 s5
   have hruns := smC_runs s1 s2
   have hst : smC d.A d.B d.c2 (cfgStart d.A d.B) := hruns.st
   obtain ⟨out,ho,hS,hlo⟩ := hF.space hst
   have hR : SpcR d.A d.B d.c2 (cfgStart d.A d.B) (smC d.A d.B d.c2) out := ⟨hS,hF.sp,hlo,by omega,by omega⟩
   have h243 := r243g (cap := d.c2) c1 hok (a := d.A) (b := d.B) (by omega) (by omega) ⟨by rw [q4]; rfl,by rw [q5]; rfl⟩
   have h534 := r534 hruns hR ho
   cases hc : ckB d.A d.B d.c2 L with
   | false =>
    rw [hc] at h243
    simp only [q4,q5,q6,q7] at h243
    simp (disch := omega) only [go_sem,h164,r235,d1,h243]
   | true =>
    rw [hc] at h243
    have hm := rk_in (rkN_len hS) (ck_safe hS (ckB_iff.1 hc))
    rw [hm] at h534
    simp only [q4,q5,q6,q7,Bool.not_false] at h243 h534
    simp (disch := omega) only [go_sem,h164,r235,d1,h243,h534]
  ·have d1 : decide ((500 : Int) < L.length) = true := decide_eq_true (by omega)
   simp (disch := omega) only [go_sem,h164,r235,d1]
end Go.Pv
namespace Go.Pv
theorem r235 : res A PrA 235 [] = some [.bool true] := res_some.2 ⟨3000,by kernel_rfl⟩
end Go.Pv
