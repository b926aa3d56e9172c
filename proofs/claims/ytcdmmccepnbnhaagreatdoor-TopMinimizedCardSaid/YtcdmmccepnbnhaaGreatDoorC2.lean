/-
 What the functions of the law give.
-/
import Derived.Test.YtcdmmccepnbnhaaGreatDoorC1
set_option linter.unusedSimpArgs false
set_option linter.unusedVariables false
namespace Go.Pv
theorem fold_filter {α β : Type} (p : α → Bool) (f : α → β) : ∀ (l : List α) (o : List β),l.foldl (fun o x => if p x = true then o ++ [f x] else o) o = o ++ (l.filter p).map f
 | [],o => by simp
 | x :: l,o => by
  rw [List.foldl_cons,fold_filter p f l]
  by_cases h : p x = true <;> simp [h]
@[go_sem] theorem r43e (t : Nat) (n s : Int) (l : List Edge) (hl : l.length ≤ 2000000000) : res A PrA 43 [.agg [.int .i64 n,.int .i64 s,.lst t (edgs l)]] = some [.agg [.int .i64 n,.int .i64 s,.lst 0 (edgs (sortB Edge.lt l))]] := r43 t ⟨n,s,l⟩ hl
theorem edgs_dec (l : List Edge) : mapO Edge.dec (edgs l) = some l := by
 induction l with
 | nil => rfl
 | cons x l ih =>
  show mapO Edge.dec (x.c :: edgs l) = _
  have : Edge.dec x.c = some x := rfl
  simp only [mapO,this,ih]
theorem sortP_edgs {h : Heap} {id ver n : Nat} {l : List Edge} (hn : n = l.length) (ho : ownArr h id ver = some ⟨ver,4,.inl (edgs l)⟩) (h0 : l.length ≠ 0) (hm : l.length ≤ 2147483648) (hap : l.Pairwise (apt Edge.lt)) :
  sortP 4 (sortRows Edge.c Edge.dec Edge.lt) 47 [.own id ver 0 n,.func 47 []] h = some (.tup [],{ ar := some (id,⟨ver,4,.inl (edgs (isort Edge.lt l))⟩) }) := by
 subst hn
 have e1 : (edgs l).length = l.length := edgs_length l
 have hr := rising_of (isort_pw Edge.lt_tr hap)
 simp [sortP,ho,h0,e1,mostRows,hm,sortRows,edgs_dec,hr,List.take_of_length_le (Nat.le_of_eq e1),List.drop_eq_nil_of_le (Nat.le_of_eq e1)]
 rfl
end Go.Pv
namespace Go.Pv
@[go_sem] theorem r39e (t : Nat) (n s0 : Int) (l : List Edge) (s : Int) (d : Bool) (x : Int) (hl : l.length ≤ 2 ^ 63 - 1) :
  res A PrA 39 [.agg [.int .i64 n,.int .i64 s0,.lst t (edgs l)],.int .i64 s,.bool d,.int .i64 x] = some [.int .i64 ((nextE s d x l).getD 0),.bool (nextE s d x l).isSome] := r39 t ⟨n,s0,l⟩ s d x hl
end Go.Pv
namespace Go.Pv
structure Arc where
 fr : Int
 act : Int
 to : Int
 deriving DecidableEq,Inhabited
structure Draft where
 n : Int
 arcs : List Arc
 deriving DecidableEq,Inhabited
def Arc.c (x : Arc) : List PV := [.int .u8 x.fr,.int .u8 x.act,.int .u8 x.to]
def Arc.ok (x : Arc) : Prop := (0 ≤ x.fr ∧ x.fr ≤ 255) ∧ (0 ≤ x.act ∧ x.act ≤ 255) ∧ (0 ≤ x.to ∧ x.to ≤ 255)
def Draft.ok (d : Draft) : Prop := (0 ≤ d.n ∧ d.n ≤ 255) ∧ d.arcs.length ≤ 2 ^ 63 - 1 ∧ ∀ x ∈ d.arcs,x.ok
def Arc.edge (st : Int) (x : Arc) : Edge := ⟨x.fr % st,decide (x.act % 2 = 1),1 + x.act / 2 % 3,x.to % st⟩
def addE (es : List Edge) (e : Edge) : List Edge := if (nextE e.fr e.send e.label es).isSome = true then es else es ++ [e]
def Draft.raw (d : Draft) : List Edge := (d.arcs.take 12).foldl (fun es x => addE es (x.edge (1 + d.n % 4))) []
def Draft.auto (d : Draft) : Auto := ⟨1 + d.n % 4,0,sortB Edge.lt d.raw⟩
theorem nextE_none {s : Int} {d : Bool} {x : Int} : ∀ {es : List Edge},(nextE s d x es).isSome = false ↔ ∀ e ∈ es,¬ (e.fr = s ∧ e.send = d ∧ e.label = x)
 | [] => by simp [nextE]
 | e :: r => by
  unfold nextE
  split
  ·rename_i h
   simp [h]
  ·rename_i h
   rw [nextE_none]
   simp only [List.mem_cons]
   exact ⟨fun hh y hy => hy.elim (fun e => e ▸ h) (hh y),fun hh y hy => hh y (.inr hy)⟩
theorem addE_apt {es : List Edge} {e : Edge} (h : es.Pairwise (apt Edge.lt)) : (addE es e).Pairwise (apt Edge.lt) := by
 unfold addE
 split
 ·exact h
 ·rename_i hn
  have hn' := nextE_none.1 (by simpa using hn)
  rw [List.pairwise_append]
  refine ⟨h,List.pairwise_singleton _ _,fun a ha b hb => ?_⟩
  rw [List.mem_singleton] at hb
  subst hb
  rw [Edge.apt_iff]
  exact hn' a ha
theorem addE_len (es : List Edge) (e : Edge) : (addE es e).length ≤ es.length + 1 := by
 unfold addE
 split <;> simp
theorem addE_mem {es : List Edge} {e x : Edge} (h : x ∈ addE es e) : x ∈ es ∨ x = e := by
 unfold addE at h
 split at h
 ·exact .inl h
 ·simpa using h
theorem raw_spec {st : Int} (hs : 1 ≤ st ∧ st ≤ 4) : ∀ (l : List Arc) (es : List Edge),(∀ x ∈ l,x.ok) → es.Pairwise (apt Edge.lt) → (∀ e ∈ es,e.fits st = true) →
  (l.foldl (fun es x => addE es (x.edge st)) es).Pairwise (apt Edge.lt) ∧ (∀ e ∈ l.foldl (fun es x => addE es (x.edge st)) es,e.fits st = true) ∧ (l.foldl (fun es x => addE es (x.edge st)) es).length ≤ es.length + l.length
 | [],es,_,h1,h2 => ⟨h1,h2,by simp⟩
 | x :: l,es,hx,h1,h2 => by
  have hxo := hx x (by simp)
  have hf : (x.edge st).fits st = true := by
   rw [fits_iff]
   have a1 := Int.emod_nonneg x.fr (b := st) (by omega)
   have a2 := Int.emod_lt_of_pos x.fr (b := st) (by omega)
   have a3 := Int.emod_nonneg x.to (b := st) (by omega)
   have a4 := Int.emod_lt_of_pos x.to (b := st) (by omega)
   simp only [Arc.edge]
   omega
  obtain ⟨g1,g2,g3⟩ := raw_spec hs l (addE es (x.edge st)) (fun y hy => hx y (by simp [hy])) (addE_apt h1) fun e he => by
   rcases addE_mem he with h | h
   ·exact h2 e h
   ·exact h ▸ hf
  have := addE_len es (x.edge st)
  exact ⟨g1,g2,by simp only [List.foldl_cons,List.length_cons]; omega⟩
theorem Draft.st {d : Draft} : 1 ≤ 1 + d.n % 4 ∧ 1 + d.n % 4 ≤ 4 := by omega
theorem Draft.raw_ok {d : Draft} (h : d.ok) : d.raw.Pairwise (apt Edge.lt) ∧ (∀ e ∈ d.raw,e.fits (1 + d.n % 4) = true) ∧ d.raw.length ≤ 12 := by
 obtain ⟨h1,h2,h3⟩ := raw_spec d.st (d.arcs.take 12) [] (fun x hx => h.2.2 x (List.mem_of_mem_take hx)) List.Pairwise.nil (fun e he => absurd he (by simp))
 refine ⟨h1,h2,?_⟩
 have : (d.arcs.take 12).length ≤ 12 := by simp; omega
 simp only [List.length_nil] at h3
 unfold Draft.raw
 omega
theorem Draft.len {d : Draft} (h : d.ok) : d.auto.edges.length ≤ 12 := by
 have := (sortB_perm Edge.lt d.raw).length_eq
 have := d.raw_ok h
 show (sortB Edge.lt d.raw).length ≤ 12
 omega
theorem Draft.good {d : Draft} (h : d.ok) {s : Int} (hs : 0 ≤ s ∧ s < 1 + d.n % 4) : (⟨1 + d.n % 4,s,d.auto.edges⟩ : Auto).Good where
 st := hs
 mx := by
  have := d.st
  show 1 + d.n % 4 ≤ 12
  omega
 len := by
  have := d.len h
  show d.auto.edges.length ≤ 100
  omega
 fit e he := (d.raw_ok h).2.1 e ((sortB_perm Edge.lt d.raw).subset he)
 asc := sortB_sorted Edge.lt_tr (d.raw_ok h).1
end Go.Pv
namespace Go.Pv
@[go_sem] theorem binV_rem_pos {k : IntKind} {a b : Int} (ha : 0 ≤ a) (hb : 0 < b) : binV .rem (.pv (.int k a)) (.pv (.int k b)) = some (.pv (.int k (a % b))) := by
 rw [binV_rem (by omega),Int.tmod_eq_emod_of_nonneg ha]
@[go_sem] theorem binV_quo_u8 {a b : Int} (ha : 0 ≤ a) (hb : 0 < b) (h2 : a ≤ 255) : binV .quo (.pv (.int .u8 a)) (.pv (.int .u8 b)) = some (.pv (.int .u8 (a / b))) := by
 rw [binV_quo (by omega),Int.tdiv_eq_ediv_of_nonneg ha,wrap_u8]
 ·exact Int.ediv_nonneg ha (by omega)
 ·exact Int.le_trans (Int.ediv_le_self b ha) h2
attribute [go_sem] wrap_u8
set_option maxHeartbeats 2000000 in
@[go_sem] theorem r25 (t : Nat) (d : Draft) (hd : d.ok) : res A PrA 25 [.agg [.int .u8 d.n,.lst t (d.arcs.map Arc.c)]] = some [.agg [.int .i64 (1 + d.n % 4),.int .i64 0,.lst 0 (edgs d.auto.edges)],.bool (decide ((d.arcs.length : Int) ≤ 12))] := by
 refine res_of a25 rfl rfl ?_
 simp only [F25]; try delta sS tT zZ nN gG bB pZ
 obtain ⟨d1,d2,d3⟩ := hd
 have hst := d.st
 simp (disch := omega) only [go_sem]
 refine W.fold (d.arcs.take 12) (fun es x => addE es (x.edge (1 + d.n % 4))) [] (fun k o => ⟨[(1,.ptr 1 0),(2,.ptr 2 0),(4,.ptr 4 0),(5,.pv (.int .i64 k))],⟨[(1,[.pv (.int .u8 d.n),.pv (.lst t (d.arcs.map Arc.c))]),(2,[.pv (.int .i64 0),.pv (.int .i64 0),.tl []]),(4,[.pv (.int .i64 (1 + d.n % 4)),.pv (.int .i64 0),grV 0 (edgs o)])],grA 4 (edgs o),[]⟩⟩) (fun k o => o.length ≤ k) rfl (by simp) (fun k x o hx hk _ hi => ?_) (fun o ho hi => ?_)
 ·have hk2 : k < d.arcs.length ∧ k < 12 := by simp at hk; omega
  have hx' : d.arcs[k]? = some x := by rw [List.getElem?_take,if_pos hk2.2] at hx; exact hx
  have hxo := d3 x (List.mem_of_getElem? hx')
  unfold Arc.ok at hxo
  have q1 : (k : Int) < (d.arcs.length : Int) := by omega
  have q2 : (k : Int) < 12 := by omega
  have al := addE_len o (x.edge (1 + d.n % 4))
  have a1 := Int.emod_nonneg x.fr (b := 1 + d.n % 4) (by omega)
  have a2 := Int.emod_nonneg x.to (b := 1 + d.n % 4) (by omega)
  simp (disch := omega) only [go_sem,hx',q1,q2,Arc.c]
  have ha : addE o (x.edge (1 + d.n % 4)) = if (nextE (x.fr % (1 + d.n % 4)) (decide (x.act % 2 = 1)) (1 + x.act / 2 % 3) o).isSome = true then o else o ++ [x.edge (1 + d.n % 4)] := rfl
  refine Br.of (fun g => ?_) (fun g => ?_) <;> simp (disch := omega) only [go_sem,g]
  ·refine foldK.of ?_ (by omega)
   show _ = St.mk _ _
   rw [ha,if_pos g]
   rfl
  ·refine foldK.of ?_ (by omega)
   show _ = St.mk _ _
   rw [ha,if_neg (by simp [g])]
   rfl
 ·have hr : o = d.raw := ho
  have hro := d.raw_ok ⟨d1,d2,d3⟩
  have hlen := d.len ⟨d1,d2,d3⟩
  rcases Nat.lt_or_ge d.arcs.length 12 with hc | hc
  ·have e1 : (d.arcs.take 12).length = d.arcs.length := by simp; omega
   rw [e1]
   have q1 : ¬ ((d.arcs.length : Int) < (d.arcs.length : Int)) := by omega
   subst hr
   simp (disch := omega) only [go_sem,q1]
   rfl
  ·have e1 : (d.arcs.take 12).length = 12 := by simp; omega
   rw [e1]
   subst hr
   simp (disch := omega) only [go_sem]
   have q3 : ¬ (((12 : Nat) : Int) < 12) := by omega
   refine Br.ofP (fun g => ?_) (fun g => ?_) <;> simp (disch := omega) only [go_sem,g,q3] <;> rfl
end Go.Pv
namespace Go.Pv
theorem fold_outs (es : List Edge) (v : Int) : ∀ o : List Int,es.foldl (fun o e => if e.fr = v then addN o e.to else o) o = addL o (outs es v) := by
 induction es with
 | nil => intro o; rfl
 | cons e es ih =>
  intro o
  rw [List.foldl_cons,ih]
  by_cases h : e.fr = v
  ·rw [if_pos h]
   simp [outs,h,addL_cons]
  ·rw [if_neg h]
   simp [outs,h]
theorem glV_ints {n b : Nat} {o : List Int} {x : Int} (h : b ≤ o.length) : glV n b (ints (o ++ [x])) = .own n (o.length - b) 0 (o.length + 1) := by
 rw [← ints_snoc,glV_snoc (by rw [ints_length]; exact h),ints_length]
theorem glA_ints {b : Nat} {o : List Int} {x : Int} (h : b ≤ o.length) : glA 1 b (ints (o ++ [x])) = [⟨o.length - b,1,.inl (ints (o ++ [x]))⟩] := by
 rw [← ints_snoc,glA_snoc (by rw [ints_length]; exact h),ints_length]
theorem ints_len (l : List Int) : (ints l).length = l.length := ints_length l
end Go.Pv
namespace Go.Pv
def fillTo (x y : Int) (n k : Nat) : List Int := List.replicate k x ++ List.replicate (n - k) y
theorem fillTo_len {x y : Int} {n k : Nat} (h : k ≤ n) : (fillTo x y n k).length = n := by simp [fillTo]; omega
theorem fillTo_zero (x y : Int) (n : Nat) : fillTo x y n 0 = List.replicate n y := by simp [fillTo]
theorem fillTo_all (x y : Int) (n : Nat) : fillTo x y n n = List.replicate n x := by simp [fillTo]
theorem fillTo_succ {x y : Int} {n k : Nat} (h : k < n) : (fillTo x y n k).set k x = fillTo x y n (k + 1) := by
 unfold fillTo
 rw [List.set_append_right _ _ (by simp)]
 obtain ⟨m,hm⟩ : ∃ m,n - k = m + 1 := ⟨n - k - 1,by omega⟩
 have : n - (k + 1) = m := by omega
 rw [hm,this,List.replicate_succ' (n := k),List.append_assoc]
 simp [List.replicate_succ]
def places (n : Nat) (o : List Int) : List Int := (List.range n).map fun (v : Nat) => atL (v : Int) o
theorem places_len (n : Nat) (o : List Int) : (places n o).length = n := by simp [places]
theorem places_get {n : Nat} {o : List Int} {v : Int} (h : 0 ≤ v ∧ v < n) : (places n o)[v.toNat]? = some (atL v o) := by
 unfold places
 rw [List.getElem?_map,List.getElem?_range (by omega)]
 simp only [Option.map_some]
 rw [show ((v.toNat : Nat) : Int) = v by omega]
theorem atFrom_snoc {x y : Int} : ∀ {l : List Int} {k : Nat},x ∉ l → atFrom y k (l ++ [x]) = if y ∈ l then atFrom y k l else if y = x then ((k + l.length : Nat) : Int) else -1
 | [],k,_ => by
  simp only [List.nil_append,atFrom,List.not_mem_nil,if_false,List.length_nil,Nat.add_zero]
  by_cases h : x = y
  ·simp [h]
  ·have : ¬ y = x := fun e => h e.symm
   simp [h,this]
 | z :: l,k,hx => by
  simp only [List.mem_cons,not_or] at hx
  simp only [List.cons_append,atFrom]
  by_cases h : z = y
  ·simp [h]
  ·have hz : ¬ y = z := fun e => h e.symm
   rw [if_neg h,atFrom_snoc hx.2]
   simp only [List.mem_cons,hz,false_or,List.length_cons]
   split
   ·rfl
   ·split
    ·congr 1
     omega
    ·rfl
theorem atL_snoc {x y : Int} {l : List Int} (hx : x ∉ l) : atL y (l ++ [x]) = if y ∈ l then atL y l else if y = x then (l.length : Int) else -1 := by
 unfold atL
 rw [atFrom_snoc hx]
 simp
theorem atL_no {x : Int} {l : List Int} (h : x ∉ l) : atL x l = -1 := by
 have : ∀ {l : List Int} {k : Nat},x ∉ l → atFrom x k l = -1 := by
  intro l
  induction l with
  | nil => intro k _; rfl
  | cons y l ih =>
   intro k h
   simp only [List.mem_cons,not_or] at h
   unfold atFrom
   rw [if_neg (fun e => h.1 e.symm),ih h.2]
 exact this h
theorem places_snoc {n : Nat} {o : List Int} {x : Int} (hx : x ∉ o) (h : 0 ≤ x ∧ x < n) : (places n o).set x.toNat (o.length : Int) = places n (o ++ [x]) := by
 apply List.ext_getElem?
 intro i
 rcases Nat.lt_or_ge i n with hi | hi
 ·have e1 := places_get (n := n) (o := o ++ [x]) (v := (i : Int)) (by omega)
  rw [Int.toNat_natCast] at e1
  rw [e1,atL_snoc hx]
  by_cases hix : x.toNat = i
  ·have : (i : Int) = x := by omega
   rw [hix,List.getElem?_set_self (by rw [places_len]; exact hi),if_neg (by rw [this]; exact hx),if_pos this]
  ·have hne : ¬ (i : Int) = x := by omega
   have e2 := places_get (n := n) (o := o) (v := (i : Int)) (by omega)
   rw [Int.toNat_natCast] at e2
   rw [List.getElem?_set_ne hix,e2]
   split
   ·rfl
   ·rename_i hno
    first
     | rw [atL_no hno]
     | rw [if_neg hne,atL_no hno]
 ·rw [List.getElem?_eq_none (by simp [places_len,hi]),List.getElem?_eq_none (by simp [places_len,hi])]
theorem places_nil (n : Nat) : places n [] = List.replicate n (-1) := by
 apply List.ext_getElem?
 intro i
 rcases Nat.lt_or_ge i n with hi | hi
 ·have e1 := places_get (n := n) (o := []) (v := (i : Int)) (by omega)
  rw [Int.toNat_natCast] at e1
  rw [e1]
  simp [hi]
  rfl
 ·rw [List.getElem?_eq_none (by simp [places_len,hi]),List.getElem?_eq_none (by simp [hi])]
set_option maxHeartbeats 4000000 in
@[go_sem] theorem r50 (t : Nat) (a : Auto) (hg : a.Good) :
  res A PrA 50 [.agg [.int .i64 a.states,.int .i64 a.start,.lst t (a.edges.map Edge.c)]] = some [.lst 0 (ints a.order),.lst 0 (ints (places a.states.toNat a.order))] := by
 refine res_of a50 rfl rfl ?_
 simp only [F50]; try delta sS tT zZ nN gG bB pZ
 obtain ⟨g1,g2,g3,g4,g5⟩ := hg
 have hg : a.Good := ⟨g1,g2,g3,g4,g5⟩
 simp (disch := omega) only [go_sem]
 refine W.upto a.states.toNat (fun k => ⟨[(1,.ptr 1 0),(4,.own 0 0 0 a.states.toNat),(14,.pv (.int .i64 a.states.toNat)),(15,.pv (.int .i64 k))],⟨[(1,[.pv (.int .i64 a.states),.pv (.int .i64 a.start),.pv (.lst t (a.edges.map Edge.c))])],[⟨0,1,.inl (ints (fillTo (-1) 0 a.states.toNat k))⟩],[]⟩⟩) (fun _ => True) (by rw [fillTo_zero]; rfl) trivial fun k hk _ => ?_
 simp (disch := omega) only [go_sem]
 refine Br.ofP (fun h => ?_) (fun h => ?_)
 ·have ho := fillTo_len (x := -1) (y := 0) (n := a.states.toNat) (k := k) (by omega)
  simp (disch := omega) only [go_sem,fillTo_succ (show k < a.states.toNat by omega)]
  exact .of (by omega) rfl trivial
 obtain rfl : k = a.states.toNat := by omega
 clear h hk
 have hn : (List.replicate a.states.toNat (-1 : Int)).length = a.states.toNat := List.length_replicate
 have hp0 := places_snoc (n := a.states.toNat) (o := []) (x := a.start) (by simp) (by omega)
 rw [places_nil] at hp0
 simp only [List.length_nil,List.nil_append] at hp0
 have hp0' : (List.replicate a.states.toNat (-1 : Int)).set a.start.toNat 0 = places a.states.toNat [a.start] := hp0
 simp (disch := omega) only [go_sem,fillTo_all,hp0']
 refine W.loop (α := Nat × List Int) (fun x => ⟨[(1,.ptr 1 0),(4,.own 0 0 0 a.states.toNat),(6,glV 1 1 (ints x.2)),(7,.pv (.int .i64 x.1))],⟨[(1,[.pv (.int .i64 a.states),.pv (.int .i64 a.start),.pv (.lst t (a.edges.map Edge.c))])],⟨0,1,.inl (ints (places a.states.toNat x.2))⟩ :: glA 1 1 (ints x.2),[]⟩⟩)
  (fun x => x.2.Nodup ∧ (∀ v ∈ x.2,a.inr v) ∧ 1 ≤ x.2.length ∧ x.1 ≤ x.2.length ∧ bfs (outs a.edges) (a.states.toNat - x.1) x.1 x.2 = a.order) (fun x => a.states.toNat - x.1) (0,[a.start]) rfl ⟨by simp,fun w hw => (List.mem_singleton.1 hw) ▸ hg.st,by simp,by simp,rfl⟩ fun x hx => ?_
 obtain ⟨i,o⟩ := x
 obtain ⟨hd,hin,h1,h2,hb⟩ := hx
 dsimp only at hd hin h1 h2 hb
 have hlen := a.bound o hd hin
 simp (disch := omega) only [go_sem]
 refine Br.ofP (fun h => ?_) (fun h => ?_)
 ·obtain ⟨v,hv⟩ := get_at (l := o) (k := i) (by omega)
  simp (disch := omega) only [go_sem]
  refine W.fold a.edges (fun o e => if e.fr = v then addN o e.to else o) o (fun k o => ⟨[(1,.ptr 1 0),(4,.own 0 0 0 a.states.toNat),(6,glV 1 1 (ints o)),(7,.pv (.int .i64 i)),(36,.pv (.lst t (a.edges.map Edge.c))),(37,.pv (.int .i64 a.edges.length)),(38,.pv (.int .i64 k))],⟨[(1,[.pv (.int .i64 a.states),.pv (.int .i64 a.start),.pv (.lst t (a.edges.map Edge.c))])],⟨0,1,.inl (ints (places a.states.toNat o))⟩ :: glA 1 1 (ints o),[]⟩⟩)
   (fun _ o => o.Nodup ∧ (∀ v ∈ o,a.inr v) ∧ 1 ≤ o.length ∧ o[i]? = some v) rfl ⟨hd,hin,h1,hv⟩ (fun k e o he hk _ hi => ?_) (fun o ho hi => ?_)
  ·obtain ⟨hd,hin,h1,hv⟩ := hi
   have hlen := a.bound o hd hin
   have hef := fits_iff.1 (g4 e (List.mem_of_getElem? he))
   have hto : a.inr e.to := ⟨hef.2.2.1,hef.2.2.2.1⟩
   have hI : (if e.fr = v then addN o e.to else o).Nodup ∧ (∀ w ∈ (if e.fr = v then addN o e.to else o),a.inr w) ∧ 1 ≤ (if e.fr = v then addN o e.to else o).length ∧ (if e.fr = v then addN o e.to else o)[i]? = some v := by
    split
    ·obtain ⟨r,hr⟩ := addN_pre o e.to
     have hil := (List.getElem?_eq_some_iff.1 hv).1
     refine ⟨addN_nodup hd,fun x hx => (addN_mem.1 hx).elim (hin x) (fun q => q ▸ hto),by rw [← hr,List.length_append]; omega,by rw [← hr,List.getElem?_append_left hil]; exact hv⟩
    ·exact ⟨hd,hin,h1,hv⟩
   have hstay : e.fr = v → ¬ atL e.to o < 0 → (if e.fr = v then addN o e.to else o) = o := fun h1 h2 => by rw [if_pos h1,addN,if_pos (atL_pos.1 (by omega))]
   have hmore : e.fr = v → atL e.to o < 0 → (if e.fr = v then addN o e.to else o) = o ++ [e.to] := fun h1 h2 => by rw [if_pos h1,addN,if_neg (atL_neg.1 h2)]
   have hpl := places_len a.states.toNat o
   have hpg := places_get (n := a.states.toNat) (o := o) (v := e.to) (by omega)
   rcases gl_cases (b := 1) (rows := ints o) with hc | ⟨m,hc⟩
   ·rw [glV_lit hc,glA_lit hc]
    rw [ints_len] at hc
    simp (disch := omega) only [go_sem]
    refine Br.ofP (fun h => ?_) (fun h => (h (by omega)).elim)
    simp (disch := omega) only [go_sem,he,hv]
    refine Br.ofP (fun f1 => ?_) (fun f1 => ?_) <;> simp (disch := omega) only [go_sem,f1,hpg]
    ·refine Br.ofP (fun f2 => ?_) (fun f2 => ?_) <;> simp (disch := omega) only [go_sem,f2]
     ·refine foldK.of ?_ hI
      show _ = St.mk _ _
      rw [hmore f1 f2,glV_ints h1,glA_ints h1,show o.length - 1 = 0 by omega,← places_snoc (atL_neg.1 f2) (by omega)]
      rfl
     ·refine foldK.of ?_ hI
      show _ = St.mk _ _
      rw [hstay f1 f2,glV_lit (by rw [ints_len]; exact hc),glA_lit (by rw [ints_len]; exact hc)]
      rfl
    ·refine foldK.of ?_ hI
     show _ = St.mk _ _
     rw [if_neg f1,glV_lit (by rw [ints_len]; exact hc),glA_lit (by rw [ints_len]; exact hc)]
     rfl
   ·rw [glV_own hc,glA_own hc]
    rw [ints_len] at hc
    have hil := (List.getElem?_eq_some_iff.1 hv).1
    have ht : o.take (1 + m + 1) = o := List.take_of_length_le (by omega)
    have hi0 : (0 : Int) ≤ (i : Int) := by omega
    simp (disch := omega) only [go_sem]
    refine Br.ofP (fun h => ?_) (fun h => (h (by omega)).elim)
    simp (disch := omega) only [go_sem,he,hv]
    refine Br.ofP (fun f1 => ?_) (fun f1 => ?_) <;> simp (disch := omega) only [go_sem,f1,hpg]
    ·refine Br.ofP (fun f2 => ?_) (fun f2 => ?_) <;> simp (disch := omega) only [go_sem,f2]
     ·refine foldK.of ?_ hI
      show _ = St.mk _ _
      rw [hmore f1 f2,glV_ints h1,glA_ints h1,← places_snoc (atL_neg.1 f2) (by omega),show o.length - 1 = m + 1 by omega,hc]
      rfl
     ·refine foldK.of ?_ hI
      show _ = St.mk _ _
      rw [hstay f1 f2,glV_own (by rw [ints_len]; exact hc),glA_own (by rw [ints_len]; exact hc)]
      rfl
    ·refine foldK.of ?_ hI
     show _ = St.mk _ _
     rw [if_neg f1,glV_own (by rw [ints_len]; exact hc),glA_own (by rw [ints_len]; exact hc)]
     rfl
  ·rw [fold_outs] at ho
   simp (disch := omega) only [go_sem]
   obtain ⟨hd',hin',h1',hv'⟩ := hi
   have hl' := a.bound o hd' hin'
   have hil := (List.getElem?_eq_some_iff.1 hv').1
   refine ⟨(i + 1,o),⟨hd',hin',h1',hil,?_⟩,by dsimp only; omega,rfl⟩
   dsimp only
   rw [← hb,ho]
   obtain ⟨q,hq⟩ : ∃ q,a.states.toNat - i = q + 1 := ⟨a.states.toNat - i - 1,by omega⟩
   rw [hq,bfs_step hv]
   congr 1
   omega
 ·simp (disch := omega) only [go_sem]
  rw [bfs_end (by omega)] at hb
  rw [hb,List.take_of_length_le (by rw [places_len]; exact Nat.le_refl _)]
end Go.Pv
namespace Go.Pv
theorem kept_fold (o : List Int) (es : List Edge) : es.foldl (fun r e => if 0 ≤ atL e.fr o then r ++ [e.ren o] else r) [] = kept o es := by
 have h := fold_filter (fun e : Edge => decide (e.fr ∈ o)) (Edge.ren o) es []
 rw [List.nil_append] at h
 rw [← show _ = kept o es from h]
 congr 1
 funext r e
 by_cases hc : e.fr ∈ o
 ·simp [hc,atL_pos]
 ·simp [hc,atL_pos]
theorem kept_len (o : List Int) (es : List Edge) : (kept o es).length ≤ es.length := by
 unfold kept
 rw [List.length_map]
 exact List.length_filter_le _ _
def srtT (l : List Edge) : Tn := if l.length = 0 then {} else { ar := some (0,⟨l.length - 1,4,.inl (edgs (isort Edge.lt l))⟩) }
theorem sortP_gr {bx : List (Nat × List V)} {mp : List (List (PV × PV))} {l : List Edge} (hm : l.length ≤ 2147483648) (hap : l.Pairwise (apt Edge.lt)) :
  sortP 4 (sortRows Edge.c Edge.dec Edge.lt) 47 [grV 0 (edgs l),.func 47 []] ⟨bx,grA 4 (edgs l),mp⟩ = some (.tup [],srtT l) := by
 rcases Nat.eq_zero_or_pos l.length with h | h
 ·have : l = [] := List.eq_nil_of_length_eq_zero h
  subst this
  simp [srtT,edgs,grV,sortP]
 ·obtain ⟨m,hm'⟩ : ∃ m,(edgs l).length = m + 1 := ⟨l.length - 1,by rw [edgs_length]; omega⟩
  rw [grV_own hm',grA_own hm']
  rw [edgs_length] at hm'
  rw [sortP_edgs (l := l) hm'.symm (by simp [ownArr]) (by omega) hm hap,srtT,if_neg (by omega),hm']
  rfl
@[go_sem] theorem srtT_apply (bx : List (Nat × List V)) (mp : List (List (PV × PV))) (l : List Edge) : (srtT l).apply ⟨bx,grA 4 (edgs l),mp⟩ = ⟨bx,grA 4 (edgs (isort Edge.lt l)),mp⟩ := by
 have hp := (isort_perm Edge.lt l).length_eq
 rcases Nat.eq_zero_or_pos l.length with h | h
 ·have : l = [] := List.eq_nil_of_length_eq_zero h
  subst this
  simp [srtT,edgs,isort,Tn.apply,grA]
 ·obtain ⟨m,hm'⟩ : ∃ m,(edgs l).length = m + 1 := ⟨l.length - 1,by rw [edgs_length]; omega⟩
  have hm2 : (edgs (isort Edge.lt l)).length = m + 1 := by rw [edgs_length,hp,← edgs_length]; exact hm'
  rw [grA_own hm',grA_own hm2]
  rw [edgs_length] at hm'
  simp [srtT,Tn.apply,hm']
theorem grV_len {n : Nat} {a b : List (List PV)} (h : a.length = b.length) : grV n a = grV n b := by
 cases a <;> cases b <;> simp_all [grV]
set_option maxHeartbeats 2000000 in
@[go_sem] theorem r32 (t : Nat) (a : Auto) (hl : a.edges.length ≤ 2000000000) :
  res A PrA 32 [.agg [.int .i64 a.states,.int .i64 a.start,.lst t (a.edges.map Edge.c)]] = some (if a.err = 0 then [.agg [.int .i64 a.trim.states,.int .i64 0,.lst 0 (edgs a.trim.edges)],.int .i64 0] else [.agg [.int .i64 0,.int .i64 0,.lst 0 []],.int .i64 a.err]) := by
 refine res_of a32 rfl rfl ?_
 simp only [F32]; try delta sS tT zZ nN gG bB pZ
 simp (disch := omega) only [go_sem]
 refine Br.ofP (fun h1 => ?_) (fun h1 => ?_) <;> simp (disch := omega) only [go_sem,h1]
 have hg := Auto.good_iff.1 h1
 have hol := hg.from_len hg.st
 have hmx := hg.mx
 have hol' : a.order.length ≤ 12 := by unfold Auto.order; omega
 have hkl := kept_len a.order a.edges
 have hpl := places_len a.states.toNat a.order
 simp (disch := omega) only [go_sem,r50 t a hg]
 refine W.fold a.edges (fun r e => if 0 ≤ atL e.fr a.order then r ++ [e.ren a.order] else r) [] (fun k r => ⟨[(2,.ptr 2 0),(6,.pv (.lst 0 (ints (places a.states.toNat a.order)))),(7,.ptr 7 0),(25,.pv (.lst t (a.edges.map Edge.c))),(26,.pv (.int .i64 a.edges.length)),(27,.pv (.int .i64 k))],⟨[(2,[.pv (.int .i64 0),.pv (.int .i64 0),.tl []]),(7,[.pv (.int .i64 a.order.length),.pv (.int .i64 0),grV 0 (edgs r)])],grA 4 (edgs r),[]⟩⟩) (fun k r => r.length ≤ k) rfl (Nat.le_refl _) (fun k e r he hk _ hi => ?_) (fun r hr hi => ?_)
 ·have hef := fits_iff.1 (hg.fit e (List.mem_of_getElem? he))
  have q1 := places_get (n := a.states.toNat) (o := a.order) (v := e.fr) (by omega)
  have q2 := places_get (n := a.states.toNat) (o := a.order) (v := e.to) (by omega)
  obtain ⟨j1,hj1⟩ := Int.eq_ofNat_of_zero_le hef.1
  obtain ⟨j2,hj2⟩ := Int.eq_ofNat_of_zero_le hef.2.2.1
  simp (disch := omega) only [go_sem]
  refine Br.ofP (fun h => ?_) (fun h => (h (by omega)).elim)
  simp (disch := omega) only [go_sem,he,idxR_int,q1]
  refine Br.ofP (fun f => ?_) (fun f => ?_) <;> simp (disch := omega) only [go_sem,f,idxR_int,q1,q2]
  ·refine foldK.of ?_ (by rw [if_pos f]; simp; omega)
   show _ = St.mk _ _
   rw [if_pos f]
   rfl
  ·refine foldK.of ?_ (by rw [if_neg f]; omega)
   show _ = St.mk _ _
   rw [if_neg f]
   rfl
 ·rw [kept_fold] at hr
  subst hr
  simp (disch := omega) only [go_sem]
  rw [sortP_gr (by omega) (kept_apt hg.apt)]
  have hp := (isort_perm Edge.lt (kept a.order a.edges)).length_eq
  simp (disch := omega) only [go_sem]
  rw [grV_len (show (edgs (kept a.order a.edges)).length = (edgs (isort Edge.lt (kept a.order a.edges))).length by rw [edgs_length,edgs_length,hp])]
  simp (disch := omega) only [go_sem]
  rw [if_pos h1]
  rfl
end Go.Pv
namespace Go.Pv
def actC (x : Bool × Int) : List PV := [.bool x.1,.int .i64 x.2]
@[go_sem] theorem actC_eq (x : Bool × Int) : actC x = [.bool x.1,.int .i64 x.2] := rfl
end Go.Pv
namespace Go.Pv
@[go_sem] theorem r118 (t : Nat) (l : List Int) (x : Int) (hl : l.length ≤ 2 ^ 63 - 1) : res A PrA 118 [.lst t (ints l),.int .i64 x] = some [.int .i64 (atL x l)] := by
 refine res_of a118 rfl rfl ?_
 simp only [F118]; try delta sS tT zZ nN gG bB pZ
 simp (disch := omega) only [go_sem]
 refine W.upto l.length (fun k => ⟨[(0,.pv (.lst t (ints l))),(1,.pv (.int .i64 x)),(7,.pv (.int .i64 l.length)),(8,.pv (.int .i64 k))],⟨[],[],[]⟩⟩) (fun k => atL x l = atFrom x k (l.drop k)) rfl rfl fun k hk hi => ?_
 simp (disch := omega) only [go_sem]
 refine Br.ofP (fun h => ?_) (fun h => ?_)
 ·obtain ⟨y,hy⟩ := get_at (l := l) (k := k) (by omega)
  rw [drop_at hy] at hi
  simp (disch := omega) only [go_sem,hy]
  refine Br.ofP (fun g1 => ?_) (fun g1 => ?_) <;> simp (disch := omega) only [go_sem,g1]
  ·have hi' := hi
   rw [show atL y l = atL x l by rw [g1],hi']
   simp only [atFrom,if_pos g1.symm]
  ·exact .of (by omega) rfl (hi.trans (by simp only [atFrom,if_neg (fun e => g1 (Eq.symm e))]))
 ·simp (disch := omega) only [go_sem]
  rw [hi,drop_end h]
  rfl
@[go_sem] theorem r110 (t : Nat) (l : List Int) (x : Int) (hl : l.length ≤ 2 ^ 63 - 1) : res A PrA 110 [.lst t (ints l),.int .i64 x] = some [.bool (decide (x ∈ l))] := by
 refine res_of a110 rfl rfl ?_
 simp only [F110]; try delta sS tT zZ nN gG bB pZ
 simp (disch := omega) only [go_sem]
 simp only [atL_pos]
def idxP {α : Type} (p : α → Bool) (l : List α) : Int := match l.findIdx? p with
 | some k => k
 | none => -1
theorem idxP_pos {α : Type} {p : α → Bool} {l : List α} : decide (0 ≤ idxP p l) = l.any p := by
 unfold idxP
 cases h : l.findIdx? p with
 | none =>
  rw [List.findIdx?_eq_none_iff] at h
  have : l.any p = false := by rw [List.any_eq_false]; intro x hx; simp [h x hx]
  simp [this]
 | some k =>
  rw [List.findIdx?_eq_some_iff_getElem] at h
  obtain ⟨hk,hp,_⟩ := h
  have : l.any p = true := List.any_eq_true.2 ⟨_,List.getElem_mem hk,hp⟩
  simp [this]
theorem Found.idxP {α : Type} {l : List α} {p : α → Bool} {k : Nat} {x : α} (h : Found l p k x) : idxP p l = k := by
 unfold Pv.idxP
 rw [h.idx]
theorem Nowhere.idxP {α : Type} {l : List α} {p : α → Bool} (h : Nowhere l p) : idxP p l = -1 := by
 unfold Pv.idxP
 rw [h.idx]
def prs (l : List (Int × Int)) : List (List PV) := l.map fun x => [.int .i64 x.1,.int .i64 x.2]
@[go_sem] theorem prs_nil : prs [] = [] := rfl
end Go.Pv
namespace Go.Pv
def partTo {α β : Type} (f : α → β) (y : β) (l : List α) (k : Nat) : List β := (l.take k).map f ++ List.replicate (l.length - k) y
theorem partTo_len {α β : Type} (f : α → β) (y : β) (l : List α) {k : Nat} (h : k ≤ l.length) : (partTo f y l k).length = l.length := by simp [partTo]; omega
theorem partTo_zero {α β : Type} (f : α → β) (y : β) (l : List α) : partTo f y l 0 = List.replicate l.length y := by simp [partTo]
theorem partTo_all {α β : Type} (f : α → β) (y : β) (l : List α) : partTo f y l l.length = l.map f := by simp [partTo]
theorem partTo_set {α β : Type} {f : α → β} {y : β} {l : List α} {k : Nat} {x : α} (h : l[k]? = some x) : (partTo f y l k).set k (f x) = partTo f y l (k + 1) := by
 have hk := (List.getElem?_eq_some_iff.1 h).1
 unfold partTo
 rw [List.set_append_right _ _ (by simp; omega),List.take_add_one,h]
 obtain ⟨m,hm⟩ : ∃ m,l.length - k = m + 1 := ⟨l.length - k - 1,by omega⟩
 have : l.length - (k + 1) = m := by omega
 rw [hm,this]
 simp [Nat.min_eq_left (Nat.le_of_lt hk),List.replicate_succ]
end Go.Pv
namespace Go.Pv
def OwnL (ars : List Arr) (x : V) (l : List Int) : Prop :=
 ((x = .tl [] ∨ x = .pv (.lst 0 [])) ∧ l = []) ∨ ∃ id ver,x = .own (id + 1) ver 0 l.length ∧ l ≠ [] ∧ ars[id]? = some ⟨ver,1,.inl (ints l)⟩
structure Lists (n : Nat) (s : List (List Int)) (xs : List V) (ars : List Arr) : Prop where
 xl : xs.length = n
 sl : s.length = n
 own : ∀ (v : Nat) (x : V) (l : List Int),xs[v]? = some x → s[v]? = some l → OwnL ars x l
 dis : ∀ (v w : Nat) (x y : V) (i : Nat),xs[v]? = some x → xs[w]? = some y → ownId x = some i → ownId y = some i → v = w
def rowsV (xs : List V) : List (List V) := xs.map fun x => [x]
@[go_sem] theorem rowsV_get (xs : List V) (i : Nat) : (rowsV xs)[i]? = xs[i]?.map fun x => [x] := by simp [rowsV]
theorem rowsV_set (xs : List V) (i : Nat) (x : V) : (rowsV xs).set i [x] = rowsV (xs.set i x) := by simp [rowsV,List.map_set]
theorem rowsV_store {id row ver : Nat} {xs : List V} {y : V} (h1 : row < xs.length) (hc : y.calm = true) : storeRow id row 0 [y] ⟨ver,1,.inr (rowsV xs)⟩ = some { ar := some (id,⟨ver,1,.inr (rowsV (xs.set row y))⟩) } := by
 have h2 : row < (⟨ver,1,.inr (rowsV xs)⟩ : Arr).size := by simp [Arr.size,rowsV,h1]
 obtain ⟨z,hz⟩ : ∃ z,xs[row]? = some z := ⟨xs[row],by simp [h1]⟩
 have h3 : (rowsV xs).getD row [] = [z] := by simp [rowsV,hz]
 simp [storeRow,h2,hc,setBody,← rowsV_set]
 simp [rowsV,hz]
theorem rowsV_made (n : Nat) : sameRows n [.tl []] = .inr (rowsV (List.replicate n (.tl []))) := by
 simp [sameRows,mapO,V.purec,rowsV]
attribute [go_sem] rowsV_made
theorem rep_get {α : Type} {n i : Nat} {a x : α} (h : (List.replicate n a)[i]? = some x) : x = a := List.eq_of_mem_replicate (List.mem_of_getElem? h)
theorem Lists.start (n : Nat) : Lists n (List.replicate n []) (List.replicate n (.tl [])) [] where
 xl := by simp
 sl := by simp
 own v x l hx hl := .inl ⟨.inl (rep_get hx),rep_get hl⟩
 dis v w x y i hx _ hi _ := by
  rw [rep_get hx] at hi
  simp [ownId] at hi
theorem OwnL.id_lt {ars : List Arr} {x : V} {l : List Int} (h : OwnL ars x l) {i : Nat} (hi : ownId x = some i) : ∃ id ver,i = id + 1 ∧ x = .own (id + 1) ver 0 l.length ∧ ars[id]? = some ⟨ver,1,.inl (ints l)⟩ := by
 rcases h with ⟨rfl | rfl,_⟩ | ⟨id,ver,rfl,_,h⟩
 ·simp [ownId] at hi
 ·simp [ownId] at hi
 ·simp [ownId] at hi
  exact ⟨id,ver,hi.symm,rfl,h⟩
theorem OwnL.set {ars : List Arr} {x : V} {l : List Int} (h : OwnL ars x l) {id : Nat} {a : Arr} (hne : ownId x ≠ some (id + 1)) : OwnL (ars.set id a) x l := by
 rcases h with h | ⟨j,ver,rfl,h1,h2⟩
 ·exact .inl h
 ·refine .inr ⟨j,ver,rfl,h1,?_⟩
  rw [List.getElem?_set_ne]
  ·exact h2
  ·intro e
   exact hne (by rw [e]; rfl)
theorem OwnL.push {ars : List Arr} {x : V} {l : List Int} (h : OwnL ars x l) (a : List Arr) : OwnL (ars ++ a) x l := by
 rcases h with h | ⟨j,ver,rfl,h1,h2⟩
 ·exact .inl h
 ·exact .inr ⟨j,ver,rfl,h1,by rw [List.getElem?_append_left (List.getElem?_eq_some_iff.1 h2).1]; exact h2⟩
theorem Lists.upd {n : Nat} {s : List (List Int)} {xs : List V} {ars ars' : List Arr} (h : Lists n s xs ars) {v : Nat} {x' : V} {l' : List Int} (hv : v < n) (hx : OwnL ars' x' l')
  (hk : ∀ (w : Nat) (y : V) (l : List Int),w ≠ v → xs[w]? = some y → s[w]? = some l → OwnL ars' y l) (hd : ∀ (w : Nat) (y : V) (i : Nat),w ≠ v → xs[w]? = some y → ownId y = some i → ownId x' ≠ some i) : Lists n (s.set v l') (xs.set v x') ars' where
 xl := by rw [List.length_set]; exact h.xl
 sl := by rw [List.length_set]; exact h.sl
 own w y l hy hl := by
  by_cases e : w = v
  ·subst e
   rw [List.getElem?_set_self (by rw [h.xl]; exact hv)] at hy
   rw [List.getElem?_set_self (by rw [h.sl]; exact hv)] at hl
   cases hy
   cases hl
   exact hx
  ·rw [List.getElem?_set_ne (Ne.symm e)] at hy hl
   exact hk w y l e hy hl
 dis w w' y y' i hy hy' hi hi' := by
  by_cases e : w = v
  ·subst e
   rw [List.getElem?_set_self (by rw [h.xl]; exact hv)] at hy
   cases hy
   by_cases e' : w' = w
   ·exact e'.symm
   ·rw [List.getElem?_set_ne (Ne.symm e')] at hy'
    exact (hd w' y' i e' hy' hi' hi).elim
  ·rw [List.getElem?_set_ne (Ne.symm e)] at hy
   by_cases e' : w' = v
   ·subst e'
    rw [List.getElem?_set_self (by rw [h.xl]; exact hv)] at hy'
    cases hy'
    exact (hd w y i e hy hi hi').elim
   ·rw [List.getElem?_set_ne (Ne.symm e')] at hy'
    exact h.dis w w' y y' i hy hy' hi hi'
theorem Lists.get {n : Nat} {s : List (List Int)} {xs : List V} {ars : List Arr} (h : Lists n s xs ars) {v : Nat} (hv : v < n) : ∃ x l,xs[v]? = some x ∧ s[v]? = some l ∧ OwnL ars x l := by
 have h1 : v < xs.length := by rw [h.xl]; exact hv
 have h2 : v < s.length := by rw [h.sl]; exact hv
 exact ⟨xs[v],s[v],by simp,by simp,h.own v _ _ (by simp) (by simp)⟩
theorem Lists.lt {n : Nat} {s : List (List Int)} {xs : List V} {ars : List Arr} (h : Lists n s xs ars) {v i : Nat} {x : V} (hx : xs[v]? = some x) (hi : ownId x = some i) : i ≤ ars.length := by
 have hv : v < n := by rw [← h.xl]; exact (List.getElem?_eq_some_iff.1 hx).1
 obtain ⟨x',l,h1,h2,h3⟩ := h.get hv
 rw [hx] at h1
 cases h1
 obtain ⟨id,ver,rfl,_,h4⟩ := h3.id_lt hi
 exact (List.getElem?_eq_some_iff.1 h4).1
theorem Lists.first {n : Nat} {s : List (List Int)} {xs : List V} {ars : List Arr} (h : Lists n s xs ars) {v : Nat} {l : List Int} (hv : v < n) (hl : l ≠ []) : Lists n (s.set v l) (xs.set v (.own (ars.length + 1) 0 0 l.length)) (ars ++ [⟨0,1,.inl (ints l)⟩]) :=
 h.upd hv (.inr ⟨ars.length,0,rfl,hl,by simp⟩) (fun w y l _ hy hl => (h.own w y l hy hl).push _) fun w y i _ hy hi e => by
  have := h.lt hy hi
  simp only [ownId,Option.some.injEq] at e
  omega
theorem Lists.same {n : Nat} {s : List (List Int)} {xs : List V} {ars : List Arr} (h : Lists n s xs ars) {v id ver ver' m : Nat} {l : List Int} (hv : v < n) (hx : xs[v]? = some (.own (id + 1) ver 0 m)) (hl : l ≠ []) : Lists n (s.set v l) (xs.set v (.own (id + 1) ver' 0 l.length)) (ars.set id ⟨ver',1,.inl (ints l)⟩) := by
 have hlt := h.lt hx rfl
 refine h.upd hv (.inr ⟨id,ver',rfl,hl,by rw [List.getElem?_set_self (by omega)]⟩) (fun w y l hw hy hl => (h.own w y l hy hl).set fun e => hw (h.dis w v y _ (id + 1) hy hx e rfl)) fun w y i hw hy hi e => ?_
 simp only [ownId,Option.some.injEq] at e
 subst e
 exact hw (h.dis w v y _ (id + 1) hy hx hi rfl)
def lls (s : List (List Int)) : List (List PV) := s.map fun l => [.lst 0 (ints l)]
@[go_sem] theorem lls_len (s : List (List Int)) : (lls s).length = s.length := by simp [lls]
@[go_sem] theorem lls_get (s : List (List Int)) (i : Nat) : (lls s)[i]? = s[i]?.map fun l => [.lst 0 (ints l)] := by simp [lls]
end Go.Pv
namespace Go.Pv
@[go_sem] theorem rowsV_store_own {id row ver a b c d : Nat} {xs : List V} (h1 : row < xs.length) : storeRow id row 0 [.own a b c d] ⟨ver,1,.inr (rowsV xs)⟩ = some { ar := some (id,⟨ver,1,.inr (rowsV (xs.set row (.own a b c d)))⟩) } := rowsV_store h1 rfl
@[go_sem] theorem rowsV_store_pv {id row ver : Nat} {xs : List V} (h1 : row < xs.length) : storeRow id row 0 [.pv (.lst 0 [])] ⟨ver,1,.inr (rowsV xs)⟩ = some { ar := some (id,⟨ver,1,.inr (rowsV (xs.set row (.pv (.lst 0 []))))⟩) } := rowsV_store h1 rfl
theorem not_set {xs : List V} {x y : V} {i : Nat} (h : x ∉ xs) (hy : x ≠ y) : x ∉ xs.set i y := fun hm => by
 rcases List.mem_or_eq_of_mem_set hm with hm | hm
 ·exact h hm
 ·exact hy hm
def outP (es : List (Int × Int)) (v : Int) : List Int := (es.filter fun e => e.1 == v).map (·.2)
theorem outP_len (es : List (Int × Int)) (v : Int) : (outP es v).length ≤ es.length := by
 unfold outP
 rw [List.length_map]
 exact List.length_filter_le _ _
end Go.Pv
namespace Go.Pv
def nxt (s : List (List Int)) (v : Int) : List Int := s.getD v.toNat []
end Go.Pv
namespace Go.Pv
theorem ends_len (a : Auto) : a.ends.length ≤ 12 := by
 unfold Auto.ends
 split
 ·have := endsTo_len a.edges a.states.toNat
  omega
 ·simp
end Go.Pv
namespace Go.Pv
theorem outP_mem {es : List (Int × Int)} {v x : Int} : x ∈ outP es v ↔ (v,x) ∈ es := by
 unfold outP
 rw [List.mem_map]
 constructor
 ·rintro ⟨e,he,rfl⟩
  obtain ⟨h1,h2⟩ := List.mem_filter.1 he
  simp only [beq_iff_eq] at h2
  rw [← h2]
  exact h1
 ·exact fun h => ⟨_,List.mem_filter.2 ⟨h,by simp⟩,rfl⟩
end Go.Pv
namespace Go.Pv
def esT (rows : List (List Int)) (i : Nat) : List (Int × Int) := (List.range i).flatMap fun j => (rows.getD j []).map fun k => (k,(j : Int))
theorem esT_succ (rows : List (List Int)) (i : Nat) : esT rows (i + 1) = esT rows i ++ (rows.getD i []).map fun k => (k,(i : Int)) := by
 simp [esT,List.range_succ,List.flatMap_append]
theorem esT_mem {rows : List (List Int)} {i : Nat} {u v : Int} : (u,v) ∈ esT rows i ↔ ∃ j : Nat,j < i ∧ v = (j : Int) ∧ u ∈ rows.getD j [] := by
 simp only [esT,List.mem_flatMap,List.mem_range,List.mem_map,Prod.mk.injEq]
 constructor
 ·rintro ⟨j,hj,k,hk,rfl,rfl⟩
  exact ⟨j,hj,rfl,hk⟩
 ·rintro ⟨j,hj,rfl,hk⟩
  exact ⟨j,hj,u,hk,rfl,rfl⟩
def succA (n : Nat) (es : List (Int × Int)) : List (List Int) := (List.range n).map fun (v : Nat) => outP es v
theorem succA_get {n : Nat} {es : List (Int × Int)} {v : Nat} (h : v < n) : (succA n es)[v]? = some (outP es v) := by simp [succA,h]
theorem succA_nil (n : Nat) : succA n [] = List.replicate n [] := by
 apply List.ext_getElem?
 intro i
 unfold succA outP
 rcases Nat.lt_or_ge i n with hi | hi
 ·simp [hi]
 ·simp [hi]
theorem succA_snoc {n : Nat} {es : List (Int × Int)} {e : Int × Int} (h : 0 ≤ e.1 ∧ e.1 < n) : (succA n es).set e.1.toNat (outP es e.1 ++ [e.2]) = succA n (es ++ [e]) := by
 apply List.ext_getElem?
 intro i
 rcases Nat.lt_or_ge i n with hi | hi
 ·rw [succA_get hi]
  unfold outP
  rw [List.filter_append,List.map_append]
  by_cases hx : e.1.toNat = i
  ·have hx' : e.1 = (i : Int) := by omega
   rw [hx,List.getElem?_set_self (by simp [succA,hi])]
   simp [hx']
  ·have hx' : ¬ e.1 = (i : Int) := by omega
   rw [List.getElem?_set_ne hx,succA_get hi]
   simp [hx',outP]
 ·rw [List.getElem?_eq_none (by simp [succA,hi]),List.getElem?_eq_none (by simp [succA,hi])]
theorem nxt_succA {n : Nat} {es : List (Int × Int)} (h : ∀ e ∈ es,0 ≤ e.1 ∧ e.1 < (n : Int)) {v x : Int} (hv : 0 ≤ v) : x ∈ nxt (succA n es) v ↔ (v,x) ∈ es := by
 unfold nxt
 rcases Nat.lt_or_ge v.toNat n with hn | hn
 ·have : (succA n es)[v.toNat]? = some (outP es v) := by
   rw [succA_get hn,show ((v.toNat : Nat) : Int) = v by omega]
  simp only [List.getD_eq_getElem?_getD,this,Option.getD_some]
  exact outP_mem
 ·have h1 : (succA n es)[v.toNat]? = none := List.getElem?_eq_none (by simp [succA,hn])
  simp only [List.getD_eq_getElem?_getD,h1,Option.getD_none]
  constructor
  ·intro hh; cases hh
  ·intro hh
   have := (h _ hh).2
   dsimp only at this
   omega
def ranksC (rows : List (List Int)) (dn : List Int) : List Int := levels (nxt (succA rows.length (esT rows rows.length))) rows.length dn
def edR (rows : List (List Int)) (v u : Int) : Prop := 0 ≤ v ∧ u ∈ rows.getD v.toNat []
theorem back_in {rows : List (List Int)} (hr : ∀ l ∈ rows,∀ x ∈ l,0 ≤ x ∧ x < (rows.length : Int)) : ∀ e ∈ esT rows rows.length,(0 ≤ e.1 ∧ e.1 < (rows.length : Int)) ∧ (0 ≤ e.2 ∧ e.2 < (rows.length : Int)) := fun e he => by
 obtain ⟨u,v⟩ := e
 obtain ⟨j,hj,rfl,hu⟩ := esT_mem.1 he
 have hg : rows.getD j [] = rows[j] := by simp [hj]
 rw [hg] at hu
 exact ⟨hr _ (List.getElem_mem _) u hu,by omega,by omega⟩
theorem nx_in {rows : List (List Int)} (hr : ∀ l ∈ rows,∀ x ∈ l,0 ≤ x ∧ x < (rows.length : Int)) : ∀ v x,x ∈ nxt (succA rows.length (esT rows rows.length)) v → 0 ≤ x ∧ x < (rows.length : Int) := fun v x hx => by
 unfold nxt at hx
 cases hg : (succA rows.length (esT rows rows.length))[v.toNat]? with
 | none => simp [hg] at hx
 | some l =>
  simp only [List.getD_eq_getElem?_getD,hg,Option.getD_some] at hx
  obtain ⟨w,_,rfl⟩ := List.mem_map.1 (List.mem_of_getElem? hg)
  exact (back_in hr _ (outP_mem.1 hx)).2
theorem ranks_dist {rows : List (List Int)} {dn : List Int} (hr : ∀ l ∈ rows,∀ x ∈ l,0 ≤ x ∧ x < (rows.length : Int)) (hd : ∀ x ∈ dn,0 ≤ x ∧ x < (rows.length : Int)) : Dist rows.length (edR rows) dn (ranksC rows dn) := by
 have h := levels_dist (nx := nxt (succA rows.length (esT rows rows.length))) (nx_in hr) hd
 have key : ∀ v u : Int,0 ≤ u → (0 ≤ v ∧ v < (rows.length : Int)) → (v ∈ nxt (succA rows.length (esT rows rows.length)) u ↔ edR rows v u) := fun v u hu hv => by
  rw [nxt_succA (fun e he => (back_in hr e he).1) hu,esT_mem]
  constructor
  ·rintro ⟨j,hj,rfl,h⟩
   exact ⟨hv.1,by rw [Int.toNat_natCast]; exact h⟩
  ·rintro ⟨h1,h2⟩
   exact ⟨v.toNat,by omega,by omega,h2⟩
 exact ⟨h.len,h.low,h.zero,fun v u he hr' hp => h.step v u ((key v u hr'.2.2.1 ⟨hr'.1,hr'.2.1⟩).2 he) hr' hp,fun v h0 h1 hp => by
  obtain ⟨u,u1,u2,u3,u4⟩ := h.back v h0 h1 hp
  exact ⟨u,(key v u u2 ⟨h0,h1⟩).1 u1,u2,u3,u4⟩⟩
end Go.Pv
namespace Go.Pv
theorem dig_inj {n m : Nat} (hn : n < 10) (hm : m < 10) (h : UInt8.ofNat (48 + n) = UInt8.ofNat (48 + m)) : n = m := by
 have := congrArg UInt8.toNat h
 simp only [UInt8.toNat_ofNat'] at this
 omega
theorem dig_ne {n k : Nat} (hn : n < 10) (hk : k < 48 ∨ 57 < k) (hk2 : k < 256) : UInt8.ofNat (48 + n) ≠ UInt8.ofNat k := fun h => by
 have := congrArg UInt8.toNat h
 simp only [UInt8.toNat_ofNat'] at this
 omega
def Cfg.ok (c : Cfg) : Prop := smallI c.a = true ∧ smallI c.b = true ∧ c.toA.all smallI = true ∧ c.toB.all smallI = true ∧ c.toA.length ≤ 1000 ∧ c.toB.length ≤ 1000
def Cfg.key (c : Cfg) : ByteArray := keyS c.a c.b c.toA c.toB
end Go.Pv
namespace Go.Pv
def spN (n : Int) : List UInt8 := 32 :: encN n
def keyB (a b : Int) (l m : List Int) : List UInt8 := encN a ++ (spN b ++ (l.flatMap spN ++ (59 :: m.flatMap spN)))
def keyBS (a b : Int) (l m : List Int) : ByteArray := ⟨(keyB a b l m).toArray⟩
def Cfg.keyB (c : Cfg) : ByteArray := keyBS c.a c.b c.toA c.toB
def stops : List UInt8 → Prop
 | [] => True
 | x :: _ => x = 32 ∨ x = 59
theorem stops32 (t : List UInt8) : stops (32 :: t) := Or.inl rfl
theorem stops59 (t : List UInt8) : stops (59 :: t) := Or.inr rfl
theorem encN_stop {x y : Int} {p q : List UInt8} (hx : smallI x = true) (hy : smallI y = true) (hp : stops p) (hq : stops q) (h : encN x ++ p = encN y ++ q) : x = y ∧ p = q := by
 simp only [smallI,Bool.and_eq_true,decide_eq_true_eq] at hx hy
 have key : ∀ (n : Nat) (r : List UInt8),n < 10 → stops r → UInt8.ofNat (48 + n) :: r ≠ r ∧ ∀ t,stops (UInt8.ofNat (48 + n) :: t) → False := fun n r hn _ => ⟨fun e => by simpa using congrArg List.length e,fun t ht => by
  rcases ht with ht | ht
  ·exact dig_ne hn (k := 32) (.inl (by omega)) (by omega) ht
  ·exact dig_ne hn (k := 59) (.inr (by omega)) (by omega) ht⟩
 unfold encN at h
 by_cases h1 : x < 10 <;> by_cases h2 : y < 10
 ·rw [if_pos h1,if_pos h2] at h
  simp only [List.cons_append,List.nil_append,List.cons.injEq] at h
  have := dig_inj (n := x.toNat) (m := y.toNat) (by omega) (by omega) h.1
  exact ⟨by omega,h.2⟩
 ·rw [if_pos h1,if_neg h2] at h
  simp only [List.cons_append,List.nil_append,List.cons.injEq] at h
  rw [h.2] at hp
  exact ((key (y.toNat % 10) [] (by omega) trivial).2 _ hp).elim
 ·rw [if_neg h1,if_pos h2] at h
  simp only [List.cons_append,List.nil_append,List.cons.injEq] at h
  rw [← h.2] at hq
  exact ((key (x.toNat % 10) [] (by omega) trivial).2 _ hq).elim
 ·rw [if_neg h1,if_neg h2] at h
  simp only [List.cons_append,List.nil_append,List.cons.injEq] at h
  have e1 := dig_inj (n := x.toNat / 10) (m := y.toNat / 10) (by omega) (by omega) h.1
  have e2 := dig_inj (n := x.toNat % 10) (m := y.toNat % 10) (by omega) (by omega) h.2.1
  exact ⟨by omega,h.2.2⟩
theorem stops_sp {l : List Int} {r : List UInt8} (hr : stops r) : stops (l.flatMap spN ++ r) := by
 cases l with
 | nil => exact hr
 | cons x l => exact .inl rfl
theorem flat_inj : ∀ {l l' : List Int} {p q : List UInt8},l.all smallI = true → l'.all smallI = true → (p = [] ∨ ∃ t,p = 59 :: t) → (q = [] ∨ ∃ t,q = 59 :: t) → l.flatMap spN ++ p = l'.flatMap spN ++ q → l = l' ∧ p = q
 | [],[],p,q,_,_,_,_,h => ⟨rfl,h⟩
 | [],y :: l',p,q,_,_,hp,_,h => by
  rcases hp with rfl | ⟨t,rfl⟩
  ·simp [spN] at h
  ·simp [spN] at h
 | x :: l,[],p,q,_,_,_,hq,h => by
  rcases hq with rfl | ⟨t,rfl⟩
  ·simp [spN] at h
  ·simp [spN] at h
 | x :: l,y :: l',p,q,h1,h2,hp,hq,h => by
  have sp : stops p := hp.elim (fun h => by rw [h]; trivial) fun ⟨t,h⟩ => by rw [h]; exact .inr rfl
  have sq : stops q := hq.elim (fun h => by rw [h]; trivial) fun ⟨t,h⟩ => by rw [h]; exact .inr rfl
  simp only [List.all_cons,Bool.and_eq_true] at h1 h2
  simp only [List.flatMap_cons,spN,List.cons_append,List.append_assoc,List.cons.injEq,true_and] at h
  obtain ⟨e1,e2⟩ := encN_stop h1.1 h2.1 (stops_sp sp) (stops_sp sq) h
  obtain ⟨e3,e4⟩ := flat_inj h1.2 h2.2 hp hq e2
  exact ⟨by rw [e1,e3],e4⟩
theorem keyB_inj {c d : Cfg} (hc : c.ok) (hd : d.ok) (h : c.keyB = d.keyB) : c = d := by
 obtain ⟨c1,c2,c3,c4,_⟩ := hc
 obtain ⟨d1,d2,d3,d4,_⟩ := hd
 have h : keyB c.a c.b c.toA c.toB = keyB d.a d.b d.toA d.toB := by
  have := congrArg (fun b : ByteArray => b.data.toList) h
  simpa [Cfg.keyB,keyBS] using this
 unfold keyB at h
 obtain ⟨e1,h⟩ := encN_stop c1 d1 (stops32 _) (stops32 _) h
 have h := (List.cons.inj h).2
 obtain ⟨e2,h⟩ := encN_stop c2 d2 (stops_sp (stops59 _)) (stops_sp (stops59 _)) h
 obtain ⟨e3,h⟩ := flat_inj c3 d3 (.inr ⟨_,rfl⟩) (.inr ⟨_,rfl⟩) h
 simp only [List.cons.injEq,true_and] at h
 obtain ⟨e4,_⟩ := flat_inj (p := []) (q := []) c4 d4 (.inl rfl) (.inl rfl) (by simpa using h)
 cases c; cases d
 simp only at e1 e2 e3 e4
 subst e1; subst e2; subst e3; subst e4
 rfl
end Go.Pv
namespace Go.Pv
section
variable {α : Type} [DecidableEq α]
def addU (out : List α) (c : α) : List α := if c ∈ out then out else out ++ [c]
def addUs (lim : Nat) : List α → List α → Option (List α)
 | out,[] => some out
 | out,c :: l => if lim < (addU out c).length then none else addUs lim (addU out c) l
def bfsL (succ : α → List α) (lim : Nat) : Nat → List α → Nat → Option (List α)
 | 0,_,_ => none
 | n + 1,out,i => match out[i]? with
  | none => some out
  | some c => match addUs lim out (succ c) with
   | none => none
   | some out' => bfsL succ lim n out' (i + 1)
theorem addU_mem {out : List α} {c x : α} : x ∈ addU out c ↔ x ∈ out ∨ x = c := by
 unfold addU
 split
 ·rename_i h
  exact ⟨.inl,fun hh => hh.elim id fun e => e ▸ h⟩
 ·simp
theorem addU_nodup {out : List α} {c : α} (h : out.Nodup) : (addU out c).Nodup := by
 unfold addU
 split
 ·exact h
 ·rename_i hc
  exact List.nodup_append.2 ⟨h,by simp,fun a ha b hb => by
   rw [List.mem_singleton.1 hb]
   exact fun e => hc (e ▸ ha)⟩
theorem addU_pre {out : List α} {c : α} : out <+: addU out c := by
 unfold addU
 split
 ·exact List.prefix_refl _
 ·exact List.prefix_append _ _
theorem addUs_some {lim : Nat} : ∀ {l out out' : List α},addUs lim out l = some out' → out <+: out' ∧ (∀ x,x ∈ out' ↔ x ∈ out ∨ x ∈ l) ∧ (out.Nodup → out'.Nodup) ∧ (out.length ≤ lim → out'.length ≤ lim)
 | [],out,out',h => by
  cases h
  exact ⟨List.prefix_refl _,by simp,id,id⟩
 | c :: l,out,out',h => by
  unfold addUs at h
  split at h
  ·cases h
  ·rename_i hl
   obtain ⟨h1,h2,h3,h4⟩ := addUs_some h
   refine ⟨addU_pre.trans h1,fun x => ?_,fun hn => h3 (addU_nodup hn),fun _ => h4 (by omega)⟩
   rw [h2,addU_mem,List.mem_cons,or_assoc]
theorem addUs_total {lim : Nat} {U : List α} (hU : U.length ≤ lim) : ∀ {l out : List α},out.Nodup → (∀ x ∈ out,x ∈ U) → (∀ x ∈ l,x ∈ U) → ∃ out',addUs lim out l = some out'
 | [],out,_,_,_ => ⟨out,rfl⟩
 | c :: l,out,hn,h1,h2 => by
  have hm : ∀ x ∈ addU out c,x ∈ U := fun x hx => by
   rcases addU_mem.1 hx with hx | rfl
   ·exact h1 x hx
   ·exact h2 _ (List.mem_cons_self ..)
  have hl : (addU out c).length ≤ U.length := (addU_nodup hn).length_le_of_subset hm
  unfold addUs
  rw [if_neg (by omega)]
  exact addUs_total hU (addU_nodup hn) hm fun x hx => h2 x (List.mem_cons_of_mem _ hx)
structure Bfs (succ : α → List α) (s : α) (out : List α) (i : Nat) : Prop where
 nd : out.Nodup
 st : s ∈ out
 dn : ∀ j c,j < i → out[j]? = some c → ∀ x ∈ succ c,x ∈ out
theorem Bfs.next {succ : α → List α} {s c : α} {out out' : List α} {i lim : Nat} (h : Bfs succ s out i) (hc : out[i]? = some c) (ha : addUs lim out (succ c) = some out') : Bfs succ s out' (i + 1) := by
 obtain ⟨h1,h2,h3,_⟩ := addUs_some ha
 refine ⟨h3 h.nd,(h2 s).2 (.inl h.st),fun j d hj hd x hx => ?_⟩
 have hlt : i < out.length := (List.getElem?_eq_some_iff.1 hc).1
 have hd' : out[j]? = some d := by
  obtain ⟨r,rfl⟩ := h1
  rwa [List.getElem?_append_left (by omega)] at hd
 rcases Nat.lt_or_ge j i with hji | hji
 ·exact (h2 x).2 (.inl (h.dn j d hji hd' x hx))
 ·obtain rfl : j = i := by omega
  rw [hc] at hd'
  cases hd'
  exact (h2 x).2 (.inr hx)
theorem bfsL_spec {succ : α → List α} {s : α} {lim : Nat} {p : α → Prop} (hp : ∀ c,p c → ∀ x ∈ succ c,p x) : ∀ {n : Nat} {out out' : List α} {i : Nat},Bfs succ s out i → (∀ x ∈ out,p x) → bfsL succ lim n out i = some out' → Bfs succ s out' out'.length ∧ (∀ x ∈ out',p x) ∧ out <+: out'
 | 0,_,_,_,_,_,h => by cases h
 | n + 1,out,out',i,hb,ho,h => by
  unfold bfsL at h
  split at h
  ·rename_i hi
   cases h
   have : out.length ≤ i := List.getElem?_eq_none_iff.1 hi
   exact ⟨⟨hb.nd,hb.st,fun j c hj => hb.dn j c (by omega)⟩,ho,List.prefix_refl _⟩
  ·rename_i c hc
   split at h
   ·cases h
   ·rename_i o2 ha
    obtain ⟨h1,h2,_,_⟩ := addUs_some ha
    obtain ⟨q1,q2,q3⟩ := bfsL_spec hp (hb.next hc ha) (fun x hx => by
     rcases (h2 x).1 hx with hx | hx
     ·exact ho x hx
     ·exact hp c (ho c (List.mem_of_getElem? hc)) x hx) h
    exact ⟨q1,q2,h1.trans q3⟩
theorem bfsL_total {succ : α → List α} {s : α} {lim : Nat} {U : List α} (hU : U.length ≤ lim) (hp : ∀ c ∈ U,∀ x ∈ succ c,x ∈ U) : ∀ {n : Nat} {out : List α} {i : Nat},Bfs succ s out i → (∀ x ∈ out,x ∈ U) → i ≤ out.length → lim + 2 ≤ n + i → ∃ out',bfsL succ lim n out i = some out'
 | 0,out,i,hb,ho,hi,hn => by
  have : out.length ≤ U.length := hb.nd.length_le_of_subset ho
  omega
 | n + 1,out,i,hb,ho,hi,hn => by
  unfold bfsL
  split
  ·exact ⟨_,rfl⟩
  ·rename_i c hc
   have hcU := ho c (List.mem_of_getElem? hc)
   obtain ⟨o2,ha⟩ := addUs_total hU (l := succ c) hb.nd ho (hp c hcU)
   rw [ha]
   obtain ⟨h1,h2,_,_⟩ := addUs_some ha
   have hlt : i < out.length := (List.getElem?_eq_some_iff.1 hc).1
   refine bfsL_total hU hp (hb.next hc ha) (fun x hx => ?_) (by have := h1.length_le; omega) (by omega)
   rcases (h2 x).1 hx with hx | hx
   ·exact ho x hx
   ·exact hp c hcU x hx
theorem bfs0 (succ : α → List α) (s : α) : Bfs succ s [s] 0 := ⟨by simp,by simp,fun j c hj => by omega⟩
end
end Go.Pv
namespace Go.Pv
def seenS (l : List ByteArray) : List (PV × PV) := l.map fun s => (.str s,.bool true)
def lookS (x : ByteArray) (l : List ByteArray) : Option (Nat × PV) := (l.findIdx? fun s => decide (s = x)).map fun i => (i,.bool true)
def hasS (l : List ByteArray) (x : ByteArray) : Bool := l.any fun s => decide (s = x)
theorem hasS_iff {l : List ByteArray} {x : ByteArray} : hasS l x = true ↔ x ∈ l := by simp [hasS]
def insS (l : List ByteArray) (x : ByteArray) : List ByteArray := if hasS l x = true then l else l ++ [x]
theorem keyEq_str (a b : ByteArray) : keyEq false [2] (.str a) (.str b) = some (decide (a = b)) := by
 show eqsAll [2] [.str a] [.str b] = _
 rw [eqsAll_cons,eqs_str,eqsAll_nil]
 simp
theorem findKey_str (x : ByteArray) : ∀ (l : List ByteArray) (i : Nat),findKey false [2] (.str x) (seenS l) i = some ((lookS x l).map fun p => (p.1 + i,p.2))
 | [],i => by
  show (if (keyEq false [2] (.str x) (.str x)).isSome then some none else none) = _
  rw [keyEq_str]
  rfl
 | y :: l,i => by
  show (match keyEq false [2] (.str x) (.str y) with
   | some true => some (some (i,PV.bool true))
   | some false => findKey false [2] (.str x) (seenS l) (i + 1)
   | none => none) = _
  rw [keyEq_str]
  by_cases h : x = y
  ·subst h
   simp [lookS,List.findIdx?_cons]
  ·have h' : ¬ y = x := fun e => h e.symm
   simp only [h,decide_false]
   rw [findKey_str x l (i + 1)]
   simp only [lookS,List.findIdx?_cons,h',decide_false]
   cases l.findIdx? fun s => decide (s = x) with
   | none => rfl
   | some j => simp; omega
@[go_sem] theorem find_seenS (x : ByteArray) (l : List ByteArray) : findKey false [2] (.str x) (seenS l) 0 = some (lookS x l) := by
 rw [findKey_str]
 cases lookS x l <;> rfl
theorem lookS_some {x : ByteArray} {l : List ByteArray} : (lookS x l).isSome = true ↔ x ∈ l := by
 unfold lookS
 rw [Option.isSome_map,List.findIdx?_isSome,List.any_eq_true]
 simp
@[go_sem] theorem upd_seenS (x : ByteArray) (l : List ByteArray) (id : Nat) : updM false [2] (.str x) (.bool true) id (seenS l) = some { mp := some (id,seenS (insS l x)) } := by
 unfold updM
 rw [find_seenS]
 have h := lookS_some (x := x) (l := l)
 rw [← hasS_iff] at h
 cases hl : lookS x l with
 | none =>
  rw [hl] at h
  have : hasS l x = false := by
   cases hx : hasS l x with
   | false => rfl
   | true => simpa using h.2 hx
  simp [insS,this,seenS]
 | some p =>
  rw [hl] at h
  have hx : hasS l x = true := h.1 rfl
  unfold lookS at hl
  obtain ⟨i,hi,rfl⟩ := Option.map_eq_some_iff.1 hl
  obtain ⟨h1,h2,_⟩ := List.findIdx?_eq_some_iff_getElem.1 hi
  have h3 : l[i] = x := by simpa using h2
  simp only [insS,hx,if_true]
  congr 4
  apply List.ext_getElem?
  intro j
  rw [List.getElem?_set]
  split
  ·rename_i hj
   subst hj
   simp [seenS,h1,h3]
  ·rfl
end Go.Pv
namespace Go.Pv
end Go.Pv
namespace Go.Pv
@[go_sem] theorem r32e (t : Nat) (n s : Int) (l : List Edge) (hl : l.length ≤ 2000000000) : res A PrA 32 [.agg [.int .i64 n,.int .i64 s,.lst t (edgs l)]] = some (if (⟨n,s,l⟩ : Auto).err = 0 then [.agg [.int .i64 (⟨n,s,l⟩ : Auto).trim.states,.int .i64 0,.lst 0 (edgs (⟨n,s,l⟩ : Auto).trim.edges)],.int .i64 0] else [.agg [.int .i64 0,.int .i64 0,.lst 0 []],.int .i64 (⟨n,s,l⟩ : Auto).err]) := r32 t ⟨n,s,l⟩ hl
def Draft.from (d : Draft) (s : Int) : Auto := ⟨1 + d.n % 4,s % (1 + d.n % 4),d.auto.edges⟩
end Go.Pv
namespace Go.Pv
theorem Auto.start_at (a : Auto) : atL a.start a.order = 0 := by
 obtain ⟨r,hr⟩ := a.order_head
 rw [hr]
 simp [atL,atFrom]
end Go.Pv
namespace Go.Pv
end Go.Pv
namespace Go.Pv
structure Mv where
 send : Bool
 label : Int
 cls : Int
 deriving DecidableEq,Inhabited
def Mv.c (m : Mv) : List PV := [.bool m.send,.int .i64 m.label,.int .i64 m.cls]
def mvs (l : List Mv) : List (List PV) := l.map Mv.c
@[go_sem] theorem mvs_length (l : List Mv) : (mvs l).length = l.length := by simp [mvs]
@[go_sem] theorem mvs_nil : mvs [] = [] := rfl
@[go_sem] theorem mvs_get (l : List Mv) (i : Nat) : (mvs l)[i]? = l[i]?.map Mv.c := by simp [mvs]
@[go_sem] theorem Mv.c_eq (m : Mv) : m.c = [.bool m.send,.int .i64 m.label,.int .i64 m.cls] := rfl
theorem mvs_snoc (l : List Mv) (m : Mv) : mvs l ++ [m.c] = mvs (l ++ [m]) := by simp [mvs]
@[go_sem] theorem mvs_snocc (l : List Mv) (d : Bool) (x y : Int) : mvs l ++ [[.bool d,.int .i64 x,.int .i64 y]] = mvs (l ++ [⟨d,x,y⟩]) := by simp [mvs,Mv.c]
@[go_sem] theorem grow0m (bx : List (Nat × List V)) (mp : List (List (PV × PV))) (l : List Mv) (d : Bool) (x y : Int) (hm : l.length + 1 ≤ 2147483648) :
  appendV ⟨bx,grA 3 (mvs l),mp⟩ 3 (grV 0 (mvs l)) (.tl [[.bool d,.int .i64 x,.int .i64 y]]) = some (grV 0 (mvs (l ++ [⟨d,x,y⟩])),grT 0 3 (mvs l) (Mv.c ⟨d,x,y⟩)) := by
 rw [← mvs_snoc]
 exact grow0 bx mp 3 (mvs l) (Mv.c ⟨d,x,y⟩) rfl (by rw [mvs_length]; exact hm)
def movesL (es : List Edge) (s : Int) (c : List Int) : List Mv := (es.filter fun e => e.fr == s).map fun e => ⟨e.send,e.label,c.getD e.to.toNat 0⟩
theorem movesL_len (es : List Edge) (s : Int) (c : List Int) : (movesL es s c).length ≤ es.length := by
 unfold movesL
 rw [List.length_map]
 exact List.length_filter_le _ _
set_option maxHeartbeats 1000000 in
@[go_sem] theorem r49 (t u : Nat) (n s0 s : Int) (es : List Edge) (c : List Int) (hl : es.length ≤ 2000000000) (hc : ∀ e ∈ es,0 ≤ e.to ∧ e.to < c.length) :
  res A PrA 49 [.agg [.int .i64 n,.int .i64 s0,.lst t (es.map Edge.c)],.int .i64 s,.lst u (ints c)] = some [.lst 0 (mvs (movesL es s c))] := by
 refine res_of a49 rfl rfl ?_
 simp only [F49]; try delta sS tT zZ nN gG bB pZ
 simp (disch := omega) only [go_sem]
 refine W.fold es (fun o e => if (e.fr == s) = true then o ++ [⟨e.send,e.label,c.getD e.to.toNat 0⟩] else o) [] (fun k o => ⟨[(1,.pv (.int .i64 s)),(2,.pv (.lst u (ints c))),(7,grV 0 (mvs o)),(11,.pv (.lst t (es.map Edge.c))),(12,.pv (.int .i64 es.length)),(13,.pv (.int .i64 k))],⟨[],grA 3 (mvs o),[]⟩⟩) (fun k o => o.length ≤ k) rfl (Nat.le_refl _) (fun k e o he hk _ hi => ?_) (fun o ho hi => ?_)
 ·obtain ⟨t0,t1⟩ := hc e (List.mem_of_getElem? he)
  have hg : c[e.to.toNat]? = some (c.getD e.to.toNat 0) := by
   have : e.to.toNat < c.length := by omega
   simp [this]
  simp (disch := omega) only [go_sem]
  refine Br.ofP (fun h => ?_) (fun h => (h (by omega)).elim)
  simp (disch := omega) only [go_sem,he]
  refine Br.ofP (fun f => ?_) (fun f => ?_) <;> simp (disch := omega) only [go_sem,f,idxR_int,hg]
  ·have hf : (e.fr == s) = true := by simp [f]
   refine foldK.of ?_ (by rw [if_pos hf]; simp; omega)
   show _ = St.mk _ _
   rw [if_pos hf]
   rfl
  ·have : (e.fr == s) = false := by simp [f]
   refine foldK.of ?_ (by rw [this]; simp; omega)
   show _ = St.mk _ _
   rw [this]
   rfl
 ·have := fold_filter (fun e : Edge => e.fr == s) (fun e => (⟨e.send,e.label,c.getD e.to.toNat 0⟩ : Mv)) es []
  rw [List.nil_append] at this
  rw [this] at ho
  simp (disch := omega) only [go_sem]
  rw [ho]
  rfl
theorem mv_dec (a b : Mv) : (decide (a.send = b.send) && (decide (a.label = b.label) && decide (a.cls = b.cls))) = decide (a = b) := by
 obtain ⟨a1,a2,a3⟩ := a
 obtain ⟨b1,b2,b3⟩ := b
 by_cases h1 : a1 = b1 <;> by_cases h2 : a2 = b2 <;> by_cases h3 : a3 = b3 <;> simp [h1,h2,h3]
set_option maxHeartbeats 1000000 in
@[go_sem] theorem r48 (t u : Nat) (a b : List Mv) (ha : a.length ≤ 2 ^ 63 - 1) (_hb : b.length ≤ 2 ^ 63 - 1) : res A PrA 48 [.lst t (mvs a),.lst u (mvs b)] = some [.bool (decide (a = b))] := by
 refine res_of a48 rfl rfl ?_
 simp only [F48]; try delta sS tT zZ nN gG bB pZ
 simp (disch := omega) only [go_sem]
 refine Br.ofP (fun h => ?_) (fun h => ?_) <;> simp (disch := omega) only [go_sem,h]
 case refine_2 =>
  have : ¬ a = b := fun e => h (by rw [e])
  simp [this]
 refine W.upto a.length (fun k => ⟨[(0,.pv (.lst t (mvs a))),(1,.pv (.lst u (mvs b))),(12,.pv (.int .i64 b.length)),(13,.pv (.int .i64 k))],⟨[],[],[]⟩⟩) (fun k => a.take k = b.take k) rfl rfl fun k hk hi => ?_
 simp (disch := omega) only [go_sem]
 refine Br.ofP (fun g => ?_) (fun g => ?_)
 ·obtain ⟨x,hx⟩ := get_at (l := a) (k := k) (by omega)
  obtain ⟨y,hy⟩ := get_at (l := b) (k := k) (by omega)
  simp (disch := omega) only [go_sem,hx,hy,mv_dec]
  refine Br.ofP (fun f => ?_) (fun f => ?_) <;> simp (disch := omega) only [go_sem,f]
  ·exact .of (by omega) rfl (take_step hx hy hi f)
  ·have : ¬ a = b := fun e => f (by rw [e,hy] at hx; exact (Option.some.inj hx).symm)
   simp [this]
 ·simp (disch := omega) only [go_sem]
  have := takes_all (k := k) (by omega) (by omega) hi
  simp [this]
set_option maxHeartbeats 1000000 in
@[go_sem] theorem r14 (t u : Nat) (a b : List Int) (ha : a.length ≤ 2 ^ 63 - 1) (_hb : b.length ≤ 2 ^ 63 - 1) : res A PrA 14 [.lst t (ints a),.lst u (ints b)] = some [.bool (decide (a = b))] := by
 refine res_of a14 rfl rfl ?_
 simp only [F14]; try delta sS tT zZ nN gG bB pZ
 simp (disch := omega) only [go_sem]
 refine Br.ofP (fun h => ?_) (fun h => ?_) <;> simp (disch := omega) only [go_sem,h]
 case refine_2 =>
  have : ¬ a = b := fun e => h (by rw [e])
  simp [this]
 refine W.upto a.length (fun k => ⟨[(0,.pv (.lst t (ints a))),(1,.pv (.lst u (ints b))),(12,.pv (.int .i64 b.length)),(13,.pv (.int .i64 k))],⟨[],[],[]⟩⟩) (fun k => a.take k = b.take k) rfl rfl fun k hk hi => ?_
 simp (disch := omega) only [go_sem]
 refine Br.ofP (fun g => ?_) (fun g => ?_)
 ·obtain ⟨x,hx⟩ := get_at (l := a) (k := k) (by omega)
  obtain ⟨y,hy⟩ := get_at (l := b) (k := k) (by omega)
  simp (disch := omega) only [go_sem,hx,hy]
  refine Br.ofP (fun f => ?_) (fun f => ?_) <;> simp (disch := omega) only [go_sem,f]
  ·exact .of (by omega) rfl (take_step hx hy hi f)
  ·have : ¬ a = b := fun e => f (by rw [e,hy] at hx; exact (Option.some.inj hx).symm)
   simp [this]
 ·simp (disch := omega) only [go_sem]
  have := takes_all (k := k) (by omega) (by omega) hi
  simp [this]
def simB (es : List Edge) (c : List Int) (k i : Nat) : Bool := decide (c.getD k 0 = c.getD i 0) && decide (movesL es (k : Int) c = movesL es (i : Int) c)
def leastC (es : List Edge) (c : List Int) (i : Nat) : Nat := ((List.range i).find? fun k => simB es c k i).getD i
def stepC (n : Nat) (es : List Edge) (c : List Int) : List Int := (List.range n).map fun i => (leastC es c i : Int)
def cls (n : Nat) (es : List Edge) : Nat → List Int
 | 0 => List.replicate n 0
 | j + 1 => stepC n es (cls n es j)
theorem stepC_len (n : Nat) (es : List Edge) (c : List Int) : (stepC n es c).length = n := by simp [stepC]
theorem cls_len (n : Nat) (es : List Edge) : ∀ j,(cls n es j).length = n
 | 0 => by simp [cls]
 | j + 1 => stepC_len n es _
end Go.Pv
namespace Go.Pv
theorem leastC_found {es : List Edge} {c : List Int} {i k x : Nat} (h : Found (List.range i) (fun k => simB es c k i) k x) : leastC es c i = x := by
 unfold leastC
 rw [h.find]
 rfl
theorem leastC_no {es : List Edge} {c : List Int} {i : Nat} (h : Nowhere (List.range i) (fun k => simB es c k i)) : leastC es c i = i := by
 unfold leastC
 rw [h.find]
 rfl
def partC (n : Nat) (es : List Edge) (c : List Int) (i : Nat) : List Int := partTo (fun i => (leastC es c i : Int)) 0 (List.range n) i
theorem partC_zero (n : Nat) (es : List Edge) (c : List Int) : partC n es c 0 = List.replicate n 0 := by
 unfold partC
 rw [partTo_zero,List.length_range]
theorem partC_len {n i : Nat} (es : List Edge) (c : List Int) (h : i ≤ n) : (partC n es c i).length = n := by
 have := partTo_len (fun i => (leastC es c i : Int)) 0 (List.range n) (k := i) (by simpa using h)
 rw [List.length_range] at this
 exact this
theorem partC_set {n i : Nat} (es : List Edge) (c : List Int) (h : i < n) : (partC n es c i).set i (leastC es c i : Int) = partC n es c (i + 1) := partTo_set (f := fun i => (leastC es c i : Int)) (List.getElem?_range h)
theorem partC_all (n : Nat) (es : List Edge) (c : List Int) : partC n es c n = stepC n es c := by
 have := partTo_all (fun i => (leastC es c i : Int)) 0 (List.range n)
 rw [List.length_range] at this
 exact this
set_option maxHeartbeats 4000000 in
theorem r30 (t n J : Nat) (s0 : Int) (es : List Edge) (hn : n ≤ 2000) (hl : es.length ≤ 2000000000) (hc : ∀ e ∈ es,0 ≤ e.to ∧ e.to < (n : Int)) (hJ : cls n es (J + 1) = cls n es J) (hb : ∀ j,j < J → cls n es (j + 1) ≠ cls n es j) :
  res A PrA 30 [.agg [.int .i64 (n : Int),.int .i64 s0,.lst t (es.map Edge.c)]] = some [.lst 0 (ints (cls n es J))] := by
 refine res_of a30 rfl rfl ?_
 simp only [F30]; try delta sS tT zZ nN gG bB pZ
 simp (disch := omega) only [go_sem]
 refine W.loop (α := Nat × List Arr) (fun x => ⟨[(1,.ptr 1 0),(3,.own x.1 0 0 n)],⟨[(1,[.pv (.int .i64 (n : Int)),.pv (.int .i64 s0),.pv (.lst t (es.map Edge.c))])],x.2,[]⟩⟩)
  (fun x => x.1 ≤ J ∧ x.2.length = x.1 + 1 ∧ x.2[x.1]? = some ⟨0,1,.inl (ints (cls n es x.1))⟩) (fun x => J - x.1) (0,[⟨0,1,.inl (ints (List.replicate n 0))⟩]) rfl ⟨Nat.zero_le _,rfl,rfl⟩ fun x hx => ?_
 obtain ⟨j,ars⟩ := x
 obtain ⟨h1,h2,h3⟩ := hx
 dsimp only at h1 h2 h3
 have hcl := cls_len n es j
 have hstep : cls n es (j + 1) = stepC n es (cls n es j) := rfl
 generalize hcj : cls n es j = c at h3 hcl hstep
 have hg1 : ∀ x : Arr,(ars ++ [x])[j]? = some ⟨0,1,.inl (ints c)⟩ := fun x => by rw [List.getElem?_append_left (by omega)]; exact h3
 have hg2 : ∀ x : Arr,(ars ++ [x])[j + 1]? = some x := fun x => by rw [List.getElem?_append_right (by omega),h2]; simp
 have hg3 : ∀ x y : Arr,(ars ++ [x]).set (j + 1) y = ars ++ [y] := fun x y => by rw [List.set_append_right _ _ (by omega),h2]; simp
 have hct : c.take n = c := List.take_of_length_le (by omega)
 simp (disch := omega) only [go_sem,h2]
 refine W.upto n (fun i => ⟨[(1,.ptr 1 0),(3,.own j 0 0 n),(4,.own (j + 1) 0 0 n),(14,.pv (.int .i64 (n : Int))),(15,.pv (.int .i64 i))],⟨[(1,[.pv (.int .i64 (n : Int)),.pv (.int .i64 s0),.pv (.lst t (es.map Edge.c))])],ars ++ [⟨0,1,.inl (ints (partC n es c i))⟩],[]⟩⟩) (fun _ => True) (by rw [partC_zero]; rfl) trivial fun i hi _ => ?_
 have hpl := partC_len es c hi
 simp (disch := omega) only [go_sem]
 refine Br.ofP (fun h => ?_) (fun h => ?_)
 ·have hset : ∀ y : Int,((partC n es c i).set i y).set i (leastC es c i : Int) = partC n es c (i + 1) := fun y => by
   rw [List.set_set]
   exact partC_set es c (by omega)
  have hpl2 : ∀ y : Int,((partC n es c i).set i y).length = n := fun y => by rw [List.length_set]; exact hpl
  generalize partC n es c i = w at hpl hset hpl2
  simp (disch := omega) only [go_sem,hg2,hg3]
  have hpi := hpl2 i
  refine W.find (List.range i) (fun k => simB es c k i) (fun k => ⟨[(1,.ptr 1 0),(3,.own j 0 0 n),(4,.own (j + 1) 0 0 n),(5,.pv (.int .i64 i)),(14,.pv (.int .i64 (n : Int))),(15,.pv (.int .i64 i)),(22,.pv (.int .i64 i)),(23,.pv (.int .i64 k))],⟨[(1,[.pv (.int .i64 (n : Int)),.pv (.int .i64 s0),.pv (.lst t (es.map Edge.c))])],ars ++ [⟨0,1,.inl (ints (w.set i (i : Int)))⟩],[]⟩⟩) rfl (fun k x hx hk hf => ?_) (fun hno => ?_)
  ·rw [List.length_range] at hk
   rw [List.getElem?_range hk] at hx
   cases hx
   have hk1 : c[k]? = some (c.getD k 0) := by
    have : k < c.length := by omega
    simp [this]
   have hk2 : c[i]? = some (c.getD i 0) := by
    have : i < c.length := by omega
    simp [this]
   have hm1 := movesL_len es (k : Int) c
   have hm2 := movesL_len es (i : Int) c
   have h49 := fun s : Int => r49 t 1 n s0 s es c hl (by rw [hcl]; exact hc)
   simp (disch := omega) only [go_sem]
   refine Br.ofP (fun h => ?_) (fun h => (h (by omega)).elim)
   simp (disch := omega) only [go_sem,hg1,hk1,hk2]
   refine Br.ofP (fun f1 => ?_) (fun f1 => ?_) <;> simp (disch := omega) only [go_sem,f1,hg1,hct,h49]
   ·refine Br.ofP (fun f2 => ?_) (fun f2 => ?_) <;> simp (disch := omega) only [go_sem,f2,hg2,hg3]
    ·have hs : simB es c k i = true := by simp only [simB,f1,f2,decide_true,Bool.and_self]
     refine .of (by omega) ?_ trivial
     have hlk := leastC_found (hf hs)
     show _ = St.mk _ _
     have := hset (i : Int)
     rw [hlk] at this
     rw [this]
     rfl
    ·exact findK.of (by simp only [simB,f2,decide_false,Bool.and_false]) rfl
   ·exact findK.of (by simp only [simB,f1,decide_false,Bool.false_and]) rfl
  ·have hlk := leastC_no hno
   rw [List.length_range]
   simp (disch := omega) only [go_sem]
   refine .of (by omega) ?_ trivial
   show _ = St.mk _ _
   have := hset (i : Int)
   rw [hlk,List.set_set] at this
   rw [this]
   rfl
 ·obtain rfl : i = n := by omega
  have hall := partC_all i es c
  have hsl := stepC_len i es c
  have hst : (stepC i es c).take i = stepC i es c := List.take_of_length_le (by omega)
  rw [hall]
  simp (disch := omega) only [go_sem,hg1,hg2,hct,hst]
  refine Br.ofP (fun f => ?_) (fun f => ?_) <;> simp (disch := omega) only [go_sem,f,hg1,hct]
  ·rw [← hcj] at f ⊢
   have hjJ : j = J := by
    rcases Nat.lt_or_ge j J with h | h
    ·exact (hb j h f).elim
    ·omega
   rw [hjJ]
  ·have hjJ : j < J := by
    rcases Nat.lt_or_ge j J with h | h
    ·exact h
    ·have : j = J := by omega
     rw [← hcj,this] at f
     exact (f hJ).elim
   refine ⟨(j + 1,_),⟨by dsimp only; omega,by dsimp only; rw [List.length_append,h2]; rfl,?_⟩,by dsimp only; omega,rfl⟩
   dsimp only
   rw [hg2,hstep]
end Go.Pv
namespace Go.Pv
def edgesOf (es : List Edge) (s : Int) : List Edge := es.filter fun e => e.fr == s
def lackE (a b : List Edge) (p q : Int) : Option Edge := (edgesOf a p).find? fun e => !(nextE q e.send e.label b).isSome
def ent (M : List (List Int)) (p q : Int) : Int := (M.getD p.toNat []).getD q.toNat 0
def nearP (b : List Edge) (M : List (List Int)) (q k : Int) (e : Edge) : Bool := match nextE q e.send e.label b with
 | some n => decide (ent M e.to n = k)
 | none => false
def nearE (a b : List Edge) (M : List (List Int)) (p q k : Int) : Option Edge := (edgesOf a p).find? (nearP b M q k)
structure MatOk (na nb : Nat) (M : List (List Int)) : Prop where
 len : M.length = na
 row : ∀ l ∈ M,l.length = nb
end Go.Pv
namespace Go.Pv
def rowArr (r : List Int) : Arr := ⟨0,1,.inl (ints r)⟩
def mAr (M : List (List Int)) : List Arr := M.map rowArr
@[go_sem] theorem mAr_get (M : List (List Int)) (i : Nat) : (mAr M)[i]? = M[i]?.map fun r => ⟨0,1,.inl (ints r)⟩ := by
 unfold mAr
 rw [List.getElem?_map]
 rfl
end Go.Pv
namespace Go.Pv
def lkB (a b : List Edge) (p q : Int) : Bool := (lackE a b p q).isSome || (lackE b a q p).isSome
def b01 (c : Bool) : Int := if c = true then 1 else 0
def bTo (a b : List Edge) (nb p q : Nat) : List Int := partTo (fun (q : Nat) => b01 (lkB a b p q)) 0 (List.range nb) q
theorem bTo_len {a b : List Edge} {nb p q : Nat} (h : q ≤ nb) : (bTo a b nb p q).length = nb := by
 have := partTo_len (fun (q : Nat) => b01 (lkB a b p q)) 0 (List.range nb) (k := q) (by simpa using h)
 rw [List.length_range] at this
 exact this
def baseM (a b : List Edge) (nb m : Nat) : List (List Int) := (List.range m).map fun p => bTo a b nb p nb
theorem baseM_len (a b : List Edge) (nb m : Nat) : (baseM a b nb m).length = m := by simp [baseM]
theorem baseM_ok (a b : List Edge) (nb m : Nat) : MatOk m nb (baseM a b nb m) := ⟨baseM_len a b nb m,fun l hl => by
 obtain ⟨p,_,rfl⟩ := List.mem_map.1 hl
 exact bTo_len (Nat.le_refl _)⟩
def setM (M : List (List Int)) (p q : Nat) (v : Int) : List (List Int) := M.set p ((M.getD p []).set q v)
theorem setM_ok {na nb p q : Nat} {M : List (List Int)} {v : Int} (h : MatOk na nb M) (hp : p < na) : MatOk na nb (setM M p q v) where
 len := by unfold setM; rw [List.length_set]; exact h.len
 row l hl := by
  rcases List.mem_or_eq_of_mem_set hl with hl | rfl
  ·exact h.row l hl
  ·rw [List.length_set]
   have : M[p]? = some (M.getD p []) := by
    have : p < M.length := by rw [h.len]; exact hp
    simp [this]
   exact h.row _ (List.mem_of_getElem? this)
def stepM (a b : List Edge) (k : Int) (p : Nat) (M : List (List Int)) (q : Nat) : List (List Int) := if (nearE a b M p q k).isSome = true ∧ ent M p q = 0 then setM M p q (k + 1) else M
def rowM (a b : List Edge) (nb : Nat) (k : Int) (M : List (List Int)) (p : Nat) : List (List Int) := (List.range nb).foldl (stepM a b k p) M
def roundM (a b : List Edge) (na nb : Nat) (k : Int) (M : List (List Int)) : List (List Int) := (List.range na).foldl (rowM a b nb k) M
def difM (a b : List Edge) (na nb : Nat) : Nat → List (List Int)
 | 0 => baseM a b nb na
 | j + 1 => roundM a b na nb ((j + 1 : Nat) : Int) (difM a b na nb j)
def differ (a b : Auto) : List (List Int) := difM a.edges b.edges a.states.toNat b.states.toNat (a.states.toNat * b.states.toNat)
end Go.Pv
namespace Go.Pv
def OptR (R : Int → Int → Prop) : Option Int → Option Int → Prop
 | none,none => True
 | some x,some y => R x y
 | _,_ => False
theorem OptR.mono {R S : Int → Int → Prop} {x y : Option Int} (h : ∀ a b,x = some a → y = some b → R a b → S a b) (hr : OptR R x y) : OptR S x y := by
 cases x <;> cases y <;> simp_all [OptR]
def Ev (a b : List Edge) : Nat → Int → Int → Prop
 | 0,_,_ => True
 | j + 1,p,q => ∀ d x,OptR (Ev a b j) (nextE p d x a) (nextE q d x b)
theorem Ev.down {a b : List Edge} : ∀ {j : Nat} {p q : Int},Ev a b (j + 1) p q → Ev a b j p q
 | 0,_,_,_ => trivial
 | _j + 1,_p,_q,h => fun d x => (h d x).mono fun _ _ _ _ hr => Ev.down hr
theorem Ev.le {a b : List Edge} {j k : Nat} {p q : Int} (hk : k ≤ j) (h : Ev a b j p q) : Ev a b k p q := by
 induction j with
 | zero =>
  obtain rfl : k = 0 := by omega
  exact h
 | succ j ih =>
  rcases Nat.lt_or_ge j k with h1 | h1
  ·obtain rfl : k = j + 1 := by omega
   exact h
  ·exact ih h1 h.down
theorem Ev.refl (a : List Edge) : ∀ (j : Nat) (p : Int),Ev a a j p p
 | 0,_ => trivial
 | j + 1,p => fun d x => by
  cases nextE p d x a with
  | none => trivial
  | some t => exact Ev.refl a j t
theorem Ev.symm {a b : List Edge} : ∀ {j : Nat} {p q : Int},Ev a b j p q → Ev b a j q p
 | 0,_,_,_ => trivial
 | j + 1,p,q,h => fun d x => by
  have := h d x
  cases hp : nextE p d x a <;> cases hq : nextE q d x b <;> simp only [hp,hq,OptR] at this ⊢
  exact Ev.symm this
theorem Ev.trans {a b c : List Edge} : ∀ {j : Nat} {p q r : Int},Ev a b j p q → Ev b c j q r → Ev a c j p r
 | 0,_,_,_,_,_ => trivial
 | j + 1,p,q,r,h,h2 => fun d x => by
  have h3 := h d x
  have h4 := h2 d x
  cases hp : nextE p d x a <;> cases hq : nextE q d x b <;> cases hr : nextE r d x c <;> simp only [hp,hq,hr,OptR] at h3 h4 ⊢
  exact Ev.trans h3 h4
theorem Auto.Good.next_in {a : Auto} (h : a.Good) {p t : Int} {d : Bool} {x : Int} (hn : nextE p d x a.edges = some t) : a.inr t := by
 have := fits_iff.1 (h.fit _ ((nextE_some h.apt).1 hn))
 exact ⟨this.2.2.1,this.2.2.2.1⟩
theorem filter_len {α : Type} {p q : α → Bool} : ∀ {l : List α},(∀ x ∈ l,q x = true → p x = true) → (l.filter q).length ≤ (l.filter p).length ∧ ((l.filter q).length = (l.filter p).length → ∀ x ∈ l,p x = true → q x = true)
 | [],_ => ⟨Nat.le_refl _,fun _ x hx => by cases hx⟩
 | y :: l,h => by
  obtain ⟨h1,h2⟩ := filter_len (l := l) fun x hx => h x (by simp [hx])
  have hy := h y (by simp)
  cases hq : q y <;> cases hp : p y <;> simp only [List.filter_cons,hq,hp,if_true,if_false,Bool.false_eq_true,List.length_cons]
  ·refine ⟨h1,fun he x hx hpx => ?_⟩
   rcases List.mem_cons.1 hx with rfl | hx
   ·rw [hp] at hpx; cases hpx
   ·exact h2 he x hx hpx
  ·exact ⟨by omega,fun he => by omega⟩
  ·rw [hq,hp] at hy
   cases hy rfl
  ·refine ⟨by omega,fun he x hx hpx => ?_⟩
   rcases List.mem_cons.1 hx with rfl | hx
   ·exact hq
   ·exact h2 (by omega) x hx hpx
open Classical in
theorem Ev.stable {a b : Auto} (ha : a.Good) (hb : b.Good) {p q : Int} (hp : a.inr p) (hq : b.inr q) (h : Ev a.edges b.edges (a.states.toNat * b.states.toNat) p q) : ∀ j,Ev a.edges b.edges j p q := by
 let prsL : List (Int × Int) := (iota a.states.toNat).flatMap fun p => (iota b.states.toNat).map fun q => (p,q)
 have hlen : prsL.length = a.states.toNat * b.states.toNat := by
  have : ∀ l : List Int,(l.flatMap fun p => (iota b.states.toNat).map fun q => (p,q)).length = l.length * b.states.toNat := by
   intro l
   induction l with
   | nil => simp
   | cons x l ih => rw [List.flatMap_cons,List.length_append,ih]; simp [iota]; rw [Nat.add_mul]; omega
  have h2 := this (iota a.states.toNat)
  rw [show (iota a.states.toNat).length = a.states.toNat by simp [iota]] at h2
  exact h2
 have hmem : ∀ {p q : Int},a.inr p → b.inr q → (p,q) ∈ prsL := fun {p q} hp hq => by
  rw [List.mem_flatMap]
  unfold Auto.inr at hp hq
  exact ⟨p,iota_mem.2 (by omega),List.mem_map.2 ⟨q,iota_mem.2 (by omega),rfl⟩⟩
 let S : Nat → List (Int × Int) := fun j => prsL.filter fun x => decide (Ev a.edges b.edges j x.1 x.2)
 have hS : ∀ j,(S (j + 1)).length ≤ (S j).length ∧ ((S (j + 1)).length = (S j).length → ∀ x ∈ prsL,Ev a.edges b.edges j x.1 x.2 → Ev a.edges b.edges (j + 1) x.1 x.2) := fun j => by
  obtain ⟨h1,h2⟩ := filter_len (l := prsL) (p := fun x => decide (Ev a.edges b.edges j x.1 x.2)) (q := fun x => decide (Ev a.edges b.edges (j + 1) x.1 x.2)) (fun x _ hx => by
   simp only [decide_eq_true_eq] at hx ⊢
   exact hx.down)
  refine ⟨h1,fun he x hx hv => ?_⟩
  have := h2 he x hx (by simpa using hv)
  simpa using this
 have h0 : (S 0).length ≤ a.states.toNat * b.states.toNat := by
  rw [← hlen]
  exact List.length_filter_le _ _
 obtain ⟨j,hj,hje⟩ : ∃ j,j ≤ a.states.toNat * b.states.toNat ∧ (S (j + 1)).length = (S j).length := by
  apply Classical.byContradiction
  intro hno
  have hall : ∀ j,j ≤ a.states.toNat * b.states.toNat + 1 → (S j).length + j ≤ a.states.toNat * b.states.toNat := by
   intro j
   induction j with
   | zero => intro _; simpa using h0
   | succ j ih =>
    intro hj
    have h1 := ih (by omega)
    have h2 := (hS j).1
    have h3 : (S (j + 1)).length ≠ (S j).length := fun e => hno ⟨j,by omega,e⟩
    omega
  have := hall (a.states.toNat * b.states.toNat + 1) (Nat.le_refl _)
  omega
 have hst : ∀ k,∀ {p q : Int},a.inr p → b.inr q → Ev a.edges b.edges j p q → Ev a.edges b.edges (j + k) p q := by
  intro k
  induction k with
  | zero => intro p q _ _ h; exact h
  | succ k ih =>
   intro p q hp hq h
   have h1 := (hS j).2 hje (p,q) (hmem hp hq) h
   intro d x
   exact (h1 d x).mono fun s t hs ht hr => ih (ha.next_in hs) (hb.next_in ht) hr
 intro k
 rcases Nat.lt_or_ge k j with hk | hk
 ·exact h.le (by omega)
 ·have := hst (k - j) hp hq (h.le hj)
  rwa [show j + (k - j) = k by omega] at this
theorem Ev.fix {a b : Auto} (ha : a.Good) (hb : b.Good) {j : Nat} (hj : ∀ p q,a.inr p → b.inr q → Ev a.edges b.edges j p q → Ev a.edges b.edges (j + 1) p q) {p q : Int} (hp : a.inr p) (hq : b.inr q) (h : Ev a.edges b.edges j p q) : ∀ k,Ev a.edges b.edges k p q := by
 have hst : ∀ k,∀ {p q : Int},a.inr p → b.inr q → Ev a.edges b.edges j p q → Ev a.edges b.edges (j + k) p q := by
  intro k
  induction k with
  | zero => intro p q _ _ h; exact h
  | succ k ih =>
   intro p q hp hq h
   have h1 := hj p q hp hq h
   intro d x
   exact (h1 d x).mono fun s t hs ht hr => ih (ha.next_in hs) (hb.next_in ht) hr
 intro k
 rcases Nat.lt_or_ge k j with hk | hk
 ·exact h.le (by omega)
 ·have := hst (k - j) hp hq h
  rwa [show j + (k - j) = k by omega] at this
open Classical in
noncomputable def lst (a b : List Edge) : Nat → Int → Int → Nat
 | 0,_,_ => 0
 | k + 1,p,q => if lst a b k p q ≠ 0 then lst a b k p q else if Ev a b (k + 1) p q then 0 else k + 1
theorem lst_zero {a b : List Edge} : ∀ {k : Nat} {p q : Int},lst a b k p q = 0 ↔ Ev a b k p q
 | 0,_,_ => by simp [lst,Ev]
 | k + 1,p,q => by
  have ih := lst_zero (a := a) (b := b) (k := k) (p := p) (q := q)
  unfold lst
  by_cases h : lst a b k p q = 0
  ·rw [if_neg (by simp [h])]
   by_cases h2 : Ev a b (k + 1) p q
   ·simp [h2]
   ·simp [h2]
  ·rw [if_pos h]
   exact ⟨fun h' => (h h').elim,fun h' => (h (ih.2 h'.down)).elim⟩
theorem lst_succ {a b : List Edge} {m : Nat} {p q : Int} : ∀ {k : Nat},lst a b k p q = m + 1 ↔ m + 1 ≤ k ∧ Ev a b m p q ∧ ¬ Ev a b (m + 1) p q
 | 0 => by simp [lst]
 | k + 1 => by
  have ih := lst_succ (a := a) (b := b) (m := m) (p := p) (q := q) (k := k)
  have hz := lst_zero (a := a) (b := b) (k := k) (p := p) (q := q)
  unfold lst
  by_cases h : lst a b k p q = 0
  ·rw [if_neg (by simp [h])]
   have hk := hz.1 h
   by_cases h2 : Ev a b (k + 1) p q
   ·rw [if_pos h2]
    constructor
    ·intro h'; cases h'
    ·rintro ⟨h3,h4,h5⟩
     exact (h5 (h2.le h3)).elim
   ·rw [if_neg h2]
    constructor
    ·intro h'
     obtain rfl : k = m := by omega
     exact ⟨Nat.le_refl _,hk,h2⟩
    ·rintro ⟨h3,h4,h5⟩
     rcases Nat.lt_or_ge m k with h6 | h6
     ·exact (h5 (hk.le h6)).elim
     ·omega
  ·rw [if_pos h,ih]
   constructor
   ·rintro ⟨h3,h4,h5⟩
    exact ⟨by omega,h4,h5⟩
   ·rintro ⟨h3,h4,h5⟩
    refine ⟨?_,h4,h5⟩
    rcases Nat.lt_or_ge m k with h6 | h6
    ·exact h6
    ·obtain rfl : m = k := by omega
     exact (h (hz.2 h4)).elim
end Go.Pv
