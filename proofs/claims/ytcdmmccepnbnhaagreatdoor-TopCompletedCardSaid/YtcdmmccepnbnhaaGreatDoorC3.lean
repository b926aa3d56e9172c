/-
 What the functions of the law give.
-/
import Derived.Test.YtcdmmccepnbnhaaGreatDoorC2
set_option linter.unusedSimpArgs false
set_option linter.unusedVariables false
namespace Go.Pv
theorem isort_id {α : Type} {lt : α → α → Bool} (asym : ∀ x y,lt x y = true → lt y x = false) : ∀ {l : List α},l.Pairwise (fun a b => lt a b = true) → isort lt l = l
 | [],_ => rfl
 | x :: l,h => by
  obtain ⟨h1,h2⟩ := List.pairwise_cons.1 h
  unfold isort
  rw [isort_id asym h2]
  cases l with
  | nil => rfl
  | cons y r =>
   unfold ins
   rw [if_neg (by rw [asym x y (h1 y (by simp))]; decide)]
theorem Mov.asym (x y : Mov) (h : Mov.lt x y = true) : Mov.lt y x = false := by
 cases hc : Mov.lt y x with
 | false => rfl
 | true =>
  have := Mov.swo.trans x y x h hc
  rw [Mov.swo.irrefl] at this
  cases this
theorem mvs3_dec (l : List Mov) : mapO Mov.dec (mvs3 l) = some l := by
 induction l with
 | nil => rfl
 | cons x l ih =>
  show mapO Mov.dec (x.c :: mvs3 l) = _
  have : Mov.dec x.c = some x := rfl
  simp only [mapO,this,ih]
def srtM (l : List Mov) : Tn := if l.length = 0 then {} else { ar := some (0,⟨l.length - 1,3,.inl (mvs3 l)⟩) }
theorem sortP_mvs {bx : List (Nat × List V)} {mp : List (List (PV × PV))} {l : List Mov} (hm : l.length ≤ 2147483648) (hs : l.Pairwise (fun a b => Mov.lt a b = true)) :
  sortP 3 (sortRows Mov.c Mov.dec Mov.lt) 197 [grV 0 (mvs3 l),.func 197 []] ⟨bx,grA 3 (mvs3 l),mp⟩ = some (.tup [],srtM l) := by
 rcases Nat.eq_zero_or_pos l.length with h | h
 ·have : l = [] := List.eq_nil_of_length_eq_zero h
  subst this
  simp [srtM,grV,sortP,mvs3]
 ·obtain ⟨q,hq⟩ : ∃ q,(mvs3 l).length = q + 1 := ⟨l.length - 1,by rw [mvs3_length]; omega⟩
  have e1 : (mvs3 l).length = l.length := mvs3_length l
  rw [grV_own hq,grA_own hq]
  have hr := rising_of hs
  have hid := isort_id Mov.asym hs
  have hl : q + 1 = l.length := by omega
  have ho : ownArr ⟨bx,[⟨q,3,.inl (mvs3 l)⟩],mp⟩ 0 q = some ⟨q,3,.inl (mvs3 l)⟩ := by simp [ownArr]
  rw [hl]
  have h0 : ¬ l.length = 0 := by omega
  have hlq : l.length - 1 = q := by omega
  simp [sortP,ho,h0,e1,mostRows,hm,sortRows,mvs3_dec,hr,hid,List.take_of_length_le (Nat.le_of_eq e1),List.drop_eq_nil_of_le (Nat.le_of_eq e1),srtM,hlq]
  rfl
@[go_sem] theorem srtM_apply (bx : List (Nat × List V)) (mp : List (List (PV × PV))) (l : List Mov) : (srtM l).apply ⟨bx,grA 3 (mvs3 l),mp⟩ = ⟨bx,grA 3 (mvs3 l),mp⟩ := by
 rcases Nat.eq_zero_or_pos l.length with h | h
 ·have : l = [] := List.eq_nil_of_length_eq_zero h
  subst this
  simp [srtM,mvs3,Tn.apply,grA]
 ·obtain ⟨q,hq⟩ : ∃ q,(mvs3 l).length = q + 1 := ⟨l.length - 1,by rw [mvs3_length]; omega⟩
  have e1 : (mvs3 l).length = l.length := mvs3_length l
  have h0 : ¬ l.length = 0 := by omega
  have hlq : l.length - 1 = q := by omega
  rw [grA_own hq]
  simp [srtM,h0,hlq,Tn.apply]
theorem mvsOf_mem {a b : Auto} {cap x y : Int} {l m : List Int} {p st : Int} {es : List Edge} {mv : Mov} : mv ∈ mvsOf a b cap x y l m p st es ↔ ∃ e ∈ es,e.fr = st ∧ mv = e.mv p ∧ (afterC a b cap x y l m mv).2 = true := by
 unfold mvsOf
 rw [List.mem_map]
 constructor
 ·rintro ⟨e,he,rfl⟩
  obtain ⟨h1,h2⟩ := List.mem_filter.1 he
  rw [Bool.and_eq_true,decide_eq_true_eq] at h2
  exact ⟨e,h1,h2.1,rfl,h2.2⟩
 ·rintro ⟨e,h1,h2,rfl,h3⟩
  exact ⟨e,List.mem_filter.2 ⟨h1,by rw [h3,decide_eq_true h2]; rfl⟩,rfl⟩
theorem mvsOf_asc {a b : Auto} {cap x y : Int} {l m : List Int} {p st : Int} {es : List Edge} (h : es.Pairwise (fun x y => Edge.lt x y = true)) : (mvsOf a b cap x y l m p st es).Pairwise (fun x y => Mov.lt x y = true) := by
 unfold mvsOf
 rw [List.pairwise_map]
 refine (h.filter _).imp_of_mem fun {e f} he hf hlt => ?_
 have h1 := (List.mem_filter.1 he).2
 have h2 := (List.mem_filter.1 hf).2
 rw [Bool.and_eq_true,decide_eq_true_eq] at h1 h2
 have h3 : e.fr = f.fr := h1.1.trans h2.1.symm
 unfold Mov.lt Mov.e Edge.mv
 unfold Edge.lt at hlt ⊢
 simpa [h3] using hlt
theorem movesC_asc {a b : Auto} {cap x y : Int} {l m : List Int} (ha : a.edges.Pairwise (fun x y => Edge.lt x y = true)) (hb : b.edges.Pairwise (fun x y => Edge.lt x y = true)) : (movesC a b cap x y l m).Pairwise (fun x y => Mov.lt x y = true) := by
 unfold movesC
 rw [List.pairwise_append]
 refine ⟨mvsOf_asc ha,mvsOf_asc hb,fun u hu v hv => ?_⟩
 obtain ⟨e,_,_,rfl,_⟩ := mvsOf_mem.1 hu
 obtain ⟨f,_,_,rfl,_⟩ := mvsOf_mem.1 hv
 unfold Mov.lt Mov.e Edge.mv Edge.lt
 simp
theorem sys_good {a b : Auto} {cap : Int} (h : sysErr a b cap = 0) : a.Good ∧ b.Good ∧ 1 ≤ cap ∧ cap ≤ 3 := by
 unfold sysErr at h
 by_cases h1 : a.err = 0
 ·rw [if_neg (by simp [h1])] at h
  by_cases h2 : b.err = 0
  ·rw [if_neg (by simp [h2])] at h
   refine ⟨Auto.good_iff.1 h1,Auto.good_iff.1 h2,?_⟩
   by_cases h3 : cap < 1 ∨ 3 < cap
   ·rw [if_pos h3] at h
    cases h
   ·omega
  ·rw [if_pos (by simp [h2])] at h
   exact absurd h h2
 ·rw [if_pos (by simp [h1])] at h
  exact absurd h h1
set_option maxHeartbeats 8000000 in
theorem r186 (a b : Auto) (cap : Int) (x y : Int) (l m : List Int) (ha : a.edges.length ≤ 1000000) (hb : b.edges.length ≤ 1000000) (hl : l.length ≤ 2000000000) (hm : m.length ≤ 2000000000) (hs : (movesC a b cap x y l m).Pairwise (fun x y => Mov.lt x y = true)) : res A PrA 186 [.agg [.int .i64 a.states,.int .i64 a.start,.lst 0 (a.edges.map Edge.c),.int .i64 b.states,.int .i64 b.start,.lst 0 (b.edges.map Edge.c),.int .i64 cap],.agg [.int .i64 x,.int .i64 y,.lst 0 (ints l),.lst 0 (ints m)]] = some [.lst 0 (mvs3 (movesC a b cap x y l m))] := by
 refine res_of a186 rfl rfl ?_
 simp only [F186]; try delta sS tT zZ nN gG bB pZ
 have h182 := fun mv => r182 a b cap x y l m mv (by omega) (by omega) hl hm
 have h1890 := r189 a b cap x y l m ((0 : Nat) : Int)
 have h1891 := r189 a b cap x y l m ((1 : Nat) : Int)
 rw [if_pos (by rfl)] at h1890
 rw [if_neg (by decide)] at h1891
 simp (disch := omega) only [go_sem]
 refine W.upto 2 (fun k => ⟨[(2,.ptr 2 0),(3,.ptr 3 0),(5,grV 0 (mvs3 (if k = 0 then [] else if k = 1 then mvsOf a b cap x y l m 0 x a.edges else movesC a b cap x y l m))),(13,.pv (.int .i64 k))],⟨[(2,[.pv (.int .i64 a.states),.pv (.int .i64 a.start),.pv (.lst 0 (a.edges.map Edge.c)),.pv (.int .i64 b.states),.pv (.int .i64 b.start),.pv (.lst 0 (b.edges.map Edge.c)),.pv (.int .i64 cap)]),(3,[.pv (.int .i64 x),.pv (.int .i64 y),.pv (.lst 0 (ints l)),.pv (.lst 0 (ints m))])],grA 3 (mvs3 (if k = 0 then [] else if k = 1 then mvsOf a b cap x y l m 0 x a.edges else movesC a b cap x y l m)),[]⟩⟩) (fun _ => True) rfl trivial fun k hk _ => ?_
 have d0 : decide (((0 : Nat) : Int) < 2) = true := rfl
 have d1 : decide (((1 : Nat) : Int) < 2) = true := rfl
 have d2 : decide (((2 : Nat) : Int) < 2) = false := rfl
 have hl0 := mvsOf_len a b cap x y l m 0 x a.edges
 obtain rfl | rfl | rfl : k = 0 ∨ k = 1 ∨ k = 2 := by omega
 ·simp (disch := omega) only [go_sem,d0,h1890]
  refine W.upto a.edges.length (fun k => ⟨[(2,.ptr 2 0),(3,.ptr 3 0),(5,grV 0 (mvs3 (mvsOf a b cap x y l m 0 x (a.edges.take k)))),(6,.pv (.int .i64 0)),(7,.ptr 7 0),(13,.pv (.int .i64 0)),(22,.pv (.lst 0 (a.edges.map Edge.c))),(23,.pv (.int .i64 a.edges.length)),(24,.pv (.int .i64 k))],⟨[(2,[.pv (.int .i64 a.states),.pv (.int .i64 a.start),.pv (.lst 0 (a.edges.map Edge.c)),.pv (.int .i64 b.states),.pv (.int .i64 b.start),.pv (.lst 0 (b.edges.map Edge.c)),.pv (.int .i64 cap)]),(3,[.pv (.int .i64 x),.pv (.int .i64 y),.pv (.lst 0 (ints l)),.pv (.lst 0 (ints m))]),(7,[.pv (.int .i64 a.states),.pv (.int .i64 a.start),.pv (.lst 0 (a.edges.map Edge.c)),.pv (.int .i64 x),.pv (.lst 0 (ints l)),.pv (.lst 0 (ints m)),.pv (.int .i64 cap)])],grA 3 (mvs3 (mvsOf a b cap x y l m 0 x (a.edges.take k))),[]⟩⟩) (fun _ => True) ?_ trivial fun k hk _ => ?_
  ·rw [show mvsOf a b cap x y l m 0 x (a.edges.take 0) = [] from rfl]
   rfl
  simp (disch := omega) only [go_sem]
  refine Br.ofP (fun c => ?_) (fun c => ?_)
  ·obtain ⟨e,he⟩ := get_at (l := a.edges) (k := k) (by omega)
   have hlen : (mvsOf a b cap x y l m 0 x (a.edges.take k)).length ≤ k := Nat.le_trans (mvsOf_len a b cap x y l m 0 x _) (by rw [List.length_take]; omega)
   have hs : mvsOf a b cap x y l m 0 x (a.edges.take (k + 1)) = if e.fr = x ∧ (afterC a b cap x y l m ⟨0,e.send,e.label⟩).2 = true then (mvsOf a b cap x y l m 0 x (a.edges.take k)) ++ [⟨0,e.send,e.label⟩] else mvsOf a b cap x y l m 0 x (a.edges.take k) := by
    rw [mvsOf_snoc a b cap x y l m 0 x he]
    rfl
   have h182e := h182 ⟨0,e.send,e.label⟩
   have hql : (mvsOf a b cap x y l m 0 x (a.edges.take k)).length ≤ 3000000 := by omega
   generalize mvsOf a b cap x y l m 0 x (a.edges.take k) = q at *
   have hq2 : (mvs3 q).length ≤ 3000000 := by rw [mvs3_length]; exact hql
   simp (disch := omega) only [go_sem,he]
   by_cases c1 : e.fr = x
   ·have e1 : decide (e.fr = x) = true := by simp [c1]
    simp (disch := omega) only [go_sem,e1,h182e]
    refine Br.of (fun g => ?_) (fun g => ?_) <;> simp (disch := omega) only [go_sem,g]
    ·refine .of (by omega) ?_ trivial
     rw [hs,if_pos ⟨c1,g⟩]
     rfl
    ·refine .of (by omega) ?_ trivial
     rw [hs,if_neg (fun h => by rw [h.2] at g; cases g)]
     rfl
   ·have e1 : decide (e.fr = x) = false := by simp [c1]
    simp (disch := omega) only [go_sem,e1]
    refine .of (by omega) ?_ trivial
    rw [hs,if_neg (fun h => c1 h.1)]
    rfl
  ·obtain rfl : k = a.edges.length := by omega
   rw [List.take_length]
   simp (disch := omega) only [go_sem]
   refine .of (by omega) ?_ trivial
   rfl
 ·simp (disch := omega) only [go_sem,d1,h1891]
  refine W.upto b.edges.length (fun k => ⟨[(2,.ptr 2 0),(3,.ptr 3 0),(5,grV 0 (mvs3 (mvsOf a b cap x y l m 0 x a.edges ++ mvsOf a b cap x y l m 1 y (b.edges.take k)))),(6,.pv (.int .i64 1)),(7,.ptr 7 0),(13,.pv (.int .i64 1)),(22,.pv (.lst 0 (b.edges.map Edge.c))),(23,.pv (.int .i64 b.edges.length)),(24,.pv (.int .i64 k))],⟨[(2,[.pv (.int .i64 a.states),.pv (.int .i64 a.start),.pv (.lst 0 (a.edges.map Edge.c)),.pv (.int .i64 b.states),.pv (.int .i64 b.start),.pv (.lst 0 (b.edges.map Edge.c)),.pv (.int .i64 cap)]),(3,[.pv (.int .i64 x),.pv (.int .i64 y),.pv (.lst 0 (ints l)),.pv (.lst 0 (ints m))]),(7,[.pv (.int .i64 b.states),.pv (.int .i64 b.start),.pv (.lst 0 (b.edges.map Edge.c)),.pv (.int .i64 y),.pv (.lst 0 (ints m)),.pv (.lst 0 (ints l)),.pv (.int .i64 cap)])],grA 3 (mvs3 (mvsOf a b cap x y l m 0 x a.edges ++ mvsOf a b cap x y l m 1 y (b.edges.take k))),[]⟩⟩) (fun _ => True) ?_ trivial fun k hk _ => ?_
  ·rw [show mvsOf a b cap x y l m 0 x a.edges ++ mvsOf a b cap x y l m 1 y (b.edges.take 0) = mvsOf a b cap x y l m 0 x a.edges from List.append_nil _]
   rfl
  simp (disch := omega) only [go_sem]
  refine Br.ofP (fun c => ?_) (fun c => ?_)
  ·obtain ⟨e,he⟩ := get_at (l := b.edges) (k := k) (by omega)
   have hlen : (mvsOf a b cap x y l m 1 y (b.edges.take k)).length ≤ k := Nat.le_trans (mvsOf_len a b cap x y l m 1 y _) (by rw [List.length_take]; omega)
   have hs : mvsOf a b cap x y l m 0 x a.edges ++ mvsOf a b cap x y l m 1 y (b.edges.take (k + 1)) = if e.fr = y ∧ (afterC a b cap x y l m ⟨1,e.send,e.label⟩).2 = true then (mvsOf a b cap x y l m 0 x a.edges ++ mvsOf a b cap x y l m 1 y (b.edges.take k)) ++ [⟨1,e.send,e.label⟩] else mvsOf a b cap x y l m 0 x a.edges ++ mvsOf a b cap x y l m 1 y (b.edges.take k) := by
    rw [mvsOf_snoc a b cap x y l m 1 y he]
    unfold Edge.mv; split <;> simp
   have h182e := h182 ⟨1,e.send,e.label⟩
   have hql : (mvsOf a b cap x y l m 0 x a.edges ++ mvsOf a b cap x y l m 1 y (b.edges.take k)).length ≤ 3000000 := by rw [List.length_append]; omega
   generalize mvsOf a b cap x y l m 0 x a.edges ++ mvsOf a b cap x y l m 1 y (b.edges.take k) = q at *
   have hq2 : (mvs3 q).length ≤ 3000000 := by rw [mvs3_length]; exact hql
   simp (disch := omega) only [go_sem,he]
   by_cases c1 : e.fr = y
   ·have e1 : decide (e.fr = y) = true := by simp [c1]
    simp (disch := omega) only [go_sem,e1,h182e]
    refine Br.of (fun g => ?_) (fun g => ?_) <;> simp (disch := omega) only [go_sem,g]
    ·refine .of (by omega) ?_ trivial
     rw [hs,if_pos ⟨c1,g⟩]
     rfl
    ·refine .of (by omega) ?_ trivial
     rw [hs,if_neg (fun h => by rw [h.2] at g; cases g)]
     rfl
   ·have e1 : decide (e.fr = y) = false := by simp [c1]
    simp (disch := omega) only [go_sem,e1]
    refine .of (by omega) ?_ trivial
    rw [hs,if_neg (fun h => c1 h.1)]
    rfl
  ·obtain rfl : k = b.edges.length := by omega
   rw [List.take_length]
   simp (disch := omega) only [go_sem]
   refine .of (by omega) ?_ trivial
   rfl
 ·have hml : (movesC a b cap x y l m).length ≤ 2000000 := by
   have := mvsOf_len a b cap x y l m 1 y b.edges
   unfold movesC
   rw [List.length_append]
   omega
  have hsp := fun bx mp => sortP_mvs (bx := bx) (mp := mp) (l := movesC a b cap x y l m) (by omega) hs
  have e20 : ((if 2 = 0 then [] else if 2 = 1 then mvsOf a b cap x y l m 0 x a.edges else movesC a b cap x y l m) : List Mov) = movesC a b cap x y l m := rfl
  rw [e20]
  generalize movesC a b cap x y l m = q at *
  simp (disch := omega) only [go_sem,d2,hsp]
end Go.Pv
namespace Go.Pv
def Cfg.c (c : Cfg) : List PV := [.int .i64 c.a,.int .i64 c.b,.lst 0 (ints c.toA),.lst 0 (ints c.toB)]
def cfgs (l : List Cfg) : List (List PV) := l.map Cfg.c
@[go_sem] theorem cfgs_length (l : List Cfg) : (cfgs l).length = l.length := List.length_map _
theorem cfgs_get (l : List Cfg) (i : Nat) : (cfgs l)[i]? = l[i]?.map Cfg.c := by simp [cfgs]
theorem cfgs_snoc (l : List Cfg) (c : Cfg) : cfgs l ++ [[.int .i64 c.a,.int .i64 c.b,.lst 0 (ints c.toA),.lst 0 (ints c.toB)]] = cfgs (l ++ [c]) := by simp [cfgs,Cfg.c]
def sucC (a b : Auto) (cap : Int) (c : Cfg) : List Cfg := (movesC a b cap c.a c.b c.toA c.toB).map fun m => (afterC a b cap c.a c.b c.toA c.toB m).1
structure Runs29 (a b : Auto) (cap : Int) (p : Cfg → Prop) : Prop where
 st : p ⟨a.start,b.start,[],[]⟩
 nx : ∀ c,p c → ∀ x ∈ sucC a b cap c,p x
 ok : ∀ c,p c → c.ok
 so : ∀ c,p c → (movesC a b cap c.a c.b c.toA c.toB).Pairwise (fun x y => Mov.lt x y = true)
def cfgStart (a b : Auto) : Cfg := ⟨a.start,b.start,[],[]⟩
end Go.Pv
namespace Go.Pv
def txt (l : List UInt8) : ByteArray := ⟨l.toArray⟩
def itoaS (n : Int) : ByteArray := txt (encN n)
theorem itoa_all : (List.range 100).map (fun n : Nat => callBy A (exec A PrA 60) 194 [.int .i64 (n : Int)]) = (List.range 100).map (fun n : Nat => some [.str (itoaS (n : Int))]) := by kernel_rfl
theorem r194 (n : Int) (h : smallI n = true) : res A PrA 194 [.int .i64 n] = some [.str (itoaS n)] := by
 simp only [smallI,Bool.and_eq_true,decide_eq_true_eq] at h
 have := congrArg (fun l => l[n.toNat]?) itoa_all
 simp only [List.getElem?_map] at this
 rw [List.getElem?_range (by omega)] at this
 simp only [Option.map_some,Option.some.injEq] at this
 rw [show ((n.toNat : Nat) : Int) = n by omega] at this
 exact res_some.2 ⟨60,this⟩
theorem bcat (a b : List UInt8) : txt a ++ txt b = txt (a ++ b) := by
 apply ByteArray.ext
 simp [txt]
theorem bsize (a : List UInt8) : (txt a).size = a.length := by simp [ByteArray.size,txt]
theorem addT (a b : List UInt8) (h : a.length + b.length ≤ 1000000) : binV .add (.pv (.str (txt a))) (.pv (.str (txt b))) = some (.pv (.str (txt (a ++ b)))) := by
 simp only [binV,strBin,bsize]
 rw [if_pos (by omega),bcat]
 rfl
theorem txt32 : (⟨#[32]⟩ : ByteArray) = txt [32] := rfl
theorem txt59 : (⟨#[59]⟩ : ByteArray) = txt [59] := rfl
theorem txt0 : (⟨#[]⟩ : ByteArray) = txt [] := rfl
theorem encN_len (n : Int) : (encN n).length ≤ 2 := by unfold encN; split <;> simp
theorem spN_len (l : List Int) : (l.flatMap spN).length ≤ 3 * l.length := by
 induction l with
 | nil => simp
 | cons x l ih =>
  have := encN_len x
  simp only [List.flatMap_cons,List.length_append,List.length_cons,spN]
  omega
theorem spN_snoc {l : List Int} {k : Nat} {x : Int} (h : l[k]? = some x) : (l.take (k + 1)).flatMap spN = (l.take k).flatMap spN ++ spN x := by
 rw [List.take_add_one,h,List.flatMap_append]
 simp
set_option maxHeartbeats 4000000 in
theorem r251 (t u : Nat) (a b : Int) (l m : List Int) (h : Cfg.ok ⟨a,b,l,m⟩) : res A PrA 251 [.agg [.int .i64 a,.int .i64 b,.lst t (ints l),.lst u (ints m)]] = some [.str (keyBS a b l m)] := by
 refine res_of a251 rfl rfl ?_
 simp only [F251]; try delta sS tT zZ nN gG bB pZ
 obtain ⟨h1,h2,h3,h4,h5,h6⟩ := h
 simp only at h1 h2 h3 h4 h5 h6
 have ha := r194 a h1
 have hb := r194 b h2
 have la := encN_len a
 have lb := encN_len b
 have e32 : ([32] : List UInt8).length = 1 := rfl
 have hl63 : l.length ≤ 2 ^ 63 - 1 := by omega
 have hm63 : m.length ≤ 2 ^ 63 - 1 := by omega
 simp (disch := first | omega | (simp only [List.length_append,List.length_cons,List.length_nil]; omega)) only [go_sem,ha,hb,txt32,txt59,txt0,itoaS,addT]
 refine W.upto l.length (fun k => ⟨[(1,.ptr 1 0),(3,.pv (.str (txt (encN a ++ [32] ++ encN b ++ (l.take k).flatMap spN)))),(17,.pv (.lst t (ints l))),(18,.pv (.int .i64 l.length)),(19,.pv (.int .i64 k))],⟨[(1,[.pv (.int .i64 a),.pv (.int .i64 b),.pv (.lst t (ints l)),.pv (.lst u (ints m))])],[],[]⟩⟩) (fun _ => True) (by simp) trivial fun k hk _ => ?_
 simp (disch := omega) only [go_sem]
 refine Br.ofP (fun c => ?_) (fun c => ?_)
 ·have hx := List.getElem?_eq_getElem (l := l) (i := k) (by omega)
  generalize l[k]'(by omega) = x at hx
  have hx1 := r194 x (List.all_eq_true.1 h3 x (List.mem_of_getElem? hx))
  have hs := spN_snoc hx
  have lk := spN_len (l.take k)
  have lx := encN_len x
  have lt : (l.take k).length ≤ l.length := by rw [List.length_take]; omega
  simp (disch := first | omega | (simp only [List.length_append,List.length_cons,List.length_nil]; omega)) only [go_sem,hx,hx1,itoaS,addT]
  refine .of (by omega) ?_ trivial
  rw [hs]
  simp [spN]
 obtain rfl : k = l.length := by omega
 clear hk c
 rw [List.take_length]
 have lk := spN_len l
 simp (disch := first | omega | (simp only [List.length_append,List.length_cons,List.length_nil]; omega)) only [go_sem,addT]
 refine W.upto m.length (fun k => ⟨[(3,.pv (.str (txt (encN a ++ [32] ++ encN b ++ l.flatMap spN ++ [59] ++ (m.take k).flatMap spN)))),(32,.pv (.lst u (ints m))),(33,.pv (.int .i64 m.length)),(34,.pv (.int .i64 k))],⟨[],[],[]⟩⟩) (fun _ => True) (by simp) trivial fun k hk _ => ?_
 simp (disch := omega) only [go_sem]
 refine Br.ofP (fun c => ?_) (fun c => ?_)
 ·have hx := List.getElem?_eq_getElem (l := m) (i := k) (by omega)
  generalize m[k]'(by omega) = x at hx
  have hx1 := r194 x (List.all_eq_true.1 h4 x (List.mem_of_getElem? hx))
  have hs := spN_snoc hx
  have lk2 := spN_len (m.take k)
  have lx := encN_len x
  have lt : (m.take k).length ≤ m.length := by rw [List.length_take]; omega
  simp (disch := first | omega | (simp only [List.length_append,List.length_cons,List.length_nil]; omega)) only [go_sem,hx,hx1,itoaS,addT]
  refine .of (by omega) ?_ trivial
  rw [hs]
  simp [spN]
 obtain rfl : k = m.length := by omega
 rw [List.take_length]
 simp (disch := omega) only [go_sem]
 simp [keyBS,keyB,txt,spN]
end Go.Pv
namespace Go.Pv
structure Nod (α μ : Type) where
 c : α
 bef : Int
 by' : Option μ
 path : List μ
section
variable {α μ : Type} [DecidableEq α]
def addD (out : List (Nod α μ)) (x : Nod α μ) : List (Nod α μ) := if x.c ∈ out.map Nod.c then out else out ++ [x]
def addDs (lim : Nat) : List (Nod α μ) → List (Nod α μ) → Option (List (Nod α μ))
 | out,[] => some out
 | out,x :: l => if lim < (addD out x).length then none else addDs lim (addD out x) l
def sucD (mv : α → List (μ × α)) (i : Nat) (x : Nod α μ) : List (Nod α μ) := (mv x.c).map fun y => ⟨y.2,(i : Int),some y.1,x.path ++ [y.1]⟩
def nodL (mv : α → List (μ × α)) (lim : Nat) : Nat → List (Nod α μ) → Nat → Option (List (Nod α μ))
 | 0,_,_ => none
 | n + 1,out,i => match out[i]? with
  | none => some out
  | some x => match addDs lim out (sucD mv i x) with
   | none => none
   | some out' => nodL mv lim n out' (i + 1)
def sucOf (mv : α → List (μ × α)) (c : α) : List α := (mv c).map (·.2)
def nod0 (c : α) : Nod α μ := ⟨c,-1,none,[]⟩
theorem addD_map (out : List (Nod α μ)) (x : Nod α μ) : (addD out x).map Nod.c = addU (out.map Nod.c) x.c := by
 unfold addD addU
 split <;> simp
theorem addD_pre {out : List (Nod α μ)} {x : Nod α μ} : out <+: addD out x := by
 unfold addD
 split
 ·exact List.prefix_refl _
 ·exact List.prefix_append _ _
theorem addD_len (out : List (Nod α μ)) (x : Nod α μ) : (addD out x).length = (addU (out.map Nod.c) x.c).length := by rw [← addD_map,List.length_map]
theorem addDs_map {lim : Nat} : ∀ (l out : List (Nod α μ)),(addDs lim out l).map (List.map Nod.c) = addUs lim (out.map Nod.c) (l.map Nod.c)
 | [],out => rfl
 | x :: l,out => by
  unfold addDs
  simp only [List.map_cons,addUs]
  rw [addD_len,← addD_map]
  split
  ·rfl
  ·exact addDs_map l _
omit [DecidableEq α] in
theorem sucD_map (mv : α → List (μ × α)) (i : Nat) (x : Nod α μ) : (sucD mv i x).map Nod.c = sucOf mv x.c := by simp [sucD,sucOf]
theorem nodL_map (mv : α → List (μ × α)) {lim : Nat} : ∀ (n : Nat) (out : List (Nod α μ)) (i : Nat),(nodL mv lim n out i).map (List.map Nod.c) = bfsL (sucOf mv) lim n (out.map Nod.c) i
 | 0,_,_ => rfl
 | n + 1,out,i => by
  unfold nodL bfsL
  rw [List.getElem?_map]
  cases hi : out[i]? with
  | none => rfl
  | some x =>
   simp only [Option.map_some]
   have := addDs_map (lim := lim) (sucD mv i x) out
   rw [sucD_map] at this
   cases ha : addDs lim out (sucD mv i x) with
   | none =>
    rw [ha] at this
    rw [← this]
    rfl
   | some o2 =>
    rw [ha] at this
    rw [← this]
    exact nodL_map mv n o2 (i + 1)
theorem nodL_some {mv : α → List (μ × α)} {lim n : Nat} {s : α} {o : List α} (h : bfsL (sucOf mv) lim n [s] 0 = some o) : ∃ out,nodL mv lim n [nod0 s] 0 = some out ∧ out.map Nod.c = o := by
 have := nodL_map mv (lim := lim) n [nod0 s] 0
 rw [show ([nod0 s] : List (Nod α μ)).map Nod.c = [s] from rfl,h] at this
 cases hn : nodL mv lim n [nod0 s] 0 with
 | none => rw [hn] at this; cases this
 | some out => rw [hn] at this; exact ⟨out,rfl,by injection this⟩
structure Fnd (mv : α → List (μ × α)) (s : α) (out : List (Nod α μ)) (i : Nat) : Prop where
 nd : (out.map Nod.c).Nodup
 first : out[0]? = some (nod0 s)
 way : ∀ (j : Nat) (x : Nod α μ),out[j]? = some x → 0 < j → ∃ (k : Nat) (y : Nod α μ) (m : μ),k < j ∧ k ≤ i ∧ out[k]? = some y ∧ (m,x.c) ∈ mv y.c ∧ x = ⟨x.c,(k : Int),some m,y.path ++ [m]⟩
 mono : ∀ (j k : Nat) (x y : Nod α μ),j ≤ k → out[j]? = some x → out[k]? = some y → x.path.length ≤ y.path.length
 near : ∀ (j : Nat) (x y : Nod α μ),out[i]? = some x → out[j]? = some y → y.path.length ≤ x.path.length + 1
 dn : ∀ (j : Nat) (x : Nod α μ),j < i → out[j]? = some x → ∀ c ∈ sucOf mv x.c,∃ (k : Nat) (y : Nod α μ),out[k]? = some y ∧ y.c = c ∧ y.path.length ≤ x.path.length + 1
omit [DecidableEq α] in
theorem fnd0 (mv : α → List (μ × α)) (s : α) : Fnd mv s [nod0 s] 0 where
 nd := by simp
 first := rfl
 way := fun j x hx hj => by
  obtain ⟨j,rfl⟩ : ∃ k,j = k + 1 := ⟨j - 1,by omega⟩
  simp at hx
 mono := fun j k x y _ hx hy => by
  have h1 : j = 0 := by have := (List.getElem?_eq_some_iff.1 hx).1; simpa using this
  have h2 : k = 0 := by have := (List.getElem?_eq_some_iff.1 hy).1; simpa using this
  subst h1; subst h2
  rw [hx] at hy
  cases hy
  exact Nat.le_refl _
 near := fun j x y hx hy => by
  have h2 : j = 0 := by have := (List.getElem?_eq_some_iff.1 hy).1; simpa using this
  subst h2
  rw [hx] at hy
  cases hy
  omega
 dn := fun j x hj => by omega
theorem get_pre {β : Type} {l l' : List β} (h : l <+: l') {i : Nat} {x : β} (hx : l[i]? = some x) : l'[i]? = some x := by
 obtain ⟨r,rfl⟩ := h
 rw [List.getElem?_append_left (List.getElem?_eq_some_iff.1 hx).1]
 exact hx
theorem mem_get {β : Type} {l : List β} {x : β} (h : x ∈ l) : ∃ i : Nat,l[i]? = some x := by
 obtain ⟨i,hi⟩ := List.mem_iff_getElem?.1 h
 exact ⟨i,hi⟩
theorem Fnd.adds {mv : α → List (μ × α)} {s : α} {i lim : Nat} {x : Nod α μ} : ∀ (l out out' : List (Nod α μ)),(∀ y ∈ l,∃ m,(m,y.c) ∈ mv x.c ∧ y = ⟨y.c,(i : Int),some m,x.path ++ [m]⟩) → Fnd mv s out i → out[i]? = some x → addDs lim out l = some out' →
  Fnd mv s out' i ∧ out <+: out' ∧ (∀ y ∈ l,∃ (k : Nat) (z : Nod α μ),out'[k]? = some z ∧ z.c = y.c ∧ z.path.length ≤ x.path.length + 1)
 | [],out,out',_,hf,hx,ha => by
  cases ha
  exact ⟨hf,List.prefix_refl _,fun y hy => by cases hy⟩
 | y :: l,out,out',hl,hf,hx,ha => by
  unfold addDs at ha
  split at ha
  ·cases ha
  ·have hx' : (addD out y)[i]? = some x := get_pre addD_pre hx
   obtain ⟨m,hm,hy⟩ := hl y (List.mem_cons_self ..)
   have hyl : y.path.length = x.path.length + 1 := by rw [hy]; simp
   have hf' : Fnd mv s (addD out y) i := by
    unfold addD
    split
    ·exact hf
    ·rename_i hn
     have old : ∀ {j z},(out ++ [y])[j]? = some z → (out[j]? = some z) ∨ (j = out.length ∧ z = y) := fun {j z} hz => by
      rcases Nat.lt_or_ge j out.length with hj | hj
      ·rw [List.getElem?_append_left hj] at hz
       exact .inl hz
      ·rw [List.getElem?_append_right hj] at hz
       have : j - out.length = 0 := by have := (List.getElem?_eq_some_iff.1 hz).1; simpa using this
       rw [this] at hz
       cases hz
       exact .inr ⟨by omega,rfl⟩
     have ext : ∀ {j z},out[j]? = some z → (out ++ [y])[j]? = some z := fun hz => get_pre (List.prefix_append _ _) hz
     have hil : i < out.length := (List.getElem?_eq_some_iff.1 hx).1
     refine ⟨?_,ext hf.first,fun j z hz hj => ?_,fun j k a b hjk ha hb => ?_,fun j a b ha hb => ?_,fun j a hj ha c hc => ?_⟩
     ·rw [List.map_append,List.nodup_append]
      exact ⟨hf.nd,by simp,fun a ha b hb => by
       rw [List.map_singleton,List.mem_singleton] at hb
       rw [hb]
       exact fun e => hn (e ▸ ha)⟩
     ·rcases old hz with hz | ⟨rfl,rfl⟩
      ·obtain ⟨k,w,m',h1,h2,h3,h4,h5⟩ := hf.way j z hz hj
       exact ⟨k,w,m',h1,h2,ext h3,h4,h5⟩
      ·exact ⟨i,x,m,hil,Nat.le_refl _,ext hx,hm,hy⟩
     ·rcases old hb with hb' | ⟨hk,hbe⟩
      ·rcases old ha with ha' | ⟨hj',_⟩
       ·exact hf.mono j k a b hjk ha' hb'
       ·have := (List.getElem?_eq_some_iff.1 hb').1; omega
      ·rcases old ha with ha' | ⟨_,hae⟩
       ·rw [hbe]
        have := hf.near j x a hx ha'
        omega
       ·rw [hbe,hae]
        exact Nat.le_refl _
     ·rcases old ha with ha' | ⟨h1,_⟩
      ·rcases old hb with hb' | ⟨_,hbe⟩
       ·exact hf.near j a b ha' hb'
       ·rw [hx] at ha'
        cases ha'
        rw [hbe]
        omega
      ·omega
     ·rcases old ha with ha' | ⟨h1,_⟩
      ·obtain ⟨k,w,h1,h2,h3⟩ := hf.dn j a hj ha' c hc
       exact ⟨k,w,ext h1,h2,h3⟩
      ·omega
   obtain ⟨g1,g2,g3⟩ := Fnd.adds l _ _ (fun z hz => hl z (List.mem_cons_of_mem _ hz)) hf' hx' ha
   refine ⟨g1,addD_pre.trans g2,fun z hz => ?_⟩
   rcases List.mem_cons.1 hz with rfl | hz
   ·have hin : z.c ∈ (addD out z).map Nod.c := by
     unfold addD
     split
     ·rename_i h; exact h
     ·simp
    obtain ⟨k,hk⟩ := mem_get hin
    rw [List.getElem?_map] at hk
    obtain ⟨w,hw,hwc⟩ := Option.map_eq_some_iff.1 hk
    exact ⟨k,w,get_pre g2 hw,hwc,hf'.near k x w hx' hw⟩
   ·exact g3 z hz
theorem Fnd.next {mv : α → List (μ × α)} {s : α} {i lim : Nat} {x : Nod α μ} {out out' : List (Nod α μ)} (hf : Fnd mv s out i) (hx : out[i]? = some x) (ha : addDs lim out (sucD mv i x) = some out') : Fnd mv s out' (i + 1) ∧ out <+: out' := by
 obtain ⟨g1,g2,g3⟩ := Fnd.adds (mv := mv) (s := s) (x := x) _ _ _ (fun y hy => by
  obtain ⟨p,hp,rfl⟩ := List.mem_map.1 hy
  exact ⟨p.1,hp,rfl⟩) hf hx ha
 have hx' := get_pre g2 hx
 refine ⟨⟨g1.nd,g1.first,fun j z hz hj => ?_,g1.mono,fun j a b ha hb => ?_,fun j a hj haj c hc => ?_⟩,g2⟩
 ·obtain ⟨k,w,m',h1,h2,h3⟩ := g1.way j z hz hj
  exact ⟨k,w,m',h1,by omega,h3⟩
 ·have h1 := g1.mono i (i + 1) x a (by omega) hx' ha
  have h2 := g1.near j x b hx' hb
  omega
 ·rcases Nat.lt_or_ge j i with hji | hji
  ·exact g1.dn j a hji haj c hc
  ·obtain rfl : j = i := by omega
   rw [hx'] at haj
   cases haj
   obtain ⟨p,hp,rfl⟩ := List.mem_map.1 hc
   exact g3 ⟨p.2,(j : Int),some p.1,x.path ++ [p.1]⟩ (List.mem_map.2 ⟨p,hp,rfl⟩)
theorem nodL_fnd {mv : α → List (μ × α)} {s : α} {lim : Nat} : ∀ {n : Nat} {out out' : List (Nod α μ)} {i : Nat},Fnd mv s out i → nodL mv lim n out i = some out' → Fnd mv s out' out'.length ∧ out <+: out'
 | 0,_,_,_,_,h => by cases h
 | n + 1,out,out',i,hf,h => by
  unfold nodL at h
  split at h
  ·rename_i hi
   cases h
   have hle : out.length ≤ i := List.getElem?_eq_none_iff.1 hi
   refine ⟨⟨hf.nd,hf.first,fun j z hz hj => ?_,hf.mono,fun j a b ha hb => ?_,fun j a hj ha => hf.dn j a (by omega) ha⟩,List.prefix_refl _⟩
   ·obtain ⟨k,w,m',h1,h2,h3,h4⟩ := hf.way j z hz hj
    have := (List.getElem?_eq_some_iff.1 h3).1
    exact ⟨k,w,m',h1,by omega,h3,h4⟩
   ·have := (List.getElem?_eq_some_iff.1 ha).1; omega
  ·rename_i x hx
   split at h
   ·cases h
   ·rename_i o2 ha
    obtain ⟨h1,h2⟩ := hf.next hx ha
    obtain ⟨h3,h4⟩ := nodL_fnd h1 h
    exact ⟨h3,h2.trans h4⟩
theorem nodL_end {mv : α → List (μ × α)} {s : α} {lim n : Nat} {out : List (Nod α μ)} (h : nodL mv lim n [nod0 s] 0 = some out) : Fnd mv s out out.length := (nodL_fnd (fnd0 mv s) h).1
inductive Stp (mv : α → List (μ × α)) : α → List μ → α → Prop
 | nil (c : α) : Stp mv c [] c
 | snoc {c d e : α} {l : List μ} {m : μ} : Stp mv c l d → (m,e) ∈ mv d → Stp mv c (l ++ [m]) e
omit [DecidableEq α] in
theorem Fnd.stp {mv : α → List (μ × α)} {s : α} {out : List (Nod α μ)} {i : Nat} (hf : Fnd mv s out i) : ∀ (n j : Nat) (x : Nod α μ),j ≤ n → out[j]? = some x → Stp mv s x.path x.c
 | n,j,x,hj,hx => by
  rcases Nat.eq_zero_or_pos j with h0 | h0
  ·subst h0
   rw [hf.first] at hx
   cases hx
   exact .nil _
  ·obtain ⟨k,y,m,h1,h2,h3,h4,h5⟩ := hf.way j x hx h0
   have : Stp mv s y.path y.c := match n with
    | 0 => by omega
    | n + 1 => Fnd.stp hf n k y (by omega) h3
   rw [h5]
   exact this.snoc h4
omit [DecidableEq α] in
theorem Fnd.least {mv : α → List (μ × α)} {s : α} {out : List (Nod α μ)} (hf : Fnd mv s out out.length) {l : List μ} {c : α} (h : Stp mv s l c) : ∃ (k : Nat) (y : Nod α μ),out[k]? = some y ∧ y.c = c ∧ y.path.length ≤ l.length := by
 induction h with
 | nil => exact ⟨0,_,hf.first,rfl,Nat.zero_le _⟩
 | snoc _ hm ih =>
  obtain ⟨k,y,h1,h2,h3⟩ := ih
  obtain ⟨k',y',g1,g2,g3⟩ := hf.dn k y (List.getElem?_eq_some_iff.1 h1).1 h1 _ (List.mem_map.2 ⟨_,by rw [h2]; exact hm,rfl⟩)
  exact ⟨k',y',g1,g2,by simp; omega⟩
omit [DecidableEq α] in
theorem Fnd.same {mv : α → List (μ × α)} {s : α} {out : List (Nod α μ)} {i : Nat} (hf : Fnd mv s out i) {j k : Nat} {x y : Nod α μ} (hx : out[j]? = some x) (hy : out[k]? = some y) (h : x.c = y.c) : j = k := by
 have h1 : (out.map Nod.c)[j]? = some x.c := by rw [List.getElem?_map,hx]; rfl
 have h2 : (out.map Nod.c)[k]? = some x.c := by rw [List.getElem?_map,hy,h]; rfl
 have hj := (List.getElem?_eq_some_iff.1 h1).1
 exact (List.getElem?_inj hj hf.nd).1 (h1.trans h2.symm)
end
end Go.Pv
namespace Go.Pv
abbrev Nd := Nod Cfg Mov
def Nd.mv (x : Nd) : Mov := x.by'.getD ⟨0,false,0⟩
def idxM (l : List ByteArray) : List (PV × PV) := l.zipIdx.map fun p => (.str p.1,.int .i64 p.2)
def keysN (out : List Nd) : List ByteArray := out.map fun x => x.c.keyB
theorem findKey_zip (x : ByteArray) : ∀ (l : List ByteArray) (k i : Nat),findKey false [2] (.str x) ((l.zipIdx k).map fun (p : ByteArray × Nat) => (PV.str p.1,PV.int .i64 (p.2 : Int))) i = some ((l.findIdx? fun s => decide (s = x)).map fun j => (j + i,.int .i64 ((j + k : Nat) : Int)))
 | [],k,i => by
  show (if (keyEq false [2] (.str x) (.str x)).isSome then some none else none) = _
  rw [keyEq_str]
  rfl
 | y :: l,k,i => by
  show (match keyEq false [2] (.str x) (.str y) with
   | some true => some (some (i,PV.int .i64 k))
   | some false => findKey false [2] (.str x) ((l.zipIdx (k + 1)).map fun (p : ByteArray × Nat) => (PV.str p.1,PV.int .i64 (p.2 : Int))) (i + 1)
   | none => none) = _
  rw [keyEq_str]
  by_cases h : x = y
  ·subst h
   simp [List.findIdx?_cons]
  ·have h' : ¬ y = x := fun e => h e.symm
   simp only [h,decide_false]
   rw [findKey_zip x l (k + 1) (i + 1)]
   simp only [List.findIdx?_cons,h',decide_false]
   cases l.findIdx? fun s => decide (s = x) with
   | none => rfl
   | some j =>
    have e1 : j + (i + 1) = j + 1 + i := by omega
    have e2 : j + (k + 1) = j + 1 + k := by omega
    simp [e1]
    omega
theorem find_idxM (x : ByteArray) (l : List ByteArray) : findKey false [2] (.str x) (idxM l) 0 = some ((l.findIdx? fun s => decide (s = x)).map fun j => (j,.int .i64 (j : Int))) := by
 have := findKey_zip x l 0 0
 simpa [idxM] using this
theorem idxM_snoc (l : List ByteArray) (x : ByteArray) : idxM l ++ [(.str x,.int .i64 (l.length : Int))] = idxM (l ++ [x]) := by
 simp [idxM,List.zipIdx_append]
theorem upd_idxM (x : ByteArray) (l : List ByteArray) (id : Nat) (h : (l.findIdx? fun s => decide (s = x)) = none) : updM false [2] (.str x) (.int .i64 (l.length : Int)) id (idxM l) = some { mp := some (id,idxM (l ++ [x])) } := by
 unfold updM
 rw [find_idxM,h]
 simp [idxM_snoc]
def cellsX (a b : Auto) (cap : Int) (c m n f y : V) : List V := [.pv (.int .i64 a.states),.pv (.int .i64 a.start),.pv (.lst 0 (a.edges.map Edge.c)),.pv (.int .i64 b.states),.pv (.int .i64 b.start),.pv (.lst 0 (b.edges.map Edge.c)),.pv (.int .i64 cap),c,m,n,f,y]
theorem foundT_some (z : V) (j : Nat) (p : PV) : foundV z true (some (j,p)) = .tup [.pv p,.pv (.bool true)] := rfl
theorem foundT_none (z : V) : foundV z true none = .tup [z,.pv (.bool false)] := rfl
def arX (m : Nat) (out : List Nd) (rest : List Arr) : List Arr := ⟨m,4,.inl (cfgs (out.map Nod.c))⟩ :: ⟨m,1,.inl (ints (out.map Nod.bef))⟩ :: ⟨m,3,.inl (mvs3 (out.map Nd.mv))⟩ :: rest
theorem app_rows {h : Heap} {id m k : Nat} {rows : List (List PV)} {r : List PV} (ho : ownArr h id m = some ⟨m,k,.inl rows⟩) (hl : rows.length = m + 1) (hr : r.length = k) (hm : m < 100000) : appendV h k (.own id m 0 (m + 1)) (.tl [r]) = some (.own id (m + 1) 0 (m + 1 + 1),{ ar := some (id,⟨m + 1,k,.inl (rows ++ [r])⟩) }) := by
 have h2 : rows.take (m + 1) = rows := List.take_of_length_le (by omega)
 simp [appendV,srcRows,rowsFit,rowsLen,hr,ho,cutRows,catRows,mostRows,Arr.size,hl,h2]
 omega
set_option maxHeartbeats 4000000 in
theorem add256 (a b : Auto) (cap : Int) (m : Nat) (mV nV : V) (rest : List Arr) (out : List Nd) (c : Cfg) (bef : Int) (y : Mov) (pt : List Mov) (hc : c.ok) (Q : Ex → St → Prop) (hl : out.length = m + 1) (hm : m < 100000)
  (j : Option Nat) (hj : ((keysN out).findIdx? fun s => decide (s = c.keyB)) = j)
  (hQ : ∀ env,match j with
   | some j => Q .ret ⟨(8,.pv (.int .i64 j)) :: env,⟨[(200000,[.map 0]),(200001,[.ptr 200002 0]),(200002,cellsX a b cap (.own 0 m 0 (m + 1)) mV nV (.own 1 m 0 (m + 1)) (.own 2 m 0 (m + 1)))],arX m out rest,[idxM (keysN out)]⟩⟩
   | none => Q .ret ⟨(8,.pv (.int .i64 (m + 1 : Nat))) :: env,⟨[(200000,[.map 0]),(200001,[.ptr 200002 0]),(200002,cellsX a b cap (.own 0 (m + 1) 0 (m + 1 + 1)) mV nV (.own 1 (m + 1) 0 (m + 1 + 1)) (.own 2 (m + 1) 0 (m + 1 + 1)))],arX (m + 1) (out ++ [⟨c,bef,some y,pt⟩]) rest,[idxM (keysN (out ++ [⟨c,bef,some y,pt⟩]))]⟩⟩) :
  W A PrA F256.body ⟨[(0,.agg [.pv (.int .i64 c.a),.pv (.int .i64 c.b),.pv (.lst 0 (ints c.toA)),.pv (.lst 0 (ints c.toB))]),(1,.pv (.int .i64 bef)),(2,.agg [.pv (.int .i64 y.party),.pv (.bool y.send),.pv (.int .i64 y.label)]),(3,.ptr 200000 0),(4,.ptr 200001 0)],
   ⟨[(200000,[.map 0]),(200001,[.ptr 200002 0]),(200002,cellsX a b cap (.own 0 m 0 (m + 1)) mV nV (.own 1 m 0 (m + 1)) (.own 2 m 0 (m + 1)))],arX m out rest,[idxM (keysN out)]⟩⟩ Q := by
 have hk := r251 0 0 c.a c.b c.toA c.toB hc
 have hj' : ((keysN out).findIdx? fun s => decide (s = keyBS c.a c.b c.toA c.toB)) = j := hj
 simp only [F256,cellsX,arX] at hQ ⊢
 simp (disch := omega) only [go_sem,hk,find_idxM,hj']
 cases j with
 | some j =>
  simp (disch := omega) only [go_sem,Option.map_some,foundT_some]
  exact hQ _
 | none =>
  have h1 : (cfgs (out.map Nod.c)).length = m + 1 := by rw [cfgs_length,List.length_map,hl]
  have h2 : (ints (out.map Nod.bef)).length = m + 1 := by rw [ints_length,List.length_map,hl]
  have h3 : (mvs3 (out.map Nd.mv)).length = m + 1 := by rw [mvs3_length,List.length_map,hl]
  have hkl : (keysN out).length = m + 1 := by simp [keysN,hl]
  have hu := upd_idxM (keyBS c.a c.b c.toA c.toB) (keysN out) 0 hj'
  rw [hkl] at hu
  have a1 : ∀ bx mp r2,appendV ⟨bx,⟨m,4,.inl (cfgs (out.map Nod.c))⟩ :: r2,mp⟩ 4 (.own 0 m 0 (m + 1)) (.tl [[.int .i64 c.a,.int .i64 c.b,.lst 0 (ints c.toA),.lst 0 (ints c.toB)]]) = _ := fun bx mp r2 => app_rows (by simp [ownArr]) h1 rfl hm
  have a2 : ∀ bx mp x r2,appendV ⟨bx,x :: ⟨m,1,.inl (ints (out.map Nod.bef))⟩ :: r2,mp⟩ 1 (.own 1 m 0 (m + 1)) (.tl [[.int .i64 bef]]) = _ := fun bx mp x r2 => app_rows (by simp [ownArr]) h2 rfl hm
  have a3 : ∀ bx mp x z r2,appendV ⟨bx,x :: z :: ⟨m,3,.inl (mvs3 (out.map Nd.mv))⟩ :: r2,mp⟩ 3 (.own 2 m 0 (m + 1)) (.tl [[.int .i64 y.party,.bool y.send,.int .i64 y.label]]) = _ := fun bx mp x z r2 => app_rows (by simp [ownArr]) h3 rfl hm
  simp (disch := omega) only [go_sem,Option.map_none,foundT_none,hu,hk,a1,a2,a3]
  have e1 : out.map Nod.c ++ [c] = (out ++ [(⟨c,bef,some y,pt⟩ : Nd)]).map Nod.c := by simp
  have e2 : out.map Nod.bef ++ [bef] = (out ++ [(⟨c,bef,some y,pt⟩ : Nd)]).map Nod.bef := by simp
  have e3 : out.map Nd.mv ++ [(⟨y.party,y.send,y.label⟩ : Mov)] = (out ++ [(⟨c,bef,some y,pt⟩ : Nd)]).map Nd.mv := by simp [Nd.mv]
  have e4 : keysN out ++ [keyBS c.a c.b c.toA c.toB] = keysN (out ++ [(⟨c,bef,some y,pt⟩ : Nd)]) := by simp [keysN,Cfg.keyB]
  rw [cfgs_snoc,e1,e3,e4]
  first | rw [e2] | skip
  exact hQ _
def Flat2 (x y : V) : Prop := (x = .tl [] ∧ y = .tl []) ∨ ∃ a b c a' b' c',x = .own a b 0 c ∧ y = .own a' b' 0 c'
def pinX (S2 S3 X : List V) : List (Nat × List V) := [(100002,S2),(100003,S3),(100019,X),(100006,[.ptr 100019 0]),(100007,[.map 0])]
theorem call256 {a b : Auto} {cap : Int} {m1 m2 m3 n1 n2 n3 : Nat} {mV nV : V} {S2 S3 S14 S15 : List V} {ar : List Arr} {mp : List (List (PV × PV))} {x1 x2 x3 x4 x5 x7 : PV} {bef : Int} {sd : Bool} {K : V → Tn → Prop} (h1 : Flat2 mV nV)
  (h : W A PrA F256.body ⟨[(0,.agg [.pv x1,.pv x2,.pv x3,.pv x4]),(1,.pv (.int .i64 bef)),(2,.agg [.pv x5,.pv (.bool sd),.pv x7]),(3,.ptr 200000 0),(4,.ptr 200001 0)],
   ⟨[(200000,[.map 0]),(200001,[.ptr 200002 0]),(200002,cellsX a b cap (.own 0 m1 0 n1) mV nV (.own 1 m2 0 n2) (.own 2 m3 0 n3))],ar,mp⟩⟩ (inlK [.tmp 8] [100007,100006,100019] K)) :
  IW A PrA 256 [.agg [.pv x1,.pv x2,.pv x3,.pv x4],.pv (.int .i64 bef),.agg [.pv x5,.pv (.bool sd),.pv x7],.ptr 100007 0,.ptr 100006 0] ⟨(14,S14) :: (15,S15) :: pinX S2 S3 (cellsX a b cap (.own 0 m1 0 n1) mV nV (.own 1 m2 0 n2) (.own 2 m3 0 n3)),ar,mp⟩ K := by
 rw [IW_eq a256]
 rcases h1 with ⟨rfl,rfl⟩ | ⟨_,_,_,_,_,_,rfl,rfl⟩ <;> exact ⟨rfl,_,rfl,_,rfl,h⟩
theorem call0 {a b : Auto} {cap : Int} {S2 S3 : List V} {ar : List Arr} {mp : List (List (PV × PV))} {x1 x2 x3 x4 x5 x7 : PV} {bef : Int} {sd : Bool} {K : V → Tn → Prop}
  (h : W A PrA F256.body ⟨[(0,.agg [.pv x1,.pv x2,.pv x3,.pv x4]),(1,.pv (.int .i64 bef)),(2,.agg [.pv x5,.pv (.bool sd),.pv x7]),(3,.ptr 200000 0),(4,.ptr 200001 0)],
   ⟨[(200000,[.map 0]),(200001,[.ptr 200002 0]),(200002,cellsX a b cap (.tl []) (.tl []) (.tl []) (.tl []) (.tl []))],ar,mp⟩⟩ (inlK [.tmp 8] [100007,100006,100019] K)) :
  IW A PrA 256 [.agg [.pv x1,.pv x2,.pv x3,.pv x4],.pv (.int .i64 bef),.agg [.pv x5,.pv (.bool sd),.pv x7],.ptr 100007 0,.ptr 100006 0] ⟨pinX S2 S3 (cellsX a b cap (.tl []) (.tl []) (.tl []) (.tl []) (.tl [])),ar,mp⟩ K := by
 rw [IW_eq a256]
 exact ⟨rfl,_,rfl,_,rfl,h⟩
theorem back256 {a b : Auto} {cap : Int} {m1 m2 m3 n1 n2 n3 : Nat} {mV nV : V} {ar : List Arr} {mp : List (List (PV × PV))} {env : List (Nat × V)} {n : Int} {K : V → Tn → Prop} (h1 : Flat2 mV nV)
  (h : K (.pv (.int .i64 n)) { all := some ([(100007,[.map 0]),(100006,[.ptr 100019 0]),(100019,cellsX a b cap (.own 0 m1 0 n1) mV nV (.own 1 m2 0 n2) (.own 2 m3 0 n3))],ar,mp) }) :
  inlK [.tmp 8] [100007,100006,100019] K .mk .ret ⟨(8,.pv (.int .i64 n)) :: env,⟨[(200000,[.map 0]),(200001,[.ptr 200002 0]),(200002,cellsX a b cap (.own 0 m1 0 n1) mV nV (.own 1 m2 0 n2) (.own 2 m3 0 n3))],ar,mp⟩⟩ := by
 rcases h1 with ⟨rfl,rfl⟩ | ⟨_,_,_,_,_,_,rfl,rfl⟩ <;> exact ⟨_,rfl,_,rfl,_,rfl,h⟩
set_option maxHeartbeats 4000000 in
theorem add0 (a b : Auto) (cap : Int) (c : Cfg) (bef : Int) (y : Mov) (hc : c.ok) (Q : Ex → St → Prop)
  (hQ : ∀ env,Q .ret ⟨(8,.pv (.int .i64 (0 : Nat))) :: env,⟨[(200000,[.map 0]),(200001,[.ptr 200002 0]),(200002,cellsX a b cap (.own 0 0 0 1) (.tl []) (.tl []) (.own 1 0 0 1) (.own 2 0 0 1))],[⟨0,4,.inl [[.int .i64 c.a,.int .i64 c.b,.lst 0 (ints c.toA),.lst 0 (ints c.toB)]]⟩,⟨0,1,.inl [[.int .i64 bef]]⟩,⟨0,3,.inl [[.int .i64 y.party,.bool y.send,.int .i64 y.label]]⟩],[idxM [c.keyB]]⟩⟩) :
  W A PrA F256.body ⟨[(0,.agg [.pv (.int .i64 c.a),.pv (.int .i64 c.b),.pv (.lst 0 (ints c.toA)),.pv (.lst 0 (ints c.toB))]),(1,.pv (.int .i64 bef)),(2,.agg [.pv (.int .i64 y.party),.pv (.bool y.send),.pv (.int .i64 y.label)]),(3,.ptr 200000 0),(4,.ptr 200001 0)],
   ⟨[(200000,[.map 0]),(200001,[.ptr 200002 0]),(200002,cellsX a b cap (.tl []) (.tl []) (.tl []) (.tl []) (.tl []))],[],[[]]⟩⟩ Q := by
 have hk := r251 0 0 c.a c.b c.toA c.toB hc
 simp only [F256,cellsX] at hQ ⊢
 have hf0 : findKey false [2] (.str (keyBS c.a c.b c.toA c.toB)) [] 0 = some none := rfl
 have hu0 : updM false [2] (.str (keyBS c.a c.b c.toA c.toB)) (.int .i64 (0 : Nat)) 0 [] = some { mp := some (0,idxM [keyBS c.a c.b c.toA c.toB]) } := upd_idxM _ [] 0 rfl
 have a1 : ∀ bx mp,appendV ⟨bx,[],mp⟩ 4 (.tl []) (.tl [[.int .i64 c.a,.int .i64 c.b,.lst 0 (ints c.toA),.lst 0 (ints c.toB)]]) = some (.own 0 0 0 1,{ push := [⟨0,4,.inl [[.int .i64 c.a,.int .i64 c.b,.lst 0 (ints c.toA),.lst 0 (ints c.toB)]]⟩],base := 0 }) := fun bx mp => rfl
 have a2 : ∀ bx mp x,appendV ⟨bx,[x],mp⟩ 1 (.tl []) (.tl [[.int .i64 bef]]) = some (.own 1 0 0 1,{ push := [⟨0,1,.inl [[.int .i64 bef]]⟩],base := 1 }) := fun bx mp x => rfl
 have a3 : ∀ bx mp x z,appendV ⟨bx,[x,z],mp⟩ 3 (.tl []) (.tl [[.int .i64 y.party,.bool y.send,.int .i64 y.label]]) = some (.own 2 0 0 1,{ push := [⟨0,3,.inl [[.int .i64 y.party,.bool y.send,.int .i64 y.label]]⟩],base := 2 }) := fun bx mp x z => rfl
 simp (disch := omega) only [go_sem,hk,hf0,foundT_none,hu0,a1,a2,a3]
 exact hQ _
end Go.Pv
namespace Go.Pv
theorem side_len {es : List Edge} {cap st : Int} {i o : List Int} {send : Bool} {label q : Int} {i' o' : List Int} (hs : (sideC es cap st i o send label).1 = some (q,i',o')) : i'.length ≤ i.length + 1 ∧ o'.length ≤ o.length + 1 := by
 unfold sideC at hs
 cases hn : nextE st send label es with
 | none => rw [hn] at hs; cases hs
 | some t =>
  rw [hn] at hs
  dsimp only at hs
  split at hs
  ·injection hs with h1
   injection h1 with h1 h3
   injection h3 with h3 h4
   subst h1 h3 h4
   simp
  ·cases i with
   | nil => cases hs
   | cons z r =>
    dsimp only at hs
    split at hs
    ·injection hs with h1
     injection h1 with h1 h3
     injection h3 with h3 h4
     subst h1 h3 h4
     simp
     omega
    ·cases hs
theorem after_len (a b : Auto) (cap x y : Int) (l m : List Int) (mv : Mov) : (afterC a b cap x y l m mv).1.toA.length ≤ l.length + 1 ∧ (afterC a b cap x y l m mv).1.toB.length ≤ m.length + 1 := by
 unfold afterC
 split
 ·rcases hs : sideC a.edges cap x l m mv.send mv.label with ⟨_ | ⟨q,i,o⟩,ok⟩
  ·exact ⟨Nat.zero_le _,Nat.zero_le _⟩
  ·exact side_len (q := q) (by rw [hs])
 ·split
  ·rcases hs : sideC b.edges cap y m l mv.send mv.label with ⟨_ | ⟨q,i,o⟩,ok⟩
   ·exact ⟨Nat.zero_le _,Nat.zero_le _⟩
   ·have := side_len (q := q) (i' := i) (o' := o) (by rw [hs])
    exact ⟨this.2,this.1⟩
  ·exact ⟨Nat.zero_le _,Nat.zero_le _⟩
theorem chkE_yes {a b : Auto} {cap x y : Int} {l m : List Int} (h : sysErr a b cap = 0) (h2 : fitsB a b cap x y l m = true) : chkE a b cap x y l m = 0 := by
 unfold chkE
 rw [if_neg (by simp [h]),if_pos h2]
theorem fitsB_iff {a b : Auto} {cap x y : Int} {l m : List Int} : fitsB a b cap x y l m = true ↔ sysErr a b cap = 0 ∧ (0 ≤ x ∧ x < a.states) ∧ (0 ≤ y ∧ y < b.states) ∧ chanB l cap = true ∧ chanB m cap = true := by
 unfold fitsB
 simp only [Bool.and_eq_true,decide_eq_true_eq]
 constructor
 ·rintro ⟨⟨⟨⟨⟨⟨h1,h2⟩,h3⟩,h4⟩,h5⟩,h6⟩,h7⟩
  exact ⟨h1,⟨h2,h3⟩,⟨h4,h5⟩,h6,h7⟩
 ·rintro ⟨h1,⟨h2,h3⟩,⟨h4,h5⟩,h6,h7⟩
  exact ⟨⟨⟨⟨⟨⟨h1,h2⟩,h3⟩,h4⟩,h5⟩,h6⟩,h7⟩
theorem side_fits {a : Auto} (h : a.Good) {cap st : Int} {i o : List Int} {send : Bool} {label q : Int} {i' o' : List Int} (hi : chanB i cap = true) (ho : chanB o cap = true) (hs : sideC a.edges cap st i o send label = (some (q,i',o'),true)) : (0 ≤ q ∧ q < a.states) ∧ chanB i' cap = true ∧ chanB o' cap = true := by
 unfold sideC at hs
 cases hn : nextE st send label a.edges with
 | none => rw [hn] at hs; cases hs
 | some t =>
  rw [hn] at hs
  dsimp only at hs
  have hm := (nextE_some (h.asc.imp fun h => .inl h)).1 hn
  have hf := h.fit _ hm
  unfold Edge.fits at hf
  simp only [Bool.and_eq_true,decide_eq_true_eq] at hf
  split at hs
  ·injection hs with h1 h2
   injection h1 with h1
   injection h1 with h1 h3
   injection h3 with h3 h4
   subst h1 h3 h4
   have h2 := of_decide_eq_true h2
   refine ⟨by omega,hi,?_⟩
   unfold chanB at ho ⊢
   simp only [Bool.and_eq_true,decide_eq_true_eq,Bool.not_eq_true'] at ho ⊢
   refine ⟨by rw [List.length_append]; simp; omega,?_⟩
   rw [List.any_append,ho.2]
   simp [badL]
   omega
  ·cases i with
   | nil => cases hs
   | cons z r =>
    dsimp only at hs
    split at hs
    ·injection hs with h1 h2
     injection h1 with h1
     injection h1 with h1 h3
     injection h3 with h3 h4
     subst h1 h3 h4
     refine ⟨by omega,?_,ho⟩
     unfold chanB at hi ⊢
     simp only [Bool.and_eq_true,decide_eq_true_eq,Bool.not_eq_true',List.any_cons,Bool.or_eq_false_iff,List.length_cons] at hi ⊢
     exact ⟨by omega,hi.2.2⟩
    ·cases hs
theorem fits_after {a b : Auto} {cap x y : Int} {l m : List Int} {mv : Mov} (h : fitsB a b cap x y l m = true) (ho : (afterC a b cap x y l m mv).2 = true) : fitsB a b cap (afterC a b cap x y l m mv).1.a (afterC a b cap x y l m mv).1.b (afterC a b cap x y l m mv).1.toA (afterC a b cap x y l m mv).1.toB = true := by
 obtain ⟨h1,h2,h3,h4,h5⟩ := fitsB_iff.1 h
 obtain ⟨ga,gb,_,_⟩ := sys_good h1
 rw [fitsB_iff]
 refine ⟨h1,?_⟩
 revert ho
 unfold afterC
 split
 ·cases hs : sideC a.edges cap x l m mv.send mv.label with
  | mk r ok =>
   cases r with
   | none =>
    intro ho
    exfalso
    have ho : ok = true := ho
    subst ho
    unfold sideC at hs
    cases hn : nextE x mv.send mv.label a.edges with
    | none => rw [hn] at hs; cases hs
    | some q =>
     rw [hn] at hs
     dsimp only at hs
     split at hs
     ·cases hs
     ·cases l with
      | nil => cases hs
      | cons z r => dsimp only at hs; split at hs <;> cases hs
   | some r =>
    obtain ⟨q,i,o⟩ := r
    intro ho
    have ho : ok = true := ho
    subst ho
    obtain ⟨g1,g2,g3⟩ := side_fits ga h4 h5 hs
    exact ⟨g1,h3,g2,g3⟩
 ·split
  ·cases hs : sideC b.edges cap y m l mv.send mv.label with
   | mk r ok =>
    cases r with
    | none =>
     intro ho
     exfalso
     have ho : ok = true := ho
     subst ho
     unfold sideC at hs
     cases hn : nextE y mv.send mv.label b.edges with
     | none => rw [hn] at hs; cases hs
     | some q =>
      rw [hn] at hs
      dsimp only at hs
      split at hs
      ·cases hs
      ·cases m with
       | nil => cases hs
       | cons z r => dsimp only at hs; split at hs <;> cases hs
    | some r =>
     obtain ⟨q,i,o⟩ := r
     intro ho
     have ho : ok = true := ho
     subst ho
     obtain ⟨g1,g2,g3⟩ := side_fits gb h5 h4 hs
     exact ⟨h2,g1,g3,g2⟩
  ·intro ho
   cases ho
theorem r171 (a b : Auto) (cap : Int) (x y : Int) (l m : List Int) (ha : a.edges.length ≤ 2 ^ 63 - 1) (hb : b.edges.length ≤ 2 ^ 63 - 1) (hl : l.length ≤ 2000000000) (hm : m.length ≤ 2000000000) : res A PrA 171 [.agg [.int .i64 a.states,.int .i64 a.start,.lst 0 (a.edges.map Edge.c),.int .i64 b.states,.int .i64 b.start,.lst 0 (b.edges.map Edge.c),.int .i64 cap],.agg [.int .i64 x,.int .i64 y,.lst 0 (ints l),.lst 0 (ints m)]] = some (if chkE a b cap x y l m = 0 then [.lst 0 (mvs3 (movesC a b cap x y l m)),.int .i64 0] else [.lst 0 [],.int .i64 (chkE a b cap x y l m)]) := by
 refine res_of a171 rfl rfl ?_
 simp only [F171]; try delta sS tT zZ nN gG bB pZ
 by_cases h1 : chkE a b cap x y l m = 0
 ·have hs : sysErr a b cap = 0 := by
   unfold chkE at h1
   by_cases h : sysErr a b cap = 0
   ·exact h
   ·rw [if_pos h] at h1
    exact h1
  obtain ⟨ga,gb,_,_⟩ := sys_good hs
  have h186 := r186 a b cap x y l m (by have := ga.len; omega) (by have := gb.len; omega) hl hm (movesC_asc ga.asc gb.asc)
  have d1 : decide (chkE a b cap x y l m = 0) = true := by simp [h1]
  simp (disch := omega) only [go_sem,d1,h186]
  rw [if_pos h1]
 ·have d1 : decide (chkE a b cap x y l m = 0) = false := by simp [h1]
  simp (disch := omega) only [go_sem,d1]
  rw [if_neg h1]
def applyC (a b : Auto) (cap x y : Int) (l m : List Int) (mv : Mov) : List PV := if chkE a b cap x y l m = 0 then (if (afterC a b cap x y l m mv).2 = true then [cfgP (afterC a b cap x y l m mv).1,.int .i64 0] else [cfgP cfg0,.int .i64 11]) else [cfgP cfg0,.int .i64 (chkE a b cap x y l m)]
set_option maxHeartbeats 1000000 in
theorem r174 (a b : Auto) (cap : Int) (x y : Int) (l m : List Int) (mv : Mov) (ha : a.edges.length ≤ 2 ^ 63 - 1) (hb : b.edges.length ≤ 2 ^ 63 - 1) (hl : l.length ≤ 2000000000) (hm : m.length ≤ 2000000000) : res A PrA 174 [.agg [.int .i64 a.states,.int .i64 a.start,.lst 0 (a.edges.map Edge.c),.int .i64 b.states,.int .i64 b.start,.lst 0 (b.edges.map Edge.c),.int .i64 cap],.agg [.int .i64 x,.int .i64 y,.lst 0 (ints l),.lst 0 (ints m)],.agg [.int .i64 mv.party,.bool mv.send,.int .i64 mv.label]] = some (applyC a b cap x y l m mv) := by
 refine res_of a174 rfl rfl ?_
 simp only [F174]; try delta sS tT zZ nN gG bB pZ
 unfold applyC
 have h182 := r182 a b cap x y l m mv ha hb hl hm
 by_cases h1 : chkE a b cap x y l m = 0
 ·have d1 : decide (chkE a b cap x y l m = 0) = true := by simp [h1]
  rw [if_pos h1]
  cases h2 : (afterC a b cap x y l m mv).2 with
  | true =>
   rw [h2] at h182
   generalize (afterC a b cap x y l m mv).1 = c at *
   simp (disch := omega) only [go_sem,d1,h182]
  | false =>
   rw [h2] at h182
   generalize (afterC a b cap x y l m mv).1 = c at *
   simp (disch := omega) only [go_sem,d1,h182]
   rfl
 ·have d1 : decide (chkE a b cap x y l m = 0) = false := by simp [h1]
  rw [if_neg h1]
  simp (disch := omega) only [go_sem,d1]
  rfl
end Go.Pv
namespace Go.Pv
theorem after_lab {P : Int → Prop} {a b : Auto} {cap x y : Int} {l m : List Int} {mv : Mov} (hl : ∀ z ∈ l,P z) (hm : ∀ z ∈ m,P z) (hv : P mv.label) : (∀ z ∈ (afterC a b cap x y l m mv).1.toA,P z) ∧ ∀ z ∈ (afterC a b cap x y l m mv).1.toB,P z := by
 have key : ∀ (es : List Edge) (st : Int) (i o : List Int),(∀ z ∈ i,P z) → (∀ z ∈ o,P z) → ∀ q i' o' ok,sideC es cap st i o mv.send mv.label = (some (q,i',o'),ok) → (∀ z ∈ i',P z) ∧ ∀ z ∈ o',P z := by
  intro es st i o hi ho q i' o' ok h
  unfold sideC at h
  split at h
  ·cases h
  ·split at h
   ·cases h
    refine ⟨hi,fun z hz => ?_⟩
    rcases List.mem_append.1 hz with hz | hz
    ·exact ho z hz
    ·rw [List.mem_singleton.1 hz]
     exact hv
   ·split at h
    ·cases h
    ·split at h
     ·cases h
      exact ⟨fun z hz => hi z (List.mem_cons_of_mem _ hz),ho⟩
     ·cases h
 have h0 : (∀ z ∈ cfg0.toA,P z) ∧ ∀ z ∈ cfg0.toB,P z := ⟨fun z hz => (by cases hz),fun z hz => (by cases hz)⟩
 unfold afterC
 split
 ·split
  ·exact h0
  ·rename_i q i o ok h
   exact key _ _ _ _ hl hm q i o ok h
 ·split
  ·split
   ·exact h0
   ·rename_i q i o ok h
    obtain ⟨h1,h2⟩ := key _ _ _ _ hm hl q i o ok h
    exact ⟨h2,h1⟩
  ·exact h0
theorem movesC_mem {a b : Auto} {cap x y : Int} {l m : List Int} {mv : Mov} (h : mv ∈ movesC a b cap x y l m) : (afterC a b cap x y l m mv).2 = true ∧ ∃ e ∈ a.edges ++ b.edges,mv.label = e.label := by
 unfold movesC at h
 rcases List.mem_append.1 h with h | h
 ·obtain ⟨e,he,rfl⟩ := List.mem_map.1 h
  obtain ⟨h1,h2⟩ := List.mem_filter.1 he
  rw [Bool.and_eq_true] at h2
  exact ⟨h2.2,e,List.mem_append_left _ h1,rfl⟩
 ·obtain ⟨e,he,rfl⟩ := List.mem_map.1 h
  obtain ⟨h1,h2⟩ := List.mem_filter.1 he
  rw [Bool.and_eq_true] at h2
  exact ⟨h2.2,e,List.mem_append_right _ h1,rfl⟩
theorem chan_ok {l : List Int} {cap : Int} (h : chanB l cap = true) : (l.length : Int) ≤ cap ∧ ∀ z ∈ l,1 ≤ z := by
 unfold chanB at h
 rw [Bool.and_eq_true,decide_eq_true_eq,Bool.not_eq_true'] at h
 refine ⟨h.1,fun z hz => ?_⟩
 have := h.2
 rw [List.any_eq_false] at this
 have := this z hz
 unfold badL at this
 simp at this
 omega
end Go.Pv
