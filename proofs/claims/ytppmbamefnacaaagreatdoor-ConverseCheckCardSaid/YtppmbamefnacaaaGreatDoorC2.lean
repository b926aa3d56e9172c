/-
 What the functions of the law give.
-/
import Derived.Test.YtppmbamefnacaaaGreatDoorC1
namespace Go.Pv
theorem cloneIntsT {l : List Int} (hm : l.length ≤ 2147483648) (t : Nat) (ht : t ≤ 1) : (l = [] ∧ ∀ h,cloneP 1 [.pv (.lst t [])] h = some (.tl [],{})) ∨ (l ≠ [] ∧ ∀ h,cloneP 1 [.pv (.lst t (ints l))] h = some (.own h.ar.length 0 0 l.length,{ push := [⟨0,1,.inl (ints l)⟩],base := h.ar.length })) := by
 by_cases h0 : l = []
 ·subst h0
  exact .inl ⟨rfl,fun h => by simp [cloneP,srcRows,rowsFit,ht]⟩
 ·refine .inr ⟨h0,fun h => ?_⟩
  have hl : ¬ l.length = 0 := fun e => h0 (List.eq_nil_of_length_eq_zero e)
  have hf := rowsFit_ints l
  have hil : (ints l).length = l.length := ints_length l
  simp [cloneP,srcRows,hf,hl,mostRows,hm,ht,hil]
def cfgP (c : Cfg) : PV := .agg [.int .i64 c.a,.int .i64 c.b,.lst 0 (ints c.toA),.lst 0 (ints c.toB)]
@[go_sem] theorem cfgP_eq (c : Cfg) : cfgP c = .agg [.int .i64 c.a,.int .i64 c.b,.lst 0 (ints c.toA),.lst 0 (ints c.toB)] := rfl
def cfg0 : Cfg := ⟨0,0,[],[]⟩
def putC (x y : Int) (party state : Int) (i o : List Int) : Cfg := if party = 0 then ⟨state,y,i,o⟩ else ⟨x,state,o,i⟩
set_option maxHeartbeats 2000000 in
theorem r190 (u1 u2 w1 w2 : Nat) (x y party state : Int) (l m i o : List Int) (hw1 : w1 ≤ 1) (hw2 : w2 ≤ 1) (hi : i.length ≤ 2147483648) (ho : o.length ≤ 2147483648) : res A PrA 190 [.agg [.int .i64 x,.int .i64 y,.lst u1 (ints l),.lst u2 (ints m)],.int .i64 party,.int .i64 state,.lst w1 (ints i),.lst w2 (ints o)] = some [cfgP (putC x y party state i o)] := by
 refine res_of a190 rfl rfl ?_
 simp only [F190]; try delta sS tT zZ nN gG bB pZ
 unfold putC cfgP
 rcases cloneIntsT hi w1 hw1 with ⟨rfl,hc⟩ | ⟨h0,hc⟩ <;> rcases cloneIntsT ho w2 hw2 with ⟨rfl,hd⟩ | ⟨h2,hd⟩
 all_goals
  by_cases hp : party = 0
  ·have dp : decide (party = 0) = true := by simp [hp]
   simp (disch := omega) only [go_sem,dp,hc,hd,List.take_length,if_pos hp]
  ·have dp : decide (party = 0) = false := by simp [hp]
   simp (disch := omega) only [go_sem,dp,hc,hd,List.take_length,if_neg hp]
theorem r189 (a b : Auto) (cap : Int) (x y : Int) (l m : List Int) (party : Int) : res A PrA 189 [.agg [.int .i64 a.states,.int .i64 a.start,.lst 0 (a.edges.map Edge.c),.int .i64 b.states,.int .i64 b.start,.lst 0 (b.edges.map Edge.c),.int .i64 cap],.agg [.int .i64 x,.int .i64 y,.lst 0 (ints l),.lst 0 (ints m)],.int .i64 party] = some [if party = 0 then .agg [.int .i64 a.states,.int .i64 a.start,.lst 0 (a.edges.map Edge.c),.int .i64 x,.lst 0 (ints l),.lst 0 (ints m),.int .i64 cap] else .agg [.int .i64 b.states,.int .i64 b.start,.lst 0 (b.edges.map Edge.c),.int .i64 y,.lst 0 (ints m),.lst 0 (ints l),.int .i64 cap]] := by
 refine res_of a189 rfl rfl ?_
 simp only [F189]; try delta sS tT zZ nN gG bB pZ
 by_cases hp : party = 0
 ·have dp : decide (party = 0) = true := by simp [hp]
  simp (disch := omega) only [go_sem,dp,if_pos hp]
 ·have dp : decide (party = 0) = false := by simp [hp]
  simp (disch := omega) only [go_sem,dp,if_neg hp]
def sideC (es : List Edge) (cap st : Int) (i o : List Int) (send : Bool) (label : Int) : Option (Int × List Int × List Int) × Bool :=
 match nextE st send label es with
 | none => (none,false)
 | some q => if send = true then (some (q,i,o ++ [label]),decide ((o.length : Int) < cap)) else match i with
  | [] => (none,false)
  | z :: r => if z = label then (some (q,r,o),true) else (none,false)
def afterC (a b : Auto) (cap x y : Int) (l m : List Int) (mv : Mov) : Cfg × Bool :=
 if mv.party = 0 then (match sideC a.edges cap x l m mv.send mv.label with
  | (none,ok) => (cfg0,ok)
  | (some (q,i,o),ok) => (⟨q,y,i,o⟩,ok))
 else if mv.party = 1 then (match sideC b.edges cap y m l mv.send mv.label with
  | (none,ok) => (cfg0,ok)
  | (some (q,i,o),ok) => (⟨x,q,o,i⟩,ok))
 else (cfg0,false)
set_option maxHeartbeats 4000000 in
theorem r182 (a b : Auto) (cap : Int) (x y : Int) (l m : List Int) (mv : Mov) (ha : a.edges.length ≤ 2 ^ 63 - 1) (hb : b.edges.length ≤ 2 ^ 63 - 1) (hl : l.length ≤ 2000000000) (hm : m.length ≤ 2000000000) : res A PrA 182 [.agg [.int .i64 a.states,.int .i64 a.start,.lst 0 (a.edges.map Edge.c),.int .i64 b.states,.int .i64 b.start,.lst 0 (b.edges.map Edge.c),.int .i64 cap],.agg [.int .i64 x,.int .i64 y,.lst 0 (ints l),.lst 0 (ints m)],.agg [.int .i64 mv.party,.bool mv.send,.int .i64 mv.label]] = some [cfgP (afterC a b cap x y l m mv).1,.bool (afterC a b cap x y l m mv).2] := by
 refine res_of a182 rfl rfl ?_
 simp only [F182]; try delta sS tT zZ nN gG bB pZ
 obtain ⟨p,send,label⟩ := mv
 have h190 := fun u1 u2 w1 w2 x y q s l m i o h1 h2 h3 h4 => r190 u1 u2 w1 w2 x y q s l m i o h1 h2 h3 h4
 have h189 := r189 a b cap x y l m
 by_cases hp : p = 0
 ·subst hp
  have d0 : decide (((0 : Nat) : Int) = 0) = true := rfl
  have hA : afterC a b cap x y l m ⟨0,send,label⟩ = (match sideC a.edges cap x l m send label with
   | (none,ok) => (cfg0,ok)
   | (some (q,i,o),ok) => (⟨q,y,i,o⟩,ok)) := rfl
  rw [hA]
  unfold sideC
  have h189 := h189 0
  rw [if_pos rfl] at h189
  cases hn : nextE x send label a.edges with
  | none =>
   simp (disch := omega) only [go_sem,h189,hn,Option.isSome_none,Option.getD_none]
   rfl
  | some q =>
   cases send with
   | true =>
    have htk : (m ++ [label]).take (m.length + 1) = m ++ [label] := List.take_of_length_le (by simp)
    have hml : (m ++ [label]).length = m.length + 1 := by simp
    have h190' := fun u1 u2 w1 w2 h1 h2 => h190 u1 u2 w1 w2 x y 0 q l m l (m ++ [label]) h1 h2 (by omega) (by omega)
    rcases cloneIntsT (l := m) (by omega) 0 (by omega) with ⟨rfl,hd⟩ | ⟨h2,hd⟩
    ·simp only [ints_nil,List.nil_append] at h189 h190'
     simp (disch := omega) only [go_sem,h189,h190',hn,hd,Option.isSome_some,Option.getD_some]
     rfl
    ·simp (disch := omega) only [go_sem,h189,hn,hd,Option.isSome_some,Option.getD_some,htk,h190']
     rfl
   | false =>
    cases l with
    | nil =>
     simp only [ints_nil] at h189 h190
     simp (disch := omega) only [go_sem,h189,hn,Option.isSome_some,Option.getD_some,d0]
     rfl
    | cons z r =>
     have dz : decide (((r.length + 1 : Nat) : Int) = 0) = false := by rw [decide_eq_false_iff_not]; omega
     simp (disch := omega) only [go_sem,h189,hn,Option.isSome_some,Option.getD_some,dz,idxR_int]
     by_cases hz : z = label
     ·have dl : decide (z = label) = true := by simp [hz]
      have hl' : r.length + 1 ≤ 2000000000 := hl
      have h190z := fun u1 u2 w1 w2 l' h1 h2 => h190 u1 u2 w1 w2 x y 0 q l' m r m h1 h2 (by omega) (by omega)
      simp (disch := omega) only [go_sem,dl,h190z,if_pos hz]
      rfl
     ·have dl : decide (z = label) = false := by simp [hz]
      simp (disch := omega) only [go_sem,dl,if_neg hz]
      rfl
 ·by_cases hp1 : p = 1
  ·subst hp1
   have d0 : decide (((0 : Nat) : Int) = 0) = true := rfl
   have hA : afterC a b cap x y l m ⟨1,send,label⟩ = (match sideC b.edges cap y m l send label with
    | (none,ok) => (cfg0,ok)
    | (some (q,i,o),ok) => (⟨x,q,o,i⟩,ok)) := rfl
   rw [hA]
   unfold sideC
   have h189 := h189 1
   rw [if_neg (by decide)] at h189
   cases hn : nextE y send label b.edges with
   | none =>
    simp (disch := omega) only [go_sem,h189,hn,Option.isSome_none,Option.getD_none]
    rfl
   | some q =>
    cases send with
    | true =>
     have htk : (l ++ [label]).take (l.length + 1) = l ++ [label] := List.take_of_length_le (by simp)
     have hml : (l ++ [label]).length = l.length + 1 := by simp
     have h190' := fun u1 u2 w1 w2 h1 h2 => h190 u1 u2 w1 w2 x y 1 q l m m (l ++ [label]) h1 h2 (by omega) (by omega)
     rcases cloneIntsT (l := l) (by omega) 0 (by omega) with ⟨rfl,hd⟩ | ⟨h2,hd⟩
     ·simp only [ints_nil,List.nil_append] at h189 h190'
      simp (disch := omega) only [go_sem,h189,h190',hn,hd,Option.isSome_some,Option.getD_some]
      rfl
     ·simp (disch := omega) only [go_sem,h189,hn,hd,Option.isSome_some,Option.getD_some,htk,h190']
      rfl
    | false =>
     cases m with
     | nil =>
      simp only [ints_nil] at h189 h190
      simp (disch := omega) only [go_sem,h189,hn,Option.isSome_some,Option.getD_some,d0]
      rfl
     | cons z r =>
      have dz : decide (((r.length + 1 : Nat) : Int) = 0) = false := by rw [decide_eq_false_iff_not]; omega
      simp (disch := omega) only [go_sem,h189,hn,Option.isSome_some,Option.getD_some,dz,idxR_int]
      by_cases hz : z = label
      ·have dl : decide (z = label) = true := by simp [hz]
       have hl' : r.length + 1 ≤ 2000000000 := hm
       have h190z := fun u1 u2 w1 w2 l' h1 h2 => h190 u1 u2 w1 w2 x y 1 q l l' r l h1 h2 (by omega) (by omega)
       simp (disch := omega) only [go_sem,dl,h190z,if_pos hz]
       rfl
      ·have dl : decide (z = label) = false := by simp [hz]
       simp (disch := omega) only [go_sem,dl,if_neg hz]
       rfl
  ·have hA : afterC a b cap x y l m ⟨p,send,label⟩ = (cfg0,false) := by
    unfold afterC
    rw [if_neg hp,if_neg hp1]
   rw [hA]
   have e0 : decide (p = 0) = false := by simp [hp]
   have e1 : decide (p = 1) = false := by simp [hp1]
   simp (disch := omega) only [go_sem,e0,e1]
   rfl
end Go.Pv
namespace Go.Pv
@[go_sem] theorem app_tlst0 (h : Heap) : appendV h 1 (.tl []) (.pv (.lst 0 [])) = some (.tl [],{}) := by simp [appendV,srcRows,rowsFit,rowsLen]
theorem app_tlstn {l : List Int} (h0 : l ≠ []) (hm : l.length ≤ 2147483648) (h : Heap) : appendV h 1 (.tl []) (.pv (.lst 0 (ints l))) = some (.own h.ar.length 0 0 l.length,{ push := [⟨0,1,.inl (ints l)⟩],base := h.ar.length }) := by
 have hf := rowsFit_ints l
 have hl : (ints l).length = l.length := ints_length l
 have hn : ¬ l.length = 0 := fun e => h0 (List.eq_nil_of_length_eq_zero e)
 have h00 : rowsFit 1 (.inl []) = true := rfl
 simp [appendV,srcRows,hf,rowsLen,hl,catRows,mostRows,h00,hm,hn]
set_option maxHeartbeats 8000000 in
theorem r192 (a b : Auto) (cap : Int) (x y : Int) (l m : List Int) (send : Bool) (label : Int) (ha : a.edges.length ≤ 2 ^ 63 - 1) (_hb : b.edges.length ≤ 2 ^ 63 - 1) (hl : l.length ≤ 2000000000) (hm : m.length ≤ 2000000000) : res A PrA 192 [.agg [.int .i64 a.states,.int .i64 a.start,.lst 0 (a.edges.map Edge.c),.int .i64 b.states,.int .i64 b.start,.lst 0 (b.edges.map Edge.c),.int .i64 cap],.agg [.int .i64 x,.int .i64 y,.lst 0 (ints l),.lst 0 (ints m)],.bool send,.int .i64 label] = some [cfgP (afterC a b cap x y l m ⟨0,send,label⟩).1,.bool (afterC a b cap x y l m ⟨0,send,label⟩).2] := by
 refine res_of a192 rfl rfl ?_
 simp only [F192]; try delta sS tT zZ nN gG bB pZ
 have d0 : decide (((0 : Nat) : Int) = 0) = true := rfl
 have hA : afterC a b cap x y l m ⟨0,send,label⟩ = (match sideC a.edges cap x l m send label with
  | (none,ok) => (cfg0,ok)
  | (some (q,i,o),ok) => (⟨q,y,i,o⟩,ok)) := rfl
 rw [hA]
 unfold sideC
 cases hn : nextE x send label a.edges with
 | none =>
  simp (disch := omega) only [go_sem,hn,Option.isSome_none,Option.getD_none]
  rfl
 | some q =>
  have htk : (m ++ [label]).take (m.length + 1) = m ++ [label] := List.take_of_length_le (by simp)
  have hM : m = [] ∨ (m ≠ [] ∧ ∀ h,appendV h 1 (.tl []) (.pv (.lst 0 (ints m))) = some (.own h.ar.length 0 0 m.length,{ push := [⟨0,1,.inl (ints m)⟩],base := h.ar.length })) := by
   by_cases h0 : m = []
   ·exact .inl h0
   ·exact .inr ⟨h0,app_tlstn h0 (by omega)⟩
  cases send with
  | true =>
   have hL : l = [] ∨ (l ≠ [] ∧ ∀ h,appendV h 1 (.tl []) (.pv (.lst 0 (ints l))) = some (.own h.ar.length 0 0 l.length,{ push := [⟨0,1,.inl (ints l)⟩],base := h.ar.length })) := by
    by_cases h0 : l = []
    ·exact .inl h0
    ·exact .inr ⟨h0,app_tlstn h0 (by omega)⟩
   rcases hM with rfl | ⟨hm0,hma⟩ <;> rcases hL with rfl | ⟨hl0,hla⟩
   ·simp (disch := omega) only [go_sem,hn,Option.isSome_some,Option.getD_some]
   ·simp (disch := omega) only [go_sem,hn,Option.isSome_some,Option.getD_some,hla,List.take_length]
   ·simp (disch := omega) only [go_sem,hn,Option.isSome_some,Option.getD_some,hma,htk]
   ·simp (disch := omega) only [go_sem,hn,Option.isSome_some,Option.getD_some,hla,hma,List.take_length,htk]
  | false =>
   cases l with
   | nil =>
    rcases hM with rfl | ⟨hm0,hma⟩
    ·simp (disch := omega) only [go_sem,hn,Option.isSome_some,Option.getD_some,d0]
     rfl
    ·simp (disch := omega) only [go_sem,hn,Option.isSome_some,Option.getD_some,d0,hma]
     rfl
   | cons z r =>
    have hl' : r.length + 1 ≤ 2000000000 := hl
    have hla := app_tlstn (l := z :: r) (by simp) (by show r.length + 1 ≤ 2147483648; omega)
    have hzl : (z :: r).length = r.length + 1 := rfl
    rw [hzl] at hla
    have dz : decide (((r.length + 1 : Nat) : Int) = 0) = false := by rw [decide_eq_false_iff_not]; omega
    rcases Classical.em (z = label) with dl | dl
    ·have dl' : decide (z = label) = true := by simp [dl]
     rcases hM with rfl | ⟨hm0,hma⟩
     ·simp (disch := omega) only [go_sem,hn,Option.isSome_some,Option.getD_some,dz,idxR_int,dl',if_pos dl,hla,Nat.add_sub_cancel,List.take_length]
     ·simp (disch := omega) only [go_sem,hn,Option.isSome_some,Option.getD_some,dz,idxR_int,dl',if_pos dl,hla,hma,Nat.add_sub_cancel,List.take_length]
    ·have dl' : decide (z = label) = false := by simp [dl]
     rcases hM with rfl | ⟨hm0,hma⟩
     ·simp (disch := omega) only [go_sem,hn,Option.isSome_some,Option.getD_some,dz,idxR_int,dl',if_neg dl,hla]
      rfl
     ·simp (disch := omega) only [go_sem,hn,Option.isSome_some,Option.getD_some,dz,idxR_int,dl',if_neg dl,hla,hma]
      rfl
def swapC (c : Cfg) : Cfg := ⟨c.b,c.a,c.toB,c.toA⟩
theorem after_swap (a b : Auto) (cap x y : Int) (l m : List Int) (send : Bool) (label : Int) : swapC (afterC b a cap y x m l ⟨0,send,label⟩).1 = (afterC a b cap x y l m ⟨1,send,label⟩).1 ∧ (afterC b a cap y x m l ⟨0,send,label⟩).2 = (afterC a b cap x y l m ⟨1,send,label⟩).2 := by
 have h0 : afterC b a cap y x m l ⟨0,send,label⟩ = (match sideC b.edges cap y m l send label with
  | (none,ok) => (cfg0,ok)
  | (some (q,i,o),ok) => (⟨q,x,i,o⟩,ok)) := rfl
 have h1 : afterC a b cap x y l m ⟨1,send,label⟩ = (match sideC b.edges cap y m l send label with
  | (none,ok) => (cfg0,ok)
  | (some (q,i,o),ok) => (⟨x,q,o,i⟩,ok)) := rfl
 rw [h0,h1]
 rcases sideC b.edges cap y m l send label with ⟨_ | ⟨q,i,o⟩,ok⟩ <;> exact ⟨rfl,rfl⟩
set_option maxHeartbeats 4000000 in
theorem r183 (a b : Auto) (cap : Int) (x y : Int) (l m : List Int) (mv : Mov) (ha : a.edges.length ≤ 2 ^ 63 - 1) (hb : b.edges.length ≤ 2 ^ 63 - 1) (hl : l.length ≤ 2000000000) (hm : m.length ≤ 2000000000) : res A PrA 183 [.agg [.int .i64 a.states,.int .i64 a.start,.lst 0 (a.edges.map Edge.c),.int .i64 b.states,.int .i64 b.start,.lst 0 (b.edges.map Edge.c),.int .i64 cap],.agg [.int .i64 x,.int .i64 y,.lst 0 (ints l),.lst 0 (ints m)],.agg [.int .i64 mv.party,.bool mv.send,.int .i64 mv.label]] = some [cfgP (afterC a b cap x y l m mv).1,.bool (afterC a b cap x y l m mv).2] := by
 refine res_of a183 rfl rfl ?_
 simp only [F183]; try delta sS tT zZ nN gG bB pZ
 obtain ⟨p,send,label⟩ := mv
 by_cases hp : p = 0
 ·subst hp
  have h192 := r192 a b cap x y l m send label ha hb hl hm
  simp (disch := omega) only [go_sem,h192]
 ·by_cases hp1 : p = 1
  ·subst hp1
   have h192 := r192 b a cap y x m l send label hb ha hm hl
   obtain ⟨e1,e2⟩ := after_swap a b cap x y l m send label
   rw [← e1,← e2]
   have e0 : decide ((1 : Int) = 0) = false := rfl
   generalize (afterC b a cap y x m l ⟨0,send,label⟩).1 = c at *
   generalize (afterC b a cap y x m l ⟨0,send,label⟩).2 = ok at *
   simp (disch := omega) only [go_sem,h192]
   rfl
  ·have hA : afterC a b cap x y l m ⟨p,send,label⟩ = (cfg0,false) := by
    unfold afterC
    rw [if_neg hp,if_neg hp1]
   rw [hA]
   have e0 : decide (p = 0) = false := by simp [hp]
   have e1 : decide (p = 1) = false := by simp [hp1]
   simp (disch := omega) only [go_sem,e0,e1]
   rfl
end Go.Pv
namespace Go.Pv
def mvs3 (l : List Mov) : List (List PV) := l.map Mov.c
@[go_sem] theorem mvs3_length (l : List Mov) : (mvs3 l).length = l.length := by simp [mvs3]
@[go_sem] theorem mvs3_nil : mvs3 [] = [] := rfl
@[go_sem] theorem mvs3_get (l : List Mov) (i : Nat) : (mvs3 l)[i]? = l[i]?.map fun x => [.int .i64 x.party,.bool x.send,.int .i64 x.label] := by simp [mvs3]; rfl
@[go_sem] theorem mvs3_snoc (l : List Mov) (a : Int) (b : Bool) (c : Int) : mvs3 l ++ [[.int .i64 a,.bool b,.int .i64 c]] = mvs3 (l ++ [⟨a,b,c⟩]) := by simp [mvs3,Mov.c]
@[go_sem] theorem grow03 (bx : List (Nat × List V)) (mp : List (List (PV × PV))) (rows : List (List PV)) (a b c : PV) (hm : rows.length + 1 ≤ 2147483648) : appendV ⟨bx,grA 3 rows,mp⟩ 3 (grV 0 rows) (.tl [[a,b,c]]) = some (grV 0 (rows ++ [[a,b,c]]),grT 0 3 rows [a,b,c]) := grow0 bx mp 3 rows [a,b,c] rfl hm
def Edge.mv (p : Int) (e : Edge) : Mov := ⟨p,e.send,e.label⟩
def mvsOf (a b : Auto) (cap x y : Int) (l m : List Int) (p st : Int) (es : List Edge) : List Mov :=
 (es.filter fun e => decide (e.fr = st) && (afterC a b cap x y l m (e.mv p)).2).map (Edge.mv p)
def movesC (a b : Auto) (cap x y : Int) (l m : List Int) : List Mov := mvsOf a b cap x y l m 0 x a.edges ++ mvsOf a b cap x y l m 1 y b.edges
theorem mvsOf_snoc (a b : Auto) (cap x y : Int) (l m : List Int) (p st : Int) {es : List Edge} {k : Nat} {e : Edge} (h : es[k]? = some e) : mvsOf a b cap x y l m p st (es.take (k + 1)) = if e.fr = st ∧ (afterC a b cap x y l m (e.mv p)).2 = true then mvsOf a b cap x y l m p st (es.take k) ++ [e.mv p] else mvsOf a b cap x y l m p st (es.take k) := by
 unfold mvsOf
 rw [List.take_add_one,h,List.filter_append,List.map_append]
 by_cases h1 : e.fr = st
 ·cases h2 : (afterC a b cap x y l m (e.mv p)).2 <;> simp [h1,h2]
 ·simp [h1]
theorem mvsOf_len (a b : Auto) (cap x y : Int) (l m : List Int) (p st : Int) (es : List Edge) : (mvsOf a b cap x y l m p st es).length ≤ es.length := by
 unfold mvsOf
 rw [List.length_map]
 exact List.length_filter_le _ _
set_option maxHeartbeats 8000000 in
theorem r173 (a b : Auto) (cap : Int) (x y : Int) (l m : List Int) (ha : a.edges.length ≤ 1000000) (hb : b.edges.length ≤ 1000000) (hl : l.length ≤ 2000000000) (hm : m.length ≤ 2000000000) : res A PrA 173 [.agg [.int .i64 a.states,.int .i64 a.start,.lst 0 (a.edges.map Edge.c),.int .i64 b.states,.int .i64 b.start,.lst 0 (b.edges.map Edge.c),.int .i64 cap],.agg [.int .i64 x,.int .i64 y,.lst 0 (ints l),.lst 0 (ints m)]] = some [.lst 0 (mvs3 (movesC a b cap x y l m))] := by
 refine res_of a173 rfl rfl ?_
 simp only [F173]; try delta sS tT zZ nN gG bB pZ
 have h183 := fun mv => r183 a b cap x y l m mv (by omega) (by omega) hl hm
 simp (disch := omega) only [go_sem]
 refine W.upto 2 (fun k => ⟨[(2,.ptr 2 0),(3,.ptr 3 0),(5,grV 0 (mvs3 (if k = 0 then [] else if k = 1 then mvsOf a b cap x y l m 0 x a.edges else movesC a b cap x y l m))),(6,.pv (.int .i64 k))],⟨[(2,[.pv (.int .i64 a.states),.pv (.int .i64 a.start),.pv (.lst 0 (a.edges.map Edge.c)),.pv (.int .i64 b.states),.pv (.int .i64 b.start),.pv (.lst 0 (b.edges.map Edge.c)),.pv (.int .i64 cap)]),(3,[.pv (.int .i64 x),.pv (.int .i64 y),.pv (.lst 0 (ints l)),.pv (.lst 0 (ints m))])],grA 3 (mvs3 (if k = 0 then [] else if k = 1 then mvsOf a b cap x y l m 0 x a.edges else movesC a b cap x y l m)),[]⟩⟩) (fun _ => True) rfl trivial fun k hk _ => ?_
 have d0 : decide (((0 : Nat) : Int) < 2) = true := rfl
 have d1 : decide (((1 : Nat) : Int) < 2) = true := rfl
 have d2 : decide (((2 : Nat) : Int) < 2) = false := rfl
 have e01 : decide (((0 : Nat) : Int) = 1) = false := rfl
 have e11 : decide (((1 : Nat) : Int) = 1) = true := rfl
 have hl0 := mvsOf_len a b cap x y l m 0 x a.edges
 obtain rfl | rfl | rfl : k = 0 ∨ k = 1 ∨ k = 2 := by omega
 ·simp (disch := omega) only [go_sem,d0,e01]
  refine W.upto a.edges.length (fun k => ⟨[(2,.ptr 2 0),(3,.ptr 3 0),(5,grV 0 (mvs3 (mvsOf a b cap x y l m 0 x (a.edges.take k)))),(6,.pv (.int .i64 0)),(7,.pv (.lst 0 (a.edges.map Edge.c))),(8,.pv (.int .i64 x)),(9,.pv (.int .i64 k))],⟨[(2,[.pv (.int .i64 a.states),.pv (.int .i64 a.start),.pv (.lst 0 (a.edges.map Edge.c)),.pv (.int .i64 b.states),.pv (.int .i64 b.start),.pv (.lst 0 (b.edges.map Edge.c)),.pv (.int .i64 cap)]),(3,[.pv (.int .i64 x),.pv (.int .i64 y),.pv (.lst 0 (ints l)),.pv (.lst 0 (ints m))])],grA 3 (mvs3 (mvsOf a b cap x y l m 0 x (a.edges.take k))),[]⟩⟩) (fun _ => True) ?_ trivial fun k hk _ => ?_
  ·rw [show mvsOf a b cap x y l m 0 x (a.edges.take 0) = [] from rfl]
   rfl
  simp (disch := omega) only [go_sem]
  refine Br.ofP (fun c => ?_) (fun c => ?_)
  ·obtain ⟨e,he⟩ := get_at (l := a.edges) (k := k) (by omega)
   have hlen : (mvsOf a b cap x y l m 0 x (a.edges.take k)).length ≤ k := Nat.le_trans (mvsOf_len a b cap x y l m 0 x _) (by rw [List.length_take]; omega)
   have hs : mvsOf a b cap x y l m 0 x (a.edges.take (k + 1)) = if e.fr = x ∧ (afterC a b cap x y l m ⟨0,e.send,e.label⟩).2 = true then (mvsOf a b cap x y l m 0 x (a.edges.take k)) ++ [⟨0,e.send,e.label⟩] else mvsOf a b cap x y l m 0 x (a.edges.take k) := by
    rw [mvsOf_snoc a b cap x y l m 0 x he]
    rfl
   have h183e := h183 ⟨0,e.send,e.label⟩
   have hql : (mvsOf a b cap x y l m 0 x (a.edges.take k)).length ≤ 3000000 := by omega
   generalize mvsOf a b cap x y l m 0 x (a.edges.take k) = q at *
   have hq2 : (mvs3 q).length ≤ 3000000 := by rw [mvs3_length]; exact hql
   simp (disch := omega) only [go_sem,he]
   by_cases c1 : e.fr = x
   ·have e1 : decide (e.fr = x) = true := by simp [c1]
    simp (disch := omega) only [go_sem,e1,h183e]
    refine Br.of (fun g => ?_) (fun g => ?_) <;> simp (disch := omega) only [go_sem,g]
    ·refine .of (by omega) ?_ trivial
     rw [hs,if_pos ⟨c1,g⟩]
     rfl
    ·refine .of (by omega) ?_ trivial
     rw [hs,if_neg (fun h => by rw [h.2] at g; cases g)]
     rfl
   ·have e1 : decide (e.fr = x) = false := by simp [c1]
    simp (disch := omega) only [go_sem,e1]
    refine .of (by omega) ?_ trivial
    rw [hs,if_neg (fun h => c1 h.1)]
    rfl
  ·obtain rfl : k = a.edges.length := by omega
   rw [List.take_length]
   simp (disch := omega) only [go_sem]
   refine .of (by omega) ?_ trivial
   rfl
 ·simp (disch := omega) only [go_sem,d1,e11]
  refine W.upto b.edges.length (fun k => ⟨[(2,.ptr 2 0),(3,.ptr 3 0),(5,grV 0 (mvs3 (mvsOf a b cap x y l m 0 x a.edges ++ mvsOf a b cap x y l m 1 y (b.edges.take k)))),(6,.pv (.int .i64 1)),(7,.pv (.lst 0 (b.edges.map Edge.c))),(8,.pv (.int .i64 y)),(9,.pv (.int .i64 k))],⟨[(2,[.pv (.int .i64 a.states),.pv (.int .i64 a.start),.pv (.lst 0 (a.edges.map Edge.c)),.pv (.int .i64 b.states),.pv (.int .i64 b.start),.pv (.lst 0 (b.edges.map Edge.c)),.pv (.int .i64 cap)]),(3,[.pv (.int .i64 x),.pv (.int .i64 y),.pv (.lst 0 (ints l)),.pv (.lst 0 (ints m))])],grA 3 (mvs3 (mvsOf a b cap x y l m 0 x a.edges ++ mvsOf a b cap x y l m 1 y (b.edges.take k))),[]⟩⟩) (fun _ => True) ?_ trivial fun k hk _ => ?_
  ·rw [show mvsOf a b cap x y l m 0 x a.edges ++ mvsOf a b cap x y l m 1 y (b.edges.take 0) = mvsOf a b cap x y l m 0 x a.edges from List.append_nil _]
   rfl
  simp (disch := omega) only [go_sem]
  refine Br.ofP (fun c => ?_) (fun c => ?_)
  ·obtain ⟨e,he⟩ := get_at (l := b.edges) (k := k) (by omega)
   have hlen : (mvsOf a b cap x y l m 1 y (b.edges.take k)).length ≤ k := Nat.le_trans (mvsOf_len a b cap x y l m 1 y _) (by rw [List.length_take]; omega)
   have hs : mvsOf a b cap x y l m 0 x a.edges ++ mvsOf a b cap x y l m 1 y (b.edges.take (k + 1)) = if e.fr = y ∧ (afterC a b cap x y l m ⟨1,e.send,e.label⟩).2 = true then (mvsOf a b cap x y l m 0 x a.edges ++ mvsOf a b cap x y l m 1 y (b.edges.take k)) ++ [⟨1,e.send,e.label⟩] else mvsOf a b cap x y l m 0 x a.edges ++ mvsOf a b cap x y l m 1 y (b.edges.take k) := by
    rw [mvsOf_snoc a b cap x y l m 1 y he]
    unfold Edge.mv; split <;> simp
   have h183e := h183 ⟨1,e.send,e.label⟩
   have hql : (mvsOf a b cap x y l m 0 x a.edges ++ mvsOf a b cap x y l m 1 y (b.edges.take k)).length ≤ 3000000 := by rw [List.length_append]; omega
   generalize mvsOf a b cap x y l m 0 x a.edges ++ mvsOf a b cap x y l m 1 y (b.edges.take k) = q at *
   have hq2 : (mvs3 q).length ≤ 3000000 := by rw [mvs3_length]; exact hql
   simp (disch := omega) only [go_sem,he]
   by_cases c1 : e.fr = y
   ·have e1 : decide (e.fr = y) = true := by simp [c1]
    simp (disch := omega) only [go_sem,e1,h183e]
    refine Br.of (fun g => ?_) (fun g => ?_) <;> simp (disch := omega) only [go_sem,g]
    ·refine .of (by omega) ?_ trivial
     rw [hs,if_pos ⟨c1,g⟩]
     rfl
    ·refine .of (by omega) ?_ trivial
     rw [hs,if_neg (fun h => by rw [h.2] at g; cases g)]
     rfl
   ·have e1 : decide (e.fr = y) = false := by simp [c1]
    simp (disch := omega) only [go_sem,e1]
    refine .of (by omega) ?_ trivial
    rw [hs,if_neg (fun h => c1 h.1)]
    rfl
  ·obtain rfl : k = b.edges.length := by omega
   rw [List.take_length]
   simp (disch := omega) only [go_sem]
   refine .of (by omega) ?_ trivial
   rfl
 ·simp (disch := omega) only [go_sem,d2]
end Go.Pv
namespace Go.Pv
theorem isort_id {α : Type} {lt : α → α → Bool} (asym : ∀ x y,lt x y = true → lt y x = false) : ∀ {l : List α},l.Pairwise (fun a b => lt a b = true) → isort lt l = l
 | [],_ => rfl
 | x :: l,h => by
  obtain ⟨h1,h2⟩ := List.pairwise_cons.1 h
  unfold isort
  rw [isort_id asym h2]
  cases l with
  | nil => rfl
  | cons y r =>
   unfold ins
   rw [if_neg (by rw [asym x y (h1 y (by simp))]; decide)]
theorem Mov.asym (x y : Mov) (h : Mov.lt x y = true) : Mov.lt y x = false := by
 cases hc : Mov.lt y x with
 | false => rfl
 | true =>
  have := Mov.swo.trans x y x h hc
  rw [Mov.swo.irrefl] at this
  cases this
theorem mvs3_dec (l : List Mov) : mapO Mov.dec (mvs3 l) = some l := by
 induction l with
 | nil => rfl
 | cons x l ih =>
  show mapO Mov.dec (x.c :: mvs3 l) = _
  have : Mov.dec x.c = some x := rfl
  simp only [mapO,this,ih]
def srtM (l : List Mov) : Tn := if l.length = 0 then {} else { ar := some (0,⟨l.length - 1,3,.inl (mvs3 l)⟩) }
theorem sortP_mvs {bx : List (Nat × List V)} {mp : List (List (PV × PV))} {l : List Mov} (hm : l.length ≤ 2147483648) (hs : l.Pairwise (fun a b => Mov.lt a b = true)) :
  sortP 3 (sortRows Mov.c Mov.dec Mov.lt) 197 [grV 0 (mvs3 l),.func 197 []] ⟨bx,grA 3 (mvs3 l),mp⟩ = some (.tup [],srtM l) := by
 rcases Nat.eq_zero_or_pos l.length with h | h
 ·have : l = [] := List.eq_nil_of_length_eq_zero h
  subst this
  simp [srtM,grV,sortP,mvs3]
 ·obtain ⟨q,hq⟩ : ∃ q,(mvs3 l).length = q + 1 := ⟨l.length - 1,by rw [mvs3_length]; omega⟩
  have e1 : (mvs3 l).length = l.length := mvs3_length l
  rw [grV_own hq,grA_own hq]
  have hr := rising_of hs
  have hid := isort_id Mov.asym hs
  have hl : q + 1 = l.length := by omega
  have ho : ownArr ⟨bx,[⟨q,3,.inl (mvs3 l)⟩],mp⟩ 0 q = some ⟨q,3,.inl (mvs3 l)⟩ := by simp [ownArr]
  rw [hl]
  have h0 : ¬ l.length = 0 := by omega
  have hlq : l.length - 1 = q := by omega
  simp [sortP,ho,h0,e1,mostRows,hm,sortRows,mvs3_dec,hr,hid,List.take_of_length_le (Nat.le_of_eq e1),List.drop_eq_nil_of_le (Nat.le_of_eq e1),srtM,hlq]
  rfl
@[go_sem] theorem srtM_apply (bx : List (Nat × List V)) (mp : List (List (PV × PV))) (l : List Mov) : (srtM l).apply ⟨bx,grA 3 (mvs3 l),mp⟩ = ⟨bx,grA 3 (mvs3 l),mp⟩ := by
 rcases Nat.eq_zero_or_pos l.length with h | h
 ·have : l = [] := List.eq_nil_of_length_eq_zero h
  subst this
  simp [srtM,mvs3,Tn.apply,grA]
 ·obtain ⟨q,hq⟩ : ∃ q,(mvs3 l).length = q + 1 := ⟨l.length - 1,by rw [mvs3_length]; omega⟩
  have e1 : (mvs3 l).length = l.length := mvs3_length l
  have h0 : ¬ l.length = 0 := by omega
  have hlq : l.length - 1 = q := by omega
  rw [grA_own hq]
  simp [srtM,h0,hlq,Tn.apply]
theorem mvsOf_mem {a b : Auto} {cap x y : Int} {l m : List Int} {p st : Int} {es : List Edge} {mv : Mov} : mv ∈ mvsOf a b cap x y l m p st es ↔ ∃ e ∈ es,e.fr = st ∧ mv = e.mv p ∧ (afterC a b cap x y l m mv).2 = true := by
 unfold mvsOf
 rw [List.mem_map]
 constructor
 ·rintro ⟨e,he,rfl⟩
  obtain ⟨h1,h2⟩ := List.mem_filter.1 he
  rw [Bool.and_eq_true,decide_eq_true_eq] at h2
  exact ⟨e,h1,h2.1,rfl,h2.2⟩
 ·rintro ⟨e,h1,h2,rfl,h3⟩
  exact ⟨e,List.mem_filter.2 ⟨h1,by rw [h3,decide_eq_true h2]; rfl⟩,rfl⟩
theorem mvsOf_asc {a b : Auto} {cap x y : Int} {l m : List Int} {p st : Int} {es : List Edge} (h : es.Pairwise (fun x y => Edge.lt x y = true)) : (mvsOf a b cap x y l m p st es).Pairwise (fun x y => Mov.lt x y = true) := by
 unfold mvsOf
 rw [List.pairwise_map]
 refine (h.filter _).imp_of_mem fun {e f} he hf hlt => ?_
 have h1 := (List.mem_filter.1 he).2
 have h2 := (List.mem_filter.1 hf).2
 rw [Bool.and_eq_true,decide_eq_true_eq] at h1 h2
 have h3 : e.fr = f.fr := h1.1.trans h2.1.symm
 unfold Mov.lt Mov.e Edge.mv
 unfold Edge.lt at hlt ⊢
 simpa [h3] using hlt
theorem movesC_asc {a b : Auto} {cap x y : Int} {l m : List Int} (ha : a.edges.Pairwise (fun x y => Edge.lt x y = true)) (hb : b.edges.Pairwise (fun x y => Edge.lt x y = true)) : (movesC a b cap x y l m).Pairwise (fun x y => Mov.lt x y = true) := by
 unfold movesC
 rw [List.pairwise_append]
 refine ⟨mvsOf_asc ha,mvsOf_asc hb,fun u hu v hv => ?_⟩
 obtain ⟨e,_,_,rfl,_⟩ := mvsOf_mem.1 hu
 obtain ⟨f,_,_,rfl,_⟩ := mvsOf_mem.1 hv
 unfold Mov.lt Mov.e Edge.mv Edge.lt
 simp
theorem sys_good {a b : Auto} {cap : Int} (h : sysErr a b cap = 0) : a.Good ∧ b.Good ∧ 1 ≤ cap ∧ cap ≤ 3 := by
 unfold sysErr at h
 by_cases h1 : a.err = 0
 ·rw [if_neg (by simp [h1])] at h
  by_cases h2 : b.err = 0
  ·rw [if_neg (by simp [h2])] at h
   refine ⟨Auto.good_iff.1 h1,Auto.good_iff.1 h2,?_⟩
   by_cases h3 : cap < 1 ∨ 3 < cap
   ·rw [if_pos h3] at h
    cases h
   ·omega
  ·rw [if_pos (by simp [h2])] at h
   exact absurd h h2
 ·rw [if_pos (by simp [h1])] at h
  exact absurd h h1
set_option maxHeartbeats 8000000 in
theorem r186 (a b : Auto) (cap : Int) (x y : Int) (l m : List Int) (ha : a.edges.length ≤ 1000000) (hb : b.edges.length ≤ 1000000) (hl : l.length ≤ 2000000000) (hm : m.length ≤ 2000000000) (hs : (movesC a b cap x y l m).Pairwise (fun x y => Mov.lt x y = true)) : res A PrA 186 [.agg [.int .i64 a.states,.int .i64 a.start,.lst 0 (a.edges.map Edge.c),.int .i64 b.states,.int .i64 b.start,.lst 0 (b.edges.map Edge.c),.int .i64 cap],.agg [.int .i64 x,.int .i64 y,.lst 0 (ints l),.lst 0 (ints m)]] = some [.lst 0 (mvs3 (movesC a b cap x y l m))] := by
 refine res_of a186 rfl rfl ?_
 simp only [F186]; try delta sS tT zZ nN gG bB pZ
 have h182 := fun mv => r182 a b cap x y l m mv (by omega) (by omega) hl hm
 have h1890 := r189 a b cap x y l m ((0 : Nat) : Int)
 have h1891 := r189 a b cap x y l m ((1 : Nat) : Int)
 rw [if_pos (by rfl)] at h1890
 rw [if_neg (by decide)] at h1891
 simp (disch := omega) only [go_sem]
 refine W.upto 2 (fun k => ⟨[(2,.ptr 2 0),(3,.ptr 3 0),(5,grV 0 (mvs3 (if k = 0 then [] else if k = 1 then mvsOf a b cap x y l m 0 x a.edges else movesC a b cap x y l m))),(13,.pv (.int .i64 k))],⟨[(2,[.pv (.int .i64 a.states),.pv (.int .i64 a.start),.pv (.lst 0 (a.edges.map Edge.c)),.pv (.int .i64 b.states),.pv (.int .i64 b.start),.pv (.lst 0 (b.edges.map Edge.c)),.pv (.int .i64 cap)]),(3,[.pv (.int .i64 x),.pv (.int .i64 y),.pv (.lst 0 (ints l)),.pv (.lst 0 (ints m))])],grA 3 (mvs3 (if k = 0 then [] else if k = 1 then mvsOf a b cap x y l m 0 x a.edges else movesC a b cap x y l m)),[]⟩⟩) (fun _ => True) rfl trivial fun k hk _ => ?_
 have d0 : decide (((0 : Nat) : Int) < 2) = true := rfl
 have d1 : decide (((1 : Nat) : Int) < 2) = true := rfl
 have d2 : decide (((2 : Nat) : Int) < 2) = false := rfl
 have hl0 := mvsOf_len a b cap x y l m 0 x a.edges
 obtain rfl | rfl | rfl : k = 0 ∨ k = 1 ∨ k = 2 := by omega
 ·simp (disch := omega) only [go_sem,d0,h1890]
  refine W.upto a.edges.length (fun k => ⟨[(2,.ptr 2 0),(3,.ptr 3 0),(5,grV 0 (mvs3 (mvsOf a b cap x y l m 0 x (a.edges.take k)))),(6,.pv (.int .i64 0)),(7,.ptr 7 0),(13,.pv (.int .i64 0)),(22,.pv (.lst 0 (a.edges.map Edge.c))),(23,.pv (.int .i64 a.edges.length)),(24,.pv (.int .i64 k))],⟨[(2,[.pv (.int .i64 a.states),.pv (.int .i64 a.start),.pv (.lst 0 (a.edges.map Edge.c)),.pv (.int .i64 b.states),.pv (.int .i64 b.start),.pv (.lst 0 (b.edges.map Edge.c)),.pv (.int .i64 cap)]),(3,[.pv (.int .i64 x),.pv (.int .i64 y),.pv (.lst 0 (ints l)),.pv (.lst 0 (ints m))]),(7,[.pv (.int .i64 a.states),.pv (.int .i64 a.start),.pv (.lst 0 (a.edges.map Edge.c)),.pv (.int .i64 x),.pv (.lst 0 (ints l)),.pv (.lst 0 (ints m)),.pv (.int .i64 cap)])],grA 3 (mvs3 (mvsOf a b cap x y l m 0 x (a.edges.take k))),[]⟩⟩) (fun _ => True) ?_ trivial fun k hk _ => ?_
  ·rw [show mvsOf a b cap x y l m 0 x (a.edges.take 0) = [] from rfl]
   rfl
  simp (disch := omega) only [go_sem]
  refine Br.ofP (fun c => ?_) (fun c => ?_)
  ·obtain ⟨e,he⟩ := get_at (l := a.edges) (k := k) (by omega)
   have hlen : (mvsOf a b cap x y l m 0 x (a.edges.take k)).length ≤ k := Nat.le_trans (mvsOf_len a b cap x y l m 0 x _) (by rw [List.length_take]; omega)
   have hs : mvsOf a b cap x y l m 0 x (a.edges.take (k + 1)) = if e.fr = x ∧ (afterC a b cap x y l m ⟨0,e.send,e.label⟩).2 = true then (mvsOf a b cap x y l m 0 x (a.edges.take k)) ++ [⟨0,e.send,e.label⟩] else mvsOf a b cap x y l m 0 x (a.edges.take k) := by
    rw [mvsOf_snoc a b cap x y l m 0 x he]
    rfl
   have h182e := h182 ⟨0,e.send,e.label⟩
   have hql : (mvsOf a b cap x y l m 0 x (a.edges.take k)).length ≤ 3000000 := by omega
   generalize mvsOf a b cap x y l m 0 x (a.edges.take k) = q at *
   have hq2 : (mvs3 q).length ≤ 3000000 := by rw [mvs3_length]; exact hql
   simp (disch := omega) only [go_sem,he]
   by_cases c1 : e.fr = x
   ·have e1 : decide (e.fr = x) = true := by simp [c1]
    simp (disch := omega) only [go_sem,e1,h182e]
    refine Br.of (fun g => ?_) (fun g => ?_) <;> simp (disch := omega) only [go_sem,g]
    ·refine .of (by omega) ?_ trivial
     rw [hs,if_pos ⟨c1,g⟩]
     rfl
    ·refine .of (by omega) ?_ trivial
     rw [hs,if_neg (fun h => by rw [h.2] at g; cases g)]
     rfl
   ·have e1 : decide (e.fr = x) = false := by simp [c1]
    simp (disch := omega) only [go_sem,e1]
    refine .of (by omega) ?_ trivial
    rw [hs,if_neg (fun h => c1 h.1)]
    rfl
  ·obtain rfl : k = a.edges.length := by omega
   rw [List.take_length]
   simp (disch := omega) only [go_sem]
   refine .of (by omega) ?_ trivial
   rfl
 ·simp (disch := omega) only [go_sem,d1,h1891]
  refine W.upto b.edges.length (fun k => ⟨[(2,.ptr 2 0),(3,.ptr 3 0),(5,grV 0 (mvs3 (mvsOf a b cap x y l m 0 x a.edges ++ mvsOf a b cap x y l m 1 y (b.edges.take k)))),(6,.pv (.int .i64 1)),(7,.ptr 7 0),(13,.pv (.int .i64 1)),(22,.pv (.lst 0 (b.edges.map Edge.c))),(23,.pv (.int .i64 b.edges.length)),(24,.pv (.int .i64 k))],⟨[(2,[.pv (.int .i64 a.states),.pv (.int .i64 a.start),.pv (.lst 0 (a.edges.map Edge.c)),.pv (.int .i64 b.states),.pv (.int .i64 b.start),.pv (.lst 0 (b.edges.map Edge.c)),.pv (.int .i64 cap)]),(3,[.pv (.int .i64 x),.pv (.int .i64 y),.pv (.lst 0 (ints l)),.pv (.lst 0 (ints m))]),(7,[.pv (.int .i64 b.states),.pv (.int .i64 b.start),.pv (.lst 0 (b.edges.map Edge.c)),.pv (.int .i64 y),.pv (.lst 0 (ints m)),.pv (.lst 0 (ints l)),.pv (.int .i64 cap)])],grA 3 (mvs3 (mvsOf a b cap x y l m 0 x a.edges ++ mvsOf a b cap x y l m 1 y (b.edges.take k))),[]⟩⟩) (fun _ => True) ?_ trivial fun k hk _ => ?_
  ·rw [show mvsOf a b cap x y l m 0 x a.edges ++ mvsOf a b cap x y l m 1 y (b.edges.take 0) = mvsOf a b cap x y l m 0 x a.edges from List.append_nil _]
   rfl
  simp (disch := omega) only [go_sem]
  refine Br.ofP (fun c => ?_) (fun c => ?_)
  ·obtain ⟨e,he⟩ := get_at (l := b.edges) (k := k) (by omega)
   have hlen : (mvsOf a b cap x y l m 1 y (b.edges.take k)).length ≤ k := Nat.le_trans (mvsOf_len a b cap x y l m 1 y _) (by rw [List.length_take]; omega)
   have hs : mvsOf a b cap x y l m 0 x a.edges ++ mvsOf a b cap x y l m 1 y (b.edges.take (k + 1)) = if e.fr = y ∧ (afterC a b cap x y l m ⟨1,e.send,e.label⟩).2 = true then (mvsOf a b cap x y l m 0 x a.edges ++ mvsOf a b cap x y l m 1 y (b.edges.take k)) ++ [⟨1,e.send,e.label⟩] else mvsOf a b cap x y l m 0 x a.edges ++ mvsOf a b cap x y l m 1 y (b.edges.take k) := by
    rw [mvsOf_snoc a b cap x y l m 1 y he]
    unfold Edge.mv; split <;> simp
   have h182e := h182 ⟨1,e.send,e.label⟩
   have hql : (mvsOf a b cap x y l m 0 x a.edges ++ mvsOf a b cap x y l m 1 y (b.edges.take k)).length ≤ 3000000 := by rw [List.length_append]; omega
   generalize mvsOf a b cap x y l m 0 x a.edges ++ mvsOf a b cap x y l m 1 y (b.edges.take k) = q at *
   have hq2 : (mvs3 q).length ≤ 3000000 := by rw [mvs3_length]; exact hql
   simp (disch := omega) only [go_sem,he]
   by_cases c1 : e.fr = y
   ·have e1 : decide (e.fr = y) = true := by simp [c1]
    simp (disch := omega) only [go_sem,e1,h182e]
    refine Br.of (fun g => ?_) (fun g => ?_) <;> simp (disch := omega) only [go_sem,g]
    ·refine .of (by omega) ?_ trivial
     rw [hs,if_pos ⟨c1,g⟩]
     rfl
    ·refine .of (by omega) ?_ trivial
     rw [hs,if_neg (fun h => by rw [h.2] at g; cases g)]
     rfl
   ·have e1 : decide (e.fr = y) = false := by simp [c1]
    simp (disch := omega) only [go_sem,e1]
    refine .of (by omega) ?_ trivial
    rw [hs,if_neg (fun h => c1 h.1)]
    rfl
  ·obtain rfl : k = b.edges.length := by omega
   rw [List.take_length]
   simp (disch := omega) only [go_sem]
   refine .of (by omega) ?_ trivial
   rfl
 ·have hml : (movesC a b cap x y l m).length ≤ 2000000 := by
   have := mvsOf_len a b cap x y l m 1 y b.edges
   unfold movesC
   rw [List.length_append]
   omega
  have hsp := fun bx mp => sortP_mvs (bx := bx) (mp := mp) (l := movesC a b cap x y l m) (by omega) hs
  have e20 : ((if 2 = 0 then [] else if 2 = 1 then mvsOf a b cap x y l m 0 x a.edges else movesC a b cap x y l m) : List Mov) = movesC a b cap x y l m := rfl
  rw [e20]
  generalize movesC a b cap x y l m = q at *
  simp (disch := omega) only [go_sem,d2,hsp]
end Go.Pv
namespace Go.Pv
def Cfg.c (c : Cfg) : List PV := [.int .i64 c.a,.int .i64 c.b,.lst 0 (ints c.toA),.lst 0 (ints c.toB)]
def cfgStart (a b : Auto) : Cfg := ⟨a.start,b.start,[],[]⟩
end Go.Pv
namespace Go.Pv
open Go.Lib (itoa)
def txt (l : List UInt8) : ByteArray := ⟨l.toArray⟩
def itoaS (n : Int) : ByteArray := txt (itoa n)
theorem r194v {n : Int} (h : wideI n = true) (hp : Heap) : itoaP [.pv (.int .i64 n)] hp = some (.pv (.str (itoaS n)),{}) := by
 show (if wideI n = true then some (V.pv (PV.str ⟨(itoa n).toArray⟩),({} : Tn)) else none) = _
 rw [if_pos h]
 rfl
theorem bcat (a b : List UInt8) : txt a ++ txt b = txt (a ++ b) := by
 apply ByteArray.ext
 simp [txt]
theorem bsize (a : List UInt8) : (txt a).size = a.length := by simp [ByteArray.size,txt]
theorem addT (a b : List UInt8) (h : a.length + b.length ≤ 1099511627776) : binV .add (.pv (.str (txt a))) (.pv (.str (txt b))) = some (.pv (.str (txt (a ++ b)))) := by
 simp only [binV,strBin,bsize]
 rw [if_pos (by omega),bcat]
 rfl
theorem txt32 : (⟨#[32]⟩ : ByteArray) = txt [32] := rfl
theorem txt59 : (⟨#[59]⟩ : ByteArray) = txt [59] := rfl
theorem txt0 : (⟨#[]⟩ : ByteArray) = txt [] := rfl
theorem spN_len : ∀ {l : List Int},l.all wideI = true → (l.flatMap spN).length ≤ 22 * l.length
 | [],_ => by simp
 | x :: l,h => by
  rw [List.all_cons,Bool.and_eq_true] at h
  have := itoa_len h.1
  have := spN_len h.2
  simp only [List.flatMap_cons,List.length_append,List.length_cons,spN]
  omega
theorem all_take {l : List Int} {f : Int → Bool} (h : l.all f = true) (k : Nat) : (l.take k).all f = true := by
 rw [List.all_eq_true] at h ⊢
 exact fun x hx => h x (List.mem_of_mem_take hx)
theorem spN_snoc {l : List Int} {k : Nat} {x : Int} (h : l[k]? = some x) : (l.take (k + 1)).flatMap spN = (l.take k).flatMap spN ++ spN x := by
 rw [List.take_add_one,h,List.flatMap_append]
 simp
set_option maxHeartbeats 4000000 in
theorem r251 (t u : Nat) (a b : Int) (l m : List Int) (h : Cfg.ok ⟨a,b,l,m⟩) : res A PrA 251 [.agg [.int .i64 a,.int .i64 b,.lst t (ints l),.lst u (ints m)]] = some [.str (keyBS a b l m)] := by
 refine res_of a251 rfl rfl ?_
 simp only [F251]; try delta sS tT zZ nN gG bB pZ
 obtain ⟨h1,h2,h3,h4,h5,h6⟩ := h
 simp only at h1 h2 h3 h4 h5 h6
 have ha := fun hp => r194v (n := a) h1 hp
 have hb := fun hp => r194v (n := b) h2 hp
 have la := itoa_len h1
 have lb := itoa_len h2
 have e32 : ([32] : List UInt8).length = 1 := rfl
 have hl63 : l.length ≤ 2 ^ 63 - 1 := by omega
 have hm63 : m.length ≤ 2 ^ 63 - 1 := by omega
 simp (disch := first | omega | (simp only [List.length_append,List.length_cons,List.length_nil]; omega)) only [go_sem,ha,hb,txt32,txt59,txt0,itoaS,addT]
 refine W.upto l.length (fun k => ⟨[(1,.ptr 1 0),(3,.pv (.str (txt (itoa a ++ [32] ++ itoa b ++ (l.take k).flatMap spN)))),(17,.pv (.lst t (ints l))),(18,.pv (.int .i64 l.length)),(19,.pv (.int .i64 k))],⟨[(1,[.pv (.int .i64 a),.pv (.int .i64 b),.pv (.lst t (ints l)),.pv (.lst u (ints m))])],[],[]⟩⟩) (fun _ => True) (by simp) trivial fun k hk _ => ?_
 simp (disch := omega) only [go_sem]
 refine Br.ofP (fun c => ?_) (fun c => ?_)
 ·have hx := List.getElem?_eq_getElem (l := l) (i := k) (by omega)
  generalize l[k]'(by omega) = x at hx
  have hxw := List.all_eq_true.1 h3 x (List.mem_of_getElem? hx)
  have hx1 := fun hp => r194v (n := x) hxw hp
  have hs := spN_snoc hx
  have lk := spN_len (all_take h3 k)
  have lx := itoa_len hxw
  have lt : (l.take k).length ≤ l.length := by rw [List.length_take]; omega
  simp (disch := first | omega | (simp only [List.length_append,List.length_cons,List.length_nil]; omega)) only [go_sem,hx,hx1,itoaS,addT]
  refine .of (by omega) ?_ trivial
  rw [hs]
  simp [spN]
 obtain rfl : k = l.length := by omega
 clear hk c
 rw [List.take_length]
 have lk := spN_len h3
 simp (disch := first | omega | (simp only [List.length_append,List.length_cons,List.length_nil]; omega)) only [go_sem,addT]
 refine W.upto m.length (fun k => ⟨[(3,.pv (.str (txt (itoa a ++ [32] ++ itoa b ++ l.flatMap spN ++ [59] ++ (m.take k).flatMap spN)))),(32,.pv (.lst u (ints m))),(33,.pv (.int .i64 m.length)),(34,.pv (.int .i64 k))],⟨[],[],[]⟩⟩) (fun _ => True) (by simp) trivial fun k hk _ => ?_
 simp (disch := omega) only [go_sem]
 refine Br.ofP (fun c => ?_) (fun c => ?_)
 ·have hx := List.getElem?_eq_getElem (l := m) (i := k) (by omega)
  generalize m[k]'(by omega) = x at hx
  have hxw := List.all_eq_true.1 h4 x (List.mem_of_getElem? hx)
  have hx1 := fun hp => r194v (n := x) hxw hp
  have hs := spN_snoc hx
  have lk2 := spN_len (all_take h4 k)
  have lx := itoa_len hxw
  have lt : (m.take k).length ≤ m.length := by rw [List.length_take]; omega
  simp (disch := first | omega | (simp only [List.length_append,List.length_cons,List.length_nil]; omega)) only [go_sem,hx,hx1,itoaS,addT]
  refine .of (by omega) ?_ trivial
  rw [hs]
  simp [spN]
 obtain rfl : k = m.length := by omega
 rw [List.take_length]
 simp (disch := omega) only [go_sem]
 simp [keyBS,keyB,txt,spN]
end Go.Pv
namespace Go.Pv
structure Nod (α μ : Type) where
 c : α
 bef : Int
 by' : Option μ
 path : List μ
section
variable {α μ : Type} [DecidableEq α]
end
end Go.Pv
namespace Go.Pv
abbrev Nd := Nod Cfg Mov
def Nd.mv (x : Nd) : Mov := x.by'.getD ⟨0,false,0⟩
theorem foundT_some (z : V) (j : Nat) (p : PV) : foundV z true (some (j,p)) = .tup [.pv p,.pv (.bool true)] := rfl
theorem foundT_none (z : V) : foundV z true none = .tup [z,.pv (.bool false)] := rfl
end Go.Pv
namespace Go.Pv
theorem fitsB_iff {a b : Auto} {cap x y : Int} {l m : List Int} : fitsB a b cap x y l m = true ↔ sysErr a b cap = 0 ∧ (0 ≤ x ∧ x < a.states) ∧ (0 ≤ y ∧ y < b.states) ∧ chanB l cap = true ∧ chanB m cap = true := by
 unfold fitsB
 simp only [Bool.and_eq_true,decide_eq_true_eq]
 constructor
 ·rintro ⟨⟨⟨⟨⟨⟨h1,h2⟩,h3⟩,h4⟩,h5⟩,h6⟩,h7⟩
  exact ⟨h1,⟨h2,h3⟩,⟨h4,h5⟩,h6,h7⟩
 ·rintro ⟨h1,⟨h2,h3⟩,⟨h4,h5⟩,h6,h7⟩
  exact ⟨⟨⟨⟨⟨⟨h1,h2⟩,h3⟩,h4⟩,h5⟩,h6⟩,h7⟩
theorem side_fits {a : Auto} (h : a.Good) {cap st : Int} {i o : List Int} {send : Bool} {label q : Int} {i' o' : List Int} (hi : chanB i cap = true) (ho : chanB o cap = true) (hs : sideC a.edges cap st i o send label = (some (q,i',o'),true)) : (0 ≤ q ∧ q < a.states) ∧ chanB i' cap = true ∧ chanB o' cap = true := by
 unfold sideC at hs
 cases hn : nextE st send label a.edges with
 | none => rw [hn] at hs; cases hs
 | some t =>
  rw [hn] at hs
  dsimp only at hs
  have hm := (nextE_some (h.asc.imp fun h => .inl h)).1 hn
  have hf := h.fit _ hm
  unfold Edge.fits at hf
  simp only [Bool.and_eq_true,decide_eq_true_eq] at hf
  split at hs
  ·injection hs with h1 h2
   injection h1 with h1
   injection h1 with h1 h3
   injection h3 with h3 h4
   subst h1 h3 h4
   have h2 := of_decide_eq_true h2
   refine ⟨by omega,hi,?_⟩
   unfold chanB at ho ⊢
   simp only [Bool.and_eq_true,decide_eq_true_eq,Bool.not_eq_true'] at ho ⊢
   refine ⟨by rw [List.length_append]; simp; omega,?_⟩
   rw [List.any_append,ho.2]
   simp [badL]
   omega
  ·cases i with
   | nil => cases hs
   | cons z r =>
    dsimp only at hs
    split at hs
    ·injection hs with h1 h2
     injection h1 with h1
     injection h1 with h1 h3
     injection h3 with h3 h4
     subst h1 h3 h4
     refine ⟨by omega,?_,ho⟩
     unfold chanB at hi ⊢
     simp only [Bool.and_eq_true,decide_eq_true_eq,Bool.not_eq_true',List.any_cons,Bool.or_eq_false_iff,List.length_cons] at hi ⊢
     exact ⟨by omega,hi.2.2⟩
    ·cases hs
theorem fits_after {a b : Auto} {cap x y : Int} {l m : List Int} {mv : Mov} (h : fitsB a b cap x y l m = true) (ho : (afterC a b cap x y l m mv).2 = true) : fitsB a b cap (afterC a b cap x y l m mv).1.a (afterC a b cap x y l m mv).1.b (afterC a b cap x y l m mv).1.toA (afterC a b cap x y l m mv).1.toB = true := by
 obtain ⟨h1,h2,h3,h4,h5⟩ := fitsB_iff.1 h
 obtain ⟨ga,gb,_,_⟩ := sys_good h1
 rw [fitsB_iff]
 refine ⟨h1,?_⟩
 revert ho
 unfold afterC
 split
 ·cases hs : sideC a.edges cap x l m mv.send mv.label with
  | mk r ok =>
   cases r with
   | none =>
    intro ho
    exfalso
    have ho : ok = true := ho
    subst ho
    unfold sideC at hs
    cases hn : nextE x mv.send mv.label a.edges with
    | none => rw [hn] at hs; cases hs
    | some q =>
     rw [hn] at hs
     dsimp only at hs
     split at hs
     ·cases hs
     ·cases l with
      | nil => cases hs
      | cons z r => dsimp only at hs; split at hs <;> cases hs
   | some r =>
    obtain ⟨q,i,o⟩ := r
    intro ho
    have ho : ok = true := ho
    subst ho
    obtain ⟨g1,g2,g3⟩ := side_fits ga h4 h5 hs
    exact ⟨g1,h3,g2,g3⟩
 ·split
  ·cases hs : sideC b.edges cap y m l mv.send mv.label with
   | mk r ok =>
    cases r with
    | none =>
     intro ho
     exfalso
     have ho : ok = true := ho
     subst ho
     unfold sideC at hs
     cases hn : nextE y mv.send mv.label b.edges with
     | none => rw [hn] at hs; cases hs
     | some q =>
      rw [hn] at hs
      dsimp only at hs
      split at hs
      ·cases hs
      ·cases m with
       | nil => cases hs
       | cons z r => dsimp only at hs; split at hs <;> cases hs
    | some r =>
     obtain ⟨q,i,o⟩ := r
     intro ho
     have ho : ok = true := ho
     subst ho
     obtain ⟨g1,g2,g3⟩ := side_fits gb h5 h4 hs
     exact ⟨h2,g1,g3,g2⟩
  ·intro ho
   cases ho
theorem r171 (a b : Auto) (cap : Int) (x y : Int) (l m : List Int) (ha : a.edges.length ≤ 2 ^ 63 - 1) (hb : b.edges.length ≤ 2 ^ 63 - 1) (hl : l.length ≤ 2000000000) (hm : m.length ≤ 2000000000) : res A PrA 171 [.agg [.int .i64 a.states,.int .i64 a.start,.lst 0 (a.edges.map Edge.c),.int .i64 b.states,.int .i64 b.start,.lst 0 (b.edges.map Edge.c),.int .i64 cap],.agg [.int .i64 x,.int .i64 y,.lst 0 (ints l),.lst 0 (ints m)]] = some (if chkE a b cap x y l m = 0 then [.lst 0 (mvs3 (movesC a b cap x y l m)),.int .i64 0] else [.lst 0 [],.int .i64 (chkE a b cap x y l m)]) := by
 refine res_of a171 rfl rfl ?_
 simp only [F171]; try delta sS tT zZ nN gG bB pZ
 by_cases h1 : chkE a b cap x y l m = 0
 ·have hs : sysErr a b cap = 0 := by
   unfold chkE at h1
   by_cases h : sysErr a b cap = 0
   ·exact h
   ·rw [if_pos h] at h1
    exact h1
  obtain ⟨ga,gb,_,_⟩ := sys_good hs
  have h186 := r186 a b cap x y l m (by have := ga.len; omega) (by have := gb.len; omega) hl hm (movesC_asc ga.asc gb.asc)
  have d1 : decide (chkE a b cap x y l m = 0) = true := by simp [h1]
  simp (disch := omega) only [go_sem,d1,h186]
  rw [if_pos h1]
 ·have d1 : decide (chkE a b cap x y l m = 0) = false := by simp [h1]
  simp (disch := omega) only [go_sem,d1]
  rw [if_neg h1]
def applyC (a b : Auto) (cap x y : Int) (l m : List Int) (mv : Mov) : List PV := if chkE a b cap x y l m = 0 then (if (afterC a b cap x y l m mv).2 = true then [cfgP (afterC a b cap x y l m mv).1,.int .i64 0] else [cfgP cfg0,.int .i64 11]) else [cfgP cfg0,.int .i64 (chkE a b cap x y l m)]
set_option maxHeartbeats 1000000 in
theorem r174 (a b : Auto) (cap : Int) (x y : Int) (l m : List Int) (mv : Mov) (ha : a.edges.length ≤ 2 ^ 63 - 1) (hb : b.edges.length ≤ 2 ^ 63 - 1) (hl : l.length ≤ 2000000000) (hm : m.length ≤ 2000000000) : res A PrA 174 [.agg [.int .i64 a.states,.int .i64 a.start,.lst 0 (a.edges.map Edge.c),.int .i64 b.states,.int .i64 b.start,.lst 0 (b.edges.map Edge.c),.int .i64 cap],.agg [.int .i64 x,.int .i64 y,.lst 0 (ints l),.lst 0 (ints m)],.agg [.int .i64 mv.party,.bool mv.send,.int .i64 mv.label]] = some (applyC a b cap x y l m mv) := by
 refine res_of a174 rfl rfl ?_
 simp only [F174]; try delta sS tT zZ nN gG bB pZ
 unfold applyC
 have h182 := r182 a b cap x y l m mv ha hb hl hm
 by_cases h1 : chkE a b cap x y l m = 0
 ·have d1 : decide (chkE a b cap x y l m = 0) = true := by simp [h1]
  rw [if_pos h1]
  cases h2 : (afterC a b cap x y l m mv).2 with
  | true =>
   rw [h2] at h182
   generalize (afterC a b cap x y l m mv).1 = c at *
   simp (disch := omega) only [go_sem,d1,h182]
  | false =>
   rw [h2] at h182
   generalize (afterC a b cap x y l m mv).1 = c at *
   simp (disch := omega) only [go_sem,d1,h182]
   rfl
 ·have d1 : decide (chkE a b cap x y l m = 0) = false := by simp [h1]
  rw [if_neg h1]
  simp (disch := omega) only [go_sem,d1]
  rfl
end Go.Pv
namespace Go.Pv
theorem movesC_mem {a b : Auto} {cap x y : Int} {l m : List Int} {mv : Mov} (h : mv ∈ movesC a b cap x y l m) : (afterC a b cap x y l m mv).2 = true ∧ ∃ e ∈ a.edges ++ b.edges,mv.label = e.label := by
 unfold movesC at h
 rcases List.mem_append.1 h with h | h
 ·obtain ⟨e,he,rfl⟩ := List.mem_map.1 h
  obtain ⟨h1,h2⟩ := List.mem_filter.1 he
  rw [Bool.and_eq_true] at h2
  exact ⟨h2.2,e,List.mem_append_left _ h1,rfl⟩
 ·obtain ⟨e,he,rfl⟩ := List.mem_map.1 h
  obtain ⟨h1,h2⟩ := List.mem_filter.1 he
  rw [Bool.and_eq_true] at h2
  exact ⟨h2.2,e,List.mem_append_right _ h1,rfl⟩
theorem chan_ok {l : List Int} {cap : Int} (h : chanB l cap = true) : (l.length : Int) ≤ cap ∧ ∀ z ∈ l,1 ≤ z := by
 unfold chanB at h
 rw [Bool.and_eq_true,decide_eq_true_eq,Bool.not_eq_true'] at h
 refine ⟨h.1,fun z hz => ?_⟩
 have := h.2
 rw [List.any_eq_false] at this
 have := this z hz
 unfold badL at this
 simp at this
 omega
end Go.Pv
namespace Go.Pv
end Go.Pv
namespace Go.Pv
end Go.Pv
namespace Go.Pv
end Go.Pv
namespace Go.Pv
end Go.Pv
namespace Go.Pv
section
variable {α μ : Type}
inductive Run (mv : α → List (μ × α)) : α → List μ → α → Prop
 | nil (c : α) : Run mv c [] c
 | cons {c d e : α} {l : List μ} {m : μ} : (m,d) ∈ mv c → Run mv d l e → Run mv c (m :: l) e
end
variable {a b : Auto} {cap : Int} {s : Cfg} {p : Cfg → Prop} {out : List Nd}
end Go.Pv
namespace Go.Pv
end Go.Pv
namespace Go.Pv
theorem chan_wide {l : List Int} {cap : Int} (h : chanB l cap = true) : l.all wideI = true := by
 unfold chanB at h
 rw [Bool.and_eq_true,Bool.not_eq_true'] at h
 rw [List.all_eq_true]
 intro z hz
 have := List.any_eq_false.1 h.2 z hz
 simp only [badL,Bool.or_eq_true,decide_eq_true_eq,not_or] at this
 rw [wideI_iff]
 omega
theorem fits_okX {a b : Auto} {cap : Int} {c : Cfg} (h : fitsB a b cap c.a c.b c.toA c.toB = true) : c.ok := by
 obtain ⟨hs,h4,h5,h6,h7⟩ := fitsB_iff.1 h
 obtain ⟨ga,gb,hc1,hc2⟩ := sys_good hs
 have m1 := ga.mx
 have m2 := gb.mx
 have q1 := (chan_ok h6).1
 have q2 := (chan_ok h7).1
 exact ⟨wideI_iff.2 (by omega),wideI_iff.2 (by omega),chan_wide h6,chan_wide h7,by omega,by omega⟩
end Go.Pv
namespace Go.Pv
end Go.Pv
namespace Go.Pv
end Go.Pv
namespace Go.Pv
@[go_sem] theorem takev_ro (n t : Nat) (cs : List PV) : takev n (.ro t cs) = (.pv (.ro t cs),[]) := rfl
@[go_sem] theorem takev_nilp (n : Nat) : takev n .nilp = (.pv .nilp,[]) := rfl
variable {a b : Auto} {cap : Int} {s : Cfg} {p : Cfg → Prop} {out : List Nd}
end Go.Pv
namespace Go.Pv
end Go.Pv
namespace Go.Pv
variable {a b : Auto} {cap : Int} {s : Cfg} {p : Cfg → Prop} {out : List Nd}
end Go.Pv
namespace Go.Pv
variable {a b : Auto} {cap : Int} {s : Cfg} {p : Cfg → Prop} {out : List Nd}
end Go.Pv
namespace Go.Pv
end Go.Pv
namespace Go.Pv
variable {a b : Auto} {cap : Int}
variable {s : Cfg} {p : Cfg → Prop} {out : List Nd}
end Go.Pv
namespace Go.Pv
def smallA (m : Int) (x : Arc) : Arc := ⟨x.fr % m,x.act % 4,x.to % m⟩
def smallL (m : Int) (l : List Arc) (k : Nat) : List Arc := (l.take k).map (smallA m)
def smallD (n : Int) (l : List Arc) : Draft := ⟨n % 3,smallL (n % 3 + 1) l 12⟩
def arcs (l : List Arc) : List (List PV) := l.map Arc.c
@[go_sem] theorem arcs_get (l : List Arc) (i : Nat) : (arcs l)[i]? = l[i]?.map fun x => [.int .u8 x.fr,.int .u8 x.act,.int .u8 x.to] := by simp [arcs]; rfl
structure PDr where
 n : Int
 la : List Arc
 l : List Arc
 mirror : Bool
 skip : Int
 cap : Int
def PDr.ok (d : PDr) : Prop := (0 ≤ d.n ∧ d.n ≤ 255) ∧ (0 ≤ d.skip ∧ d.skip ≤ 255) ∧ (0 ≤ d.cap ∧ d.cap ≤ 255) ∧ d.la.length ≤ 2 ^ 63 - 1 ∧ d.l.length ≤ 2 ^ 63 - 1 ∧ (∀ x ∈ d.la,x.ok) ∧ ∀ x ∈ d.l,x.ok
def PDr.sh (d : PDr) (k : Nat) : Int := d.skip.fdiv (2 ^ (min ((k : Int) % 8).toNat IntKind.u8.bits))
def PDr.bit (d : PDr) (k : Nat) : Int := IntKind.u8.wrap (BitVec.ofInt IntKind.u8.bits (d.sh k) &&& BitVec.ofInt IntKind.u8.bits 1).toNat
def PDr.out (d : PDr) (k : Nat) : Bool := decide (d.bit k = 0)
def PDr.fit (d : PDr) : Bool := decide (d.la.length ≤ 12) && decide (d.l.length ≤ 12)
def PDr.n2 (d : PDr) : Int := if d.mirror = true then d.n else IntKind.u8.wrap (d.n + d.skip)
def PDr.A (d : PDr) : Auto := (smallD d.n d.la).auto
end Go.Pv
namespace Go.Pv
def PDr.c2 (d : PDr) : Int := 1 + d.cap % 2
end Go.Pv
namespace Go.Pv
variable {a b : Auto} {cap : Int} {s : Cfg} {p : Cfg → Prop} {out : List Nd}
end Go.Pv
namespace Go.Pv
variable {a b : Auto} {cap : Int} {s : Cfg} {p : Cfg → Prop} {out : List Nd}
end Go.Pv
namespace Go.Pv
variable {a b : Auto} {cap : Int} {s : Cfg} {p : Cfg → Prop} {out : List Nd} {U : List Cfg}
end Go.Pv
namespace Go.Pv
def ckR (L : List (Cfg × Int)) : List (List PV) := L.map fun w => [.int .i64 w.1.a,.int .i64 w.1.b,.lst 0 (ints w.1.toA),.lst 0 (ints w.1.toB),.int .i64 w.2]
@[go_sem] theorem ckR_len (L : List (Cfg × Int)) : (ckR L).length = L.length := List.length_map _
@[go_sem] theorem ckR_get (L : List (Cfg × Int)) (k : Nat) : (ckR L)[k]? = L[k]?.map fun w => [.int .i64 w.1.a,.int .i64 w.1.b,.lst 0 (ints w.1.toA),.lst 0 (ints w.1.toB),.int .i64 w.2] := List.getElem?_map
variable {a b : Auto} {cap : Int} {s : Cfg} {p : Cfg → Prop} {out : List Nd} {U : List Cfg}
end Go.Pv
namespace Go.Pv
variable {a b : Auto} {cap : Int} {s : Cfg} {p : Cfg → Prop} {out : List Nd} {U : List Cfg}
def valM (f : Nat → Int) (l : List ByteArray) : List (PV × PV) := l.zipIdx.map fun p => (.str p.1,.int .i64 (f p.2))
theorem findKey_val (f : Nat → Int) (x : ByteArray) : ∀ (l : List ByteArray) (k i : Nat),findKey false [2] (.str x) ((l.zipIdx k).map fun (p : ByteArray × Nat) => (PV.str p.1,PV.int .i64 (f p.2))) i = some ((l.findIdx? fun s => decide (s = x)).map fun j => (j + i,.int .i64 (f (j + k))))
 | [],k,i => by
  show (if (keyEq false [2] (.str x) (.str x)).isSome then some none else none) = _
  rw [keyEq_str]
  rfl
 | y :: l,k,i => by
  show (match keyEq false [2] (.str x) (.str y) with
   | some true => some (some (i,PV.int .i64 (f k)))
   | some false => findKey false [2] (.str x) ((l.zipIdx (k + 1)).map fun (p : ByteArray × Nat) => (PV.str p.1,PV.int .i64 (f p.2))) (i + 1)
   | none => none) = _
  rw [keyEq_str]
  by_cases h : x = y
  ·subst h
   simp [List.findIdx?_cons]
  ·have h' : ¬ y = x := fun e => h e.symm
   simp only [h,decide_false]
   rw [findKey_val f x l (k + 1) (i + 1)]
   simp only [List.findIdx?_cons,h',decide_false]
   cases l.findIdx? fun s => decide (s = x) with
   | none => rfl
   | some j =>
    have e1 : j + (i + 1) = j + 1 + i := by omega
    have e2 : j + (k + 1) = j + 1 + k := by omega
    simp [e1,e2]
theorem find_valM (f : Nat → Int) (x : ByteArray) (l : List ByteArray) : findKey false [2] (.str x) (valM f l) 0 = some ((l.findIdx? fun s => decide (s = x)).map fun j => (j,.int .i64 (f j))) := by
 have := findKey_val f x l 0 0
 simpa [valM] using this
theorem upd_valM (f : Nat → Int) (x : ByteArray) (l : List ByteArray) (z : Int) (id : Nat) (hz : z = f l.length) (h : (l.findIdx? fun s => decide (s = x)) = none) : updM false [2] (.str x) (.int .i64 z) id (valM f l) = some { mp := some (id,valM f (l ++ [x])) } := by
 unfold updM
 rw [find_valM,h,hz]
 simp [valM,List.zipIdx_append]
end Go.Pv
namespace Go.Pv
variable {a b : Auto} {cap : Int} {s : Cfg} {p : Cfg → Prop} {out : List Nd} {U : List Cfg}
end Go.Pv
namespace Go.Pv
variable {a b : Auto} {cap : Int} {s : Cfg} {p : Cfg → Prop} {out : List Nd} {U : List Cfg}
end Go.Pv
namespace Go.Pv
variable {a b : Auto} {cap : Int} {s : Cfg} {p : Cfg → Prop} {out : List Nd} {U : List Cfg}
end Go.Pv
namespace Go.Pv
variable {a b : Auto} {cap : Int} {s : Cfg} {p : Cfg → Prop} {out : List Nd} {U : List Cfg}
set_option maxHeartbeats 1000000 in
theorem r540 (t u1 u2 : Nat) (L : List (Cfg × Int)) (c : Cfg) (hL : L.length ≤ 100000) (hok : ∀ w ∈ L,w.1.ok) (hc : c.ok) : res A PrA 540 [.lst t (ckR L),.agg [.int .i64 c.a,.int .i64 c.b,.lst u1 (ints c.toA),.lst u2 (ints c.toB)]] = some [.int .i64 (match L.findIdx? fun w => decide (w.1 = c) with | some j => (j : Int) | none => -1)] := by
 refine res_of a540 rfl rfl ?_
 simp only [F540]; try delta sS tT zZ nN gG bB pZ
 simp (disch := omega) only [go_sem]
 refine W.upto L.length (fun k => ⟨[(0,.pv (.lst t (ckR L))),(3,.ptr 3 0),(5,.pv (.int .i64 k))],⟨[(3,[.pv (.int .i64 c.a),.pv (.int .i64 c.b),.pv (.lst u1 (ints c.toA)),.pv (.lst u2 (ints c.toB))])],[],[]⟩⟩) (fun k => ∀ i w,i < k → L[i]? = some w → w.1 ≠ c) rfl (fun i w hi => absurd hi (by omega)) fun k hk hi => ?_
 simp (disch := omega) only [go_sem]
 refine Br.ofP (fun c1 => ?_) (fun c1 => ?_)
 ·obtain ⟨w,hw⟩ := get_at (l := L) (k := k) (by omega)
  obtain ⟨_,_,_,_,h1,h2⟩ := hok w (List.mem_of_getElem? hw)
  obtain ⟨_,_,_,_,h3,h4⟩ := hc
  have h154 := r154 0 0 u1 u2 w.1.a w.1.b c.a c.b w.1.toA w.1.toB c.toA c.toB (by omega) (by omega) (by omega) (by omega)
  have e1 : (⟨w.1.a,w.1.b,w.1.toA,w.1.toB⟩ : Cfg) = w.1 := rfl
  have e2 : (⟨c.a,c.b,c.toA,c.toB⟩ : Cfg) = c := rfl
  rw [e1,e2] at h154
  simp (disch := omega) only [go_sem,hw,Option.map_some,h154]
  refine Br.ofP (fun c2 => ?_) (fun c2 => ?_)
  ·simp (disch := omega) only [go_sem]
   have hkl := (List.getElem?_eq_some_iff.1 hw).1
   have hge := (List.getElem?_eq_some_iff.1 hw).2
   have : (L.findIdx? fun w => decide (w.1 = c)) = some k := by
    rw [List.findIdx?_eq_some_iff_getElem]
    refine ⟨hkl,by rw [hge]; exact decide_eq_true c2,fun j hj => ?_⟩
    have := hi j _ hj (List.getElem?_eq_getElem (by omega))
    simpa using this
   rw [this]
  ·simp (disch := omega) only [go_sem]
   exact .of (by omega) rfl fun i v hik hv => by
    rcases Nat.lt_or_ge i k with hh | hh
    ·exact hi i v hh hv
    ·have : i = k := by omega
     subst this
     rw [hw] at hv
     cases hv
     exact c2
 ·simp (disch := omega) only [go_sem]
  have : (L.findIdx? fun w => decide (w.1 = c)) = none := by
   rw [List.findIdx?_eq_none_iff]
   intro w hw
   obtain ⟨i,hii⟩ := List.getElem?_of_mem hw
   have := hi i w (by have := (List.getElem?_eq_some_iff.1 hii).1; omega) hii
   simpa using this
  rw [this]
end Go.Pv
namespace Go.Pv
variable {a b : Auto} {cap : Int} {s : Cfg} {p : Cfg → Prop} {out : List Nd} {U : List Cfg}
end Go.Pv
namespace Go.Pv
variable {a b : Auto} {cap : Int} {L : List (Cfg × Int)}
def fidx (L : List (Cfg × Int)) (c : Cfg) : Option Nat := L.findIdx? fun w => decide (w.1 = c)
def rkL (L : List (Cfg × Int)) (i : Nat) : Int := (L[i]?.map (·.2)).getD 0
def rkC (L : List (Cfg × Int)) (c : Cfg) : Int := rkL L ((fidx L c).getD 0)
def goodW (a b : Auto) (cap : Int) (L : List (Cfg × Int)) (w : Cfg × Int) : Prop :=
 (∀ m ∈ movesC a b cap w.1.a w.1.b w.1.toA w.1.toB,(fidx L (afterC a b cap w.1.a w.1.b w.1.toA w.1.toB m).1).isSome = true) ∧
  ((w.2 = 0 ∧ doneB a b cap w.1.a w.1.b w.1.toA w.1.toB = true) ∨ (0 < w.2 ∧ (movesC a b cap w.1.a w.1.b w.1.toA w.1.toB).any (fun m => decide (rkC L (afterC a b cap w.1.a w.1.b w.1.toA w.1.toB m).1 < w.2)) = true))
def CkP (a b : Auto) (cap : Int) (L : List (Cfg × Int)) : Prop := sysErr a b cap = 0 ∧ (∀ (k : Nat) (w : Cfg × Int),L[k]? = some w → fitsB a b cap w.1.a w.1.b w.1.toA w.1.toB = true ∧ fidx (L.take k) w.1 = none) ∧ (fidx L (cfgStart a b)).isSome = true ∧ ∀ (k : Nat) (w : Cfg × Int),L[k]? = some w → goodW a b cap L w
open Classical in
noncomputable def ckB (a b : Auto) (cap : Int) (L : List (Cfg × Int)) : Bool := decide (CkP a b cap L)
open Classical in
theorem ckB_no (h : ¬ CkP a b cap L) : ckB a b cap L = false := decide_eq_false h
open Classical in
theorem ckB_yes (h : CkP a b cap L) : ckB a b cap L = true := decide_eq_true h
def keysL (L : List (Cfg × Int)) : List ByteArray := L.map fun w => w.1.keyB
theorem keysL_find (L : List (Cfg × Int)) (c : Cfg) : ((keysL L).findIdx? fun s => decide (s = keyBS c.a c.b c.toA c.toB)) = fidx L c := by
 unfold keysL fidx
 rw [List.findIdx?_map]
 congr 1
 funext w
 simp only [Function.comp_apply]
 by_cases h : w.1 = c
 ·rw [decide_eq_true h,← h]
  exact decide_eq_true rfl
 ·rw [decide_eq_false h]
  exact decide_eq_false fun e => h (keyB_inj e)
theorem fits_chk {c : Cfg} (h : fitsB a b cap c.a c.b c.toA c.toB = true) : chkE a b cap c.a c.b c.toA c.toB = 0 := by
 unfold chkE
 rw [if_neg (by simp [(fitsB_iff.1 h).1]),if_pos h]
theorem moves_len (c : Cfg) : (movesC a b cap c.a c.b c.toA c.toB).length ≤ a.edges.length + b.edges.length := by
 have h1 := mvsOf_len a b cap c.a c.b c.toA c.toB 0 c.a a.edges
 have h2 := mvsOf_len a b cap c.a c.b c.toA c.toB 1 c.b b.edges
 rw [movesC,List.length_append]
 omega
theorem pre_take {α : Type} {l : List α} {k : Nat} {x : α} (hx : l[k]? = some x) {Q : Nat → α → Prop} (h : ∀ i y,i < k → l[i]? = some y → Q i y) (hq : Q k x) : ∀ i y,i < k + 1 → l[i]? = some y → Q i y := fun i y hi hy => by
 rcases Nat.lt_or_ge i k with hh | hh
 ·exact h i y hh hy
 ·have : i = k := by omega
  subst this
  rw [hx] at hy
  cases hy
  exact hq
theorem pre_all {α : Type} {l : List α} {k : Nat} (hk : l.length ≤ k) {Q : Nat → α → Prop} (h : ∀ i y,i < k → l[i]? = some y → Q i y) : ∀ i y,l[i]? = some y → Q i y := fun i y hy => h i y (by have := (List.getElem?_eq_some_iff.1 hy).1; omega) hy
set_option maxHeartbeats 8000000 in
theorem r243g (hL : L.length ≤ 500) (hok : ∀ w ∈ L,w.1.ok) (ha : a.edges.length ≤ 1000000) (hb : b.edges.length ≤ 1000000) (hst : wideI a.start = true ∧ wideI b.start = true) : res A PrA 243 [.agg [.int .i64 a.states,.int .i64 a.start,.lst 0 (a.edges.map Edge.c),.int .i64 b.states,.int .i64 b.start,.lst 0 (b.edges.map Edge.c),.int .i64 cap],.lst 0 (ckR L)] = some [.bool (ckB a b cap L)] := by
 refine res_of a243 rfl rfl ?_
 simp only [F243]; try delta sS tT zZ nN gG bB pZ
 by_cases hs : sysErr a b cap = 0
 ·have hd : decide (sysErr a b cap = 0) = true := decide_eq_true hs
  simp (disch := omega) only [go_sem,hd]
  refine W.upto L.length (fun k => ⟨[(1,.pv (.lst 0 (ckR L))),(2,.ptr 2 0),(5,.map 0),(28,.pv (.lst 0 (ckR L))),(29,.pv (.int .i64 L.length)),(30,.pv (.int .i64 k))],⟨[(2,[.pv (.int .i64 a.states),.pv (.int .i64 a.start),.pv (.lst 0 (a.edges.map Edge.c)),.pv (.int .i64 b.states),.pv (.int .i64 b.start),.pv (.lst 0 (b.edges.map Edge.c)),.pv (.int .i64 cap)])],[],[valM (rkL L) (keysL (L.take k))]⟩⟩) (fun k => ∀ i w,i < k → L[i]? = some w → fitsB a b cap w.1.a w.1.b w.1.toA w.1.toB = true ∧ fidx (L.take i) w.1 = none) rfl (fun i w hi => absurd hi (by omega)) fun k hk hi => ?_
  simp (disch := omega) only [go_sem]
  refine Br.ofP (fun c1 => ?_) (fun c1 => ?_)
  ·obtain ⟨w,hw⟩ := get_at (l := L) (k := k) (by omega)
   have hwk := hok w (List.mem_of_getElem? hw)
   have hkey := r251 0 0 w.1.a w.1.b w.1.toA w.1.toB hwk
   have hf := keysL_find (L.take k) w.1
   cases hn : fidx (L.take k) w.1 with
   | some j =>
    rw [hn] at hf
    simp (disch := omega) only [go_sem,hw,Option.map_some,hkey,find_valM,hf,foundT_some]
    rw [ckB_no fun h => by
     have := (h.2.1 k w hw).2
     rw [hn] at this
     cases this]
   | none =>
    rw [hn] at hf
    obtain ⟨_,_,_,_,hxa,hxb⟩ := hwk
    have h157 := r157 0 0 a b cap 0 0 w.1.a w.1.b w.1.toA w.1.toB (by omega) (by omega) (by omega) (by omega)
    cases hft : fitsB a b cap w.1.a w.1.b w.1.toA w.1.toB with
    | false =>
     rw [hft] at h157
     simp (disch := omega) only [go_sem,hw,Option.map_some,hkey,find_valM,hf,Option.map_none,foundT_none,h157]
     rw [ckB_no fun h => by
      have := (h.2.1 k w hw).1
      rw [hft] at this
      cases this]
    | true =>
     rw [hft] at h157
     have hfz : w.2 = rkL L (keysL (L.take k)).length := by
      have : (keysL (L.take k)).length = k := by unfold keysL; rw [List.length_map,List.length_take]; omega
      rw [this]
      unfold rkL
      rw [hw]
      rfl
     have hupd := upd_valM (rkL L) (keyBS w.1.a w.1.b w.1.toA w.1.toB) (keysL (L.take k)) w.2 0 hfz hf
     simp (disch := omega) only [go_sem,hw,Option.map_some,hkey,find_valM,hf,Option.map_none,foundT_none,h157,hupd]
     refine .of (by omega) ?_ (pre_take hw hi ⟨hft,hn⟩)
     have hsn : keysL (L.take (k + 1)) = keysL (L.take k) ++ [keyBS w.1.a w.1.b w.1.toA w.1.toB] := by
      unfold keysL
      rw [List.take_add_one,hw]
      simp [Cfg.keyB]
     rw [hsn]
     rfl
  ·have hkk : k = L.length := by omega
   subst hkk
   have hta : L.take L.length = L := List.take_length
   rw [hta]
   have hall := pre_all (Nat.le_refl _) hi
   have hkey0 := r251 0 0 a.start b.start [] [] ⟨hst.1,hst.2,rfl,rfl,by simp,by simp⟩
   simp only [ints_nil] at hkey0
   have hf0 : ((keysL L).findIdx? fun s => decide (s = keyBS a.start b.start [] [])) = fidx L (cfgStart a b) := keysL_find L (cfgStart a b)
   cases hn0 : fidx L (cfgStart a b) with
   | none =>
    rw [hn0] at hf0
    simp (disch := omega) only [go_sem,hkey0,find_valM,hf0,Option.map_none,foundT_none]
    rw [ckB_no fun h => by
     have := h.2.2.1
     rw [hn0] at this
     cases this]
   | some j0 =>
    rw [hn0] at hf0
    simp (disch := omega) only [go_sem,hkey0,find_valM,hf0,Option.map_some,foundT_some]
    refine W.upto L.length (fun k => ⟨[(2,.ptr 2 0),(5,.map 0),(66,.pv (.lst 0 (ckR L))),(67,.pv (.int .i64 L.length)),(68,.pv (.int .i64 k))],⟨[(2,[.pv (.int .i64 a.states),.pv (.int .i64 a.start),.pv (.lst 0 (a.edges.map Edge.c)),.pv (.int .i64 b.states),.pv (.int .i64 b.start),.pv (.lst 0 (b.edges.map Edge.c)),.pv (.int .i64 cap)])],[],[valM (rkL L) (keysL L)]⟩⟩) (fun k => ∀ i w,i < k → L[i]? = some w → goodW a b cap L w) rfl (fun i w hi => absurd hi (by omega)) fun k hk hg => ?_
    simp (disch := omega) only [go_sem]
    refine Br.ofP (fun c2 => ?_) (fun c2 => ?_)
    ·obtain ⟨w,hw⟩ := get_at (l := L) (k := k) (by omega)
     have hwk := hok w (List.mem_of_getElem? hw)
     obtain ⟨_,_,_,_,hxa,hxb⟩ := hwk
     have hfit := (hall k w hw).1
     have hchk := fits_chk hfit
     have h171 := r171 a b cap w.1.a w.1.b w.1.toA w.1.toB (by omega) (by omega) (by omega) (by omega)
     rw [if_pos hchk] at h171
     have h174 := fun mv => r174 a b cap w.1.a w.1.b w.1.toA w.1.toB mv (by omega) (by omega) (by omega) (by omega)
     have h159 := r159 0 0 a b cap 0 0 w.1.a w.1.b w.1.toA w.1.toB (by omega) (by omega) (by omega) (by omega)
     have hml := moves_len (a := a) (b := b) (cap := cap) w.1
     have hgd : goodW a b cap L w → (∀ m ∈ movesC a b cap w.1.a w.1.b w.1.toA w.1.toB,(fidx L (afterC a b cap w.1.a w.1.b w.1.toA w.1.toB m).1).isSome = true) := fun h => h.1
     have hgd2 : ∀ Q : Bool,(movesC a b cap w.1.a w.1.b w.1.toA w.1.toB).any (fun m => decide (rkC L (afterC a b cap w.1.a w.1.b w.1.toA w.1.toB m).1 < w.2)) = Q → (∀ m ∈ movesC a b cap w.1.a w.1.b w.1.toA w.1.toB,(fidx L (afterC a b cap w.1.a w.1.b w.1.toA w.1.toB m).1).isSome = true) → (goodW a b cap L w ↔ ((w.2 = 0 ∧ doneB a b cap w.1.a w.1.b w.1.toA w.1.toB = true) ∨ (0 < w.2 ∧ Q = true))) := fun Q hQ h => by
      unfold goodW
      rw [hQ]
      exact ⟨fun h => h.2,fun h2 => ⟨h,h2⟩⟩
     simp (disch := omega) only [go_sem,hw,Option.map_some,h171]
     have hmvs : ∀ mv ∈ movesC a b cap w.1.a w.1.b w.1.toA w.1.toB,(afterC a b cap w.1.a w.1.b w.1.toA w.1.toB mv).2 = true ∧ (afterC a b cap w.1.a w.1.b w.1.toA w.1.toB mv).1.ok := fun mv hmv => ⟨(movesC_mem hmv).1,fits_okX (fits_after hfit (movesC_mem hmv).1)⟩
     obtain ⟨g,hg0⟩ : ∃ g : Mov → Bool,g = fun m => decide (rkC L (afterC a b cap w.1.a w.1.b w.1.toA w.1.toB m).1 < w.2) := ⟨_,rfl⟩
     rw [← hg0] at hgd2
     generalize hms : movesC a b cap w.1.a w.1.b w.1.toA w.1.toB = ms at *
     refine W.upto ms.length (fun j => ⟨[(2,.ptr 2 0),(5,.map 0),(14,.ptr 14 0),(17,.pv (.bool ((ms.take j).any g))),(66,.pv (.lst 0 (ckR L))),(67,.pv (.int .i64 L.length)),(68,.pv (.int .i64 k)),(81,.pv (.lst 0 (mvs3 ms))),(82,.pv (.int .i64 ms.length)),(83,.pv (.int .i64 j))],⟨[(2,[.pv (.int .i64 a.states),.pv (.int .i64 a.start),.pv (.lst 0 (a.edges.map Edge.c)),.pv (.int .i64 b.states),.pv (.int .i64 b.start),.pv (.lst 0 (b.edges.map Edge.c)),.pv (.int .i64 cap)]),(14,[.pv (.int .i64 w.1.a),.pv (.int .i64 w.1.b),.pv (.lst 0 (ints w.1.toA)),.pv (.lst 0 (ints w.1.toB)),.pv (.int .i64 w.2)])],[],[valM (rkL L) (keysL L)]⟩⟩) (fun j => ∀ i m,i < j → ms[i]? = some m → (fidx L (afterC a b cap w.1.a w.1.b w.1.toA w.1.toB m).1).isSome = true) rfl (fun i m hi => absurd hi (by omega)) fun j hj hm => ?_
     simp (disch := omega) only [go_sem]
     refine Br.ofP (fun c3 => ?_) (fun c3 => ?_)
     ·obtain ⟨mv,hmv⟩ := get_at (l := ms) (k := j) (by omega)
      obtain ⟨z3,z4⟩ := hmvs mv (List.mem_of_getElem? hmv)
      have h174 := h174 mv
      unfold applyC at h174
      rw [if_pos hchk,if_pos z3] at h174
      have hgm : g mv = decide (rkC L (afterC a b cap w.1.a w.1.b w.1.toA w.1.toB mv).1 < w.2) := by rw [hg0]
      have htk : (ms.take (j + 1)).any g = ((ms.take j).any g || g mv) := by rw [List.take_add_one,hmv]; simp
      have hnom : (fidx L (afterC a b cap w.1.a w.1.b w.1.toA w.1.toB mv).1) = none → ¬ goodW a b cap L w := fun h1 h2 => by
       have := hgd h2 mv (List.mem_of_getElem? hmv)
       rw [h1] at this
       cases this
      have hrk : rkC L (afterC a b cap w.1.a w.1.b w.1.toA w.1.toB mv).1 = rkL L ((fidx L (afterC a b cap w.1.a w.1.b w.1.toA w.1.toB mv).1).getD 0) := rfl
      generalize hy : (afterC a b cap w.1.a w.1.b w.1.toA w.1.toB mv).1 = y at *
      have hkey := r251 0 0 y.a y.b y.toA y.toB z4
      have hkz := keysL_find L y
      cases hfy : fidx L y with
      | none =>
       rw [hfy] at hkz
       simp (disch := omega) only [go_sem,hmv,h174,hkey,find_valM,hkz,Option.map_none,foundT_none]
       rw [ckB_no fun h => hnom hfy (h.2.2.2 k w hw)]
      | some z =>
       rw [hfy] at hkz hrk
       rw [hrk] at hgm
       dsimp only [Option.getD_some] at hgm
       cases hB : (ms.take j).any g with
       | true =>
        rw [hB,Bool.true_or] at htk
        simp (disch := omega) only [go_sem,hmv,h174,hkey,find_valM,hkz,Option.map_some,foundT_some]
        refine .of (by omega) ?_ (pre_take hmv hm (by rw [hy,hfy]; rfl))
        rw [htk]
        rfl
       | false =>
        rw [hB,Bool.false_or,hgm] at htk
        simp (disch := omega) only [go_sem,hmv,h174,hkey,find_valM,hkz,Option.map_some,foundT_some]
        refine .of (by omega) ?_ (pre_take hmv hm (by rw [hy,hfy]; rfl))
        rw [htk]
        rfl
     ·have hjm : j = ms.length := by omega
      subst hjm
      rw [List.take_length]
      have hma : ∀ m ∈ ms,(fidx L (afterC a b cap w.1.a w.1.b w.1.toA w.1.toB m).1).isSome = true := fun m hmm => by
       obtain ⟨i,hii⟩ := List.getElem?_of_mem hmm
       exact pre_all (Nat.le_refl _) hm i m hii
      have hgi := hgd2 _ rfl hma
      have hno : ¬ goodW a b cap L w → ckB a b cap L = false := fun h => ckB_no fun h2 => h (h2.2.2.2 k w hw)
      by_cases hz : w.2 = 0
      ·have e1 : decide (w.2 = 0) = true := decide_eq_true hz
       have e2 : decide (0 < w.2) = false := decide_eq_false (by omega)
       cases hdn : doneB a b cap w.1.a w.1.b w.1.toA w.1.toB with
       | true =>
        rw [hdn] at h159
        simp (disch := omega) only [go_sem,e1,h159]
        exact .of (by omega) rfl (pre_take hw hg (hgi.2 (.inl ⟨hz,hdn⟩)))
       | false =>
        rw [hdn] at h159
        simp (disch := omega) only [go_sem,e1,e2,h159]
        rw [hno fun h => by
         rcases hgi.1 h with h | h
         ·rw [hdn] at h
          cases h.2
         ·omega]
      ·have e1 : decide (w.2 = 0) = false := decide_eq_false hz
       rcases Int.lt_or_le 0 w.2 with h0 | h0
       ·have e2 : decide (0 < w.2) = true := decide_eq_true h0
        cases hany : ms.any g with
        | true =>
         simp (disch := omega) only [go_sem,e1,e2]
         exact .of (by omega) rfl (pre_take hw hg (hgi.2 (.inr ⟨h0,hany⟩)))
        | false =>
         simp (disch := omega) only [go_sem,e1,e2]
         rw [hno fun h => by
          rcases hgi.1 h with h | h
          ·exact hz h.1
          ·rw [hany] at h
           cases h.2]
       ·have e2 : decide (0 < w.2) = false := decide_eq_false (by omega)
        simp (disch := omega) only [go_sem,e1,e2]
        rw [hno fun h => by
         rcases hgi.1 h with h | h
         ·exact hz h.1
         ·omega]
    ·simp (disch := omega) only [go_sem]
     rw [ckB_yes ⟨hs,hall,by rw [hn0]; rfl,pre_all (by omega) hg⟩]
 ·have hd : decide (sysErr a b cap = 0) = false := decide_eq_false hs
  simp (disch := omega) only [go_sem,hd]
  rw [ckB_no fun h => hs h.1]
end Go.Pv
