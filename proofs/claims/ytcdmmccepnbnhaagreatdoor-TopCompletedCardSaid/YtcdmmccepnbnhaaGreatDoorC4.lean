/-
 What the functions of the law give.
-/
import Derived.Test.YtcdmmccepnbnhaaGreatDoorC3
set_option linter.unusedSimpArgs false
set_option linter.unusedVariables false
namespace Go.Pv
def mvC (a b : Auto) (cap : Int) (c : Cfg) : List (Mov × Cfg) := (movesC a b cap c.a c.b c.toA c.toB).map fun m => (m,(afterC a b cap c.a c.b c.toA c.toB m).1)
theorem mvC_suc (a b : Auto) (cap : Int) (c : Cfg) : sucOf (mvC a b cap) c = sucC a b cap c := by simp [sucOf,mvC,sucC]
def posZ (out : List Nd) (c : Cfg) : Int := ((out.findIdx? fun y => decide (y.c = c)).getD 0 : Nat)
def NextOk (mv : Cfg → List (Mov × Cfg)) (out : List Nd) (x : Nd) (l : List Int) : Prop := l.length = (sucOf mv x.c).length ∧ ∀ (k : Nat) (c : Cfg),(sucOf mv x.c)[k]? = some c → ∃ (z : Nat) (y : Nd),l[k]? = some (z : Int) ∧ out[z]? = some y ∧ y.c = c
theorem NextOk.mono {mv : Cfg → List (Mov × Cfg)} {out out' : List Nd} {x : Nd} {l : List Int} (h : NextOk mv out x l) (hp : out <+: out') : NextOk mv out' x l :=
 ⟨h.1,fun k c hc => by
  obtain ⟨z,y,h1,h2,h3⟩ := h.2 k c hc
  exact ⟨z,y,h1,get_pre hp h2,h3⟩⟩
theorem pos_at {out : List Nd} (hn : (out.map Nod.c).Nodup) {z : Nat} {y : Nd} (hy : out[z]? = some y) : (out.findIdx? fun w => decide (w.c = y.c)) = some z := by
 have hz := (List.getElem?_eq_some_iff.1 hy).1
 have hyz := (List.getElem?_eq_some_iff.1 hy).2
 rw [List.findIdx?_eq_some_iff_getElem]
 refine ⟨hz,by rw [hyz]; simp,fun j hj => ?_⟩
 simp only [decide_eq_true_eq]
 intro e
 have h1 : (out.map Nod.c)[j]? = some y.c := by rw [List.getElem?_map,List.getElem?_eq_getElem (by omega)]; simp [e]
 have h2 : (out.map Nod.c)[z]? = some y.c := by rw [List.getElem?_map,hy]; rfl
 have := (List.getElem?_inj (by rw [List.length_map]; omega) hn).1 (h1.trans h2.symm)
 omega
theorem NextOk.eq {mv : Cfg → List (Mov × Cfg)} {out : List Nd} {x : Nd} {l : List Int} (h : NextOk mv out x l) (hn : (out.map Nod.c).Nodup) : l = (sucOf mv x.c).map (posZ out) := by
 apply List.ext_getElem?
 intro k
 rw [List.getElem?_map]
 cases hc : (sucOf mv x.c)[k]? with
 | none =>
  have := List.getElem?_eq_none_iff.1 hc
  rw [List.getElem?_eq_none (by rw [h.1]; exact this)]
  rfl
 | some c =>
  obtain ⟨z,y,h1,h2,h3⟩ := h.2 k c hc
  rw [h1]
  simp only [Option.map_some,posZ]
  rw [← h3,pos_at hn h2]
  rfl
def RowR (rest : List Arr) (x : V) (l : List Int) : Prop := (x = .tl [] ∧ l = []) ∨ ∃ id ver,x = .own (id + 3) ver 0 l.length ∧ rest[id]? = some ⟨ver,1,.inl (ints l)⟩ ∧ l ≠ []
def NxR (rest : List Arr) (x : V) (ls : List (List Int)) : Prop := (x = .tl [] ∧ ls = []) ∨ ∃ id ver xs,x = .own (id + 3) ver 0 ls.length ∧ rest[id]? = some ⟨ver,1,.inr (rowsV xs)⟩ ∧ xs.length = ls.length ∧ ls ≠ [] ∧ ∀ (j : Nat) (y : V) (l : List Int),xs[j]? = some y → ls[j]? = some l → RowR rest y l
def mvRows (ms : List (List Mov)) : List (List PV) := ms.map fun l => [.lst 0 (mvs3 l)]
def MvR (rest : List Arr) (x : V) (ms : List (List Mov)) : Prop := (x = .tl [] ∧ ms = []) ∨ ∃ id ver,x = .own (id + 3) ver 0 ms.length ∧ rest[id]? = some ⟨ver,1,.inl (mvRows ms)⟩ ∧ ms ≠ []
def NotInts (b : Arr) : Prop := ∀ (ver : Nat) (l : List Int),l ≠ [] → b ≠ ⟨ver,1,.inl (ints l)⟩
theorem notInts_inr (v k : Nat) (r : List (List V)) : NotInts ⟨v,k,.inr r⟩ := fun ver l _ e => by
 injection e with _ _ e
 cases e
theorem notInts_mv (v k : Nat) {ms : List (List Mov)} (hm : ms ≠ []) : NotInts ⟨v,k,.inl (mvRows ms)⟩ := fun ver l hl e => by
 obtain ⟨z,l',rfl⟩ := List.exists_cons_of_ne_nil hl
 obtain ⟨m,ms',rfl⟩ := List.exists_cons_of_ne_nil hm
 injection e with _ _ e
 simp [mvRows,ints] at e
theorem RowR.push {rest : List Arr} {x : V} {l : List Int} (h : RowR rest x l) (r : List Arr) : RowR (rest ++ r) x l := by
 rcases h with h | ⟨id,ver,h1,h2,h3⟩
 ·exact .inl h
 ·exact .inr ⟨id,ver,h1,by rw [List.getElem?_append_left (List.getElem?_eq_some_iff.1 h2).1]; exact h2,h3⟩
theorem RowR.set {rest : List Arr} {x : V} {l : List Int} (h : RowR rest x l) {j : Nat} {b b' : Arr} (hb : rest[j]? = some b) (hn : NotInts b) : RowR (rest.set j b') x l := by
 rcases h with h | ⟨id,ver,h1,h2,h3⟩
 ·exact .inl h
 ·refine .inr ⟨id,ver,h1,?_,h3⟩
  rw [List.getElem?_set_ne]
  ·exact h2
  ·intro e
   subst e
   rw [hb] at h2
   cases h2
   exact hn ver l h3 rfl
structure SpR (mv : Cfg → List (Mov × Cfg)) (out : List Nd) (i : Nat) (rest : List Arr) (mV nV : V) (ls : List (List Int)) : Prop where
 mr : MvR rest mV ((out.take i).map fun x => (mv x.c).map (·.1))
 nr : NxR rest nV ls
 ll : ls.length = i
 ok : ∀ (j : Nat) (x : Nd) (l : List Int),out[j]? = some x → ls[j]? = some l → NextOk mv out x l
theorem SpR.flat {mv : Cfg → List (Mov × Cfg)} {out : List Nd} {i : Nat} {rest : List Arr} {mV nV : V} {ls : List (List Int)} (h : SpR mv out i rest mV nV ls) (hi : i ≤ out.length) : Flat2 mV nV := by
 have hl : ((out.take i).map fun x => (mv x.c).map (·.1)).length = i := by rw [List.length_map,List.length_take]; omega
 rcases h.mr with ⟨h1,h2⟩ | ⟨id,ver,h1,_,h2⟩
 ·have h0 : i = 0 := by rw [← hl,h2]; rfl
  rcases h.nr with ⟨h3,h4⟩ | ⟨_,_,_,_,_,_,h4,_⟩
  ·exact .inl ⟨h1,h3⟩
  ·exact (h4 (List.eq_nil_of_length_eq_zero (by rw [h.ll,h0]))).elim
 ·have h0 : i ≠ 0 := fun e => h2 (List.eq_nil_of_length_eq_zero (by rw [hl,e]))
  rcases h.nr with ⟨h3,h4⟩ | ⟨id',ver',xs,h3,_,_,_,_⟩
  ·exact (h0 (by rw [← h.ll,h4]; rfl)).elim
  ·exact .inr ⟨_,_,_,_,_,_,h1,h3⟩
structure Sp30 (a b : Auto) (cap : Int) (p : Cfg → Prop) : Prop where
 nx : ∀ c,p c → ∀ x ∈ sucC a b cap c,p x
 ok : ∀ c,p c → c.ok
 fit : ∀ c,p c → fitsB a b cap c.a c.b c.toA c.toB = true
set_option maxHeartbeats 1000000 in
theorem r257 (x y : Int) (l m : List Int) (hl : l.length ≤ 2147483648) (hm : m.length ≤ 2147483648) : res A PrA 257 [.agg [.int .i64 x,.int .i64 y,.lst 0 (ints l),.lst 0 (ints m)]] = some [cfgP ⟨x,y,l,m⟩] := by
 refine res_of a257 rfl rfl ?_
 simp only [F257]; try delta sS tT zZ nN gG bB pZ
 rcases cloneIntsT hl 0 (by omega) with ⟨rfl,h1⟩ | ⟨h0,h1⟩ <;> rcases cloneIntsT hm 0 (by omega) with ⟨rfl,h2⟩ | ⟨g0,h2⟩
 ·simp (disch := omega) only [go_sem,h1,ints_nil]
 ·simp (disch := omega) only [go_sem,h1,h2,ints_nil,List.take_length]
 ·simp (disch := omega) only [go_sem,h1,h2,ints_nil,List.take_length]
 ·simp (disch := omega) only [go_sem,h1,h2,List.take_length]
def spc (a b : Auto) (cap : Int) (out : List Nd) : List PV := [.int .i64 a.states,.int .i64 a.start,.lst 0 (a.edges.map Edge.c),.int .i64 b.states,.int .i64 b.start,.lst 0 (b.edges.map Edge.c),.int .i64 cap,.lst 0 (cfgs (out.map Nod.c)),.lst 0 (mvRows (out.map fun x => movesC a b cap x.c.a x.c.b x.c.toA x.c.toB)),.lst 0 (lls (out.map fun x => (sucC a b cap x.c).map (posZ out))),.lst 0 (ints (out.map Nod.bef)),.lst 0 (mvs3 (out.map Nd.mv))]
theorem idx_dec {out : List Nd} {c : Cfg} (ho : ∀ x ∈ out,x.c.ok) (hc : c.ok) : ((keysN out).findIdx? fun s => decide (s = c.keyB)) = out.findIdx? fun x => decide (x.c = c) := by
 unfold keysN
 rw [List.findIdx?_map]
 induction out with
 | nil => rfl
 | cons x out ih =>
  have hx := ho x (List.mem_cons_self ..)
  have e : decide (x.c.keyB = c.keyB) = decide (x.c = c) := by
   by_cases h : x.c = c
   ·simp [h]
   ·simp only [h,decide_false,decide_eq_false_iff_not]
    exact fun e => h (keyB_inj hx hc e)
  simp only [List.findIdx?_cons,Function.comp_apply,e]
  split
  ·rfl
  ·have := ih (fun y hy => ho y (List.mem_cons_of_mem _ hy))
   rw [this]
theorem addDs_snoc {lim : Nat} : ∀ {l out : List Nd} {x : Nd},addDs lim out (l ++ [x]) = (addDs lim out l).bind fun o => if lim < (addD o x).length then none else some (addD o x)
 | [],out,x => by simp [addDs]
 | y :: l,out,x => by
  rw [List.cons_append]
  unfold addDs
  split
  ·rfl
  ·exact addDs_snoc
theorem addDs_none {lim : Nat} {out : List Nd} : ∀ {l : List Nd} (k : Nat),addDs lim out (l.take k) = none → addDs lim out l = none := by
 intro l k h
 have key : ∀ (l1 l2 : List Nd) (out : List Nd),addDs lim out l1 = none → addDs lim out (l1 ++ l2) = none := by
  intro l1
  induction l1 with
  | nil => intro l2 out h; cases h
  | cons c l1 ih =>
   intro l2 out h
   rw [List.cons_append]
   unfold addDs at h ⊢
   split
   ·rfl
   ·rename_i hc
    rw [if_neg hc] at h
    exact ih l2 _ h
 have := key (l.take k) (l.drop k) out h
 rwa [List.take_append_drop] at this
theorem addDs_some {lim : Nat} : ∀ {l out out' : List Nd},addDs lim out l = some out' → out <+: out' ∧ (∀ x,x ∈ out' → x ∈ out ∨ x ∈ l) ∧ (out.length ≤ lim → out'.length ≤ lim)
 | [],out,out',h => by
  cases h
  exact ⟨List.prefix_refl _,fun x hx => .inl hx,id⟩
 | c :: l,out,out',h => by
  unfold addDs at h
  split at h
  ·cases h
  ·rename_i hl
   obtain ⟨h1,h2,h4⟩ := addDs_some h
   refine ⟨addD_pre.trans h1,fun x hx => ?_,fun _ => h4 (by omega)⟩
   rcases h2 x hx with hx | hx
   ·unfold addD at hx
    split at hx
    ·exact .inl hx
    ·rcases List.mem_append.1 hx with hx | hx
     ·exact .inl hx
     ·rw [List.mem_singleton.1 hx]
      exact .inr (List.mem_cons_self ..)
   ·exact .inr (List.mem_cons_of_mem _ hx)
theorem take_pre {out o : List Nd} (hp : out <+: o) {i : Nat} {x : Nd} (hx : out[i]? = some x) : o.take (i + 1) = out.take i ++ [x] := by
 obtain ⟨r,rfl⟩ := hp
 have hi := (List.getElem?_eq_some_iff.1 hx).1
 rw [List.take_append_of_le_length (by omega),List.take_add_one,hx]
 rfl
theorem SpR.next {mv : Cfg → List (Mov × Cfg)} {out o : List Nd} {i : Nat} {rest T : List Arr} {mV nV mV' nV' : V} {ls : List (List Int)} {x : Nd} {l : List Int} (h : SpR mv out i rest mV nV ls) (hp : out <+: o) (hx : out[i]? = some x)
  (hm : MvR T mV' ((out.take i).map (fun x => (mv x.c).map (·.1)) ++ [(mv x.c).map (·.1)])) (hn : NxR T nV' (ls ++ [l])) (ho : NextOk mv o x l) : SpR mv o (i + 1) T mV' nV' (ls ++ [l]) where
 mr := by rw [take_pre hp hx,List.map_append]; exact hm
 nr := hn
 ll := by rw [List.length_append,h.ll]; rfl
 ok := fun j z k hz hk => by
  rcases Nat.lt_or_ge j i with hj | hj
  ·rw [List.getElem?_append_left (by rw [h.ll]; exact hj)] at hk
   have hjo : j < out.length := by have := (List.getElem?_eq_some_iff.1 hx).1; omega
   have hzo : out[j]? = some z := by
    have h1 := List.getElem?_eq_getElem hjo
    have h2 := get_pre hp h1
    rw [hz] at h2
    rw [h1,h2]
   exact (h.ok j z k hzo hk).mono hp
  ·have hj2 : j < i + 1 := by have := (List.getElem?_eq_some_iff.1 hk).1; rw [List.length_append,h.ll] at this; exact this
   obtain rfl : j = i := by omega
   rw [List.getElem?_append_right (by rw [h.ll]; exact Nat.le_refl _),h.ll,Nat.sub_self] at hk
   cases hk
   rw [get_pre hp hx] at hz
   cases hz
   exact ho
theorem mvRows_snoc (ms : List (List Mov)) (m : List Mov) : mvRows ms ++ [[.lst 0 (mvs3 m)]] = mvRows (ms ++ [m]) := by simp [mvRows]
theorem rows_snoc {T : List Arr} {xs : List V} {ls : List (List Int)} {y : V} {l : List Int} (hl : xs.length = ls.length) (h : ∀ (j : Nat) (z : V) (k : List Int),xs[j]? = some z → ls[j]? = some k → RowR T z k) (hy : RowR T y l) : ∀ (j : Nat) (z : V) (k : List Int),(xs ++ [y])[j]? = some z → (ls ++ [l])[j]? = some k → RowR T z k := fun j z k hz hk => by
 rcases Nat.lt_or_ge j ls.length with hj | hj
 ·rw [List.getElem?_append_left (by omega)] at hz hk
  exact h j z k hz hk
 ·rw [List.getElem?_append_right (by omega)] at hz hk
  have : j - ls.length = 0 := by have := (List.getElem?_eq_some_iff.1 hk).1; simpa using this
  rw [hl,this] at hz
  rw [this] at hk
  cases hz
  cases hk
  exact hy
theorem notInts_dead : NotInts ⟨0,0,.inl []⟩ := fun ver l _ e => by
 injection e with _ e _
 cases e
theorem MvR.keep {rest : List Arr} {x : V} {ms : List (List Mov)} (h : MvR rest x ms) (bx : List (Nat × List V)) (mp : List (List (PV × PV))) (A1 A2 A3 : Arr) (d : Nat) : keepc ⟨bx,A1 :: A2 :: A3 :: rest,mp⟩ (d + 1) x = some (.lst 0 (mvRows ms)) := by
 rcases h with ⟨rfl,rfl⟩ | ⟨id,ver,rfl,h2,_⟩
 ·rfl
 ·have e : (mvRows ms).length = ms.length := by simp [mvRows]
  simp [keepc_own,ownArr,h2,keepRows,cutRows,List.take_of_length_le (Nat.le_of_eq e)]
theorem RowR.keep {rest : List Arr} {x : V} {l : List Int} (h : RowR rest x l) (bx : List (Nat × List V)) (mp : List (List (PV × PV))) (A1 A2 A3 : Arr) (d : Nat) : keepc ⟨bx,A1 :: A2 :: A3 :: rest,mp⟩ (d + 1) x = some (.lst 0 (ints l)) := by
 rcases h with ⟨rfl,rfl⟩ | ⟨id,ver,rfl,h2,_⟩
 ·rfl
 ·have e : (ints l).length = l.length := ints_length l
  simp [keepc_own,ownArr,h2,keepRows,cutRows,List.take_of_length_le (Nat.le_of_eq e)]
theorem NxR.keep {rest : List Arr} {x : V} {ls : List (List Int)} (h : NxR rest x ls) (bx : List (Nat × List V)) (mp : List (List (PV × PV))) (A1 A2 A3 : Arr) (d : Nat) : keepc ⟨bx,A1 :: A2 :: A3 :: rest,mp⟩ (d + 2) x = some (.lst 0 (lls ls)) := by
 have key : ∀ (xs : List V) (s : List (List Int)),xs.length = s.length → (∀ (v : Nat) (x : V) (l : List Int),xs[v]? = some x → s[v]? = some l → RowR rest x l) → mapO (mapO (keepc ⟨bx,A1 :: A2 :: A3 :: rest,mp⟩ (d + 1))) (rowsV xs) = some (lls s) := by
  intro xs
  induction xs with
  | nil =>
   intro s hl _
   have : s = [] := List.eq_nil_of_length_eq_zero hl.symm
   subst this
   rfl
  | cons x xs ih =>
   intro s hl ho
   match s,hl with
   | l :: s,hl =>
    have h1 := (ho 0 x l rfl rfl).keep bx mp A1 A2 A3 d
    have h2 := ih s (by simpa using hl) fun v y m hy hm => ho (v + 1) y m (by simpa using hy) (by simpa using hm)
    show mapO (mapO (keepc ⟨bx,A1 :: A2 :: A3 :: rest,mp⟩ (d + 1))) ([x] :: rowsV xs) = some ([.lst 0 (ints l)] :: lls s)
    simp only [mapO,h1,h2]
 rcases h with ⟨rfl,rfl⟩ | ⟨id,ver,xs,rfl,h2,h3,_,h5⟩
 ·rfl
 ·have e : (rowsV xs).length = ls.length := by simp [rowsV,h3]
  have hk := key xs ls h3 h5
  simp [keepc_own,ownArr,h2,keepRows,cutRows,List.take_of_length_le (Nat.le_of_eq e),hk]
theorem beq_no {a b : Nat} (h : a ≠ b) : (a == b) = false := by simpa using h
theorem litAt_pv (h : Heap) (id : Nat) (r : List (List PV)) : litAtV h id 1 1 [.pv (.lst 0 r)] = some (.tl [[.lst 0 r]],{}) := by
 simp [litAtV,mkRows,chop,mapO,V.purec,PV.perm]
theorem litAt_row {h : Heap} {id : Nat} {y : V} (hy : y = .tl [] ∨ ∃ a b c d,y = .own a b c d) (hd : h.ar[id]? = some ⟨0,0,.inl []⟩) : litAtV h id 1 1 [y] = some (.own id 1 0 1,{ ar := some (id,⟨1,1,.inr (rowsV [y])⟩) }) := by
 rcases hy with rfl | ⟨a,b,c,d,rfl⟩ <;> simp [litAtV,mkRows,chop,mapO,V.purec,hd,V.calm,rowsV]
theorem appAt_tl {h : Heap} {id : Nat} {r : List PV} (hr : r.length = 1) (hd : h.ar[id]? = some ⟨0,0,.inl []⟩) : appendAt h id 1 (.tl []) (.tl [r]) = some (.own id 1 0 1,{ ar := some (id,⟨1,1,.inl [r]⟩) }) := by
 simp [appendAt,srcRows,rowsFit,rowsLen,hd,hr,catRows,mostRows]
theorem appAt_own {h : Heap} {id i ver len : Nat} {rows : List (List PV)} {r : List PV} (ho : ownArr h i ver = some ⟨ver,1,.inl rows⟩) (hl : rows.length = len) (hr : r.length = 1) (hm : len + 1 ≤ 2147483648) : appendAt h id 1 (.own i ver 0 len) (.tl [r]) = some (.own i (ver + 1) 0 (len + 1),{ ar := some (i,⟨ver + 1,1,.inl (rows ++ [r])⟩) }) := by
 have h2 : rows.take len = rows := List.take_of_length_le (by omega)
 simp [appendAt,appendV,srcRows,rowsFit,rowsLen,hr,ho,cutRows,catRows,mostRows,Arr.size,hl,h2,hm]
theorem appAt_tlR {h : Heap} {id lid : Nat} {y : V} (hl : ownArr h lid 1 = some ⟨1,1,.inr (rowsV [y])⟩) (hd : h.ar[id]? = some ⟨0,0,.inl []⟩) : appendAt h id 1 (.tl []) (.own lid 1 0 1) = some (.own id 1 0 1,{ ar := some (id,⟨1,1,.inr (rowsV [y])⟩),ra := some lid }) := by
 simp [appendAt,srcRows,hl,cutRows,rowsFit,rowsLen,catRows,mostRows,rowsV,hd]
theorem appAt_ownR {h : Heap} {id lid i ver m : Nat} {y : V} {xs : List V} (hl : ownArr h lid 1 = some ⟨1,1,.inr (rowsV [y])⟩) (ho : ownArr h i ver = some ⟨ver,1,.inr (rowsV xs)⟩) (hx : xs.length = m) (hm : m + 1 ≤ 2147483648) (hne : lid ≠ i) : appendAt h id 1 (.own i ver 0 m) (.own lid 1 0 1) = some (.own i (ver + 1) 0 (m + 1),{ ar := some (i,⟨ver + 1,1,.inr (rowsV (xs ++ [y]))⟩),ra := some lid }) := by
 have h1 : m ≤ (⟨ver,1,.inr (rowsV xs)⟩ : Arr).size := by simp [Arr.size,rowsV,hx]
 have h2 : (rowsV xs).take m = rowsV xs := List.take_of_length_le (by simp [rowsV,hx])
 have h3 : (rowsV [y]).take 1 = rowsV [y] := rfl
 simp [appendAt,appendV,srcRows,hl,ho,cutRows,rowsFit,rowsLen,catRows,mostRows,h1,hne,h2,h3]
 simp [rowsV]
 omega
set_option maxHeartbeats 16000000 in
theorem r253 (a b : Auto) (cap : Int) (c0 : Cfg) {p : Cfg → Prop} (hp : Sp30 a b cap p) (h0 : p c0) (ha : a.edges.length ≤ 1000000) (hb : b.edges.length ≤ 1000000) (hs : sysErr a b cap = 0) : res A PrA 253 [.agg [.int .i64 a.states,.int .i64 a.start,.lst 0 (a.edges.map Edge.c),.int .i64 b.states,.int .i64 b.start,.lst 0 (b.edges.map Edge.c),.int .i64 cap],.agg [.int .i64 c0.a,.int .i64 c0.b,.lst 0 (ints c0.toA),.lst 0 (ints c0.toB)]] = some (match nodL (mvC a b cap) 5000 5002 [nod0 c0] 0 with | some out => [.ro 0 (spc a b cap out),.int .i64 0] | none => [.nilp,.int .i64 3]) := by
 refine res_of a253 rfl rfl ?_
 simp only [F253]; try delta sS tT zZ nN gG bB pZ
 generalize hR : (match nodL (mvC a b cap) 5000 5002 [nod0 c0] 0 with | some out => [PV.ro 0 (spc a b cap out),.int .i64 0] | none => [.nilp,.int .i64 3]) = R
 have hok0 := hp.ok c0 h0
 obtain ⟨k1,k2,k3,k4,k5,k6⟩ := hok0
 have h257 := r257 c0.a c0.b c0.toA c0.toB (by omega) (by omega)
 simp (disch := omega) only [go_sem,h257]
 refine call0 (add0 a b cap c0 (-1) ⟨0,false,0⟩ (hp.ok c0 h0) _ fun env => back256 (.inl ⟨rfl,rfl⟩) ?_)
 simp only [cellsX]
 simp (disch := omega) only [go_sem]
 refine W.loop (α := List Nd × Nat × List Arr × V × V × List (List Int)) (fun q => ⟨[(2,.ptr 100002 0),(6,.ptr 100006 0),(8,.func 256 [.ptr 100007 0,.ptr 100006 0]),(9,.pv (.int .i64 q.2.1))],
   ⟨pinX [.pv (.int .i64 a.states),.pv (.int .i64 a.start),.pv (.lst 0 (a.edges.map Edge.c)),.pv (.int .i64 b.states),.pv (.int .i64 b.start),.pv (.lst 0 (b.edges.map Edge.c)),.pv (.int .i64 cap)] [.pv (.int .i64 c0.a),.pv (.int .i64 c0.b),.pv (.lst 0 (ints c0.toA)),.pv (.lst 0 (ints c0.toB))] (cellsX a b cap (.own 0 (q.1.length - 1) 0 (q.1.length - 1 + 1)) q.2.2.2.1 q.2.2.2.2.1 (.own 1 (q.1.length - 1) 0 (q.1.length - 1 + 1)) (.own 2 (q.1.length - 1) 0 (q.1.length - 1 + 1))),
    arX (q.1.length - 1) q.1 q.2.2.1,[idxM (keysN q.1)]⟩⟩)
  (fun q => (∀ x ∈ q.1,p x.c) ∧ 1 ≤ q.1.length ∧ q.1.length ≤ 5000 ∧ q.2.1 ≤ q.1.length ∧ (q.1.map Nod.c).Nodup ∧ nodL (mvC a b cap) 5000 5002 [nod0 c0] 0 = nodL (mvC a b cap) 5000 (5002 - q.2.1) q.1 q.2.1 ∧ SpR (mvC a b cap) q.1 q.2.1 q.2.2.1 q.2.2.2.1 q.2.2.2.2.1 q.2.2.2.2.2) (fun q => 5001 - q.2.1)
  ([nod0 c0],0,[],.tl [],.tl [],[]) rfl ⟨fun x hx => by rw [List.mem_singleton.1 hx]; exact h0,by simp,by simp,by simp,by simp,rfl,⟨.inl ⟨rfl,rfl⟩,.inl ⟨rfl,rfl⟩,rfl,fun j x l _ hl => by simp at hl⟩⟩ fun q hq => ?_
 obtain ⟨out,i,rest,mV,nV,ls⟩ := q
 obtain ⟨q1,q2,q3,q4,q5,q6,q7⟩ := hq
 simp only at q1 q2 q3 q4 q5 q6 q7 ⊢
 obtain ⟨m,hm⟩ : ∃ m,out.length = m + 1 := ⟨out.length - 1,by omega⟩
 have hfl := q7.flat q4
 rw [hm,Nat.add_sub_cancel]
 simp only [pinX,cellsX,arX]
 simp (disch := omega) only [go_sem]
 refine Br.ofP (fun c1 => ?_) (fun c1 => ?_)
 ·obtain ⟨x,hx⟩ := get_at (l := out) (k := i) (by omega)
  have hpx := q1 x (List.mem_of_getElem? hx)
  obtain ⟨x1,x2,x3,x4,x5,x6⟩ := hp.ok _ hpx
  have hfit := hp.fit _ hpx
  have h171 := r171 a b cap x.c.a x.c.b x.c.toA x.c.toB (by omega) (by omega) (by omega) (by omega)
  rw [chkE_yes hs hfit,if_pos rfl] at h171
  have hcg : (cfgs (out.map Nod.c))[i]? = some [.int .i64 x.c.a,.int .i64 x.c.b,.lst 0 (ints x.c.toA),.lst 0 (ints x.c.toB)] := by rw [cfgs_get,List.getElem?_map,hx]; rfl
  have hml : (movesC a b cap x.c.a x.c.b x.c.toA x.c.toB).length ≤ 2000000 := by
   have h1 := mvsOf_len a b cap x.c.a x.c.b x.c.toA x.c.toB 0 x.c.a a.edges
   have h2 := mvsOf_len a b cap x.c.a x.c.b x.c.toA x.c.toB 1 x.c.b b.edges
   rw [movesC,List.length_append]
   omega
  have hmvs : mvC a b cap x.c = (movesC a b cap x.c.a x.c.b x.c.toA x.c.toB).map fun m => (m,(afterC a b cap x.c.a x.c.b x.c.toA x.c.toB m).1) := rfl
  have hafter : ∀ mv ∈ movesC a b cap x.c.a x.c.b x.c.toA x.c.toB,(afterC a b cap x.c.a x.c.b x.c.toA x.c.toB mv).2 = true := fun mv h => (movesC_mem h).1
  have h174 := fun mv => r174 a b cap x.c.a x.c.b x.c.toA x.c.toB mv (by omega) (by omega) (by omega) (by omega)
  have happ : ∀ mv ∈ movesC a b cap x.c.a x.c.b x.c.toA x.c.toB,applyC a b cap x.c.a x.c.b x.c.toA x.c.toB mv = [cfgP (afterC a b cap x.c.a x.c.b x.c.toA x.c.toB mv).1,.int .i64 0] := fun mv h => by
   unfold applyC
   rw [if_pos (chkE_yes hs hfit),if_pos (hafter mv h)]
  simp (disch := omega) only [go_sem,hcg,h171]
  generalize hms : movesC a b cap x.c.a x.c.b x.c.toA x.c.toB = ms at *
  have hsl : (sucD (mvC a b cap) i x).length = ms.length := by simp [sucD,hmvs]
  refine W.loop (α := List Nd × Nat × List Int) (fun q => ⟨[(2,.ptr 100002 0),(6,.ptr 100006 0),(8,.func 256 [.ptr 100007 0,.ptr 100006 0]),(9,.pv (.int .i64 i)),(10,.pv (.lst 0 (mvs3 ms))),(12,grV (rest.length + 3) (ints q.2.2)),(51,.pv (.lst 0 (mvs3 ms))),(52,.pv (.int .i64 ms.length)),(53,.pv (.int .i64 q.2.1))],
   ⟨pinX [.pv (.int .i64 a.states),.pv (.int .i64 a.start),.pv (.lst 0 (a.edges.map Edge.c)),.pv (.int .i64 b.states),.pv (.int .i64 b.start),.pv (.lst 0 (b.edges.map Edge.c)),.pv (.int .i64 cap)] [.pv (.int .i64 c0.a),.pv (.int .i64 c0.b),.pv (.lst 0 (ints c0.toA)),.pv (.lst 0 (ints c0.toB))] (cellsX a b cap (.own 0 (q.1.length - 1) 0 (q.1.length - 1 + 1)) mV nV (.own 1 (q.1.length - 1) 0 (q.1.length - 1 + 1)) (.own 2 (q.1.length - 1) 0 (q.1.length - 1 + 1))),
    arX (q.1.length - 1) q.1 (rest ++ grA 1 (ints q.2.2)),[idxM (keysN q.1)]⟩⟩)
   (fun q => q.2.1 ≤ ms.length ∧ addDs 5000 out ((sucD (mvC a b cap) i x).take q.2.1) = some q.1 ∧ (q.1.map Nod.c).Nodup ∧ q.2.2.length = q.2.1 ∧ ∀ (j : Nat) (y : Nd),j < q.2.1 → (sucD (mvC a b cap) i x)[j]? = some y → ∃ (z : Nat) (w : Nd),q.2.2[j]? = some (z : Int) ∧ q.1[z]? = some w ∧ w.c = y.c) (fun q => ms.length - q.2.1)
   (out,0,[]) (by simp only [hm,Nat.add_sub_cancel,pinX,cellsX,arX,ints_nil,grV,grA,List.append_nil]; rfl) ⟨Nat.zero_le _,rfl,q5,rfl,fun j y hj => (Nat.not_lt_zero _ hj).elim⟩ fun q hq => ?_
  obtain ⟨o,k,l⟩ := q
  obtain ⟨y1,y2,y3,y4,y5⟩ := hq
  simp only at y1 y2 y3 y4 y5 ⊢
  obtain ⟨z1,z2,z3⟩ := addDs_some y2
  have z4 := z3 q3
  have z5 := z1.length_le
  obtain ⟨mo,hmo⟩ : ∃ mo,o.length = mo + 1 := ⟨o.length - 1,by omega⟩
  rw [hmo,Nat.add_sub_cancel]
  simp only [pinX,cellsX,arX]
  have hpo : ∀ y ∈ o,p y.c := fun y hy => (z2 y hy).elim (q1 y) fun hy => by
   obtain ⟨w,hw,rfl⟩ := List.mem_map.1 (List.mem_of_mem_take hy)
   exact hp.nx _ hpx _ (by rw [← mvC_suc]; exact List.mem_map.2 ⟨w,hw,rfl⟩)
  have ho : o[i]? = some x := get_pre z1 hx
  simp (disch := omega) only [go_sem]
  refine Br.ofP (fun c2 => ?_) (fun c2 => ?_)
  ·obtain ⟨mv,hmv⟩ := get_at (l := ms) (k := k) (by omega)
   have hog : (cfgs (o.map Nod.c))[i]? = some [.int .i64 x.c.a,.int .i64 x.c.b,.lst 0 (ints x.c.toA),.lst 0 (ints x.c.toB)] := by rw [cfgs_get,List.getElem?_map,ho]; rfl
   have h174 := h174 mv
   rw [happ mv (List.mem_of_getElem? hmv)] at h174
   have hdg : (sucD (mvC a b cap) i x)[k]? = some ⟨(afterC a b cap x.c.a x.c.b x.c.toA x.c.toB mv).1,(i : Int),some mv,x.path ++ [mv]⟩ := by simp [sucD,hmvs,hmv]
   generalize (afterC a b cap x.c.a x.c.b x.c.toA x.c.toB mv).1 = d at *
   have hdp : p d := hp.nx _ hpx _ (by rw [← mvC_suc,← sucD_map (mvC a b cap) i x]; exact List.mem_map.2 ⟨_,List.mem_of_getElem? hdg,rfl⟩)
   have hdok := hp.ok _ hdp
   have hidx := idx_dec (fun y hy => hp.ok _ (hpo y hy)) hdok
   have hnext : addDs 5000 out ((sucD (mvC a b cap) i x).take (k + 1)) = if 5000 < (addD o ⟨d,(i : Int),some mv,x.path ++ [mv]⟩).length then none else some (addD o ⟨d,(i : Int),some mv,x.path ++ [mv]⟩) := by
    rw [List.take_add_one,hdg,Option.toList_some,addDs_snoc,y2]
    rfl
   have gr : ∀ bx mp A1 A2 A3 (z : Int),appendV ⟨bx,A1 :: A2 :: A3 :: (rest ++ grA 1 (ints l)),mp⟩ 1 (grV (rest.length + 3) (ints l)) (.tl [[.int .i64 z]]) = some (grV (rest.length + 3) (ints (l ++ [z])),grT (rest.length + 3) 1 (ints l) [.int .i64 z]) := fun bx mp A1 A2 A3 z => by
    have := grow bx mp (A1 :: A2 :: A3 :: rest) 1 (ints l) [.int .i64 z] rfl (by rw [ints_length]; omega)
    rw [ints_snoc] at this
    exact this
   have ga : ∀ bx mp A1 A2 A3 (z : Int),(grT (rest.length + 3) 1 (ints l) [.int .i64 z]).apply ⟨bx,A1 :: A2 :: A3 :: (rest ++ grA 1 (ints l)),mp⟩ = ⟨bx,A1 :: A2 :: A3 :: (rest ++ grA 1 (ints (l ++ [z]))),mp⟩ := fun bx mp A1 A2 A3 z => by
    have := grT_apply bx mp (A1 :: A2 :: A3 :: rest) 1 (ints l) [.int .i64 z]
    rw [ints_snoc] at this
    exact this
   simp (disch := omega) only [go_sem,hmv,hog,h174]
   cases hj : (o.findIdx? fun y => decide (y.c = d)) with
   | some z =>
    rw [hj] at hidx
    refine call256 hfl (add256 a b cap mo mV nV (rest ++ grA 1 (ints l)) o d i mv (x.path ++ [mv]) hdok _ hmo (by omega) (some z) hidx fun env => back256 hfl ?_)
    simp only [cellsX,arX]
    simp (disch := omega) only [go_sem,gr,ga]
    obtain ⟨hz,hzc,_⟩ := List.findIdx?_eq_some_iff_getElem.1 hj
    have hzo : o[z]? = some o[z] := List.getElem?_eq_getElem hz
    have hzd : (o[z]).c = d := by simpa using hzc
    have hin : addD o ⟨d,(i : Int),some mv,x.path ++ [mv]⟩ = o := if_pos (List.mem_map.2 ⟨_,List.mem_of_getElem? hzo,hzd⟩)
    rw [hin,if_neg (by omega)] at hnext
    refine Br.ofP (fun c3 => by omega) (fun c3 => ?_)
    simp (disch := omega) only [go_sem]
    refine ⟨(o,k + 1,l ++ [(z : Int)]),⟨by dsimp only; omega,hnext,y3,by simp [y4],fun j y hj hy => ?_⟩,by dsimp only; omega,by simp only [hmo,Nat.add_sub_cancel]; rfl⟩
    dsimp only at hj ⊢
    rcases Nat.lt_or_ge j k with hjk | hjk
    ·obtain ⟨z',w,e1,e2,e3⟩ := y5 j y hjk hy
     exact ⟨z',w,by rw [List.getElem?_append_left (by omega)]; exact e1,e2,e3⟩
    ·obtain rfl : j = k := by omega
     rw [hdg] at hy
     cases hy
     exact ⟨z,_,by rw [List.getElem?_append_right (by omega),y4]; simp,hzo,hzd⟩
   | none =>
    rw [hj] at hidx
    refine call256 hfl (add256 a b cap mo mV nV (rest ++ grA 1 (ints l)) o d i mv (x.path ++ [mv]) hdok _ hmo (by omega) none hidx fun env => back256 hfl ?_)
    simp only [cellsX,arX]
    simp (disch := omega) only [go_sem,gr,ga]
    have hnd : d ∉ o.map Nod.c := fun hm' => by
     obtain ⟨w,hw,hwd⟩ := List.mem_map.1 hm'
     have := List.findIdx?_eq_none_iff.1 hj w hw
     simp [hwd] at this
    have hin : addD o ⟨d,(i : Int),some mv,x.path ++ [mv]⟩ = o ++ [⟨d,(i : Int),some mv,x.path ++ [mv]⟩] := if_neg hnd
    have hlen : (o ++ [(⟨d,(i : Int),some mv,x.path ++ [mv]⟩ : Nd)]).length = mo + 1 + 1 := by simp [hmo]
    rw [hin,hlen] at hnext
    refine Br.ofP (fun c3 => ?_) (fun c3 => ?_)
    ·rw [if_pos (by omega)] at hnext
     have hno : nodL (mvC a b cap) 5000 5002 [nod0 c0] 0 = none := by
      rw [q6,show 5002 - i = (5001 - i) + 1 by omega]
      unfold nodL
      rw [hx]
      simp only
      rw [addDs_none (k + 1) hnext]
     rw [hno] at hR
     simp (disch := omega) only [go_sem]
     rw [← hR]
    ·rw [if_neg (by omega)] at hnext
     simp (disch := omega) only [go_sem]
     refine ⟨(o ++ [⟨d,(i : Int),some mv,x.path ++ [mv]⟩],k + 1,l ++ [((mo + 1 : Nat) : Int)]),⟨by dsimp only; omega,hnext,?_,by simp [y4],fun j y hj hy => ?_⟩,by dsimp only; omega,by simp only [hlen,Nat.add_sub_cancel]; rfl⟩
     ·dsimp only
      rw [List.map_append,List.nodup_append]
      exact ⟨y3,by simp,fun a' ha' b' hb' => by
       simp only [List.map_cons,List.map_nil,List.mem_singleton] at hb'
       rw [hb']
       exact fun e => hnd (e ▸ ha')⟩
     ·dsimp only at hj ⊢
      rcases Nat.lt_or_ge j k with hjk | hjk
      ·obtain ⟨z',w,e1,e2,e3⟩ := y5 j y hjk hy
       exact ⟨z',w,by rw [List.getElem?_append_left (by omega)]; exact e1,get_pre (List.prefix_append _ _) e2,e3⟩
      ·obtain rfl : j = k := by omega
       rw [hdg] at hy
       cases hy
       exact ⟨mo + 1,_,by rw [List.getElem?_append_right (by omega),y4]; simp,by rw [List.getElem?_append_right (by omega),hmo]; simp,rfl⟩
  ·obtain rfl : k = ms.length := by omega
   have hyf : grV (rest.length + 3) (ints l) = .tl [] ∨ ∃ a b c d,grV (rest.length + 3) (ints l) = .own a b c d := by
    cases l with
    | nil => exact .inl rfl
    | cons z l => exact .inr ⟨_,_,_,_,rfl⟩
   have hRow : RowR (rest ++ grA 1 (ints l)) (grV (rest.length + 3) (ints l)) l := by
    cases l with
    | nil => exact .inl ⟨rfl,rfl⟩
    | cons z l =>
     refine .inr ⟨rest.length,l.length,?_,?_,by simp⟩
     ·simp [ints,grV]
     ·simp [ints,grA]
   have hstep : nodL (mvC a b cap) 5000 5002 [nod0 c0] 0 = nodL (mvC a b cap) 5000 (5002 - (i + 1)) o (i + 1) := by
    rw [q6,show 5002 - i = (5002 - (i + 1)) + 1 by omega,nodL,hx]
    simp only
    rw [List.take_of_length_le (by omega)] at y2
    rw [y2]
   have hmsm : (mvC a b cap x.c).map (·.1) = ms := by simp [hmvs,Function.comp_def]
   have hnok : NextOk (mvC a b cap) o x l := ⟨by rw [y4,← sucD_map (mvC a b cap) i x,List.length_map,hsl],fun j c hc => by
    rw [← sucD_map (mvC a b cap) i x,List.getElem?_map] at hc
    obtain ⟨y,hy,rfl⟩ := Option.map_eq_some_iff.1 hc
    exact y5 j y (by rw [← hsl]; exact (List.getElem?_eq_some_iff.1 hy).1) hy⟩
   simp (disch := omega) only [go_sem]
   rw [show rest.length + (grA 1 (ints l)).length = (rest ++ grA 1 (ints l)).length by simp]
   have hll := q7.ll
   have hsp := q7
   obtain ⟨R1,hR1⟩ : ∃ R1,R1 = rest ++ grA 1 (ints l) := ⟨_,rfl⟩
   rw [← hR1] at hRow ⊢
   generalize hy : grV (rest.length + 3) (ints l) = y at *
   have hys : y.sized = true := by rcases hyf with rfl | ⟨_,_,_,_,rfl⟩ <;> rfl
   have hyc : y.cells = [y] := by rcases hyf with rfl | ⟨_,_,_,_,rfl⟩ <;> rfl
   obtain ⟨n1,hn1⟩ : ∃ n1,R1.length = n1 := ⟨_,rfl⟩
   rw [hn1]
   obtain ⟨T0,hT0⟩ : ∃ T0,T0 = R1 ++ [(⟨0,0,.inl []⟩ : Arr),⟨0,0,.inl []⟩,⟨0,0,.inl []⟩,⟨0,0,.inl []⟩] := ⟨_,rfl⟩
   rw [← hT0]
   have t0 : T0[n1]? = some ⟨0,0,.inl []⟩ := by rw [hT0,← hn1]; simp
   have t1 : T0[n1 + 1]? = some ⟨0,0,.inl []⟩ := by rw [hT0,← hn1,List.getElem?_append_right (by omega)]; simp
   have t2 : T0[n1 + 2]? = some ⟨0,0,.inl []⟩ := by rw [hT0,← hn1,List.getElem?_append_right (by omega)]; simp
   have t3 : T0[n1 + 3]? = some ⟨0,0,.inl []⟩ := by rw [hT0,← hn1,List.getElem?_append_right (by omega)]; simp
   have tl0 : T0.length = n1 + 4 := by rw [hT0,← hn1]; simp
   have tr : ∀ (j : Nat) (b : Arr),rest[j]? = some b → T0[j]? = some b ∧ j < n1 := fun j b hb => by
    have := (List.getElem?_eq_some_iff.1 hb).1
    have hlt : j < R1.length := by rw [hR1,List.length_append]; omega
    refine ⟨?_,by omega⟩
    rw [hT0,List.getElem?_append_left hlt,hR1,List.getElem?_append_left this]
    exact hb
   rcases q7.nr with ⟨hnV,hls⟩ | ⟨nid,nver,xs,hnV,n2,n3,n4,n5⟩
   ·obtain rfl : i = 0 := by rw [← hll,hls]; rfl
    obtain rfl : mV = .tl [] := by
     rcases q7.mr with ⟨h,_⟩ | ⟨_,_,_,_,h⟩
     ·exact h
     ·simp at h
    subst hnV
    have e96 : ∀ bx mp A1 A2 A3,appendAt ⟨bx,A1 :: A2 :: A3 :: T0,mp⟩ (n1 + 1 + 1 + 1 + 1) 1 (.tl []) (.tl [[.lst 0 (mvs3 ms)]]) = some (.own (n1 + 1 + 1 + 1 + 1) 1 0 1,{ ar := some (n1 + 1 + 1 + 1 + 1,⟨1,1,.inl [[.lst 0 (mvs3 ms)]]⟩) }) := fun bx mp A1 A2 A3 => appAt_tl rfl (by simpa using t1)
    have e102 : ∀ bx mp A1 A2 A3,litAtV ⟨bx,A1 :: A2 :: A3 :: T0.set (n1 + 1) ⟨1,1,.inl [[.lst 0 (mvs3 ms)]]⟩,mp⟩ (n1 + 1 + 1 + 1 + 1 + 1) 1 1 [y] = some (.own (n1 + 1 + 1 + 1 + 1 + 1) 1 0 1,{ ar := some (n1 + 1 + 1 + 1 + 1 + 1,⟨1,1,.inr (rowsV [y])⟩) }) := fun bx mp A1 A2 A3 => litAt_row hyf (by simpa [List.getElem?_set] using t2)
    have e103 : ∀ bx mp A1 A2 A3,appendAt ⟨bx,A1 :: A2 :: A3 :: (T0.set (n1 + 1) ⟨1,1,.inl [[.lst 0 (mvs3 ms)]]⟩).set (n1 + 1 + 1) ⟨1,1,.inr (rowsV [y])⟩,mp⟩ (n1 + 1 + 1 + 1 + 1 + 1 + 1) 1 (.tl []) (.own (n1 + 1 + 1 + 1 + 1 + 1) 1 0 1) = some (.own (n1 + 1 + 1 + 1 + 1 + 1 + 1) 1 0 1,{ ar := some (n1 + 1 + 1 + 1 + 1 + 1 + 1,⟨1,1,.inr (rowsV [y])⟩),ra := some (n1 + 1 + 1 + 1 + 1 + 1) }) := fun bx mp A1 A2 A3 => appAt_tlR (by simp [ownArr,tl0]) (by simpa [List.getElem?_set] using t3)
    simp (disch := omega) only [go_sem,litAt_pv,e96,e102,e103,hys,hyc,beq_no,Bool.not_false,Bool.and_self]
    refine ⟨(o,1,((T0.set (n1 + 1) ⟨1,1,.inl [[.lst 0 (mvs3 ms)]]⟩).set (n1 + 2) ⟨1,1,.inr (rowsV [y])⟩).set (n1 + 3) ⟨1,1,.inr (rowsV [y])⟩,.own (n1 + 1 + 3) 1 0 1,.own (n1 + 3 + 3) 1 0 1,ls ++ [l]),⟨hpo,by dsimp only; omega,z4,by dsimp only; omega,y3,?_,?_⟩,by dsimp only; omega,by simp only [hmo,Nat.add_sub_cancel]; rfl⟩
    ·exact hstep
    ·refine hsp.next z1 hx ?_ ?_ hnok
     ·rw [hmsm]
      refine .inr ⟨n1 + 1,1,rfl,?_,by simp⟩
      simp [tl0,mvRows]
     ·rw [hls]
      refine .inr ⟨n1 + 3,1,[y],rfl,?_,rfl,by simp,rows_snoc (xs := []) rfl (fun j z k hz => by simp at hz) ?_⟩
      ·simp [tl0]
      ·have w1 : RowR T0 y l := by rw [hT0]; exact hRow.push _
       have w2 := w1.set (b' := ⟨1,1,.inl [[.lst 0 (mvs3 ms)]]⟩) t1 notInts_dead
       have w3 := w2.set (j := n1 + 2) (b := ⟨0,0,.inl []⟩) (b' := ⟨1,1,.inr (rowsV [y])⟩) (by simpa [List.getElem?_set] using t2) notInts_dead
       exact w3.set (j := n1 + 3) (b := ⟨0,0,.inl []⟩) (by simpa [List.getElem?_set] using t3) notInts_dead
   ·have hMl : ((out.take i).map fun x => (mvC a b cap x.c).map (·.1)).length = i := by rw [List.length_map,List.length_take]; omega
    have hi0 : i ≠ 0 := fun e => n4 (List.eq_nil_of_length_eq_zero (by rw [hll,e]))
    obtain ⟨mid,mver,hmV,m2,m3⟩ : ∃ id ver,mV = .own (id + 3) ver 0 i ∧ rest[id]? = some ⟨ver,1,.inl (mvRows ((out.take i).map fun x => (mvC a b cap x.c).map (·.1)))⟩ ∧ ((out.take i).map fun x => (mvC a b cap x.c).map (·.1)) ≠ [] := by
     rcases q7.mr with ⟨_,h⟩ | ⟨id,ver,h1,h2,h3⟩
     ·exact (hi0 (by rw [← hMl,h]; rfl)).elim
     ·rw [hMl] at h1
      exact ⟨id,ver,h1,h2,h3⟩
    generalize hM : ((out.take i).map fun x => (mvC a b cap x.c).map (·.1)) = M at *
    subst hmV
    rw [hll] at hnV
    subst hnV
    obtain ⟨g1,g2⟩ := tr _ _ m2
    obtain ⟨g3,g4⟩ := tr _ _ n2
    have hne : mid ≠ nid := fun e => by
     rw [e,g3] at g1
     cases g1
    have hrl : (mvRows M).length = i := by simp [mvRows,hMl]
    have hnl : nid < T0.length := by omega
    have hml2 : mid < T0.length := by omega
    have e96 : ∀ bx mp A1 A2 A3,appendAt ⟨bx,A1 :: A2 :: A3 :: T0,mp⟩ (n1 + 1 + 1 + 1 + 1) 1 (.own (mid + 3) mver 0 i) (.tl [[.lst 0 (mvs3 ms)]]) = some (.own (mid + 3) (mver + 1) 0 (i + 1),{ ar := some (mid + 3,⟨mver + 1,1,.inl (mvRows M ++ [[.lst 0 (mvs3 ms)]])⟩) }) := fun bx mp A1 A2 A3 => appAt_own (by simp [ownArr,g1]) hrl rfl (by omega)
    have e102 : ∀ bx mp A1 A2 A3,litAtV ⟨bx,A1 :: A2 :: A3 :: T0.set mid ⟨mver + 1,1,.inl (mvRows M ++ [[.lst 0 (mvs3 ms)]])⟩,mp⟩ (n1 + 1 + 1 + 1 + 1 + 1) 1 1 [y] = some (.own (n1 + 1 + 1 + 1 + 1 + 1) 1 0 1,{ ar := some (n1 + 1 + 1 + 1 + 1 + 1,⟨1,1,.inr (rowsV [y])⟩) }) := fun bx mp A1 A2 A3 => litAt_row hyf (by
     have : mid ≠ n1 + 2 := by omega
     simpa [List.getElem?_set,this] using t2)
    have g5 : ((T0.set mid ⟨mver + 1,1,.inl (mvRows M ++ [[.lst 0 (mvs3 ms)]])⟩).set (n1 + 2) ⟨1,1,.inr (rowsV [y])⟩)[nid]? = some ⟨nver,1,.inr (rowsV xs)⟩ := by
     have h1 : n1 + 2 ≠ nid := by omega
     simpa [List.getElem?_set,h1,hne] using g3
    have g6 : ((T0.set mid ⟨mver + 1,1,.inl (mvRows M ++ [[.lst 0 (mvs3 ms)]])⟩).set (n1 + 2) ⟨1,1,.inr (rowsV [y])⟩)[n1 + 2]? = some ⟨1,1,.inr (rowsV [y])⟩ := by simp [tl0]
    have e103 : ∀ bx mp A1 A2 A3,appendAt ⟨bx,A1 :: A2 :: A3 :: (T0.set mid ⟨mver + 1,1,.inl (mvRows M ++ [[.lst 0 (mvs3 ms)]])⟩).set (n1 + 1 + 1) ⟨1,1,.inr (rowsV [y])⟩,mp⟩ (n1 + 1 + 1 + 1 + 1 + 1 + 1) 1 (.own (nid + 3) nver 0 i) (.own (n1 + 1 + 1 + 1 + 1 + 1) 1 0 1) = some (.own (nid + 3) (nver + 1) 0 (i + 1),{ ar := some (nid + 3,⟨nver + 1,1,.inr (rowsV (xs ++ [y]))⟩),ra := some (n1 + 1 + 1 + 1 + 1 + 1) }) := fun bx mp A1 A2 A3 => appAt_ownR (by simp [ownArr,g6]) (by simp [ownArr,g5]) (by rw [n3,hll]) (by omega) (by omega)
    simp (disch := omega) only [go_sem,litAt_pv,e96,e102,e103,hys,hyc,beq_no,Bool.not_false,Bool.and_self]
    have lift : ∀ (z : V) (k : List Int),RowR T0 z k → RowR (((T0.set mid ⟨mver + 1,1,.inl (mvRows M ++ [[.lst 0 (mvs3 ms)]])⟩).set (n1 + 2) ⟨1,1,.inr (rowsV [y])⟩).set nid ⟨nver + 1,1,.inr (rowsV (xs ++ [y]))⟩) z k := fun z k hz => by
     have w2 := hz.set (b' := ⟨mver + 1,1,.inl (mvRows M ++ [[.lst 0 (mvs3 ms)]])⟩) g1 (notInts_mv _ _ m3)
     have w3 := w2.set (j := n1 + 2) (b := ⟨0,0,.inl []⟩) (b' := ⟨1,1,.inr (rowsV [y])⟩) (by
      have : mid ≠ n1 + 2 := by omega
      simpa [List.getElem?_set,this] using t2) notInts_dead
     exact w3.set g5 (notInts_inr _ _ _)
    refine ⟨(o,i + 1,((T0.set mid ⟨mver + 1,1,.inl (mvRows M ++ [[.lst 0 (mvs3 ms)]])⟩).set (n1 + 2) ⟨1,1,.inr (rowsV [y])⟩).set nid ⟨nver + 1,1,.inr (rowsV (xs ++ [y]))⟩,.own (mid + 3) (mver + 1) 0 (i + 1),.own (nid + 3) (nver + 1) 0 (i + 1),ls ++ [l]),⟨hpo,by dsimp only; omega,z4,by dsimp only; omega,y3,hstep,?_⟩,by dsimp only; omega,by simp only [hmo,Nat.add_sub_cancel]; rfl⟩
    refine hsp.next z1 hx ?_ ?_ hnok
    ·rw [hmsm,hM]
     refine .inr ⟨mid,mver + 1,by rw [List.length_append,hMl]; rfl,?_,by simp⟩
     have h1 : n1 + 2 ≠ mid := by omega
     have h2 : nid ≠ mid := Ne.symm hne
     simp [h1,h2,hml2,mvRows_snoc]
    ·refine .inr ⟨nid,nver + 1,xs ++ [y],by rw [List.length_append,hll]; rfl,?_,by simp [n3],by simp,rows_snoc n3 (fun j z k hz hk => lift z k ?_) (lift y l ?_)⟩
     ·simp [hnl]
     ·rw [hT0,hR1,List.append_assoc]
      exact (n5 j z k hz hk).push _
     ·rw [hT0]
      exact hRow.push _
 ·have hend : i = out.length := by omega
  subst hend
  have kM := fun bx mp A1 A2 A3 => q7.mr.keep bx mp A1 A2 A3 3
  have kN := fun bx mp A1 A2 A3 => q7.nr.keep bx mp A1 A2 A3 2
  have hsome : nodL (mvC a b cap) 5000 5002 [nod0 c0] 0 = some out := by
   rw [q6,show 5002 - out.length = (5001 - out.length) + 1 by omega,nodL,List.getElem?_eq_none (Nat.le_refl _)]
  have hls : ls = out.map fun x => (sucC a b cap x.c).map (posZ out) := by
   apply List.ext_getElem?
   intro j
   rw [List.getElem?_map]
   cases hj : out[j]? with
   | none =>
    have := List.getElem?_eq_none_iff.1 hj
    rw [List.getElem?_eq_none (by rw [q7.ll]; exact this)]
    rfl
   | some x =>
    have hlt := (List.getElem?_eq_some_iff.1 hj).1
    obtain ⟨l,hl⟩ := get_at (l := ls) (k := j) (by rw [q7.ll]; exact hlt)
    rw [hl,(q7.ok j x l hj hl).eq q5,mvC_suc]
    rfl
  rw [List.take_length] at kM
  have hmm : (out.map fun x => (mvC a b cap x.c).map (·.1)) = out.map fun x => movesC a b cap x.c.a x.c.b x.c.toA x.c.toB := by
   refine List.map_congr_left fun x _ => ?_
   simp [mvC,Function.comp_def]
  rw [hmm] at kM
  rw [hls] at kN
  rw [hsome] at hR
  have h1 : (cfgs (out.map Nod.c)).take (m + 1) = cfgs (out.map Nod.c) := List.take_of_length_le (by rw [cfgs_length,List.length_map,hm]; exact Nat.le_refl _)
  have h2 : (ints (out.map Nod.bef)).take (m + 1) = ints (out.map Nod.bef) := List.take_of_length_le (by rw [ints_length,List.length_map,hm]; exact Nat.le_refl _)
  have h3 : (mvs3 (out.map Nd.mv)).take (m + 1) = mvs3 (out.map Nd.mv) := List.take_of_length_le (by rw [mvs3_length,List.length_map,hm]; exact Nat.le_refl _)
  simp (disch := omega) only [go_sem,kM,kN,h1,h2,h3]
  rw [← hR]
  rfl
end Go.Pv
namespace Go.Pv
def doneAt (a b : Auto) (cap : Int) (C : List Cfg) (i : Nat) : Bool := match C[i]? with
 | some c => doneB a b cap c.a c.b c.toA c.toB
 | none => false
def doneUp (p : Nat → Bool) (k : Nat) : List Int := ((List.range k).filter p).map fun (i : Nat) => (i : Int)
theorem doneUp_succ (p : Nat → Bool) (k : Nat) : doneUp p (k + 1) = if p k = true then doneUp p k ++ [(k : Int)] else doneUp p k := by
 unfold doneUp
 rw [List.range_succ,List.filter_append,List.map_append]
 by_cases h : p k = true <;> simp [h]
theorem doneUp_mem {p : Nat → Bool} {k : Nat} {x : Int} : x ∈ doneUp p k ↔ ∃ i : Nat,i < k ∧ p i = true ∧ x = (i : Int) := by
 simp only [doneUp,List.mem_map,List.mem_filter,List.mem_range]
 constructor
 ·rintro ⟨i,⟨h1,h2⟩,rfl⟩
  exact ⟨i,h1,h2,rfl⟩
 ·rintro ⟨i,h1,h2,rfl⟩
  exact ⟨i,⟨h1,h2⟩,rfl⟩
theorem doneUp_len (p : Nat → Bool) (k : Nat) : (doneUp p k).length ≤ k := by
 unfold doneUp
 rw [List.length_map]
 have := List.length_filter_le p (List.range k)
 rw [List.length_range] at this
 exact this
def dI (p : Nat → Bool) (n k : Nat) : List Int := (List.range n).map fun (j : Nat) => if j < k then (if p j = true then 0 else -1) else 0
theorem dI_len (p : Nat → Bool) (n k : Nat) : (dI p n k).length = n := by simp [dI]
theorem dI_zero (p : Nat → Bool) (n : Nat) : dI p n 0 = List.replicate n 0 := by
 apply List.ext_getElem?
 intro i
 rcases Nat.lt_or_ge i n with hi | hi
 ·simp [dI,hi]
 ·simp [dI,hi]
theorem dI_succ {p : Nat → Bool} {n k : Nat} {v : Int} (h : k < n) (hv : v = if p k = true then 0 else -1) : (dI p n k).set k v = dI p n (k + 1) := by
 apply List.ext_getElem?
 intro i
 rcases Nat.lt_or_ge i n with hi | hi
 ·by_cases e : k = i
  ·subst e
   rw [List.getElem?_set_self (by rw [dI_len]; exact h)]
   simp [dI,h,hv]
  ·rw [List.getElem?_set_ne e]
   simp only [dI,List.getElem?_map,List.getElem?_range hi,Option.map_some]
   by_cases h1 : i < k
   ·simp only [h1,if_true,show i < k + 1 by omega]
   ·simp only [h1,if_false,show ¬ i < k + 1 by omega]
 ·rw [List.getElem?_eq_none (by rw [List.length_set,dI_len]; exact hi),List.getElem?_eq_none (by rw [dI_len]; exact hi)]
def dN (p : Nat → Bool) (n k : Nat) : List Int := (List.range n).map fun (j : Nat) => if j < k ∧ p j = true then 0 else -1
theorem dN_succ {p : Nat → Bool} {n k : Nat} (h : k < n) : dN p n (k + 1) = if p k = true then (dN p n k).set k 0 else dN p n k := by
 apply List.ext_getElem?
 intro i
 rcases Nat.lt_or_ge i n with hi | hi
 ·by_cases hp : p k = true
  ·rw [if_pos hp]
   by_cases e : k = i
   ·subst e
    rw [List.getElem?_set_self (by simp [dN,h])]
    simp [dN,h,hp]
   ·rw [List.getElem?_set_ne e]
    simp only [dN,List.getElem?_map,List.getElem?_range hi,Option.map_some]
    by_cases h1 : i < k
    ·simp only [h1,true_and,show i < k + 1 by omega]
    ·simp only [h1,false_and,if_false,show ¬ i < k + 1 by omega]
  ·rw [if_neg hp]
   simp only [dN,List.getElem?_map,List.getElem?_range hi,Option.map_some]
   by_cases e : i = k
   ·subst e
    simp [hp]
   ·by_cases h1 : i < k
    ·simp only [h1,true_and,show i < k + 1 by omega]
    ·simp only [h1,false_and,if_false,show ¬ i < k + 1 by omega]
 ·rw [List.getElem?_eq_none (by simp [dN,hi]),List.getElem?_eq_none (by split <;> simp [dN,hi])]
theorem dI_all (p : Nat → Bool) (n : Nat) : dI p n n = dN p n n := by
 refine List.map_congr_left fun j hj => ?_
 rw [List.mem_range] at hj
 simp [hj]
theorem fold0 (p : Nat → Bool) (n : Nat) : ∀ k,k ≤ n → (doneUp p k).foldl (lvIn 0) (List.replicate n (-1),[]) = (dN p n k,doneUp p k)
 | 0,_ => by
  show (List.replicate n (-1 : Int),([] : List Int)) = _
  have : dN p n 0 = List.replicate n (-1) := by
   apply List.ext_getElem?
   intro i
   rcases Nat.lt_or_ge i n with hi | hi
   ·simp [dN,hi]
   ·simp [dN,hi]
  rw [this]
  rfl
 | k + 1,h => by
  rw [doneUp_succ,dN_succ (by omega)]
  by_cases hp : p k = true
  ·rw [if_pos hp,if_pos hp,List.foldl_append,fold0 p n k (by omega)]
   have hg : (dN p n k).getD k (-1) = -1 := by
    have : k < n := by omega
    simp [dN,this]
   simp only [List.foldl_cons,List.foldl_nil,lvIn,Int.toNat_natCast,hg]
   rw [if_pos (by omega)]
  ·rw [if_neg hp,if_neg hp]
   exact fold0 p n k (by omega)
theorem esT_len_le {rows : List (List Int)} {B : Nat} (hb : ∀ l ∈ rows,l.length ≤ B) : ∀ i,i ≤ rows.length → (esT rows i).length ≤ B * i
 | 0,_ => by simp [esT]
 | i + 1,h => by
  rw [esT_succ,List.length_append,List.length_map]
  have h1 := esT_len_le hb i (by omega)
  have h2 : (rows.getD i []).length ≤ B := by
   have : rows.getD i [] = rows[i] := by simp [show i < rows.length by omega]
   rw [this]
   exact hb _ (List.getElem_mem _)
  rw [Nat.mul_succ]
  omega
set_option maxHeartbeats 16000000 in
theorem r247 (t : Nat) (a b : Auto) (cap : Int) (C : List Cfg) (rows : List (List Int)) (M F Y : PV) (hC : C.length = rows.length) (hn : rows.length ≤ 5000) (hr : ∀ l ∈ rows,∀ x ∈ l,0 ≤ x ∧ x < (rows.length : Int)) (hlr : ∀ l ∈ rows,l.length ≤ 100000) (hcl : ∀ c ∈ C,c.toA.length ≤ 2000000000 ∧ c.toB.length ≤ 2000000000)
  (ha : a.edges.length ≤ 2 ^ 63 - 1) (hb : b.edges.length ≤ 2 ^ 63 - 1) : res A PrA 247 [.ro t [.int .i64 a.states,.int .i64 a.start,.lst 0 (a.edges.map Edge.c),.int .i64 b.states,.int .i64 b.start,.lst 0 (b.edges.map Edge.c),.int .i64 cap,.lst 0 (cfgs C),M,.lst 0 (lls rows),F,Y]] = some [.lst 0 (ints (ranksC rows (doneUp (doneAt a b cap C) rows.length)))] := by
 refine res_of a247 rfl rfl ?_
 simp only [F247]; try delta sS tT zZ nN gG bB pZ
 obtain ⟨n,hnn⟩ : ∃ n,rows.length = n := ⟨_,rfl⟩
 have hsl : ∀ i,i ≤ n → (esT rows i).length ≤ 100000 * 5000 := fun i hi => by
  have h1 := esT_len_le hlr i (by omega)
  have h2 : 100000 * i ≤ 100000 * 5000 := Nat.mul_le_mul_left _ (by omega)
  omega
 rw [hnn] at hr hC hn ⊢
 simp (disch := omega) only [go_sem,hnn,hC]
 refine W.loop (α := Nat × List V × List Arr) (fun x => ⟨[(0,.pv (.ro t [.int .i64 a.states,.int .i64 a.start,.lst 0 (a.edges.map Edge.c),.int .i64 b.states,.int .i64 b.start,.lst 0 (b.edges.map Edge.c),.int .i64 cap,.lst 0 (cfgs C),M,.lst 0 (lls rows),F,Y])),(3,.own 0 0 0 n),(24,.pv (.lst 0 (lls rows))),(25,.pv (.int .i64 n)),(26,.pv (.int .i64 x.1))],⟨[],⟨0,1,.inr (rowsV x.2.1)⟩ :: x.2.2,[]⟩⟩)
  (fun x => x.1 ≤ n ∧ Lists n (succA n (esT rows x.1)) x.2.1 x.2.2 ∧ V.pv (.lst 0 []) ∉ x.2.1) (fun x => n - x.1) (0,List.replicate n (.tl []),[]) rfl ⟨Nat.zero_le _,by show Lists n (succA n []) _ _; rw [succA_nil]; exact Lists.start n,fun hm => by cases List.eq_of_mem_replicate hm⟩ fun x hx => ?_
 obtain ⟨i,xs,ars⟩ := x
 obtain ⟨hi,hL,hno⟩ := hx
 dsimp only at hi hL hno
 simp (disch := omega) only [go_sem]
 refine Br.ofP (fun h => ?_) (fun h => ?_)
 ·obtain ⟨l,hl⟩ := get_at (l := rows) (k := i) (by omega)
  have hll := hlr l (List.mem_of_getElem? hl)
  have hlx := hr l (List.mem_of_getElem? hl)
  have hgd : rows.getD i [] = l := by simp [hl]
  simp (disch := omega) only [go_sem,hl]
  refine W.loop (α := Nat × List V × List Arr) (fun x => ⟨[(0,.pv (.ro t [.int .i64 a.states,.int .i64 a.start,.lst 0 (a.edges.map Edge.c),.int .i64 b.states,.int .i64 b.start,.lst 0 (b.edges.map Edge.c),.int .i64 cap,.lst 0 (cfgs C),M,.lst 0 (lls rows),F,Y])),(3,.own 0 0 0 n),(4,.pv (.int .i64 i)),(24,.pv (.lst 0 (lls rows))),(25,.pv (.int .i64 n)),(26,.pv (.int .i64 i)),(31,.pv (.lst 0 (ints l))),(32,.pv (.int .i64 l.length)),(33,.pv (.int .i64 x.1))],⟨[],⟨0,1,.inr (rowsV x.2.1)⟩ :: x.2.2,[]⟩⟩)
   (fun x => x.1 ≤ l.length ∧ Lists n (succA n (esT rows i ++ (l.take x.1).map fun k => (k,(i : Int)))) x.2.1 x.2.2 ∧ V.pv (.lst 0 []) ∉ x.2.1) (fun x => l.length - x.1) (0,xs,ars) rfl ⟨Nat.zero_le _,by simpa using hL,hno⟩ fun x hx => ?_
  obtain ⟨k,xs,ars⟩ := x
  obtain ⟨hk,hL,hno⟩ := hx
  dsimp only at hk hL hno
  simp (disch := omega) only [go_sem]
  refine Br.ofP (fun h => ?_) (fun h => ?_)
  ·obtain ⟨e,he⟩ := get_at (l := l) (k := k) (by omega)
   obtain ⟨g1,g2⟩ := hlx e (List.mem_of_getElem? he)
   have hv : e.toNat < n := by omega
   have hvi : ((e.toNat : Nat) : Int) = e := by omega
   obtain ⟨x,s,hx,hs,ho⟩ := hL.get hv
   rw [succA_get hv,hvi] at hs
   cases hs
   have hes : (esT rows i ++ (l.take k).map fun k => (k,(i : Int))).length ≤ 600000000 := by
    have := hsl i (by omega)
    rw [List.length_append,List.length_map,List.length_take]
    omega
   have hol := outP_len (esT rows i ++ (l.take k).map fun k => (k,(i : Int))) e
   have htk : esT rows i ++ (l.take (k + 1)).map (fun k => (k,(i : Int))) = (esT rows i ++ (l.take k).map fun k => (k,(i : Int))) ++ [(e,(i : Int))] := by
    rw [List.take_add_one,he]
    simp
   have hsucc := succA_snoc (n := n) (es := esT rows i ++ (l.take k).map fun k => (k,(i : Int))) (e := (e,(i : Int))) ⟨g1,g2⟩
   rw [← htk] at hsucc
   dsimp only at hsucc
   generalize esT rows i ++ (l.take k).map (fun k => (k,(i : Int))) = es at *
   have hxl := hL.xl
   rcases ho with ⟨h0,h1⟩ | ⟨id,ver,rfl,h1,h2⟩
   ·rcases h0 with rfl | rfl
    ·simp (disch := omega) only [go_sem,he,hx]
     refine ⟨(k + 1,_,_),⟨by dsimp only; omega,?_,not_set hno (by simp)⟩,by dsimp only; omega,rfl⟩
     dsimp only
     rw [← hsucc,h1]
     exact hL.first hv (by simp)
    ·exact (hno (List.mem_of_getElem? hx)).elim
   ·simp (disch := omega) only [go_sem,he,hx,h2]
    refine ⟨(k + 1,_,_),⟨by dsimp only; omega,?_,not_set hno (by simp)⟩,by dsimp only; omega,rfl⟩
    dsimp only
    rw [← hsucc]
    have := hL.same (ver' := ver + 1) (l := outP es e ++ [(i : Int)]) hv hx (by simp)
    simp only [List.length_append,List.length_cons,List.length_nil,Nat.zero_add] at this
    exact this
  ·obtain rfl : k = l.length := by omega
   rw [List.take_length,← hgd,← esT_succ] at hL
   simp (disch := omega) only [go_sem]
   exact ⟨(i + 1,xs,ars),⟨by dsimp only; omega,hL,hno⟩,by dsimp only; omega,rfl⟩
 ·obtain rfl : i = n := by omega
  clear h
  have catO : ∀ (O : Arr) (Q : List Arr),(ars ++ (O :: Q))[ars.length]? = some O := fun O Q => by simp
  have setO : ∀ (O O' : Arr) (Q : List Arr),(ars ++ (O :: Q)).set ars.length O' = ars ++ (O' :: Q) := fun O O' Q => by simp []
  have gr : ∀ bx mp (A0 O : Arr) (q : List Int) (z : Int),q.length ≤ 5000 → appendV ⟨bx,A0 :: (ars ++ (O :: grA 1 (ints q))),mp⟩ 1 (grV (ars.length + 2) (ints q)) (.tl [[.int .i64 z]]) = some (grV (ars.length + 2) (ints (q ++ [z])),grT (ars.length + 2) 1 (ints q) [.int .i64 z]) := fun bx mp A0 O q z hq => by
   have := grow bx mp (A0 :: (ars ++ [O])) 1 (ints q) [.int .i64 z] rfl (by rw [ints_length]; omega)
   rw [ints_snoc] at this
   simpa using this
  have ga : ∀ bx mp (A0 O : Arr) (q : List Int) (z : Int),(grT (ars.length + 2) 1 (ints q) [.int .i64 z]).apply ⟨bx,A0 :: (ars ++ (O :: grA 1 (ints q))),mp⟩ = ⟨bx,A0 :: (ars ++ (O :: grA 1 (ints (q ++ [z])))),mp⟩ := fun bx mp A0 O q z => by
   have := grT_apply bx mp (A0 :: (ars ++ [O])) 1 (ints q) [.int .i64 z]
   rw [ints_snoc] at this
   simpa using this
  have hpd : ∀ (k : Nat) (c : Cfg),C[k]? = some c → doneAt a b cap C k = doneB a b cap c.a c.b c.toA c.toB := fun k c h => by unfold doneAt; rw [h]
  generalize hp : doneAt a b cap C = P at *
  simp (disch := omega) only [go_sem,hC]
  refine W.upto i (fun k => ⟨[(0,.pv (.ro t [.int .i64 a.states,.int .i64 a.start,.lst 0 (a.edges.map Edge.c),.int .i64 b.states,.int .i64 b.start,.lst 0 (b.edges.map Edge.c),.int .i64 cap,.lst 0 (cfgs C),M,.lst 0 (lls rows),F,Y])),(3,.own 0 0 0 i),(8,.own (ars.length + 1) 0 0 i),(9,grV (ars.length + 2) (ints (doneUp P k))),(58,.pv (.lst 0 (cfgs C))),(59,.pv (.int .i64 i)),(60,.pv (.int .i64 k))],
   ⟨[],⟨0,1,.inr (rowsV xs)⟩ :: (ars ++ (⟨0,1,.inl (ints (dI P i k))⟩ :: grA 1 (ints (doneUp P k)))),[]⟩⟩) (fun _ => True) (by rw [dI_zero]; rfl) trivial fun k hk _ => ?_
  simp (disch := omega) only [go_sem]
  refine Br.ofP (fun h => ?_) (fun h => ?_)
  ·obtain ⟨c,hc⟩ := get_at (l := C) (k := k) (by omega)
   obtain ⟨x5,x6⟩ := hcl c (List.mem_of_getElem? hc)
   have hcg : (cfgs C)[k]? = some [.int .i64 c.a,.int .i64 c.b,.lst 0 (ints c.toA),.lst 0 (ints c.toB)] := by rw [cfgs_get,hc]; rfl
   have h159 := r159 0 0 a b cap 0 0 c.a c.b c.toA c.toB (by omega) (by omega) (by omega) (by omega)
   rw [← hpd k c hc] at h159
   have hs0 := dI_succ (p := P) (n := i) (k := k) (v := 0) (by omega)
   have hs1 := dI_succ (p := P) (n := i) (k := k) (v := -1) (by omega)
   have hdl := dI_len P i k
   have hdl2 : ((dI P i k).set k (-1)).length = i := by rw [List.length_set,hdl]
   have hql := doneUp_len P k
   have hqs := doneUp_succ P k
   generalize hd : dI P i k = d at *
   generalize hq : doneUp P k = q at *
   cases hpk : P k with
   | true =>
    rw [hpk] at h159 hs0 hqs
    rw [if_pos rfl] at hqs
    simp (disch := omega) only [go_sem,hcg,h159,catO,setO,gr,ga]
    refine .of (by omega) ?_ trivial
    rw [List.set_set,hs0 rfl,hqs]
    rfl
   | false =>
    rw [hpk] at h159 hs1 hqs
    rw [if_neg (by decide)] at hqs
    simp (disch := omega) only [go_sem,hcg,h159,catO,setO]
    refine .of (by omega) ?_ trivial
    rw [hs1 rfl,hqs]
    rfl
  ·obtain rfl : k = i := by omega
   clear hk h
   have hdn : ∀ x ∈ doneUp P k,0 ≤ x ∧ x < (k : Int) := fun x hx => by
    obtain ⟨j,h1,_,rfl⟩ := doneUp_mem.1 hx
    omega
   have hin : ∀ v x,x ∈ nxt (succA k (esT rows k)) v → 0 ≤ x ∧ x < (k : Int) := by
    have := nx_in (rows := rows) (by rw [hnn]; exact hr)
    rwa [hnn] at this
   have hf0 := fold0 P k k (Nat.le_refl _)
   have hL0 := (lv_fold (d := 0) (LvOk.start k) hdn ⟨by omega,by omega⟩).1
   have hrk : ranksC rows (doneUp P k) = (lvRun (nxt (succA k (esT rows k))) k 0 (dN P k k,doneUp P k)).1 := by
    unfold ranksC levels
    rw [hnn,hf0]
   rw [hf0] at hL0
   rw [hrk,dI_all]
   generalize dN P k k = d0 at *
   generalize doneUp P k = q0 at *
   have hxl := hL.xl
   simp (disch := omega) only [go_sem]
   refine W.loop (α := Nat × List Int × List Int) (fun x => ⟨[(3,.own 0 0 0 k),(8,.own (ars.length + 1) 0 0 k),(9,grV (ars.length + 2) (ints x.2.2)),(12,.pv (.int .i64 x.1))],⟨[],⟨0,1,.inr (rowsV xs)⟩ :: (ars ++ (⟨0,1,.inl (ints x.2.1)⟩ :: grA 1 (ints x.2.2))),[]⟩⟩)
    (fun x => LvOk k x.2 ∧ x.1 ≤ x.2.2.length ∧ (lvRun (nxt (succA k (esT rows k))) (k - x.1) x.1 x.2).1 = (lvRun (nxt (succA k (esT rows k))) k 0 (d0,q0)).1) (fun x => k - x.1) (0,d0,q0) rfl ⟨hL0,Nat.zero_le _,rfl⟩ fun x hx => ?_
   obtain ⟨i,d,q⟩ := x
   obtain ⟨hLv,h2,hb'⟩ := hx
   dsimp only at h2 hb'
   have hbo := hLv.bound
   have hle := hLv.len
   dsimp only at hbo hle
   simp (disch := omega) only [go_sem]
   refine Br.ofP (fun h => ?_) (fun h => ?_)
   ·obtain ⟨v,hv⟩ := get_at (l := q) (k := i) (by omega)
    obtain ⟨v0,v1,v2⟩ := (hLv.mem v).1 (List.mem_of_getElem? hv)
    obtain ⟨xv,l,hxv,hsl',ho⟩ := hL.get (v := v.toNat) (by omega)
    have hnl : nxt (succA k (esT rows k)) v = l := by simp [nxt,hsl']
    have hlr' : ∀ x ∈ l,0 ≤ x ∧ x < (k : Int) := fun x hx => hin v x (by rw [hnl]; exact hx)
    have hlen : ∀ h,lenV h 0 xv = some (l.length,{}) := by
     rcases ho with ⟨rfl | rfl,rfl⟩ | ⟨_,_,rfl,_,_⟩ <;> intro h <;> rfl
    have hscr : scrub [] xv = xv := by rcases ho with ⟨rfl | rfl,rfl⟩ | ⟨_,_,rfl,_,_⟩ <;> rfl
    have hlb : l.length ≤ 600000000 := by
     rw [succA_get (by omega)] at hsl'
     cases hsl'
     have h1 := outP_len (esT rows k) ((v.toNat : Nat) : Int)
     have h2 := hsl k (Nat.le_refl _)
     omega
    obtain ⟨m,hm'⟩ : ∃ m,(ints q).length = m + 1 := ⟨q.length - 1,by rw [ints_len]; omega⟩
    have hgV := grV_own (i := ars.length + 2) hm'
    have hgA := grA_own (k := 1) hm'
    rw [ints_len] at hm'
    rw [hgV,hgA]
    have catQ : ∀ (O Qa : Arr),(ars ++ [O,Qa])[ars.length + 1]? = some Qa := fun O Qa => by simp
    have hd0 : d[v.toNat]? = some (d.getD v.toNat (-1)) := by
     have : v.toNat < d.length := by omega
     simp [this]
    have htop := hLv.top v.toNat
    dsimp only at htop v2
    simp (disch := omega) only [go_sem,hv,catQ,hxv,hlen,hscr]
    refine W.fold l (lvIn (d.getD v.toNat (-1) + 1)) (d,q) (fun j p => ⟨[(3,.own 0 0 0 k),(8,.own (ars.length + 1) 0 0 k),(9,grV (ars.length + 2) (ints p.2)),(12,.pv (.int .i64 i)),(94,xv),(95,.pv (.int .i64 l.length)),(96,.pv (.int .i64 j))],⟨[],⟨0,1,.inr (rowsV xs)⟩ :: (ars ++ (⟨0,1,.inl (ints p.1)⟩ :: grA 1 (ints p.2))),[]⟩⟩)
     (fun _ p => LvOk k p ∧ q <+: p.2 ∧ p.1.getD v.toNat (-1) = d.getD v.toNat (-1)) (by
      rw [hgV,hgA]
      rfl) ⟨hLv,List.prefix_refl _,rfl⟩ (fun j x p hx hj _ hi => ?_) (fun p hp hi => ?_)
    ·obtain ⟨d',q'⟩ := p
     obtain ⟨hL',hpre,hv'⟩ := hi
     dsimp only at hpre hv'
     rcases ho with ⟨_,rfl⟩ | ⟨id,ver,rfl,_,hid⟩
     ·simp at hx
     have catR : ∀ (O : Arr) (Q : List Arr),(ars ++ (O :: Q))[id]? = some ⟨ver,1,.inl (ints l)⟩ := fun O Q => by
      rw [List.getElem?_append_left (List.getElem?_eq_some_iff.1 hid).1]
      exact hid
     obtain ⟨x0,x1⟩ := hlr' x (List.mem_of_getElem? hx)
     have hbo' := hL'.bound
     have hle' := hL'.len
     dsimp only at hbo' hle'
     have hql' := hpre.length_le
     have hst := hL'.step (x := x) (d := d.getD v.toNat (-1) + 1) ⟨x0,x1⟩ ⟨by omega,by dsimp only; omega⟩
     have hg : d'[x.toNat]? = some (d'.getD x.toNat (-1)) := by
      have : x.toNat < d'.length := by omega
      simp [this]
     have hgv : d'[v.toNat]? = some (d.getD v.toNat (-1)) := by
      have : v.toNat < d'.length := by omega
      rw [← hv']
      simp [this]
     have hqv := get_pre hpre hv
     obtain ⟨m2,hm2⟩ : ∃ m2,(ints q').length = m2 + 1 := ⟨q'.length - 1,by rw [ints_len]; omega⟩
     have hgV2 := grV_own (i := ars.length + 2) hm2
     have hgA2 := grA_own (k := 1) hm2
     rw [ints_len] at hm2
     have setQ : ∀ (O Qa Qb : Arr),(ars ++ [O,Qa]).set (ars.length + 1) Qb = ars ++ [O,Qb] := fun O Qa Qb => by simp []
     dsimp only
     rw [hgV2,hgA2]
     simp (disch := omega) only [go_sem]
     refine Br.ofP (fun h => ?_) (fun h => (h (by omega)).elim)
     simp (disch := omega) only [go_sem,hx,catR,catO,hg]
     refine Br.ofP (fun g => ?_) (fun g => ?_)
     ·have hin' : lvIn (d.getD v.toNat (-1) + 1) (d',q') x = (d'.set x.toNat (d.getD v.toNat (-1) + 1),q' ++ [x]) := if_pos g
      rw [hin'] at hst ⊢
      simp (disch := omega) only [go_sem,catQ,catO,setO,setQ,hqv,hgv]
      refine foldK.of ?_ ⟨hst,hpre.trans (List.prefix_append _ _),?_⟩
      ·dsimp only
       have hm3 : (ints (q' ++ [x])).length = m2 + 1 + 1 := by rw [ints_len,List.length_append,hm2]; rfl
       rw [grV_own (i := ars.length + 2) hm3,grA_own (k := 1) hm3]
       rfl
      ·dsimp only
       rw [getD_set' (by omega),if_neg (fun e => by rw [e] at g; omega)]
       exact hv'
     ·have hin' : lvIn (d.getD v.toNat (-1) + 1) (d',q') x = (d',q') := if_neg g
      rw [hin'] at hst ⊢
      simp (disch := omega) only [go_sem]
      refine foldK.of ?_ ⟨hst,hpre,hv'⟩
      dsimp only
      rw [hgV2,hgA2]
      rfl
    ·obtain ⟨d',q'⟩ := p
     obtain ⟨hL',hpre,hv'⟩ := hi
     dsimp only at hpre
     have hql' := hpre.length_le
     simp (disch := omega) only [go_sem]
     have hb3 : q.length ≤ k := hLv.bound
     have h3 : i < q.length := (List.getElem?_eq_some_iff.1 hv).1
     refine ⟨(i + 1,d',q'),⟨hL',by dsimp only; omega,?_⟩,by dsimp only; omega,rfl⟩
     dsimp only
     rw [← hb',show k - i = (k - (i + 1)) + 1 by omega,lvRun,hv]
     simp only
     rw [hnl,← hp]
   ·have hlq : q.length ≤ i := by
     have h : ¬ ((i : Int) < (q.length : Int)) := h
     omega
    have hnone : (lvRun (nxt (succA k (esT rows k))) (k - i) i (d,q)) = (d,q) := by
     cases k - i with
     | zero => rfl
     | succ j =>
      rw [lvRun,List.getElem?_eq_none hlq]
    rw [hnone] at hb'
    have htk : (ints d).take k = ints d := List.take_of_length_le (by rw [ints_len,hle]; exact Nat.le_refl _)
    simp (disch := omega) only [go_sem,catO,htk]
    rw [← hb']
end Go.Pv
namespace Go.Pv
end Go.Pv
namespace Go.Pv
end Go.Pv
namespace Go.Pv
section
variable {α μ : Type}
inductive Run (mv : α → List (μ × α)) : α → List μ → α → Prop
 | nil (c : α) : Run mv c [] c
 | cons {c d e : α} {l : List μ} {m : μ} : (m,d) ∈ mv c → Run mv d l e → Run mv c (m :: l) e
theorem Run.snoc {mv : α → List (μ × α)} {c d e : α} {l : List μ} {m : μ} (h : Run mv c l d) (hm : (m,e) ∈ mv d) : Run mv c (l ++ [m]) e := by
 induction h with
 | nil => exact .cons hm (.nil _)
 | cons h1 _ ih => exact .cons h1 (ih hm)
theorem Stp.run {mv : α → List (μ × α)} {c e : α} {l : List μ} (h : Stp mv c l e) : Run mv c l e := by
 induction h with
 | nil => exact .nil _
 | snoc _ hm ih => exact ih.snoc hm
theorem Stp.head {mv : α → List (μ × α)} {c d e : α} {l : List μ} {m : μ} (hm : (m,d) ∈ mv c) (h : Stp mv d l e) : Stp mv c (m :: l) e := by
 induction h with
 | nil => exact Stp.snoc (l := []) (.nil _) hm
 | snoc _ h2 ih => exact Stp.snoc (l := m :: _) ih h2
theorem Run.stp {mv : α → List (μ × α)} {c e : α} {l : List μ} (h : Run mv c l e) : Stp mv c l e := by
 induction h with
 | nil => exact .nil _
 | cons hm _ ih => exact .head hm ih
end
structure Spc (a b : Auto) (cap : Int) (s : Cfg) (p : Cfg → Prop) (out : List Nd) : Prop where
 fnd : Fnd (mvC a b cap) s out out.length
 all : ∀ x ∈ out,p x.c
def rowsN (a b : Auto) (cap : Int) (out : List Nd) : List (List Int) := out.map fun x => (sucC a b cap x.c).map (posZ out)
variable {a b : Auto} {cap : Int} {s : Cfg} {p : Cfg → Prop} {out : List Nd}
theorem posZ_at (hn : (out.map Nod.c).Nodup) {z : Nat} {y : Nd} (hy : out[z]? = some y) : posZ out y.c = (z : Int) := by
 unfold posZ
 rw [pos_at hn hy]
 rfl
theorem Spc.closed (h : Spc a b cap s p out) {i : Nat} {x : Nd} (hx : out[i]? = some x) {d : Cfg} (hd : d ∈ sucC a b cap x.c) : ∃ (j : Nat) (y : Nd),out[j]? = some y ∧ y.c = d ∧ posZ out d = (j : Int) := by
 obtain ⟨j,y,h1,h2,_⟩ := h.fnd.dn i x (List.getElem?_eq_some_iff.1 hx).1 hx d (by rw [mvC_suc]; exact hd)
 exact ⟨j,y,h1,h2,by rw [← h2]; exact posZ_at h.fnd.nd h1⟩
theorem rowsN_len : (rowsN a b cap out).length = out.length := by simp [rowsN]
theorem Spc.inR (h : Spc a b cap s p out) : ∀ l ∈ rowsN a b cap out,∀ z ∈ l,0 ≤ z ∧ z < ((rowsN a b cap out).length : Int) := fun l hl z hz => by
 rw [rowsN_len]
 obtain ⟨x,hx,rfl⟩ := List.mem_map.1 hl
 obtain ⟨d,hd,rfl⟩ := List.mem_map.1 hz
 obtain ⟨i,hi⟩ := mem_get hx
 obtain ⟨j,y,h1,h2,h3⟩ := h.closed hi hd
 have := (List.getElem?_eq_some_iff.1 h1).1
 omega
def doneC (a b : Auto) (cap : Int) (c : Cfg) : Bool := doneB a b cap c.a c.b c.toA c.toB
def dnN (a b : Auto) (cap : Int) (out : List Nd) : List Int := doneUp (doneAt a b cap (out.map Nod.c)) out.length
def rkN (a b : Auto) (cap : Int) (out : List Nd) : List Int := ranksC (rowsN a b cap out) (dnN a b cap out)
theorem dnN_mem {i : Nat} {x : Nd} (hx : out[i]? = some x) : (i : Int) ∈ dnN a b cap out ↔ doneC a b cap x.c = true := by
 have hi := (List.getElem?_eq_some_iff.1 hx).1
 have hc : (out.map Nod.c)[i]? = some x.c := by rw [List.getElem?_map,hx]; rfl
 unfold dnN
 rw [doneUp_mem]
 constructor
 ·rintro ⟨j,_,h2,h3⟩
  obtain rfl : i = j := by omega
  unfold doneAt at h2
  rw [hc] at h2
  exact h2
 ·intro h
  refine ⟨i,hi,?_,rfl⟩
  unfold doneAt
  rw [hc]
  exact h
theorem Spc.dist (h : Spc a b cap s p out) : Dist out.length (edR (rowsN a b cap out)) (dnN a b cap out) (rkN a b cap out) := by
 have := ranks_dist (dn := dnN a b cap out) h.inR (fun x hx => by
  obtain ⟨i,h1,_,rfl⟩ := doneUp_mem.1 hx
  rw [rowsN_len]
  omega)
 rwa [rowsN_len] at this
theorem Spc.ed (h : Spc a b cap s p out) {i j : Nat} {x y : Nd} (hx : out[i]? = some x) (hy : out[j]? = some y) (hd : y.c ∈ sucC a b cap x.c) : edR (rowsN a b cap out) (i : Int) (j : Int) := by
 refine ⟨by omega,?_⟩
 rw [Int.toNat_natCast]
 have : (rowsN a b cap out).getD i [] = (sucC a b cap x.c).map (posZ out) := by simp [rowsN,hx]
 rw [this,← posZ_at h.fnd.nd hy]
 exact List.mem_map.2 ⟨_,hd,rfl⟩
theorem Spc.ed_inv (h : Spc a b cap s p out) {i : Nat} {x : Nd} {u : Int} (hx : out[i]? = some x) (he : edR (rowsN a b cap out) (i : Int) u) : ∃ (j : Nat) (y : Nd) (m : Mov),u = (j : Int) ∧ out[j]? = some y ∧ (m,y.c) ∈ mvC a b cap x.c := by
 obtain ⟨_,h2⟩ := he
 rw [Int.toNat_natCast] at h2
 have : (rowsN a b cap out).getD i [] = (sucC a b cap x.c).map (posZ out) := by simp [rowsN,hx]
 rw [this] at h2
 obtain ⟨d,hd,rfl⟩ := List.mem_map.1 h2
 obtain ⟨j,y,h3,h4,h5⟩ := h.closed hx hd
 rw [← mvC_suc] at hd
 obtain ⟨w,hw,hwd⟩ := List.mem_map.1 hd
 exact ⟨j,y,w.1,h5,h3,by rw [h4,← hwd]; exact hw⟩
theorem Spc.rank_le (h : Spc a b cap s p out) {c d : Cfg} {l : List Mov} (hr : Run (mvC a b cap) c l d) (hd : doneC a b cap d = true) : ∀ {i : Nat} {x : Nd},out[i]? = some x → x.c = c → 0 ≤ (rkN a b cap out).getD i (-1) ∧ (rkN a b cap out).getD i (-1) ≤ l.length := by
 have hD := h.dist
 induction hr with
 | nil c =>
  intro i x hx hc
  have hi := (List.getElem?_eq_some_iff.1 hx).1
  have := (hD.zero (i : Int) (by omega) (by omega)).2 ((dnN_mem hx).2 (by rw [hc]; exact hd))
  rw [Int.toNat_natCast] at this
  rw [this]
  exact ⟨by omega,by simp⟩
 | @cons c e d l m hm _ ih =>
  intro i x hx hc
  have hi := (List.getElem?_eq_some_iff.1 hx).1
  subst hc
  have hs : e ∈ sucC a b cap x.c := by rw [← mvC_suc]; exact List.mem_map.2 ⟨_,hm,rfl⟩
  obtain ⟨j,y,h1,h2,h3⟩ := h.closed hx hs
  have hj := (List.getElem?_eq_some_iff.1 h1).1
  obtain ⟨g1,g2⟩ := ih hd h1 h2
  have := hD.step (i : Int) (j : Int) (h.ed hx h1 (by rw [h2]; exact hs)) ⟨by omega,by omega,by omega,by omega⟩ (by rw [Int.toNat_natCast]; exact g1)
  rw [Int.toNat_natCast,Int.toNat_natCast] at this
  refine ⟨this.1,?_⟩
  rw [List.length_cons]
  omega
theorem Spc.rank_run (h : Spc a b cap s p out) : ∀ (k : Nat) {i : Nat} {x : Nd},out[i]? = some x → (rkN a b cap out).getD i (-1) = (k : Int) → ∃ (l : List Mov) (d : Cfg),Run (mvC a b cap) x.c l d ∧ doneC a b cap d = true ∧ l.length = k
 | 0,i,x,hx,hk => by
  have hi := (List.getElem?_eq_some_iff.1 hx).1
  have := (h.dist.zero (i : Int) (by omega) (by omega)).1 (by rw [Int.toNat_natCast]; exact hk)
  exact ⟨[],x.c,.nil _,(dnN_mem hx).1 this,rfl⟩
 | k + 1,i,x,hx,hk => by
  have hi := (List.getElem?_eq_some_iff.1 hx).1
  obtain ⟨u,u1,u2,u3,u4⟩ := h.dist.back (i : Int) (by omega) (by omega) (by rw [Int.toNat_natCast]; omega)
  obtain ⟨j,y,m,rfl,hy,hm⟩ := h.ed_inv hx u1
  rw [Int.toNat_natCast,Int.toNat_natCast] at u4
  obtain ⟨l,d,h1,h2,h3⟩ := h.rank_run k hy (by omega)
  exact ⟨m :: l,d,.cons hm h1,h2,by rw [List.length_cons,h3]⟩
theorem Spc.rank_eq (h : Spc a b cap s p out) {s' : Cfg} {p' : Cfg → Prop} {out' : List Nd} (h' : Spc a b cap s' p' out') {i j : Nat} {x y : Nd} (hx : out[i]? = some x) (hy : out'[j]? = some y) (hc : x.c = y.c) : (rkN a b cap out).getD i (-1) = (rkN a b cap out').getD j (-1) := by
 have key : ∀ {s s' : Cfg} {p p' : Cfg → Prop} {out out' : List Nd},Spc a b cap s p out → Spc a b cap s' p' out' → ∀ {i j : Nat} {x y : Nd},out[i]? = some x → out'[j]? = some y → x.c = y.c → 0 ≤ (rkN a b cap out).getD i (-1) → 0 ≤ (rkN a b cap out').getD j (-1) ∧ (rkN a b cap out').getD j (-1) ≤ (rkN a b cap out).getD i (-1) := by
  intro s s' p p' out out' h h' i j x y hx hy hc h0
  obtain ⟨l,d,h1,h2,h3⟩ := h.rank_run ((rkN a b cap out).getD i (-1)).toNat hx (by omega)
  have := h'.rank_le h1 h2 hy hc.symm
  omega
 have hi := (List.getElem?_eq_some_iff.1 hx).1
 have hj := (List.getElem?_eq_some_iff.1 hy).1
 have l1 := h.dist.low i hi
 have l2 := h'.dist.low j hj
 by_cases h1 : 0 ≤ (rkN a b cap out).getD i (-1)
 ·have k1 := key h h' hx hy hc h1
  have k2 := key h' h hy hx hc.symm k1.1
  omega
 ·by_cases h2 : 0 ≤ (rkN a b cap out').getD j (-1)
  ·have k2 := key h' h hy hx hc.symm h2
   omega
  ·omega
end Go.Pv
namespace Go.Pv
def sendsB (st : Int) (es : List Edge) : Bool := es.any fun e => decide (e.fr = st) && e.send
def blockB (a : Auto) (st : Int) (ch : List Int) : Bool := match ch with
 | [] => false
 | x :: _ => (nextE st false x a.edges).isNone && !sendsB st a.edges
def kindB (a b : Auto) (x y : Int) (l m : List Int) (n : Nat) : Int := if (isEnd x a.edges && isEnd y b.edges) = true then 2 else if (blockB a x l || blockB b y m) = true then 1 else if n = 0 then 3 else 4
theorem r258 (t : Nat) (e : Edge) (s : Int) : res A PrA 258 [.agg [.int .i64 e.fr,.bool e.send,.int .i64 e.label,.int .i64 e.to],.ro t [.int .i64 s]] = some [.bool (decide (e.fr = s) && e.send)] := by
 refine res_of a258 rfl rfl ?_
 simp only [F258]; try delta sS tT zZ nN gG bB pZ
 by_cases h : e.fr = s
 ·simp (disch := omega) only [go_sem,h]
 ·simp (disch := omega) only [go_sem,h]
theorem r180s (t u : Nat) (l : List Edge) (s : Int) (hl : l.length ≤ 2 ^ 63 - 1) : res A PrA 180 [.lst t (l.map Edge.c),.func 258 [.ro u [.int .i64 s]]] = some [.bool (sendsB s l)] := by
 refine res_of a180 rfl rfl ?_
 simp only [F180]; try delta sS tT zZ nN gG bB pZ
 have h77 := r77 258 t u [.int .i64 s] l (fun e => decide (e.fr = s) && e.send) hl (by kernel_rfl) (by kernel_rfl) (by kernel_rfl) (fun e _ => r258 u e s)
 have e1 : edgs l = l.map Edge.c := rfl
 rw [e1] at h77
 simp (disch := omega) only [go_sem,h77]
 rw [idxP_pos]
 rfl
theorem r255 (t u : Nat) (a : Auto) (s : Int) (l : List Int) (hl : a.edges.length ≤ 2 ^ 63 - 1) : res A PrA 255 [.agg [.int .i64 a.states,.int .i64 a.start,.lst t (a.edges.map Edge.c)],.int .i64 s,.lst u (ints l)] = some [.bool (blockB a s l)] := by
 refine res_of a255 rfl rfl ?_
 simp only [F255]; try delta sS tT zZ nN gG bB pZ
 have h180 := fun t u => r180s t u a.edges s hl
 cases l with
 | nil =>
  simp (disch := omega) only [go_sem,ints_nil]
  refine Br.ofP (fun _ => ?_) (fun h => (h rfl).elim)
  simp (disch := omega) only [go_sem]
  rfl
 | cons x l =>
  have h45 := r45 t a s false x hl
  obtain ⟨L,hL⟩ : ∃ L,L = x :: l := ⟨_,rfl⟩
  have hx : L[0]? = some x := by rw [hL]; rfl
  have hl1 : 0 < L.length := by rw [hL]; simp
  rw [← hL]
  simp (disch := omega) only [go_sem]
  refine Br.ofP (fun h => by omega) (fun h => ?_)
  cases hn : nextE s false x a.edges with
  | none =>
   rw [hn] at h45
   simp only [Option.isSome_none,Option.getD_none] at h45
   have hB : blockB a s L = !sendsB s a.edges := by rw [hL]; simp [blockB,hn]
   rw [hB]
   simp (disch := omega) only [go_sem,idxR_int,hx,h45,h180]
  | some y =>
   rw [hn] at h45
   simp only [Option.isSome_some,Option.getD_some] at h45
   have hB : blockB a s L = false := by rw [hL]; simp [blockB,hn]
   rw [hB]
   simp (disch := omega) only [go_sem,idxR_int,hx,h45]
theorem endsTo_mem (es : List Edge) (x : Int) : ∀ k,x ∈ endsTo es k ↔ (0 ≤ x ∧ x < (k : Int)) ∧ isEnd x es = true
 | 0 => by
  simp only [endsTo,List.not_mem_nil,false_iff]
  omega
 | k + 1 => by
  unfold endsTo
  have ih := endsTo_mem es x k
  by_cases h : isEnd (k : Int) es = true
  ·rw [if_pos h,List.mem_append,ih,List.mem_singleton]
   constructor
   ·rintro (⟨h1,h2⟩ | rfl)
    ·exact ⟨by omega,h2⟩
    ·exact ⟨by omega,h⟩
   ·rintro ⟨h1,h2⟩
    by_cases e : x = (k : Int)
    ·exact .inr e
    ·exact .inl ⟨by omega,h2⟩
  ·rw [if_neg h,ih]
   constructor
   ·rintro ⟨h1,h2⟩
    exact ⟨by omega,h2⟩
   ·rintro ⟨h1,h2⟩
    by_cases e : x = (k : Int)
    ·rw [e] at h2
     exact (h h2).elim
    ·exact ⟨by omega,h2⟩
theorem ends_in {a : Auto} {x : Int} (hs : a.states ≤ 12) (hx : 0 ≤ x ∧ x < a.states) : decide (x ∈ a.ends) = isEnd x a.edges := by
 unfold Auto.ends
 rw [if_pos hs]
 have := endsTo_mem a.edges x a.states.toNat
 cases h : isEnd x a.edges with
 | true => exact decide_eq_true (this.2 ⟨by omega,h⟩)
 | false =>
  refine decide_eq_false fun hm => ?_
  have := (this.1 hm).2
  rw [h] at this
  cases this
set_option maxHeartbeats 2000000 in
theorem r250 (t1 t2 t3 t4 t5 : Nat) (a b : Auto) (cap : Int) (x y : Int) (l m : List Int) (ms : List (List PV)) (hsa : a.states ≤ 12) (hsb : b.states ≤ 12) (hx : 0 ≤ x ∧ x < a.states) (hy : 0 ≤ y ∧ y < b.states) (ha : a.edges.length ≤ 2 ^ 63 - 1) (hb : b.edges.length ≤ 2 ^ 63 - 1) : res A PrA 250 [.agg [.int .i64 a.states,.int .i64 a.start,.lst t1 (a.edges.map Edge.c),.int .i64 b.states,.int .i64 b.start,.lst t2 (b.edges.map Edge.c),.int .i64 cap],.agg [.int .i64 x,.int .i64 y,.lst t3 (ints l),.lst t4 (ints m)],.lst t5 ms] = some [.int .i64 (kindB a b x y l m ms.length)] := by
  refine res_of a250 rfl rfl ?_
  simp only [F250]; try delta sS tT zZ nN gG bB pZ
  have ea := ends_len a
  have eb := ends_len b
  have i1 := ends_in hsa hx
  have i2 := ends_in hsb hy
  have h255a := r255 t1 t3 a x l ha
  have h255b := r255 t2 t4 b y m hb
  simp (disch := omega) only [go_sem,i1]
  have key : ∀ v : Int,v = kindB a b x y l m ms.length → some [PV.int .i64 v] = some [PV.int .i64 (kindB a b x y l m ms.length)] := fun v hv => by rw [hv]
  cases h1 : isEnd x a.edges <;> cases h2 : isEnd y b.edges <;> cases h3 : blockB a x l <;> cases h4 : blockB b y m <;> simp (disch := omega) only [go_sem,h255a,h255b,i2,h2,h3,h4]
  all_goals first
    | (refine key _ ?_; simp [kindB,h1,h2,h3,h4]; done)
    | (refine Br.ofP (fun hz => ?_) (fun hz => ?_)
       · have hz2 : ms.length = 0 := by omega
         simp (disch := omega) only [go_sem]
         refine key _ ?_
         simp [kindB,h1,h2,h3,h4,hz2]
       · have hz2 : ms.length ≠ 0 := by omega
         simp (disch := omega) only [go_sem]
         refine key _ ?_
         simp [kindB,h1,h2,h3,h4,hz2])
end Go.Pv
namespace Go.Pv
def revK (l : List Mov) (k : Nat) : List Mov := (List.range l.length).map fun p => if p < k ∨ l.length ≤ p + k then l.getD (l.length - 1 - p) default else l.getD p default
theorem revK_len (l : List Mov) (k : Nat) : (revK l k).length = l.length := by simp [revK]
theorem revK_get {l : List Mov} {k p : Nat} (h : p < l.length) : (revK l k)[p]? = some (if p < k ∨ l.length ≤ p + k then l.getD (l.length - 1 - p) default else l.getD p default) := by simp [revK,h]
theorem revK_zero (l : List Mov) : revK l 0 = l := by
 apply List.ext_getElem?
 intro p
 rcases Nat.lt_or_ge p l.length with h | h
 ·rw [revK_get h,if_neg (by omega),List.getElem?_eq_getElem h]
  simp [h]
 ·rw [List.getElem?_eq_none (by rw [revK_len]; exact h),List.getElem?_eq_none h]
theorem revK_succ {l : List Mov} {k : Nat} (h : k + k + 1 < l.length) : ((revK l k).set k (l.getD (l.length - 1 - k) default)).set (l.length - 1 - k) (l.getD k default) = revK l (k + 1) := by
 apply List.ext_getElem?
 intro p
 rcases Nat.lt_or_ge p l.length with hp | hp
 ·rw [revK_get hp]
  by_cases e1 : l.length - 1 - k = p
  ·subst e1
   rw [List.getElem?_set_self (by rw [List.length_set,revK_len]; exact hp),if_pos (by omega)]
   congr 2
   omega
  ·rw [List.getElem?_set_ne e1]
   by_cases e2 : k = p
   ·subst e2
    rw [List.getElem?_set_self (by rw [revK_len]; exact hp),if_pos (by omega)]
   ·rw [List.getElem?_set_ne e2,revK_get hp]
    by_cases c : p < k ∨ l.length ≤ p + k
    ·rw [if_pos c,if_pos (by omega)]
    ·rw [if_neg c,if_neg (by omega)]
 ·rw [List.getElem?_eq_none (by simp [revK_len,hp]),List.getElem?_eq_none (by rw [revK_len]; exact hp)]
theorem revK_end {l : List Mov} {k : Nat} (h : l.length ≤ k + k + 1) : revK l k = l.reverse := by
 apply List.ext_getElem?
 intro p
 rcases Nat.lt_or_ge p l.length with hp | hp
 ·rw [revK_get hp,List.getElem?_reverse hp]
  have hq : l.length - 1 - p < l.length := by omega
  have e : l.getD (l.length - 1 - p) default = l[l.length - 1 - p] := by simp [hq]
  rw [List.getElem?_eq_getElem hq,← e]
  by_cases c : p < k ∨ l.length ≤ p + k
  ·rw [if_pos c]
  ·rw [if_neg c]
   congr 2
   omega
 ·rw [List.getElem?_eq_none (by rw [revK_len]; exact hp),List.getElem?_eq_none (by rw [List.length_reverse]; exact hp)]
theorem mvs3_set (l : List Mov) (i : Nat) (a : Int) (b : Bool) (c : Int) : (mvs3 l).set i [.int .i64 a,.bool b,.int .i64 c] = mvs3 (l.set i ⟨a,b,c⟩) := by simp [mvs3,Mov.c,List.map_set]
theorem storeRow_mvs {id row ver : Nat} {a c : Int} {b : Bool} {r : List Mov} (h : row < r.length) : storeRow id row 0 [.pv (.int .i64 a),.pv (.bool b),.pv (.int .i64 c)] ⟨ver,3,.inl (mvs3 r)⟩ = some { ar := some (id,⟨ver,3,.inl (mvs3 (r.set row ⟨a,b,c⟩))⟩) } := by
 have h1 : row < (⟨ver,3,.inl (mvs3 r)⟩ : Arr).size := by simpa [Arr.size,mvs3] using h
 have h2 : (mvs3 r).getD row [] = (r[row]).c := by simp [mvs3,h]
 have h3 : (r[row]).c.drop 3 = [] := rfl
 simp [storeRow,h1,setBody,mapO,V.purec,PV.perm,V.calm,← mvs3_set]
 simp [mvs3,h,Mov.c]
set_option maxHeartbeats 4000000 in
theorem rev_run (v m : Nat) (l : List Mov) (hl : l.length = m + 1) (hm : m < 1000000) (Q : Ex → St → Prop) (hQ : ∀ env,Q .normal ⟨env,⟨[],[⟨v,3,.inl (mvs3 l.reverse)⟩],[]⟩⟩) : W A PrA F254.body ⟨[(0,.own 0 v 0 (m + 1))],⟨[],[⟨v,3,.inl (mvs3 l)⟩],[]⟩⟩ Q := by
 simp only [F254]; try delta sS tT zZ nN gG bB pZ
 simp (disch := omega) only [go_sem]
 refine W.upto (m + 1) (fun k => ⟨[(0,.own 0 v 0 (m + 1)),(2,.pv (.int .i64 k)),(3,.pv (.int .i64 ((m : Int) - k)))],⟨[],[⟨v,3,.inl (mvs3 (revK l k))⟩],[]⟩⟩) (fun _ => True) (by rw [revK_zero,show (((m + 1 : Nat) : Int) - 1) = (m : Int) - ((0 : Nat) : Int) by omega]; rfl) trivial fun k hk _ => ?_
 simp (disch := omega) only [go_sem]
 refine Br.ofP (fun c => ?_) (fun c => ?_)
 ·have hkl : k < l.length := by omega
  have hjl : m - k < l.length := by omega
  have h1 : (revK l k)[k]? = some (l.getD k default) := by rw [revK_get hkl,if_neg (by omega)]
  have h2 : (revK l k)[m - k]? = some (l.getD (m - k) default) := by rw [revK_get hjl,if_neg (by omega)]
  have hs := revK_succ (l := l) (k := k) (by omega)
  rw [show l.length - 1 - k = m - k by omega] at hs
  have hrl : (revK l k).length = m + 1 := by rw [revK_len,hl]
  have hti : ((m : Int) - (k : Int)).toNat = m - k := by omega
  generalize revK l k = r at *
  generalize l.getD k default = x at *
  generalize l.getD (m - k) default = y at *
  have hrl2 : (r.set k ⟨y.party,y.send,y.label⟩).length = m + 1 := by rw [List.length_set,hrl]
  simp (disch := omega) only [go_sem,h1,h2,hti,storeRow_mvs]
  refine .of (by omega) ?_ trivial
  rw [← hs,show ((m : Int) - (k : Int) - 1) = (m : Int) - ((k + 1 : Nat) : Int) by omega]
  rfl
 ·have := revK_end (l := l) (k := k) (by omega)
  rw [this]
  simp (disch := omega) only [go_sem]
  exact hQ _
theorem call254 {v : V} {bx : List (Nat × List V)} {ar : List Arr} {mp : List (List (PV × PV))} {K : V → Tn → Prop} (hv : v = .tl [] ∨ ∃ a b c d,v = .own a b c d) (h : W A PrA F254.body ⟨[(0,v)],⟨[],ar,mp⟩⟩ (inlK [] [] K)) : IW A PrA 254 [v] ⟨bx,ar,mp⟩ K := by
 rw [IW_eq a254]
 rcases hv with rfl | ⟨_,_,_,_,rfl⟩ <;> exact ⟨rfl,_,rfl,_,rfl,h⟩
set_option maxHeartbeats 4000000 in
theorem r249 (t : Nat) (s0 s1 s2 s3 s4 s5 s6 C M N : PV) (mvf : Cfg → List (Mov × Cfg)) (s : Cfg) (nodes : List Nd) (i0 : Nat) (hf : Fnd mvf s nodes i0) (hn : nodes.length ≤ 100000) (k : Nat) (x : Nd) (hx : nodes[k]? = some x) : res A PrA 249 [.ro t [s0,s1,s2,s3,s4,s5,s6,C,M,N,.lst 0 (ints (nodes.map Nod.bef)),.lst 0 (mvs3 (nodes.map Nd.mv))],.int .i64 k] = some [.lst 0 (mvs3 x.path)] := by
 refine res_of a249 rfl rfl ?_
 simp only [F249]; try delta sS tT zZ nN gG bB pZ
 have hk := (List.getElem?_eq_some_iff.1 hx).1
 simp (disch := omega) only [go_sem]
 refine W.loop (α := Nat × Nd × List Mov) (fun q => ⟨[(0,.pv (.ro t [s0,s1,s2,s3,s4,s5,s6,C,M,N,.lst 0 (ints (nodes.map Nod.bef)),.lst 0 (mvs3 (nodes.map Nd.mv))])),(1,.pv (.int .i64 q.1)),(5,grV 0 (mvs3 q.2.2))],⟨[],grA 3 (mvs3 q.2.2),[]⟩⟩)
  (fun q => nodes[q.1]? = some q.2.1 ∧ x.path = q.2.1.path ++ q.2.2.reverse ∧ q.2.2.length + q.1 ≤ k) (fun q => q.1) (k,x,[]) rfl ⟨hx,by simp,by simp⟩ fun q hq => ?_
 obtain ⟨j,y,acc⟩ := q
 obtain ⟨h1,h2,h3⟩ := hq
 dsimp only at h1 h2 h3
 have hb : (nodes.map Nod.bef)[j]? = some y.bef := by rw [List.getElem?_map,h1]; rfl
 have hm : (nodes.map Nd.mv)[j]? = some (Nd.mv y) := by rw [List.getElem?_map,h1]; rfl
 have hjl := (List.getElem?_eq_some_iff.1 h1).1
 have hbl : (nodes.map Nod.bef).length = nodes.length := List.length_map _
 have hml : (nodes.map Nd.mv).length = nodes.length := List.length_map _
 rcases Nat.eq_zero_or_pos j with h0 | h0
 ·subst h0
  rw [hf.first] at h1
  cases h1
  simp only [nod0,List.nil_append] at h2 hb hm
  have hge : decide ((-1 : Int) ≥ 0) = false := rfl
  cases acc with
  | nil =>
   simp (disch := omega) only [go_sem,hb]
   refine call254 (.inl rfl) ?_
   simp only [F254]; try delta sS tT zZ nN gG bB pZ
   simp (disch := omega) only [go_sem]
   refine W.loop (α := Unit) (fun _ => ⟨[(0,.tl []),(2,.pv (.int .i64 0)),(3,.pv (.int .i64 (-1)))],⟨[],[],[]⟩⟩) (fun _ => True) (fun _ => 0) () rfl trivial fun _ _ => ?_
   have ho : outBx (toOut []) [] outer [] = some [] := rfl
   simp (disch := omega) only [go_sem,ho]
   rw [h2]
   rfl
  | cons m0 acc =>
   simp (disch := omega) only [go_sem,hb]
   rw [grV_own (n := acc.length) (by rw [mvs3_length]; rfl),grA_own (n := acc.length) (by rw [mvs3_length]; rfl)]
   refine call254 (.inr ⟨_,_,_,_,rfl⟩) (rev_run acc.length acc.length (m0 :: acc) rfl (by simp at h3; omega) _ fun env => ?_)
   have ho : outBx (toOut []) [] outer [] = some [] := rfl
   have htk : (mvs3 (m0 :: acc).reverse).take (acc.length + 1) = mvs3 (m0 :: acc).reverse := List.take_of_length_le (by rw [mvs3_length,List.length_reverse]; exact Nat.le_refl _)
   simp (disch := omega) only [go_sem,ho,htk]
   rw [h2]
 ·obtain ⟨k2,y2,m,e1,e2,e3,e4,e5⟩ := hf.way j y h1 h0
  have hyb : y.bef = (k2 : Int) := by rw [e5]
  have hym : Nd.mv y = m := by rw [e5]; rfl
  have hyp : y.path = y2.path ++ [m] := by rw [e5]
  rw [hyb] at hb
  rw [hym] at hm
  have hal : (mvs3 acc).length ≤ 200000 := by rw [mvs3_length]; omega
  simp (disch := omega) only [go_sem,hb]
  refine Br.ofP (fun _ => ?_) (fun h => (h (by omega)).elim)
  simp (disch := omega) only [go_sem,hb,hm]
  refine ⟨(k2,y2,acc ++ [m]),⟨e3,?_,?_⟩,by dsimp only; omega,rfl⟩
  ·dsimp only
   rw [h2,hyp,List.reverse_append]
   simp
  ·dsimp only
   rw [List.length_append]
   simp
   omega
end Go.Pv
