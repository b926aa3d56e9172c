/-
 What the functions of the law give.
-/
import Derived.Test.YtcdmmccepnbnhaaGreatDoorC3
set_option linter.unusedSimpArgs false
set_option linter.unusedVariables false
namespace Go.Pv
abbrev Nd := Nod Cfg Mov
def Nd.mv (x : Nd) : Mov := x.by'.getD ⟨0,false,0⟩
def idxM (l : List ByteArray) : List (PV × PV) := l.zipIdx.map fun p => (.str p.1,.int .i64 p.2)
def keysN (out : List Nd) : List ByteArray := out.map fun x => x.c.keyB
theorem findKey_zip (x : ByteArray) : ∀ (l : List ByteArray) (k i : Nat),findKey false [2] (.str x) ((l.zipIdx k).map fun (p : ByteArray × Nat) => (PV.str p.1,PV.int .i64 (p.2 : Int))) i = some ((l.findIdx? fun s => decide (s = x)).map fun j => (j + i,.int .i64 ((j + k : Nat) : Int)))
 | [],k,i => by
  show (if (keyEq false [2] (.str x) (.str x)).isSome then some none else none) = _
  rw [keyEq_str]
  rfl
 | y :: l,k,i => by
  show (match keyEq false [2] (.str x) (.str y) with
   | some true => some (some (i,PV.int .i64 k))
   | some false => findKey false [2] (.str x) ((l.zipIdx (k + 1)).map fun (p : ByteArray × Nat) => (PV.str p.1,PV.int .i64 (p.2 : Int))) (i + 1)
   | none => none) = _
  rw [keyEq_str]
  by_cases h : x = y
  ·subst h
   simp [List.findIdx?_cons]
  ·have h' : ¬ y = x := fun e => h e.symm
   simp only [h,decide_false]
   rw [findKey_zip x l (k + 1) (i + 1)]
   simp only [List.findIdx?_cons,h',decide_false]
   cases l.findIdx? fun s => decide (s = x) with
   | none => rfl
   | some j =>
    have e1 : j + (i + 1) = j + 1 + i := by omega
    have e2 : j + (k + 1) = j + 1 + k := by omega
    simp [e1]
    omega
theorem find_idxM (x : ByteArray) (l : List ByteArray) : findKey false [2] (.str x) (idxM l) 0 = some ((l.findIdx? fun s => decide (s = x)).map fun j => (j,.int .i64 (j : Int))) := by
 have := findKey_zip x l 0 0
 simpa [idxM] using this
theorem idxM_snoc (l : List ByteArray) (x : ByteArray) : idxM l ++ [(.str x,.int .i64 (l.length : Int))] = idxM (l ++ [x]) := by
 simp [idxM,List.zipIdx_append]
theorem upd_idxM (x : ByteArray) (l : List ByteArray) (id : Nat) (h : (l.findIdx? fun s => decide (s = x)) = none) : updM false [2] (.str x) (.int .i64 (l.length : Int)) id (idxM l) = some { mp := some (id,idxM (l ++ [x])) } := by
 unfold updM
 rw [find_idxM,h]
 simp [idxM_snoc]
def cellsX (a b : Auto) (cap : Int) (c m n f y : V) : List V := [.pv (.int .i64 a.states),.pv (.int .i64 a.start),.pv (.lst 0 (a.edges.map Edge.c)),.pv (.int .i64 b.states),.pv (.int .i64 b.start),.pv (.lst 0 (b.edges.map Edge.c)),.pv (.int .i64 cap),c,m,n,f,y]
theorem foundT_some (z : V) (j : Nat) (p : PV) : foundV z true (some (j,p)) = .tup [.pv p,.pv (.bool true)] := rfl
theorem foundT_none (z : V) : foundV z true none = .tup [z,.pv (.bool false)] := rfl
def arX (m : Nat) (out : List Nd) (rest : List Arr) : List Arr := ⟨m,4,.inl (cfgs (out.map Nod.c))⟩ :: ⟨m,1,.inl (ints (out.map Nod.bef))⟩ :: ⟨m,3,.inl (mvs3 (out.map Nd.mv))⟩ :: rest
theorem app_rows {h : Heap} {id m k : Nat} {rows : List (List PV)} {r : List PV} (ho : ownArr h id m = some ⟨m,k,.inl rows⟩) (hl : rows.length = m + 1) (hr : r.length = k) (hm : m < 100000) : appendV h k (.own id m 0 (m + 1)) (.tl [r]) = some (.own id (m + 1) 0 (m + 1 + 1),{ ar := some (id,⟨m + 1,k,.inl (rows ++ [r])⟩) }) := by
 have h2 : rows.take (m + 1) = rows := List.take_of_length_le (by omega)
 simp [appendV,srcRows,rowsFit,rowsLen,hr,ho,cutRows,catRows,mostRows,Arr.size,hl,h2]
 omega
set_option maxHeartbeats 4000000 in
theorem add256 (a b : Auto) (cap : Int) (m : Nat) (mV nV : V) (rest : List Arr) (out : List Nd) (c : Cfg) (bef : Int) (y : Mov) (pt : List Mov) (hc : c.ok) (Q : Ex → St → Prop) (hl : out.length = m + 1) (hm : m < 100000)
  (j : Option Nat) (hj : ((keysN out).findIdx? fun s => decide (s = c.keyB)) = j)
  (hQ : ∀ env,match j with
   | some j => Q .ret ⟨(8,.pv (.int .i64 j)) :: env,⟨[(200000,[.map 0]),(200001,[.ptr 200002 0]),(200002,cellsX a b cap (.own 0 m 0 (m + 1)) mV nV (.own 1 m 0 (m + 1)) (.own 2 m 0 (m + 1)))],arX m out rest,[idxM (keysN out)]⟩⟩
   | none => Q .ret ⟨(8,.pv (.int .i64 (m + 1 : Nat))) :: env,⟨[(200000,[.map 0]),(200001,[.ptr 200002 0]),(200002,cellsX a b cap (.own 0 (m + 1) 0 (m + 1 + 1)) mV nV (.own 1 (m + 1) 0 (m + 1 + 1)) (.own 2 (m + 1) 0 (m + 1 + 1)))],arX (m + 1) (out ++ [⟨c,bef,some y,pt⟩]) rest,[idxM (keysN (out ++ [⟨c,bef,some y,pt⟩]))]⟩⟩) :
  W A PrA F256.body ⟨[(0,.agg [.pv (.int .i64 c.a),.pv (.int .i64 c.b),.pv (.lst 0 (ints c.toA)),.pv (.lst 0 (ints c.toB))]),(1,.pv (.int .i64 bef)),(2,.agg [.pv (.int .i64 y.party),.pv (.bool y.send),.pv (.int .i64 y.label)]),(3,.ptr 200000 0),(4,.ptr 200001 0)],
   ⟨[(200000,[.map 0]),(200001,[.ptr 200002 0]),(200002,cellsX a b cap (.own 0 m 0 (m + 1)) mV nV (.own 1 m 0 (m + 1)) (.own 2 m 0 (m + 1)))],arX m out rest,[idxM (keysN out)]⟩⟩ Q := by
 have hk := r251 0 0 c.a c.b c.toA c.toB hc
 have hj' : ((keysN out).findIdx? fun s => decide (s = keyBS c.a c.b c.toA c.toB)) = j := hj
 simp only [F256,cellsX,arX] at hQ ⊢
 simp (disch := omega) only [go_sem,hk,find_idxM,hj']
 cases j with
 | some j =>
  simp (disch := omega) only [go_sem,Option.map_some,foundT_some]
  exact hQ _
 | none =>
  have h1 : (cfgs (out.map Nod.c)).length = m + 1 := by rw [cfgs_length,List.length_map,hl]
  have h2 : (ints (out.map Nod.bef)).length = m + 1 := by rw [ints_length,List.length_map,hl]
  have h3 : (mvs3 (out.map Nd.mv)).length = m + 1 := by rw [mvs3_length,List.length_map,hl]
  have hkl : (keysN out).length = m + 1 := by simp [keysN,hl]
  have hu := upd_idxM (keyBS c.a c.b c.toA c.toB) (keysN out) 0 hj'
  rw [hkl] at hu
  have a1 : ∀ bx mp r2,appendV ⟨bx,⟨m,4,.inl (cfgs (out.map Nod.c))⟩ :: r2,mp⟩ 4 (.own 0 m 0 (m + 1)) (.tl [[.int .i64 c.a,.int .i64 c.b,.lst 0 (ints c.toA),.lst 0 (ints c.toB)]]) = _ := fun bx mp r2 => app_rows (by simp [ownArr]) h1 rfl hm
  have a2 : ∀ bx mp x r2,appendV ⟨bx,x :: ⟨m,1,.inl (ints (out.map Nod.bef))⟩ :: r2,mp⟩ 1 (.own 1 m 0 (m + 1)) (.tl [[.int .i64 bef]]) = _ := fun bx mp x r2 => app_rows (by simp [ownArr]) h2 rfl hm
  have a3 : ∀ bx mp x z r2,appendV ⟨bx,x :: z :: ⟨m,3,.inl (mvs3 (out.map Nd.mv))⟩ :: r2,mp⟩ 3 (.own 2 m 0 (m + 1)) (.tl [[.int .i64 y.party,.bool y.send,.int .i64 y.label]]) = _ := fun bx mp x z r2 => app_rows (by simp [ownArr]) h3 rfl hm
  simp (disch := omega) only [go_sem,Option.map_none,foundT_none,hu,hk,a1,a2,a3]
  have e1 : out.map Nod.c ++ [c] = (out ++ [(⟨c,bef,some y,pt⟩ : Nd)]).map Nod.c := by simp
  have e2 : out.map Nod.bef ++ [bef] = (out ++ [(⟨c,bef,some y,pt⟩ : Nd)]).map Nod.bef := by simp
  have e3 : out.map Nd.mv ++ [(⟨y.party,y.send,y.label⟩ : Mov)] = (out ++ [(⟨c,bef,some y,pt⟩ : Nd)]).map Nd.mv := by simp [Nd.mv]
  have e4 : keysN out ++ [keyBS c.a c.b c.toA c.toB] = keysN (out ++ [(⟨c,bef,some y,pt⟩ : Nd)]) := by simp [keysN,Cfg.keyB]
  rw [cfgs_snoc,e1,e3,e4]
  first | rw [e2] | skip
  exact hQ _
def Flat2 (x y : V) : Prop := (x = .tl [] ∧ y = .tl []) ∨ ∃ a b c a' b' c',x = .own a b 0 c ∧ y = .own a' b' 0 c'
def pinX (S2 S3 X : List V) : List (Nat × List V) := [(100002,S2),(100003,S3),(100019,X),(100006,[.ptr 100019 0]),(100007,[.map 0])]
theorem call256 {a b : Auto} {cap : Int} {m1 m2 m3 n1 n2 n3 : Nat} {mV nV : V} {S2 S3 S14 S15 : List V} {ar : List Arr} {mp : List (List (PV × PV))} {x1 x2 x3 x4 x5 x7 : PV} {bef : Int} {sd : Bool} {K : V → Tn → Prop} (h1 : Flat2 mV nV)
  (h : W A PrA F256.body ⟨[(0,.agg [.pv x1,.pv x2,.pv x3,.pv x4]),(1,.pv (.int .i64 bef)),(2,.agg [.pv x5,.pv (.bool sd),.pv x7]),(3,.ptr 200000 0),(4,.ptr 200001 0)],
   ⟨[(200000,[.map 0]),(200001,[.ptr 200002 0]),(200002,cellsX a b cap (.own 0 m1 0 n1) mV nV (.own 1 m2 0 n2) (.own 2 m3 0 n3))],ar,mp⟩⟩ (inlK [.tmp 8] [100007,100006,100019] K)) :
  IW A PrA 256 [.agg [.pv x1,.pv x2,.pv x3,.pv x4],.pv (.int .i64 bef),.agg [.pv x5,.pv (.bool sd),.pv x7],.ptr 100007 0,.ptr 100006 0] ⟨(14,S14) :: (15,S15) :: pinX S2 S3 (cellsX a b cap (.own 0 m1 0 n1) mV nV (.own 1 m2 0 n2) (.own 2 m3 0 n3)),ar,mp⟩ K := by
 rw [IW_eq a256]
 rcases h1 with ⟨rfl,rfl⟩ | ⟨_,_,_,_,_,_,rfl,rfl⟩ <;> exact ⟨rfl,_,rfl,_,rfl,h⟩
theorem call0 {a b : Auto} {cap : Int} {S2 S3 : List V} {ar : List Arr} {mp : List (List (PV × PV))} {x1 x2 x3 x4 x5 x7 : PV} {bef : Int} {sd : Bool} {K : V → Tn → Prop}
  (h : W A PrA F256.body ⟨[(0,.agg [.pv x1,.pv x2,.pv x3,.pv x4]),(1,.pv (.int .i64 bef)),(2,.agg [.pv x5,.pv (.bool sd),.pv x7]),(3,.ptr 200000 0),(4,.ptr 200001 0)],
   ⟨[(200000,[.map 0]),(200001,[.ptr 200002 0]),(200002,cellsX a b cap (.tl []) (.tl []) (.tl []) (.tl []) (.tl []))],ar,mp⟩⟩ (inlK [.tmp 8] [100007,100006,100019] K)) :
  IW A PrA 256 [.agg [.pv x1,.pv x2,.pv x3,.pv x4],.pv (.int .i64 bef),.agg [.pv x5,.pv (.bool sd),.pv x7],.ptr 100007 0,.ptr 100006 0] ⟨pinX S2 S3 (cellsX a b cap (.tl []) (.tl []) (.tl []) (.tl []) (.tl [])),ar,mp⟩ K := by
 rw [IW_eq a256]
 exact ⟨rfl,_,rfl,_,rfl,h⟩
theorem back256 {a b : Auto} {cap : Int} {m1 m2 m3 n1 n2 n3 : Nat} {mV nV : V} {ar : List Arr} {mp : List (List (PV × PV))} {env : List (Nat × V)} {n : Int} {K : V → Tn → Prop} (h1 : Flat2 mV nV)
  (h : K (.pv (.int .i64 n)) { all := some ([(100007,[.map 0]),(100006,[.ptr 100019 0]),(100019,cellsX a b cap (.own 0 m1 0 n1) mV nV (.own 1 m2 0 n2) (.own 2 m3 0 n3))],ar,mp) }) :
  inlK [.tmp 8] [100007,100006,100019] K .mk .ret ⟨(8,.pv (.int .i64 n)) :: env,⟨[(200000,[.map 0]),(200001,[.ptr 200002 0]),(200002,cellsX a b cap (.own 0 m1 0 n1) mV nV (.own 1 m2 0 n2) (.own 2 m3 0 n3))],ar,mp⟩⟩ := by
 rcases h1 with ⟨rfl,rfl⟩ | ⟨_,_,_,_,_,_,rfl,rfl⟩ <;> exact ⟨_,rfl,_,rfl,_,rfl,h⟩
set_option maxHeartbeats 4000000 in
theorem add0 (a b : Auto) (cap : Int) (c : Cfg) (bef : Int) (y : Mov) (hc : c.ok) (Q : Ex → St → Prop)
  (hQ : ∀ env,Q .ret ⟨(8,.pv (.int .i64 (0 : Nat))) :: env,⟨[(200000,[.map 0]),(200001,[.ptr 200002 0]),(200002,cellsX a b cap (.own 0 0 0 1) (.tl []) (.tl []) (.own 1 0 0 1) (.own 2 0 0 1))],[⟨0,4,.inl [[.int .i64 c.a,.int .i64 c.b,.lst 0 (ints c.toA),.lst 0 (ints c.toB)]]⟩,⟨0,1,.inl [[.int .i64 bef]]⟩,⟨0,3,.inl [[.int .i64 y.party,.bool y.send,.int .i64 y.label]]⟩],[idxM [c.keyB]]⟩⟩) :
  W A PrA F256.body ⟨[(0,.agg [.pv (.int .i64 c.a),.pv (.int .i64 c.b),.pv (.lst 0 (ints c.toA)),.pv (.lst 0 (ints c.toB))]),(1,.pv (.int .i64 bef)),(2,.agg [.pv (.int .i64 y.party),.pv (.bool y.send),.pv (.int .i64 y.label)]),(3,.ptr 200000 0),(4,.ptr 200001 0)],
   ⟨[(200000,[.map 0]),(200001,[.ptr 200002 0]),(200002,cellsX a b cap (.tl []) (.tl []) (.tl []) (.tl []) (.tl []))],[],[[]]⟩⟩ Q := by
 have hk := r251 0 0 c.a c.b c.toA c.toB hc
 simp only [F256,cellsX] at hQ ⊢
 have hf0 : findKey false [2] (.str (keyBS c.a c.b c.toA c.toB)) [] 0 = some none := rfl
 have hu0 : updM false [2] (.str (keyBS c.a c.b c.toA c.toB)) (.int .i64 (0 : Nat)) 0 [] = some { mp := some (0,idxM [keyBS c.a c.b c.toA c.toB]) } := upd_idxM _ [] 0 rfl
 have a1 : ∀ bx mp,appendV ⟨bx,[],mp⟩ 4 (.tl []) (.tl [[.int .i64 c.a,.int .i64 c.b,.lst 0 (ints c.toA),.lst 0 (ints c.toB)]]) = some (.own 0 0 0 1,{ push := [⟨0,4,.inl [[.int .i64 c.a,.int .i64 c.b,.lst 0 (ints c.toA),.lst 0 (ints c.toB)]]⟩],base := 0 }) := fun bx mp => rfl
 have a2 : ∀ bx mp x,appendV ⟨bx,[x],mp⟩ 1 (.tl []) (.tl [[.int .i64 bef]]) = some (.own 1 0 0 1,{ push := [⟨0,1,.inl [[.int .i64 bef]]⟩],base := 1 }) := fun bx mp x => rfl
 have a3 : ∀ bx mp x z,appendV ⟨bx,[x,z],mp⟩ 3 (.tl []) (.tl [[.int .i64 y.party,.bool y.send,.int .i64 y.label]]) = some (.own 2 0 0 1,{ push := [⟨0,3,.inl [[.int .i64 y.party,.bool y.send,.int .i64 y.label]]⟩],base := 2 }) := fun bx mp x z => rfl
 simp (disch := omega) only [go_sem,hk,hf0,foundT_none,hu0,a1,a2,a3]
 exact hQ _
end Go.Pv
namespace Go.Pv
theorem chkE_yes {a b : Auto} {cap x y : Int} {l m : List Int} (h : sysErr a b cap = 0) (h2 : fitsB a b cap x y l m = true) : chkE a b cap x y l m = 0 := by
 unfold chkE
 rw [if_neg (by simp [h]),if_pos h2]
theorem fitsB_iff {a b : Auto} {cap x y : Int} {l m : List Int} : fitsB a b cap x y l m = true ↔ sysErr a b cap = 0 ∧ (0 ≤ x ∧ x < a.states) ∧ (0 ≤ y ∧ y < b.states) ∧ chanB l cap = true ∧ chanB m cap = true := by
 unfold fitsB
 simp only [Bool.and_eq_true,decide_eq_true_eq]
 constructor
 ·rintro ⟨⟨⟨⟨⟨⟨h1,h2⟩,h3⟩,h4⟩,h5⟩,h6⟩,h7⟩
  exact ⟨h1,⟨h2,h3⟩,⟨h4,h5⟩,h6,h7⟩
 ·rintro ⟨h1,⟨h2,h3⟩,⟨h4,h5⟩,h6,h7⟩
  exact ⟨⟨⟨⟨⟨⟨h1,h2⟩,h3⟩,h4⟩,h5⟩,h6⟩,h7⟩
theorem side_fits {a : Auto} (h : a.Good) {cap st : Int} {i o : List Int} {send : Bool} {label q : Int} {i' o' : List Int} (hi : chanB i cap = true) (ho : chanB o cap = true) (hs : sideC a.edges cap st i o send label = (some (q,i',o'),true)) : (0 ≤ q ∧ q < a.states) ∧ chanB i' cap = true ∧ chanB o' cap = true := by
 unfold sideC at hs
 cases hn : nextE st send label a.edges with
 | none => rw [hn] at hs; cases hs
 | some t =>
  rw [hn] at hs
  dsimp only at hs
  have hm := (nextE_some (h.asc.imp fun h => .inl h)).1 hn
  have hf := h.fit _ hm
  unfold Edge.fits at hf
  simp only [Bool.and_eq_true,decide_eq_true_eq] at hf
  split at hs
  ·injection hs with h1 h2
   injection h1 with h1
   injection h1 with h1 h3
   injection h3 with h3 h4
   subst h1 h3 h4
   have h2 := of_decide_eq_true h2
   refine ⟨by omega,hi,?_⟩
   unfold chanB at ho ⊢
   simp only [Bool.and_eq_true,decide_eq_true_eq,Bool.not_eq_true'] at ho ⊢
   refine ⟨by rw [List.length_append]; simp; omega,?_⟩
   rw [List.any_append,ho.2]
   simp [badL]
   omega
  ·cases i with
   | nil => cases hs
   | cons z r =>
    dsimp only at hs
    split at hs
    ·injection hs with h1 h2
     injection h1 with h1
     injection h1 with h1 h3
     injection h3 with h3 h4
     subst h1 h3 h4
     refine ⟨by omega,?_,ho⟩
     unfold chanB at hi ⊢
     simp only [Bool.and_eq_true,decide_eq_true_eq,Bool.not_eq_true',List.any_cons,Bool.or_eq_false_iff,List.length_cons] at hi ⊢
     exact ⟨by omega,hi.2.2⟩
    ·cases hs
theorem fits_after {a b : Auto} {cap x y : Int} {l m : List Int} {mv : Mov} (h : fitsB a b cap x y l m = true) (ho : (afterC a b cap x y l m mv).2 = true) : fitsB a b cap (afterC a b cap x y l m mv).1.a (afterC a b cap x y l m mv).1.b (afterC a b cap x y l m mv).1.toA (afterC a b cap x y l m mv).1.toB = true := by
 obtain ⟨h1,h2,h3,h4,h5⟩ := fitsB_iff.1 h
 obtain ⟨ga,gb,_,_⟩ := sys_good h1
 rw [fitsB_iff]
 refine ⟨h1,?_⟩
 revert ho
 unfold afterC
 split
 ·cases hs : sideC a.edges cap x l m mv.send mv.label with
  | mk r ok =>
   cases r with
   | none =>
    intro ho
    exfalso
    have ho : ok = true := ho
    subst ho
    unfold sideC at hs
    cases hn : nextE x mv.send mv.label a.edges with
    | none => rw [hn] at hs; cases hs
    | some q =>
     rw [hn] at hs
     dsimp only at hs
     split at hs
     ·cases hs
     ·cases l with
      | nil => cases hs
      | cons z r => dsimp only at hs; split at hs <;> cases hs
   | some r =>
    obtain ⟨q,i,o⟩ := r
    intro ho
    have ho : ok = true := ho
    subst ho
    obtain ⟨g1,g2,g3⟩ := side_fits ga h4 h5 hs
    exact ⟨g1,h3,g2,g3⟩
 ·split
  ·cases hs : sideC b.edges cap y m l mv.send mv.label with
   | mk r ok =>
    cases r with
    | none =>
     intro ho
     exfalso
     have ho : ok = true := ho
     subst ho
     unfold sideC at hs
     cases hn : nextE y mv.send mv.label b.edges with
     | none => rw [hn] at hs; cases hs
     | some q =>
      rw [hn] at hs
      dsimp only at hs
      split at hs
      ·cases hs
      ·cases m with
       | nil => cases hs
       | cons z r => dsimp only at hs; split at hs <;> cases hs
    | some r =>
     obtain ⟨q,i,o⟩ := r
     intro ho
     have ho : ok = true := ho
     subst ho
     obtain ⟨g1,g2,g3⟩ := side_fits gb h5 h4 hs
     exact ⟨h2,g1,g3,g2⟩
  ·intro ho
   cases ho
theorem r171 (a b : Auto) (cap : Int) (x y : Int) (l m : List Int) (ha : a.edges.length ≤ 2 ^ 63 - 1) (hb : b.edges.length ≤ 2 ^ 63 - 1) (hl : l.length ≤ 2000000000) (hm : m.length ≤ 2000000000) : res A PrA 171 [.agg [.int .i64 a.states,.int .i64 a.start,.lst 0 (a.edges.map Edge.c),.int .i64 b.states,.int .i64 b.start,.lst 0 (b.edges.map Edge.c),.int .i64 cap],.agg [.int .i64 x,.int .i64 y,.lst 0 (ints l),.lst 0 (ints m)]] = some (if chkE a b cap x y l m = 0 then [.lst 0 (mvs3 (movesC a b cap x y l m)),.int .i64 0] else [.lst 0 [],.int .i64 (chkE a b cap x y l m)]) := by
 refine res_of a171 rfl rfl ?_
 simp only [F171]; try delta sS tT zZ nN gG bB pZ
 by_cases h1 : chkE a b cap x y l m = 0
 ·have hs : sysErr a b cap = 0 := by
   unfold chkE at h1
   by_cases h : sysErr a b cap = 0
   ·exact h
   ·rw [if_pos h] at h1
    exact h1
  obtain ⟨ga,gb,_,_⟩ := sys_good hs
  have h186 := r186 a b cap x y l m (by have := ga.len; omega) (by have := gb.len; omega) hl hm (movesC_asc ga.asc gb.asc)
  have d1 : decide (chkE a b cap x y l m = 0) = true := by simp [h1]
  simp (disch := omega) only [go_sem,d1,h186]
  rw [if_pos h1]
 ·have d1 : decide (chkE a b cap x y l m = 0) = false := by simp [h1]
  simp (disch := omega) only [go_sem,d1]
  rw [if_neg h1]
def applyC (a b : Auto) (cap x y : Int) (l m : List Int) (mv : Mov) : List PV := if chkE a b cap x y l m = 0 then (if (afterC a b cap x y l m mv).2 = true then [cfgP (afterC a b cap x y l m mv).1,.int .i64 0] else [cfgP cfg0,.int .i64 11]) else [cfgP cfg0,.int .i64 (chkE a b cap x y l m)]
set_option maxHeartbeats 1000000 in
theorem r174 (a b : Auto) (cap : Int) (x y : Int) (l m : List Int) (mv : Mov) (ha : a.edges.length ≤ 2 ^ 63 - 1) (hb : b.edges.length ≤ 2 ^ 63 - 1) (hl : l.length ≤ 2000000000) (hm : m.length ≤ 2000000000) : res A PrA 174 [.agg [.int .i64 a.states,.int .i64 a.start,.lst 0 (a.edges.map Edge.c),.int .i64 b.states,.int .i64 b.start,.lst 0 (b.edges.map Edge.c),.int .i64 cap],.agg [.int .i64 x,.int .i64 y,.lst 0 (ints l),.lst 0 (ints m)],.agg [.int .i64 mv.party,.bool mv.send,.int .i64 mv.label]] = some (applyC a b cap x y l m mv) := by
 refine res_of a174 rfl rfl ?_
 simp only [F174]; try delta sS tT zZ nN gG bB pZ
 unfold applyC
 have h182 := r182 a b cap x y l m mv ha hb hl hm
 by_cases h1 : chkE a b cap x y l m = 0
 ·have d1 : decide (chkE a b cap x y l m = 0) = true := by simp [h1]
  rw [if_pos h1]
  cases h2 : (afterC a b cap x y l m mv).2 with
  | true =>
   rw [h2] at h182
   generalize (afterC a b cap x y l m mv).1 = c at *
   simp (disch := omega) only [go_sem,d1,h182]
  | false =>
   rw [h2] at h182
   generalize (afterC a b cap x y l m mv).1 = c at *
   simp (disch := omega) only [go_sem,d1,h182]
   rfl
 ·have d1 : decide (chkE a b cap x y l m = 0) = false := by simp [h1]
  rw [if_neg h1]
  simp (disch := omega) only [go_sem,d1]
  rfl
end Go.Pv
namespace Go.Pv
theorem after_lab {P : Int → Prop} {a b : Auto} {cap x y : Int} {l m : List Int} {mv : Mov} (hl : ∀ z ∈ l,P z) (hm : ∀ z ∈ m,P z) (hv : P mv.label) : (∀ z ∈ (afterC a b cap x y l m mv).1.toA,P z) ∧ ∀ z ∈ (afterC a b cap x y l m mv).1.toB,P z := by
 have key : ∀ (es : List Edge) (st : Int) (i o : List Int),(∀ z ∈ i,P z) → (∀ z ∈ o,P z) → ∀ q i' o' ok,sideC es cap st i o mv.send mv.label = (some (q,i',o'),ok) → (∀ z ∈ i',P z) ∧ ∀ z ∈ o',P z := by
  intro es st i o hi ho q i' o' ok h
  unfold sideC at h
  split at h
  ·cases h
  ·split at h
   ·cases h
    refine ⟨hi,fun z hz => ?_⟩
    rcases List.mem_append.1 hz with hz | hz
    ·exact ho z hz
    ·rw [List.mem_singleton.1 hz]
     exact hv
   ·split at h
    ·cases h
    ·split at h
     ·cases h
      exact ⟨fun z hz => hi z (List.mem_cons_of_mem _ hz),ho⟩
     ·cases h
 have h0 : (∀ z ∈ cfg0.toA,P z) ∧ ∀ z ∈ cfg0.toB,P z := ⟨fun z hz => (by cases hz),fun z hz => (by cases hz)⟩
 unfold afterC
 split
 ·split
  ·exact h0
  ·rename_i q i o ok h
   exact key _ _ _ _ hl hm q i o ok h
 ·split
  ·split
   ·exact h0
   ·rename_i q i o ok h
    obtain ⟨h1,h2⟩ := key _ _ _ _ hm hl q i o ok h
    exact ⟨h2,h1⟩
  ·exact h0
theorem movesC_mem {a b : Auto} {cap x y : Int} {l m : List Int} {mv : Mov} (h : mv ∈ movesC a b cap x y l m) : (afterC a b cap x y l m mv).2 = true ∧ ∃ e ∈ a.edges ++ b.edges,mv.label = e.label := by
 unfold movesC at h
 rcases List.mem_append.1 h with h | h
 ·obtain ⟨e,he,rfl⟩ := List.mem_map.1 h
  obtain ⟨h1,h2⟩ := List.mem_filter.1 he
  rw [Bool.and_eq_true] at h2
  exact ⟨h2.2,e,List.mem_append_left _ h1,rfl⟩
 ·obtain ⟨e,he,rfl⟩ := List.mem_map.1 h
  obtain ⟨h1,h2⟩ := List.mem_filter.1 he
  rw [Bool.and_eq_true] at h2
  exact ⟨h2.2,e,List.mem_append_right _ h1,rfl⟩
theorem chan_ok {l : List Int} {cap : Int} (h : chanB l cap = true) : (l.length : Int) ≤ cap ∧ ∀ z ∈ l,1 ≤ z := by
 unfold chanB at h
 rw [Bool.and_eq_true,decide_eq_true_eq,Bool.not_eq_true'] at h
 refine ⟨h.1,fun z hz => ?_⟩
 have := h.2
 rw [List.any_eq_false] at this
 have := this z hz
 unfold badL at this
 simp at this
 omega
end Go.Pv
namespace Go.Pv
def mvC (a b : Auto) (cap : Int) (c : Cfg) : List (Mov × Cfg) := (movesC a b cap c.a c.b c.toA c.toB).map fun m => (m,(afterC a b cap c.a c.b c.toA c.toB m).1)
theorem mvC_suc (a b : Auto) (cap : Int) (c : Cfg) : sucOf (mvC a b cap) c = sucC a b cap c := by simp [sucOf,mvC,sucC]
def posZ (out : List Nd) (c : Cfg) : Int := ((out.findIdx? fun y => decide (y.c = c)).getD 0 : Nat)
def NextOk (mv : Cfg → List (Mov × Cfg)) (out : List Nd) (x : Nd) (l : List Int) : Prop := l.length = (sucOf mv x.c).length ∧ ∀ (k : Nat) (c : Cfg),(sucOf mv x.c)[k]? = some c → ∃ (z : Nat) (y : Nd),l[k]? = some (z : Int) ∧ out[z]? = some y ∧ y.c = c
theorem NextOk.mono {mv : Cfg → List (Mov × Cfg)} {out out' : List Nd} {x : Nd} {l : List Int} (h : NextOk mv out x l) (hp : out <+: out') : NextOk mv out' x l :=
 ⟨h.1,fun k c hc => by
  obtain ⟨z,y,h1,h2,h3⟩ := h.2 k c hc
  exact ⟨z,y,h1,get_pre hp h2,h3⟩⟩
theorem pos_at {out : List Nd} (hn : (out.map Nod.c).Nodup) {z : Nat} {y : Nd} (hy : out[z]? = some y) : (out.findIdx? fun w => decide (w.c = y.c)) = some z := by
 have hz := (List.getElem?_eq_some_iff.1 hy).1
 have hyz := (List.getElem?_eq_some_iff.1 hy).2
 rw [List.findIdx?_eq_some_iff_getElem]
 refine ⟨hz,by rw [hyz]; simp,fun j hj => ?_⟩
 simp only [decide_eq_true_eq]
 intro e
 have h1 : (out.map Nod.c)[j]? = some y.c := by rw [List.getElem?_map,List.getElem?_eq_getElem (by omega)]; simp [e]
 have h2 : (out.map Nod.c)[z]? = some y.c := by rw [List.getElem?_map,hy]; rfl
 have := (List.getElem?_inj (by rw [List.length_map]; omega) hn).1 (h1.trans h2.symm)
 omega
theorem NextOk.eq {mv : Cfg → List (Mov × Cfg)} {out : List Nd} {x : Nd} {l : List Int} (h : NextOk mv out x l) (hn : (out.map Nod.c).Nodup) : l = (sucOf mv x.c).map (posZ out) := by
 apply List.ext_getElem?
 intro k
 rw [List.getElem?_map]
 cases hc : (sucOf mv x.c)[k]? with
 | none =>
  have := List.getElem?_eq_none_iff.1 hc
  rw [List.getElem?_eq_none (by rw [h.1]; exact this)]
  rfl
 | some c =>
  obtain ⟨z,y,h1,h2,h3⟩ := h.2 k c hc
  rw [h1]
  simp only [Option.map_some,posZ]
  rw [← h3,pos_at hn h2]
  rfl
def RowR (rest : List Arr) (x : V) (l : List Int) : Prop := (x = .tl [] ∧ l = []) ∨ ∃ id ver,x = .own (id + 3) ver 0 l.length ∧ rest[id]? = some ⟨ver,1,.inl (ints l)⟩ ∧ l ≠ []
def NxR (rest : List Arr) (x : V) (ls : List (List Int)) : Prop := (x = .tl [] ∧ ls = []) ∨ ∃ id ver xs,x = .own (id + 3) ver 0 ls.length ∧ rest[id]? = some ⟨ver,1,.inr (rowsV xs)⟩ ∧ xs.length = ls.length ∧ ls ≠ [] ∧ ∀ (j : Nat) (y : V) (l : List Int),xs[j]? = some y → ls[j]? = some l → RowR rest y l
def mvRows (ms : List (List Mov)) : List (List PV) := ms.map fun l => [.lst 0 (mvs3 l)]
def MvR (rest : List Arr) (x : V) (ms : List (List Mov)) : Prop := (x = .tl [] ∧ ms = []) ∨ ∃ id ver,x = .own (id + 3) ver 0 ms.length ∧ rest[id]? = some ⟨ver,1,.inl (mvRows ms)⟩ ∧ ms ≠ []
def NotInts (b : Arr) : Prop := ∀ (ver : Nat) (l : List Int),l ≠ [] → b ≠ ⟨ver,1,.inl (ints l)⟩
theorem notInts_inr (v k : Nat) (r : List (List V)) : NotInts ⟨v,k,.inr r⟩ := fun ver l _ e => by
 injection e with _ _ e
 cases e
theorem notInts_mv (v k : Nat) {ms : List (List Mov)} (hm : ms ≠ []) : NotInts ⟨v,k,.inl (mvRows ms)⟩ := fun ver l hl e => by
 obtain ⟨z,l',rfl⟩ := List.exists_cons_of_ne_nil hl
 obtain ⟨m,ms',rfl⟩ := List.exists_cons_of_ne_nil hm
 injection e with _ _ e
 simp [mvRows,ints] at e
theorem RowR.push {rest : List Arr} {x : V} {l : List Int} (h : RowR rest x l) (r : List Arr) : RowR (rest ++ r) x l := by
 rcases h with h | ⟨id,ver,h1,h2,h3⟩
 ·exact .inl h
 ·exact .inr ⟨id,ver,h1,by rw [List.getElem?_append_left (List.getElem?_eq_some_iff.1 h2).1]; exact h2,h3⟩
theorem RowR.set {rest : List Arr} {x : V} {l : List Int} (h : RowR rest x l) {j : Nat} {b b' : Arr} (hb : rest[j]? = some b) (hn : NotInts b) : RowR (rest.set j b') x l := by
 rcases h with h | ⟨id,ver,h1,h2,h3⟩
 ·exact .inl h
 ·refine .inr ⟨id,ver,h1,?_,h3⟩
  rw [List.getElem?_set_ne]
  ·exact h2
  ·intro e
   subst e
   rw [hb] at h2
   cases h2
   exact hn ver l h3 rfl
structure SpR (mv : Cfg → List (Mov × Cfg)) (out : List Nd) (i : Nat) (rest : List Arr) (mV nV : V) (ls : List (List Int)) : Prop where
 mr : MvR rest mV ((out.take i).map fun x => (mv x.c).map (·.1))
 nr : NxR rest nV ls
 ll : ls.length = i
 ok : ∀ (j : Nat) (x : Nd) (l : List Int),out[j]? = some x → ls[j]? = some l → NextOk mv out x l
theorem SpR.flat {mv : Cfg → List (Mov × Cfg)} {out : List Nd} {i : Nat} {rest : List Arr} {mV nV : V} {ls : List (List Int)} (h : SpR mv out i rest mV nV ls) (hi : i ≤ out.length) : Flat2 mV nV := by
 have hl : ((out.take i).map fun x => (mv x.c).map (·.1)).length = i := by rw [List.length_map,List.length_take]; omega
 rcases h.mr with ⟨h1,h2⟩ | ⟨id,ver,h1,_,h2⟩
 ·have h0 : i = 0 := by rw [← hl,h2]; rfl
  rcases h.nr with ⟨h3,h4⟩ | ⟨_,_,_,_,_,_,h4,_⟩
  ·exact .inl ⟨h1,h3⟩
  ·exact (h4 (List.eq_nil_of_length_eq_zero (by rw [h.ll,h0]))).elim
 ·have h0 : i ≠ 0 := fun e => h2 (List.eq_nil_of_length_eq_zero (by rw [hl,e]))
  rcases h.nr with ⟨h3,h4⟩ | ⟨id',ver',xs,h3,_,_,_,_⟩
  ·exact (h0 (by rw [← h.ll,h4]; rfl)).elim
  ·exact .inr ⟨_,_,_,_,_,_,h1,h3⟩
structure Sp30 (a b : Auto) (cap : Int) (p : Cfg → Prop) : Prop where
 nx : ∀ c,p c → ∀ x ∈ sucC a b cap c,p x
 ok : ∀ c,p c → c.ok
 fit : ∀ c,p c → fitsB a b cap c.a c.b c.toA c.toB = true
set_option maxHeartbeats 1000000 in
theorem r257 (x y : Int) (l m : List Int) (hl : l.length ≤ 2147483648) (hm : m.length ≤ 2147483648) : res A PrA 257 [.agg [.int .i64 x,.int .i64 y,.lst 0 (ints l),.lst 0 (ints m)]] = some [cfgP ⟨x,y,l,m⟩] := by
 refine res_of a257 rfl rfl ?_
 simp only [F257]; try delta sS tT zZ nN gG bB pZ
 rcases cloneIntsT hl 0 (by omega) with ⟨rfl,h1⟩ | ⟨h0,h1⟩ <;> rcases cloneIntsT hm 0 (by omega) with ⟨rfl,h2⟩ | ⟨g0,h2⟩
 ·simp (disch := omega) only [go_sem,h1,ints_nil]
 ·simp (disch := omega) only [go_sem,h1,h2,ints_nil,List.take_length]
 ·simp (disch := omega) only [go_sem,h1,h2,ints_nil,List.take_length]
 ·simp (disch := omega) only [go_sem,h1,h2,List.take_length]
def spc (a b : Auto) (cap : Int) (out : List Nd) : List PV := [.int .i64 a.states,.int .i64 a.start,.lst 0 (a.edges.map Edge.c),.int .i64 b.states,.int .i64 b.start,.lst 0 (b.edges.map Edge.c),.int .i64 cap,.lst 0 (cfgs (out.map Nod.c)),.lst 0 (mvRows (out.map fun x => movesC a b cap x.c.a x.c.b x.c.toA x.c.toB)),.lst 0 (lls (out.map fun x => (sucC a b cap x.c).map (posZ out))),.lst 0 (ints (out.map Nod.bef)),.lst 0 (mvs3 (out.map Nd.mv))]
theorem idx_dec {out : List Nd} {c : Cfg} (ho : ∀ x ∈ out,x.c.ok) (hc : c.ok) : ((keysN out).findIdx? fun s => decide (s = c.keyB)) = out.findIdx? fun x => decide (x.c = c) := by
 unfold keysN
 rw [List.findIdx?_map]
 induction out with
 | nil => rfl
 | cons x out ih =>
  have hx := ho x (List.mem_cons_self ..)
  have e : decide (x.c.keyB = c.keyB) = decide (x.c = c) := by
   by_cases h : x.c = c
   ·simp [h]
   ·simp only [h,decide_false,decide_eq_false_iff_not]
    exact fun e => h (keyB_inj hx hc e)
  simp only [List.findIdx?_cons,Function.comp_apply,e]
  split
  ·rfl
  ·have := ih (fun y hy => ho y (List.mem_cons_of_mem _ hy))
   rw [this]
theorem addDs_snoc {lim : Nat} : ∀ {l out : List Nd} {x : Nd},addDs lim out (l ++ [x]) = (addDs lim out l).bind fun o => if lim < (addD o x).length then none else some (addD o x)
 | [],out,x => by simp [addDs]
 | y :: l,out,x => by
  rw [List.cons_append]
  unfold addDs
  split
  ·rfl
  ·exact addDs_snoc
theorem addDs_none {lim : Nat} {out : List Nd} : ∀ {l : List Nd} (k : Nat),addDs lim out (l.take k) = none → addDs lim out l = none := by
 intro l k h
 have key : ∀ (l1 l2 : List Nd) (out : List Nd),addDs lim out l1 = none → addDs lim out (l1 ++ l2) = none := by
  intro l1
  induction l1 with
  | nil => intro l2 out h; cases h
  | cons c l1 ih =>
   intro l2 out h
   rw [List.cons_append]
   unfold addDs at h ⊢
   split
   ·rfl
   ·rename_i hc
    rw [if_neg hc] at h
    exact ih l2 _ h
 have := key (l.take k) (l.drop k) out h
 rwa [List.take_append_drop] at this
theorem addDs_some {lim : Nat} : ∀ {l out out' : List Nd},addDs lim out l = some out' → out <+: out' ∧ (∀ x,x ∈ out' → x ∈ out ∨ x ∈ l) ∧ (out.length ≤ lim → out'.length ≤ lim)
 | [],out,out',h => by
  cases h
  exact ⟨List.prefix_refl _,fun x hx => .inl hx,id⟩
 | c :: l,out,out',h => by
  unfold addDs at h
  split at h
  ·cases h
  ·rename_i hl
   obtain ⟨h1,h2,h4⟩ := addDs_some h
   refine ⟨addD_pre.trans h1,fun x hx => ?_,fun _ => h4 (by omega)⟩
   rcases h2 x hx with hx | hx
   ·unfold addD at hx
    split at hx
    ·exact .inl hx
    ·rcases List.mem_append.1 hx with hx | hx
     ·exact .inl hx
     ·rw [List.mem_singleton.1 hx]
      exact .inr (List.mem_cons_self ..)
   ·exact .inr (List.mem_cons_of_mem _ hx)
theorem take_pre {out o : List Nd} (hp : out <+: o) {i : Nat} {x : Nd} (hx : out[i]? = some x) : o.take (i + 1) = out.take i ++ [x] := by
 obtain ⟨r,rfl⟩ := hp
 have hi := (List.getElem?_eq_some_iff.1 hx).1
 rw [List.take_append_of_le_length (by omega),List.take_add_one,hx]
 rfl
theorem SpR.next {mv : Cfg → List (Mov × Cfg)} {out o : List Nd} {i : Nat} {rest T : List Arr} {mV nV mV' nV' : V} {ls : List (List Int)} {x : Nd} {l : List Int} (h : SpR mv out i rest mV nV ls) (hp : out <+: o) (hx : out[i]? = some x)
  (hm : MvR T mV' ((out.take i).map (fun x => (mv x.c).map (·.1)) ++ [(mv x.c).map (·.1)])) (hn : NxR T nV' (ls ++ [l])) (ho : NextOk mv o x l) : SpR mv o (i + 1) T mV' nV' (ls ++ [l]) where
 mr := by rw [take_pre hp hx,List.map_append]; exact hm
 nr := hn
 ll := by rw [List.length_append,h.ll]; rfl
 ok := fun j z k hz hk => by
  rcases Nat.lt_or_ge j i with hj | hj
  ·rw [List.getElem?_append_left (by rw [h.ll]; exact hj)] at hk
   have hjo : j < out.length := by have := (List.getElem?_eq_some_iff.1 hx).1; omega
   have hzo : out[j]? = some z := by
    have h1 := List.getElem?_eq_getElem hjo
    have h2 := get_pre hp h1
    rw [hz] at h2
    rw [h1,h2]
   exact (h.ok j z k hzo hk).mono hp
  ·have hj2 : j < i + 1 := by have := (List.getElem?_eq_some_iff.1 hk).1; rw [List.length_append,h.ll] at this; exact this
   obtain rfl : j = i := by omega
   rw [List.getElem?_append_right (by rw [h.ll]; exact Nat.le_refl _),h.ll,Nat.sub_self] at hk
   cases hk
   rw [get_pre hp hx] at hz
   cases hz
   exact ho
theorem mvRows_snoc (ms : List (List Mov)) (m : List Mov) : mvRows ms ++ [[.lst 0 (mvs3 m)]] = mvRows (ms ++ [m]) := by simp [mvRows]
theorem rows_snoc {T : List Arr} {xs : List V} {ls : List (List Int)} {y : V} {l : List Int} (hl : xs.length = ls.length) (h : ∀ (j : Nat) (z : V) (k : List Int),xs[j]? = some z → ls[j]? = some k → RowR T z k) (hy : RowR T y l) : ∀ (j : Nat) (z : V) (k : List Int),(xs ++ [y])[j]? = some z → (ls ++ [l])[j]? = some k → RowR T z k := fun j z k hz hk => by
 rcases Nat.lt_or_ge j ls.length with hj | hj
 ·rw [List.getElem?_append_left (by omega)] at hz hk
  exact h j z k hz hk
 ·rw [List.getElem?_append_right (by omega)] at hz hk
  have : j - ls.length = 0 := by have := (List.getElem?_eq_some_iff.1 hk).1; simpa using this
  rw [hl,this] at hz
  rw [this] at hk
  cases hz
  cases hk
  exact hy
theorem notInts_dead : NotInts ⟨0,0,.inl []⟩ := fun ver l _ e => by
 injection e with _ e _
 cases e
theorem MvR.keep {rest : List Arr} {x : V} {ms : List (List Mov)} (h : MvR rest x ms) (bx : List (Nat × List V)) (mp : List (List (PV × PV))) (A1 A2 A3 : Arr) (d : Nat) : keepc ⟨bx,A1 :: A2 :: A3 :: rest,mp⟩ (d + 1) x = some (.lst 0 (mvRows ms)) := by
 rcases h with ⟨rfl,rfl⟩ | ⟨id,ver,rfl,h2,_⟩
 ·rfl
 ·have e : (mvRows ms).length = ms.length := by simp [mvRows]
  simp [keepc_own,ownArr,h2,keepRows,cutRows,List.take_of_length_le (Nat.le_of_eq e)]
theorem RowR.keep {rest : List Arr} {x : V} {l : List Int} (h : RowR rest x l) (bx : List (Nat × List V)) (mp : List (List (PV × PV))) (A1 A2 A3 : Arr) (d : Nat) : keepc ⟨bx,A1 :: A2 :: A3 :: rest,mp⟩ (d + 1) x = some (.lst 0 (ints l)) := by
 rcases h with ⟨rfl,rfl⟩ | ⟨id,ver,rfl,h2,_⟩
 ·rfl
 ·have e : (ints l).length = l.length := ints_length l
  simp [keepc_own,ownArr,h2,keepRows,cutRows,List.take_of_length_le (Nat.le_of_eq e)]
theorem NxR.keep {rest : List Arr} {x : V} {ls : List (List Int)} (h : NxR rest x ls) (bx : List (Nat × List V)) (mp : List (List (PV × PV))) (A1 A2 A3 : Arr) (d : Nat) : keepc ⟨bx,A1 :: A2 :: A3 :: rest,mp⟩ (d + 2) x = some (.lst 0 (lls ls)) := by
 have key : ∀ (xs : List V) (s : List (List Int)),xs.length = s.length → (∀ (v : Nat) (x : V) (l : List Int),xs[v]? = some x → s[v]? = some l → RowR rest x l) → mapO (mapO (keepc ⟨bx,A1 :: A2 :: A3 :: rest,mp⟩ (d + 1))) (rowsV xs) = some (lls s) := by
  intro xs
  induction xs with
  | nil =>
   intro s hl _
   have : s = [] := List.eq_nil_of_length_eq_zero hl.symm
   subst this
   rfl
  | cons x xs ih =>
   intro s hl ho
   match s,hl with
   | l :: s,hl =>
    have h1 := (ho 0 x l rfl rfl).keep bx mp A1 A2 A3 d
    have h2 := ih s (by simpa using hl) fun v y m hy hm => ho (v + 1) y m (by simpa using hy) (by simpa using hm)
    show mapO (mapO (keepc ⟨bx,A1 :: A2 :: A3 :: rest,mp⟩ (d + 1))) ([x] :: rowsV xs) = some ([.lst 0 (ints l)] :: lls s)
    simp only [mapO,h1,h2]
 rcases h with ⟨rfl,rfl⟩ | ⟨id,ver,xs,rfl,h2,h3,_,h5⟩
 ·rfl
 ·have e : (rowsV xs).length = ls.length := by simp [rowsV,h3]
  have hk := key xs ls h3 h5
  simp [keepc_own,ownArr,h2,keepRows,cutRows,List.take_of_length_le (Nat.le_of_eq e),hk]
theorem beq_no {a b : Nat} (h : a ≠ b) : (a == b) = false := by simpa using h
theorem litAt_pv (h : Heap) (id : Nat) (r : List (List PV)) : litAtV h id 1 1 [.pv (.lst 0 r)] = some (.tl [[.lst 0 r]],{}) := by
 simp [litAtV,mkRows,chop,mapO,V.purec,PV.perm]
theorem litAt_row {h : Heap} {id : Nat} {y : V} (hy : y = .tl [] ∨ ∃ a b c d,y = .own a b c d) (hd : h.ar[id]? = some ⟨0,0,.inl []⟩) : litAtV h id 1 1 [y] = some (.own id 1 0 1,{ ar := some (id,⟨1,1,.inr (rowsV [y])⟩) }) := by
 rcases hy with rfl | ⟨a,b,c,d,rfl⟩ <;> simp [litAtV,mkRows,chop,mapO,V.purec,hd,V.calm,rowsV]
theorem appAt_tl {h : Heap} {id : Nat} {r : List PV} (hr : r.length = 1) (hd : h.ar[id]? = some ⟨0,0,.inl []⟩) : appendAt h id 1 (.tl []) (.tl [r]) = some (.own id 1 0 1,{ ar := some (id,⟨1,1,.inl [r]⟩) }) := by
 simp [appendAt,srcRows,rowsFit,rowsLen,hd,hr,catRows,mostRows]
theorem appAt_own {h : Heap} {id i ver len : Nat} {rows : List (List PV)} {r : List PV} (ho : ownArr h i ver = some ⟨ver,1,.inl rows⟩) (hl : rows.length = len) (hr : r.length = 1) (hm : len + 1 ≤ 2147483648) : appendAt h id 1 (.own i ver 0 len) (.tl [r]) = some (.own i (ver + 1) 0 (len + 1),{ ar := some (i,⟨ver + 1,1,.inl (rows ++ [r])⟩) }) := by
 have h2 : rows.take len = rows := List.take_of_length_le (by omega)
 simp [appendAt,appendV,srcRows,rowsFit,rowsLen,hr,ho,cutRows,catRows,mostRows,Arr.size,hl,h2,hm]
theorem appAt_tlR {h : Heap} {id lid : Nat} {y : V} (hl : ownArr h lid 1 = some ⟨1,1,.inr (rowsV [y])⟩) (hd : h.ar[id]? = some ⟨0,0,.inl []⟩) : appendAt h id 1 (.tl []) (.own lid 1 0 1) = some (.own id 1 0 1,{ ar := some (id,⟨1,1,.inr (rowsV [y])⟩),ra := some lid }) := by
 simp [appendAt,srcRows,hl,cutRows,rowsFit,rowsLen,catRows,mostRows,rowsV,hd]
theorem appAt_ownR {h : Heap} {id lid i ver m : Nat} {y : V} {xs : List V} (hl : ownArr h lid 1 = some ⟨1,1,.inr (rowsV [y])⟩) (ho : ownArr h i ver = some ⟨ver,1,.inr (rowsV xs)⟩) (hx : xs.length = m) (hm : m + 1 ≤ 2147483648) (hne : lid ≠ i) : appendAt h id 1 (.own i ver 0 m) (.own lid 1 0 1) = some (.own i (ver + 1) 0 (m + 1),{ ar := some (i,⟨ver + 1,1,.inr (rowsV (xs ++ [y]))⟩),ra := some lid }) := by
 have h1 : m ≤ (⟨ver,1,.inr (rowsV xs)⟩ : Arr).size := by simp [Arr.size,rowsV,hx]
 have h2 : (rowsV xs).take m = rowsV xs := List.take_of_length_le (by simp [rowsV,hx])
 have h3 : (rowsV [y]).take 1 = rowsV [y] := rfl
 simp [appendAt,appendV,srcRows,hl,ho,cutRows,rowsFit,rowsLen,catRows,mostRows,h1,hne,h2,h3]
 simp [rowsV]
 omega
set_option maxHeartbeats 16000000 in
theorem r253 (a b : Auto) (cap : Int) (c0 : Cfg) {p : Cfg → Prop} (hp : Sp30 a b cap p) (h0 : p c0) (ha : a.edges.length ≤ 1000000) (hb : b.edges.length ≤ 1000000) (hs : sysErr a b cap = 0) : res A PrA 253 [.agg [.int .i64 a.states,.int .i64 a.start,.lst 0 (a.edges.map Edge.c),.int .i64 b.states,.int .i64 b.start,.lst 0 (b.edges.map Edge.c),.int .i64 cap],.agg [.int .i64 c0.a,.int .i64 c0.b,.lst 0 (ints c0.toA),.lst 0 (ints c0.toB)]] = some (match nodL (mvC a b cap) 5000 5002 [nod0 c0] 0 with | some out => [.ro 0 (spc a b cap out),.int .i64 0] | none => [.nilp,.int .i64 3]) := by
 refine res_of a253 rfl rfl ?_
 simp only [F253]; try delta sS tT zZ nN gG bB pZ
 generalize hR : (match nodL (mvC a b cap) 5000 5002 [nod0 c0] 0 with | some out => [PV.ro 0 (spc a b cap out),.int .i64 0] | none => [.nilp,.int .i64 3]) = R
 have hok0 := hp.ok c0 h0
 obtain ⟨k1,k2,k3,k4,k5,k6⟩ := hok0
 have h257 := r257 c0.a c0.b c0.toA c0.toB (by omega) (by omega)
 simp (disch := omega) only [go_sem,h257]
 refine call0 (add0 a b cap c0 (-1) ⟨0,false,0⟩ (hp.ok c0 h0) _ fun env => back256 (.inl ⟨rfl,rfl⟩) ?_)
 simp only [cellsX]
 simp (disch := omega) only [go_sem]
 refine W.loop (α := List Nd × Nat × List Arr × V × V × List (List Int)) (fun q => ⟨[(2,.ptr 100002 0),(6,.ptr 100006 0),(8,.func 256 [.ptr 100007 0,.ptr 100006 0]),(9,.pv (.int .i64 q.2.1))],
   ⟨pinX [.pv (.int .i64 a.states),.pv (.int .i64 a.start),.pv (.lst 0 (a.edges.map Edge.c)),.pv (.int .i64 b.states),.pv (.int .i64 b.start),.pv (.lst 0 (b.edges.map Edge.c)),.pv (.int .i64 cap)] [.pv (.int .i64 c0.a),.pv (.int .i64 c0.b),.pv (.lst 0 (ints c0.toA)),.pv (.lst 0 (ints c0.toB))] (cellsX a b cap (.own 0 (q.1.length - 1) 0 (q.1.length - 1 + 1)) q.2.2.2.1 q.2.2.2.2.1 (.own 1 (q.1.length - 1) 0 (q.1.length - 1 + 1)) (.own 2 (q.1.length - 1) 0 (q.1.length - 1 + 1))),
    arX (q.1.length - 1) q.1 q.2.2.1,[idxM (keysN q.1)]⟩⟩)
  (fun q => (∀ x ∈ q.1,p x.c) ∧ 1 ≤ q.1.length ∧ q.1.length ≤ 5000 ∧ q.2.1 ≤ q.1.length ∧ (q.1.map Nod.c).Nodup ∧ nodL (mvC a b cap) 5000 5002 [nod0 c0] 0 = nodL (mvC a b cap) 5000 (5002 - q.2.1) q.1 q.2.1 ∧ SpR (mvC a b cap) q.1 q.2.1 q.2.2.1 q.2.2.2.1 q.2.2.2.2.1 q.2.2.2.2.2) (fun q => 5001 - q.2.1)
  ([nod0 c0],0,[],.tl [],.tl [],[]) rfl ⟨fun x hx => by rw [List.mem_singleton.1 hx]; exact h0,by simp,by simp,by simp,by simp,rfl,⟨.inl ⟨rfl,rfl⟩,.inl ⟨rfl,rfl⟩,rfl,fun j x l _ hl => by simp at hl⟩⟩ fun q hq => ?_
 obtain ⟨out,i,rest,mV,nV,ls⟩ := q
 obtain ⟨q1,q2,q3,q4,q5,q6,q7⟩ := hq
 simp only at q1 q2 q3 q4 q5 q6 q7 ⊢
 obtain ⟨m,hm⟩ : ∃ m,out.length = m + 1 := ⟨out.length - 1,by omega⟩
 have hfl := q7.flat q4
 rw [hm,Nat.add_sub_cancel]
 simp only [pinX,cellsX,arX]
 simp (disch := omega) only [go_sem]
 refine Br.ofP (fun c1 => ?_) (fun c1 => ?_)
 ·obtain ⟨x,hx⟩ := get_at (l := out) (k := i) (by omega)
  have hpx := q1 x (List.mem_of_getElem? hx)
  obtain ⟨x1,x2,x3,x4,x5,x6⟩ := hp.ok _ hpx
  have hfit := hp.fit _ hpx
  have h171 := r171 a b cap x.c.a x.c.b x.c.toA x.c.toB (by omega) (by omega) (by omega) (by omega)
  rw [chkE_yes hs hfit,if_pos rfl] at h171
  have hcg : (cfgs (out.map Nod.c))[i]? = some [.int .i64 x.c.a,.int .i64 x.c.b,.lst 0 (ints x.c.toA),.lst 0 (ints x.c.toB)] := by rw [cfgs_get,List.getElem?_map,hx]; rfl
  have hml : (movesC a b cap x.c.a x.c.b x.c.toA x.c.toB).length ≤ 2000000 := by
   have h1 := mvsOf_len a b cap x.c.a x.c.b x.c.toA x.c.toB 0 x.c.a a.edges
   have h2 := mvsOf_len a b cap x.c.a x.c.b x.c.toA x.c.toB 1 x.c.b b.edges
   rw [movesC,List.length_append]
   omega
  have hmvs : mvC a b cap x.c = (movesC a b cap x.c.a x.c.b x.c.toA x.c.toB).map fun m => (m,(afterC a b cap x.c.a x.c.b x.c.toA x.c.toB m).1) := rfl
  have hafter : ∀ mv ∈ movesC a b cap x.c.a x.c.b x.c.toA x.c.toB,(afterC a b cap x.c.a x.c.b x.c.toA x.c.toB mv).2 = true := fun mv h => (movesC_mem h).1
  have h174 := fun mv => r174 a b cap x.c.a x.c.b x.c.toA x.c.toB mv (by omega) (by omega) (by omega) (by omega)
  have happ : ∀ mv ∈ movesC a b cap x.c.a x.c.b x.c.toA x.c.toB,applyC a b cap x.c.a x.c.b x.c.toA x.c.toB mv = [cfgP (afterC a b cap x.c.a x.c.b x.c.toA x.c.toB mv).1,.int .i64 0] := fun mv h => by
   unfold applyC
   rw [if_pos (chkE_yes hs hfit),if_pos (hafter mv h)]
  simp (disch := omega) only [go_sem,hcg,h171]
  generalize hms : movesC a b cap x.c.a x.c.b x.c.toA x.c.toB = ms at *
  have hsl : (sucD (mvC a b cap) i x).length = ms.length := by simp [sucD,hmvs]
  refine W.loop (α := List Nd × Nat × List Int) (fun q => ⟨[(2,.ptr 100002 0),(6,.ptr 100006 0),(8,.func 256 [.ptr 100007 0,.ptr 100006 0]),(9,.pv (.int .i64 i)),(10,.pv (.lst 0 (mvs3 ms))),(12,grV (rest.length + 3) (ints q.2.2)),(51,.pv (.lst 0 (mvs3 ms))),(52,.pv (.int .i64 ms.length)),(53,.pv (.int .i64 q.2.1))],
   ⟨pinX [.pv (.int .i64 a.states),.pv (.int .i64 a.start),.pv (.lst 0 (a.edges.map Edge.c)),.pv (.int .i64 b.states),.pv (.int .i64 b.start),.pv (.lst 0 (b.edges.map Edge.c)),.pv (.int .i64 cap)] [.pv (.int .i64 c0.a),.pv (.int .i64 c0.b),.pv (.lst 0 (ints c0.toA)),.pv (.lst 0 (ints c0.toB))] (cellsX a b cap (.own 0 (q.1.length - 1) 0 (q.1.length - 1 + 1)) mV nV (.own 1 (q.1.length - 1) 0 (q.1.length - 1 + 1)) (.own 2 (q.1.length - 1) 0 (q.1.length - 1 + 1))),
    arX (q.1.length - 1) q.1 (rest ++ grA 1 (ints q.2.2)),[idxM (keysN q.1)]⟩⟩)
   (fun q => q.2.1 ≤ ms.length ∧ addDs 5000 out ((sucD (mvC a b cap) i x).take q.2.1) = some q.1 ∧ (q.1.map Nod.c).Nodup ∧ q.2.2.length = q.2.1 ∧ ∀ (j : Nat) (y : Nd),j < q.2.1 → (sucD (mvC a b cap) i x)[j]? = some y → ∃ (z : Nat) (w : Nd),q.2.2[j]? = some (z : Int) ∧ q.1[z]? = some w ∧ w.c = y.c) (fun q => ms.length - q.2.1)
   (out,0,[]) (by simp only [hm,Nat.add_sub_cancel,pinX,cellsX,arX,ints_nil,grV,grA,List.append_nil]; rfl) ⟨Nat.zero_le _,rfl,q5,rfl,fun j y hj => (Nat.not_lt_zero _ hj).elim⟩ fun q hq => ?_
  obtain ⟨o,k,l⟩ := q
  obtain ⟨y1,y2,y3,y4,y5⟩ := hq
  simp only at y1 y2 y3 y4 y5 ⊢
  obtain ⟨z1,z2,z3⟩ := addDs_some y2
  have z4 := z3 q3
  have z5 := z1.length_le
  obtain ⟨mo,hmo⟩ : ∃ mo,o.length = mo + 1 := ⟨o.length - 1,by omega⟩
  rw [hmo,Nat.add_sub_cancel]
  simp only [pinX,cellsX,arX]
  have hpo : ∀ y ∈ o,p y.c := fun y hy => (z2 y hy).elim (q1 y) fun hy => by
   obtain ⟨w,hw,rfl⟩ := List.mem_map.1 (List.mem_of_mem_take hy)
   exact hp.nx _ hpx _ (by rw [← mvC_suc]; exact List.mem_map.2 ⟨w,hw,rfl⟩)
  have ho : o[i]? = some x := get_pre z1 hx
  simp (disch := omega) only [go_sem]
  refine Br.ofP (fun c2 => ?_) (fun c2 => ?_)
  ·obtain ⟨mv,hmv⟩ := get_at (l := ms) (k := k) (by omega)
   have hog : (cfgs (o.map Nod.c))[i]? = some [.int .i64 x.c.a,.int .i64 x.c.b,.lst 0 (ints x.c.toA),.lst 0 (ints x.c.toB)] := by rw [cfgs_get,List.getElem?_map,ho]; rfl
   have h174 := h174 mv
   rw [happ mv (List.mem_of_getElem? hmv)] at h174
   have hdg : (sucD (mvC a b cap) i x)[k]? = some ⟨(afterC a b cap x.c.a x.c.b x.c.toA x.c.toB mv).1,(i : Int),some mv,x.path ++ [mv]⟩ := by simp [sucD,hmvs,hmv]
   generalize (afterC a b cap x.c.a x.c.b x.c.toA x.c.toB mv).1 = d at *
   have hdp : p d := hp.nx _ hpx _ (by rw [← mvC_suc,← sucD_map (mvC a b cap) i x]; exact List.mem_map.2 ⟨_,List.mem_of_getElem? hdg,rfl⟩)
   have hdok := hp.ok _ hdp
   have hidx := idx_dec (fun y hy => hp.ok _ (hpo y hy)) hdok
   have hnext : addDs 5000 out ((sucD (mvC a b cap) i x).take (k + 1)) = if 5000 < (addD o ⟨d,(i : Int),some mv,x.path ++ [mv]⟩).length then none else some (addD o ⟨d,(i : Int),some mv,x.path ++ [mv]⟩) := by
    rw [List.take_add_one,hdg,Option.toList_some,addDs_snoc,y2]
    rfl
   have gr : ∀ bx mp A1 A2 A3 (z : Int),appendV ⟨bx,A1 :: A2 :: A3 :: (rest ++ grA 1 (ints l)),mp⟩ 1 (grV (rest.length + 3) (ints l)) (.tl [[.int .i64 z]]) = some (grV (rest.length + 3) (ints (l ++ [z])),grT (rest.length + 3) 1 (ints l) [.int .i64 z]) := fun bx mp A1 A2 A3 z => by
    have := grow bx mp (A1 :: A2 :: A3 :: rest) 1 (ints l) [.int .i64 z] rfl (by rw [ints_length]; omega)
    rw [ints_snoc] at this
    exact this
   have ga : ∀ bx mp A1 A2 A3 (z : Int),(grT (rest.length + 3) 1 (ints l) [.int .i64 z]).apply ⟨bx,A1 :: A2 :: A3 :: (rest ++ grA 1 (ints l)),mp⟩ = ⟨bx,A1 :: A2 :: A3 :: (rest ++ grA 1 (ints (l ++ [z]))),mp⟩ := fun bx mp A1 A2 A3 z => by
    have := grT_apply bx mp (A1 :: A2 :: A3 :: rest) 1 (ints l) [.int .i64 z]
    rw [ints_snoc] at this
    exact this
   simp (disch := omega) only [go_sem,hmv,hog,h174]
   cases hj : (o.findIdx? fun y => decide (y.c = d)) with
   | some z =>
    rw [hj] at hidx
    refine call256 hfl (add256 a b cap mo mV nV (rest ++ grA 1 (ints l)) o d i mv (x.path ++ [mv]) hdok _ hmo (by omega) (some z) hidx fun env => back256 hfl ?_)
    simp only [cellsX,arX]
    simp (disch := omega) only [go_sem,gr,ga]
    obtain ⟨hz,hzc,_⟩ := List.findIdx?_eq_some_iff_getElem.1 hj
    have hzo : o[z]? = some o[z] := List.getElem?_eq_getElem hz
    have hzd : (o[z]).c = d := by simpa using hzc
    have hin : addD o ⟨d,(i : Int),some mv,x.path ++ [mv]⟩ = o := if_pos (List.mem_map.2 ⟨_,List.mem_of_getElem? hzo,hzd⟩)
    rw [hin,if_neg (by omega)] at hnext
    refine Br.ofP (fun c3 => by omega) (fun c3 => ?_)
    simp (disch := omega) only [go_sem]
    refine ⟨(o,k + 1,l ++ [(z : Int)]),⟨by dsimp only; omega,hnext,y3,by simp [y4],fun j y hj hy => ?_⟩,by dsimp only; omega,by simp only [hmo,Nat.add_sub_cancel]; rfl⟩
    dsimp only at hj ⊢
    rcases Nat.lt_or_ge j k with hjk | hjk
    ·obtain ⟨z',w,e1,e2,e3⟩ := y5 j y hjk hy
     exact ⟨z',w,by rw [List.getElem?_append_left (by omega)]; exact e1,e2,e3⟩
    ·obtain rfl : j = k := by omega
     rw [hdg] at hy
     cases hy
     exact ⟨z,_,by rw [List.getElem?_append_right (by omega),y4]; simp,hzo,hzd⟩
   | none =>
    rw [hj] at hidx
    refine call256 hfl (add256 a b cap mo mV nV (rest ++ grA 1 (ints l)) o d i mv (x.path ++ [mv]) hdok _ hmo (by omega) none hidx fun env => back256 hfl ?_)
    simp only [cellsX,arX]
    simp (disch := omega) only [go_sem,gr,ga]
    have hnd : d ∉ o.map Nod.c := fun hm' => by
     obtain ⟨w,hw,hwd⟩ := List.mem_map.1 hm'
     have := List.findIdx?_eq_none_iff.1 hj w hw
     simp [hwd] at this
    have hin : addD o ⟨d,(i : Int),some mv,x.path ++ [mv]⟩ = o ++ [⟨d,(i : Int),some mv,x.path ++ [mv]⟩] := if_neg hnd
    have hlen : (o ++ [(⟨d,(i : Int),some mv,x.path ++ [mv]⟩ : Nd)]).length = mo + 1 + 1 := by simp [hmo]
    rw [hin,hlen] at hnext
    refine Br.ofP (fun c3 => ?_) (fun c3 => ?_)
    ·rw [if_pos (by omega)] at hnext
     have hno : nodL (mvC a b cap) 5000 5002 [nod0 c0] 0 = none := by
      rw [q6,show 5002 - i = (5001 - i) + 1 by omega]
      unfold nodL
      rw [hx]
      simp only
      rw [addDs_none (k + 1) hnext]
     rw [hno] at hR
     simp (disch := omega) only [go_sem]
     rw [← hR]
    ·rw [if_neg (by omega)] at hnext
     simp (disch := omega) only [go_sem]
     refine ⟨(o ++ [⟨d,(i : Int),some mv,x.path ++ [mv]⟩],k + 1,l ++ [((mo + 1 : Nat) : Int)]),⟨by dsimp only; omega,hnext,?_,by simp [y4],fun j y hj hy => ?_⟩,by dsimp only; omega,by simp only [hlen,Nat.add_sub_cancel]; rfl⟩
     ·dsimp only
      rw [List.map_append,List.nodup_append]
      exact ⟨y3,by simp,fun a' ha' b' hb' => by
       simp only [List.map_cons,List.map_nil,List.mem_singleton] at hb'
       rw [hb']
       exact fun e => hnd (e ▸ ha')⟩
     ·dsimp only at hj ⊢
      rcases Nat.lt_or_ge j k with hjk | hjk
      ·obtain ⟨z',w,e1,e2,e3⟩ := y5 j y hjk hy
       exact ⟨z',w,by rw [List.getElem?_append_left (by omega)]; exact e1,get_pre (List.prefix_append _ _) e2,e3⟩
      ·obtain rfl : j = k := by omega
       rw [hdg] at hy
       cases hy
       exact ⟨mo + 1,_,by rw [List.getElem?_append_right (by omega),y4]; simp,by rw [List.getElem?_append_right (by omega),hmo]; simp,rfl⟩
  ·obtain rfl : k = ms.length := by omega
   have hyf : grV (rest.length + 3) (ints l) = .tl [] ∨ ∃ a b c d,grV (rest.length + 3) (ints l) = .own a b c d := by
    cases l with
    | nil => exact .inl rfl
    | cons z l => exact .inr ⟨_,_,_,_,rfl⟩
   have hRow : RowR (rest ++ grA 1 (ints l)) (grV (rest.length + 3) (ints l)) l := by
    cases l with
    | nil => exact .inl ⟨rfl,rfl⟩
    | cons z l =>
     refine .inr ⟨rest.length,l.length,?_,?_,by simp⟩
     ·simp [ints,grV]
     ·simp [ints,grA]
   have hstep : nodL (mvC a b cap) 5000 5002 [nod0 c0] 0 = nodL (mvC a b cap) 5000 (5002 - (i + 1)) o (i + 1) := by
    rw [q6,show 5002 - i = (5002 - (i + 1)) + 1 by omega,nodL,hx]
    simp only
    rw [List.take_of_length_le (by omega)] at y2
    rw [y2]
   have hmsm : (mvC a b cap x.c).map (·.1) = ms := by simp [hmvs,Function.comp_def]
   have hnok : NextOk (mvC a b cap) o x l := ⟨by rw [y4,← sucD_map (mvC a b cap) i x,List.length_map,hsl],fun j c hc => by
    rw [← sucD_map (mvC a b cap) i x,List.getElem?_map] at hc
    obtain ⟨y,hy,rfl⟩ := Option.map_eq_some_iff.1 hc
    exact y5 j y (by rw [← hsl]; exact (List.getElem?_eq_some_iff.1 hy).1) hy⟩
   simp (disch := omega) only [go_sem]
   rw [show rest.length + (grA 1 (ints l)).length = (rest ++ grA 1 (ints l)).length by simp]
   have hll := q7.ll
   have hsp := q7
   obtain ⟨R1,hR1⟩ : ∃ R1,R1 = rest ++ grA 1 (ints l) := ⟨_,rfl⟩
   rw [← hR1] at hRow ⊢
   generalize hy : grV (rest.length + 3) (ints l) = y at *
   have hys : y.sized = true := by rcases hyf with rfl | ⟨_,_,_,_,rfl⟩ <;> rfl
   have hyc : y.cells = [y] := by rcases hyf with rfl | ⟨_,_,_,_,rfl⟩ <;> rfl
   obtain ⟨n1,hn1⟩ : ∃ n1,R1.length = n1 := ⟨_,rfl⟩
   rw [hn1]
   obtain ⟨T0,hT0⟩ : ∃ T0,T0 = R1 ++ [(⟨0,0,.inl []⟩ : Arr),⟨0,0,.inl []⟩,⟨0,0,.inl []⟩,⟨0,0,.inl []⟩] := ⟨_,rfl⟩
   rw [← hT0]
   have t0 : T0[n1]? = some ⟨0,0,.inl []⟩ := by rw [hT0,← hn1]; simp
   have t1 : T0[n1 + 1]? = some ⟨0,0,.inl []⟩ := by rw [hT0,← hn1,List.getElem?_append_right (by omega)]; simp
   have t2 : T0[n1 + 2]? = some ⟨0,0,.inl []⟩ := by rw [hT0,← hn1,List.getElem?_append_right (by omega)]; simp
   have t3 : T0[n1 + 3]? = some ⟨0,0,.inl []⟩ := by rw [hT0,← hn1,List.getElem?_append_right (by omega)]; simp
   have tl0 : T0.length = n1 + 4 := by rw [hT0,← hn1]; simp
   have tr : ∀ (j : Nat) (b : Arr),rest[j]? = some b → T0[j]? = some b ∧ j < n1 := fun j b hb => by
    have := (List.getElem?_eq_some_iff.1 hb).1
    have hlt : j < R1.length := by rw [hR1,List.length_append]; omega
    refine ⟨?_,by omega⟩
    rw [hT0,List.getElem?_append_left hlt,hR1,List.getElem?_append_left this]
    exact hb
   rcases q7.nr with ⟨hnV,hls⟩ | ⟨nid,nver,xs,hnV,n2,n3,n4,n5⟩
   ·obtain rfl : i = 0 := by rw [← hll,hls]; rfl
    obtain rfl : mV = .tl [] := by
     rcases q7.mr with ⟨h,_⟩ | ⟨_,_,_,_,h⟩
     ·exact h
     ·simp at h
    subst hnV
    have e96 : ∀ bx mp A1 A2 A3,appendAt ⟨bx,A1 :: A2 :: A3 :: T0,mp⟩ (n1 + 1 + 1 + 1 + 1) 1 (.tl []) (.tl [[.lst 0 (mvs3 ms)]]) = some (.own (n1 + 1 + 1 + 1 + 1) 1 0 1,{ ar := some (n1 + 1 + 1 + 1 + 1,⟨1,1,.inl [[.lst 0 (mvs3 ms)]]⟩) }) := fun bx mp A1 A2 A3 => appAt_tl rfl (by simpa using t1)
    have e102 : ∀ bx mp A1 A2 A3,litAtV ⟨bx,A1 :: A2 :: A3 :: T0.set (n1 + 1) ⟨1,1,.inl [[.lst 0 (mvs3 ms)]]⟩,mp⟩ (n1 + 1 + 1 + 1 + 1 + 1) 1 1 [y] = some (.own (n1 + 1 + 1 + 1 + 1 + 1) 1 0 1,{ ar := some (n1 + 1 + 1 + 1 + 1 + 1,⟨1,1,.inr (rowsV [y])⟩) }) := fun bx mp A1 A2 A3 => litAt_row hyf (by simpa [List.getElem?_set] using t2)
    have e103 : ∀ bx mp A1 A2 A3,appendAt ⟨bx,A1 :: A2 :: A3 :: (T0.set (n1 + 1) ⟨1,1,.inl [[.lst 0 (mvs3 ms)]]⟩).set (n1 + 1 + 1) ⟨1,1,.inr (rowsV [y])⟩,mp⟩ (n1 + 1 + 1 + 1 + 1 + 1 + 1) 1 (.tl []) (.own (n1 + 1 + 1 + 1 + 1 + 1) 1 0 1) = some (.own (n1 + 1 + 1 + 1 + 1 + 1 + 1) 1 0 1,{ ar := some (n1 + 1 + 1 + 1 + 1 + 1 + 1,⟨1,1,.inr (rowsV [y])⟩),ra := some (n1 + 1 + 1 + 1 + 1 + 1) }) := fun bx mp A1 A2 A3 => appAt_tlR (by simp [ownArr,tl0]) (by simpa [List.getElem?_set] using t3)
    simp (disch := omega) only [go_sem,litAt_pv,e96,e102,e103,hys,hyc,beq_no,Bool.not_false,Bool.and_self]
    refine ⟨(o,1,((T0.set (n1 + 1) ⟨1,1,.inl [[.lst 0 (mvs3 ms)]]⟩).set (n1 + 2) ⟨1,1,.inr (rowsV [y])⟩).set (n1 + 3) ⟨1,1,.inr (rowsV [y])⟩,.own (n1 + 1 + 3) 1 0 1,.own (n1 + 3 + 3) 1 0 1,ls ++ [l]),⟨hpo,by dsimp only; omega,z4,by dsimp only; omega,y3,?_,?_⟩,by dsimp only; omega,by simp only [hmo,Nat.add_sub_cancel]; rfl⟩
    ·exact hstep
    ·refine hsp.next z1 hx ?_ ?_ hnok
     ·rw [hmsm]
      refine .inr ⟨n1 + 1,1,rfl,?_,by simp⟩
      simp [tl0,mvRows]
     ·rw [hls]
      refine .inr ⟨n1 + 3,1,[y],rfl,?_,rfl,by simp,rows_snoc (xs := []) rfl (fun j z k hz => by simp at hz) ?_⟩
      ·simp [tl0]
      ·have w1 : RowR T0 y l := by rw [hT0]; exact hRow.push _
       have w2 := w1.set (b' := ⟨1,1,.inl [[.lst 0 (mvs3 ms)]]⟩) t1 notInts_dead
       have w3 := w2.set (j := n1 + 2) (b := ⟨0,0,.inl []⟩) (b' := ⟨1,1,.inr (rowsV [y])⟩) (by simpa [List.getElem?_set] using t2) notInts_dead
       exact w3.set (j := n1 + 3) (b := ⟨0,0,.inl []⟩) (by simpa [List.getElem?_set] using t3) notInts_dead
   ·have hMl : ((out.take i).map fun x => (mvC a b cap x.c).map (·.1)).length = i := by rw [List.length_map,List.length_take]; omega
    have hi0 : i ≠ 0 := fun e => n4 (List.eq_nil_of_length_eq_zero (by rw [hll,e]))
    obtain ⟨mid,mver,hmV,m2,m3⟩ : ∃ id ver,mV = .own (id + 3) ver 0 i ∧ rest[id]? = some ⟨ver,1,.inl (mvRows ((out.take i).map fun x => (mvC a b cap x.c).map (·.1)))⟩ ∧ ((out.take i).map fun x => (mvC a b cap x.c).map (·.1)) ≠ [] := by
     rcases q7.mr with ⟨_,h⟩ | ⟨id,ver,h1,h2,h3⟩
     ·exact (hi0 (by rw [← hMl,h]; rfl)).elim
     ·rw [hMl] at h1
      exact ⟨id,ver,h1,h2,h3⟩
    generalize hM : ((out.take i).map fun x => (mvC a b cap x.c).map (·.1)) = M at *
    subst hmV
    rw [hll] at hnV
    subst hnV
    obtain ⟨g1,g2⟩ := tr _ _ m2
    obtain ⟨g3,g4⟩ := tr _ _ n2
    have hne : mid ≠ nid := fun e => by
     rw [e,g3] at g1
     cases g1
    have hrl : (mvRows M).length = i := by simp [mvRows,hMl]
    have hnl : nid < T0.length := by omega
    have hml2 : mid < T0.length := by omega
    have e96 : ∀ bx mp A1 A2 A3,appendAt ⟨bx,A1 :: A2 :: A3 :: T0,mp⟩ (n1 + 1 + 1 + 1 + 1) 1 (.own (mid + 3) mver 0 i) (.tl [[.lst 0 (mvs3 ms)]]) = some (.own (mid + 3) (mver + 1) 0 (i + 1),{ ar := some (mid + 3,⟨mver + 1,1,.inl (mvRows M ++ [[.lst 0 (mvs3 ms)]])⟩) }) := fun bx mp A1 A2 A3 => appAt_own (by simp [ownArr,g1]) hrl rfl (by omega)
    have e102 : ∀ bx mp A1 A2 A3,litAtV ⟨bx,A1 :: A2 :: A3 :: T0.set mid ⟨mver + 1,1,.inl (mvRows M ++ [[.lst 0 (mvs3 ms)]])⟩,mp⟩ (n1 + 1 + 1 + 1 + 1 + 1) 1 1 [y] = some (.own (n1 + 1 + 1 + 1 + 1 + 1) 1 0 1,{ ar := some (n1 + 1 + 1 + 1 + 1 + 1,⟨1,1,.inr (rowsV [y])⟩) }) := fun bx mp A1 A2 A3 => litAt_row hyf (by
     have : mid ≠ n1 + 2 := by omega
     simpa [List.getElem?_set,this] using t2)
    have g5 : ((T0.set mid ⟨mver + 1,1,.inl (mvRows M ++ [[.lst 0 (mvs3 ms)]])⟩).set (n1 + 2) ⟨1,1,.inr (rowsV [y])⟩)[nid]? = some ⟨nver,1,.inr (rowsV xs)⟩ := by
     have h1 : n1 + 2 ≠ nid := by omega
     simpa [List.getElem?_set,h1,hne] using g3
    have g6 : ((T0.set mid ⟨mver + 1,1,.inl (mvRows M ++ [[.lst 0 (mvs3 ms)]])⟩).set (n1 + 2) ⟨1,1,.inr (rowsV [y])⟩)[n1 + 2]? = some ⟨1,1,.inr (rowsV [y])⟩ := by simp [tl0]
    have e103 : ∀ bx mp A1 A2 A3,appendAt ⟨bx,A1 :: A2 :: A3 :: (T0.set mid ⟨mver + 1,1,.inl (mvRows M ++ [[.lst 0 (mvs3 ms)]])⟩).set (n1 + 1 + 1) ⟨1,1,.inr (rowsV [y])⟩,mp⟩ (n1 + 1 + 1 + 1 + 1 + 1 + 1) 1 (.own (nid + 3) nver 0 i) (.own (n1 + 1 + 1 + 1 + 1 + 1) 1 0 1) = some (.own (nid + 3) (nver + 1) 0 (i + 1),{ ar := some (nid + 3,⟨nver + 1,1,.inr (rowsV (xs ++ [y]))⟩),ra := some (n1 + 1 + 1 + 1 + 1 + 1) }) := fun bx mp A1 A2 A3 => appAt_ownR (by simp [ownArr,g6]) (by simp [ownArr,g5]) (by rw [n3,hll]) (by omega) (by omega)
    simp (disch := omega) only [go_sem,litAt_pv,e96,e102,e103,hys,hyc,beq_no,Bool.not_false,Bool.and_self]
    have lift : ∀ (z : V) (k : List Int),RowR T0 z k → RowR (((T0.set mid ⟨mver + 1,1,.inl (mvRows M ++ [[.lst 0 (mvs3 ms)]])⟩).set (n1 + 2) ⟨1,1,.inr (rowsV [y])⟩).set nid ⟨nver + 1,1,.inr (rowsV (xs ++ [y]))⟩) z k := fun z k hz => by
     have w2 := hz.set (b' := ⟨mver + 1,1,.inl (mvRows M ++ [[.lst 0 (mvs3 ms)]])⟩) g1 (notInts_mv _ _ m3)
     have w3 := w2.set (j := n1 + 2) (b := ⟨0,0,.inl []⟩) (b' := ⟨1,1,.inr (rowsV [y])⟩) (by
      have : mid ≠ n1 + 2 := by omega
      simpa [List.getElem?_set,this] using t2) notInts_dead
     exact w3.set g5 (notInts_inr _ _ _)
    refine ⟨(o,i + 1,((T0.set mid ⟨mver + 1,1,.inl (mvRows M ++ [[.lst 0 (mvs3 ms)]])⟩).set (n1 + 2) ⟨1,1,.inr (rowsV [y])⟩).set nid ⟨nver + 1,1,.inr (rowsV (xs ++ [y]))⟩,.own (mid + 3) (mver + 1) 0 (i + 1),.own (nid + 3) (nver + 1) 0 (i + 1),ls ++ [l]),⟨hpo,by dsimp only; omega,z4,by dsimp only; omega,y3,hstep,?_⟩,by dsimp only; omega,by simp only [hmo,Nat.add_sub_cancel]; rfl⟩
    refine hsp.next z1 hx ?_ ?_ hnok
    ·rw [hmsm,hM]
     refine .inr ⟨mid,mver + 1,by rw [List.length_append,hMl]; rfl,?_,by simp⟩
     have h1 : n1 + 2 ≠ mid := by omega
     have h2 : nid ≠ mid := Ne.symm hne
     simp [h1,h2,hml2,mvRows_snoc]
    ·refine .inr ⟨nid,nver + 1,xs ++ [y],by rw [List.length_append,hll]; rfl,?_,by simp [n3],by simp,rows_snoc n3 (fun j z k hz hk => lift z k ?_) (lift y l ?_)⟩
     ·simp [hnl]
     ·rw [hT0,hR1,List.append_assoc]
      exact (n5 j z k hz hk).push _
     ·rw [hT0]
      exact hRow.push _
 ·have hend : i = out.length := by omega
  subst hend
  have kM := fun bx mp A1 A2 A3 => q7.mr.keep bx mp A1 A2 A3 3
  have kN := fun bx mp A1 A2 A3 => q7.nr.keep bx mp A1 A2 A3 2
  have hsome : nodL (mvC a b cap) 5000 5002 [nod0 c0] 0 = some out := by
   rw [q6,show 5002 - out.length = (5001 - out.length) + 1 by omega,nodL,List.getElem?_eq_none (Nat.le_refl _)]
  have hls : ls = out.map fun x => (sucC a b cap x.c).map (posZ out) := by
   apply List.ext_getElem?
   intro j
   rw [List.getElem?_map]
   cases hj : out[j]? with
   | none =>
    have := List.getElem?_eq_none_iff.1 hj
    rw [List.getElem?_eq_none (by rw [q7.ll]; exact this)]
    rfl
   | some x =>
    have hlt := (List.getElem?_eq_some_iff.1 hj).1
    obtain ⟨l,hl⟩ := get_at (l := ls) (k := j) (by rw [q7.ll]; exact hlt)
    rw [hl,(q7.ok j x l hj hl).eq q5,mvC_suc]
    rfl
  rw [List.take_length] at kM
  have hmm : (out.map fun x => (mvC a b cap x.c).map (·.1)) = out.map fun x => movesC a b cap x.c.a x.c.b x.c.toA x.c.toB := by
   refine List.map_congr_left fun x _ => ?_
   simp [mvC,Function.comp_def]
  rw [hmm] at kM
  rw [hls] at kN
  rw [hsome] at hR
  have h1 : (cfgs (out.map Nod.c)).take (m + 1) = cfgs (out.map Nod.c) := List.take_of_length_le (by rw [cfgs_length,List.length_map,hm]; exact Nat.le_refl _)
  have h2 : (ints (out.map Nod.bef)).take (m + 1) = ints (out.map Nod.bef) := List.take_of_length_le (by rw [ints_length,List.length_map,hm]; exact Nat.le_refl _)
  have h3 : (mvs3 (out.map Nd.mv)).take (m + 1) = mvs3 (out.map Nd.mv) := List.take_of_length_le (by rw [mvs3_length,List.length_map,hm]; exact Nat.le_refl _)
  simp (disch := omega) only [go_sem,kM,kN,h1,h2,h3]
  rw [← hR]
  rfl
end Go.Pv
namespace Go.Pv
def doneAt (a b : Auto) (cap : Int) (C : List Cfg) (i : Nat) : Bool := match C[i]? with
 | some c => doneB a b cap c.a c.b c.toA c.toB
 | none => false
def doneUp (p : Nat → Bool) (k : Nat) : List Int := ((List.range k).filter p).map fun (i : Nat) => (i : Int)
theorem doneUp_succ (p : Nat → Bool) (k : Nat) : doneUp p (k + 1) = if p k = true then doneUp p k ++ [(k : Int)] else doneUp p k := by
 unfold doneUp
 rw [List.range_succ,List.filter_append,List.map_append]
 by_cases h : p k = true <;> simp [h]
theorem doneUp_mem {p : Nat → Bool} {k : Nat} {x : Int} : x ∈ doneUp p k ↔ ∃ i : Nat,i < k ∧ p i = true ∧ x = (i : Int) := by
 simp only [doneUp,List.mem_map,List.mem_filter,List.mem_range]
 constructor
 ·rintro ⟨i,⟨h1,h2⟩,rfl⟩
  exact ⟨i,h1,h2,rfl⟩
 ·rintro ⟨i,h1,h2,rfl⟩
  exact ⟨i,⟨h1,h2⟩,rfl⟩
theorem doneUp_len (p : Nat → Bool) (k : Nat) : (doneUp p k).length ≤ k := by
 unfold doneUp
 rw [List.length_map]
 have := List.length_filter_le p (List.range k)
 rw [List.length_range] at this
 exact this
def dI (p : Nat → Bool) (n k : Nat) : List Int := (List.range n).map fun (j : Nat) => if j < k then (if p j = true then 0 else -1) else 0
theorem dI_len (p : Nat → Bool) (n k : Nat) : (dI p n k).length = n := by simp [dI]
theorem dI_zero (p : Nat → Bool) (n : Nat) : dI p n 0 = List.replicate n 0 := by
 apply List.ext_getElem?
 intro i
 rcases Nat.lt_or_ge i n with hi | hi
 ·simp [dI,hi]
 ·simp [dI,hi]
theorem dI_succ {p : Nat → Bool} {n k : Nat} {v : Int} (h : k < n) (hv : v = if p k = true then 0 else -1) : (dI p n k).set k v = dI p n (k + 1) := by
 apply List.ext_getElem?
 intro i
 rcases Nat.lt_or_ge i n with hi | hi
 ·by_cases e : k = i
  ·subst e
   rw [List.getElem?_set_self (by rw [dI_len]; exact h)]
   simp [dI,h,hv]
  ·rw [List.getElem?_set_ne e]
   simp only [dI,List.getElem?_map,List.getElem?_range hi,Option.map_some]
   by_cases h1 : i < k
   ·simp only [h1,if_true,show i < k + 1 by omega]
   ·simp only [h1,if_false,show ¬ i < k + 1 by omega]
 ·rw [List.getElem?_eq_none (by rw [List.length_set,dI_len]; exact hi),List.getElem?_eq_none (by rw [dI_len]; exact hi)]
def dN (p : Nat → Bool) (n k : Nat) : List Int := (List.range n).map fun (j : Nat) => if j < k ∧ p j = true then 0 else -1
theorem dN_succ {p : Nat → Bool} {n k : Nat} (h : k < n) : dN p n (k + 1) = if p k = true then (dN p n k).set k 0 else dN p n k := by
 apply List.ext_getElem?
 intro i
 rcases Nat.lt_or_ge i n with hi | hi
 ·by_cases hp : p k = true
  ·rw [if_pos hp]
   by_cases e : k = i
   ·subst e
    rw [List.getElem?_set_self (by simp [dN,h])]
    simp [dN,h,hp]
   ·rw [List.getElem?_set_ne e]
    simp only [dN,List.getElem?_map,List.getElem?_range hi,Option.map_some]
    by_cases h1 : i < k
    ·simp only [h1,true_and,show i < k + 1 by omega]
    ·simp only [h1,false_and,if_false,show ¬ i < k + 1 by omega]
  ·rw [if_neg hp]
   simp only [dN,List.getElem?_map,List.getElem?_range hi,Option.map_some]
   by_cases e : i = k
   ·subst e
    simp [hp]
   ·by_cases h1 : i < k
    ·simp only [h1,true_and,show i < k + 1 by omega]
    ·simp only [h1,false_and,if_false,show ¬ i < k + 1 by omega]
 ·rw [List.getElem?_eq_none (by simp [dN,hi]),List.getElem?_eq_none (by split <;> simp [dN,hi])]
theorem dI_all (p : Nat → Bool) (n : Nat) : dI p n n = dN p n n := by
 refine List.map_congr_left fun j hj => ?_
 rw [List.mem_range] at hj
 simp [hj]
theorem fold0 (p : Nat → Bool) (n : Nat) : ∀ k,k ≤ n → (doneUp p k).foldl (lvIn 0) (List.replicate n (-1),[]) = (dN p n k,doneUp p k)
 | 0,_ => by
  show (List.replicate n (-1 : Int),([] : List Int)) = _
  have : dN p n 0 = List.replicate n (-1) := by
   apply List.ext_getElem?
   intro i
   rcases Nat.lt_or_ge i n with hi | hi
   ·simp [dN,hi]
   ·simp [dN,hi]
  rw [this]
  rfl
 | k + 1,h => by
  rw [doneUp_succ,dN_succ (by omega)]
  by_cases hp : p k = true
  ·rw [if_pos hp,if_pos hp,List.foldl_append,fold0 p n k (by omega)]
   have hg : (dN p n k).getD k (-1) = -1 := by
    have : k < n := by omega
    simp [dN,this]
   simp only [List.foldl_cons,List.foldl_nil,lvIn,Int.toNat_natCast,hg]
   rw [if_pos (by omega)]
  ·rw [if_neg hp,if_neg hp]
   exact fold0 p n k (by omega)
theorem esT_len_le {rows : List (List Int)} {B : Nat} (hb : ∀ l ∈ rows,l.length ≤ B) : ∀ i,i ≤ rows.length → (esT rows i).length ≤ B * i
 | 0,_ => by simp [esT]
 | i + 1,h => by
  rw [esT_succ,List.length_append,List.length_map]
  have h1 := esT_len_le hb i (by omega)
  have h2 : (rows.getD i []).length ≤ B := by
   have : rows.getD i [] = rows[i] := by simp [show i < rows.length by omega]
   rw [this]
   exact hb _ (List.getElem_mem _)
  rw [Nat.mul_succ]
  omega
set_option maxHeartbeats 16000000 in
theorem r247 (t : Nat) (a b : Auto) (cap : Int) (C : List Cfg) (rows : List (List Int)) (M F Y : PV) (hC : C.length = rows.length) (hn : rows.length ≤ 5000) (hr : ∀ l ∈ rows,∀ x ∈ l,0 ≤ x ∧ x < (rows.length : Int)) (hlr : ∀ l ∈ rows,l.length ≤ 100000) (hcl : ∀ c ∈ C,c.toA.length ≤ 2000000000 ∧ c.toB.length ≤ 2000000000)
  (ha : a.edges.length ≤ 2 ^ 63 - 1) (hb : b.edges.length ≤ 2 ^ 63 - 1) : res A PrA 247 [.ro t [.int .i64 a.states,.int .i64 a.start,.lst 0 (a.edges.map Edge.c),.int .i64 b.states,.int .i64 b.start,.lst 0 (b.edges.map Edge.c),.int .i64 cap,.lst 0 (cfgs C),M,.lst 0 (lls rows),F,Y]] = some [.lst 0 (ints (ranksC rows (doneUp (doneAt a b cap C) rows.length)))] := by
 refine res_of a247 rfl rfl ?_
 simp only [F247]; try delta sS tT zZ nN gG bB pZ
 obtain ⟨n,hnn⟩ : ∃ n,rows.length = n := ⟨_,rfl⟩
 have hsl : ∀ i,i ≤ n → (esT rows i).length ≤ 100000 * 5000 := fun i hi => by
  have h1 := esT_len_le hlr i (by omega)
  have h2 : 100000 * i ≤ 100000 * 5000 := Nat.mul_le_mul_left _ (by omega)
  omega
 rw [hnn] at hr hC hn ⊢
 simp (disch := omega) only [go_sem,hnn,hC]
 refine W.loop (α := Nat × List V × List Arr) (fun x => ⟨[(0,.pv (.ro t [.int .i64 a.states,.int .i64 a.start,.lst 0 (a.edges.map Edge.c),.int .i64 b.states,.int .i64 b.start,.lst 0 (b.edges.map Edge.c),.int .i64 cap,.lst 0 (cfgs C),M,.lst 0 (lls rows),F,Y])),(3,.own 0 0 0 n),(24,.pv (.lst 0 (lls rows))),(25,.pv (.int .i64 n)),(26,.pv (.int .i64 x.1))],⟨[],⟨0,1,.inr (rowsV x.2.1)⟩ :: x.2.2,[]⟩⟩)
  (fun x => x.1 ≤ n ∧ Lists n (succA n (esT rows x.1)) x.2.1 x.2.2 ∧ V.pv (.lst 0 []) ∉ x.2.1) (fun x => n - x.1) (0,List.replicate n (.tl []),[]) rfl ⟨Nat.zero_le _,by show Lists n (succA n []) _ _; rw [succA_nil]; exact Lists.start n,fun hm => by cases List.eq_of_mem_replicate hm⟩ fun x hx => ?_
 obtain ⟨i,xs,ars⟩ := x
 obtain ⟨hi,hL,hno⟩ := hx
 dsimp only at hi hL hno
 simp (disch := omega) only [go_sem]
 refine Br.ofP (fun h => ?_) (fun h => ?_)
 ·obtain ⟨l,hl⟩ := get_at (l := rows) (k := i) (by omega)
  have hll := hlr l (List.mem_of_getElem? hl)
  have hlx := hr l (List.mem_of_getElem? hl)
  have hgd : rows.getD i [] = l := by simp [hl]
  simp (disch := omega) only [go_sem,hl]
  refine W.loop (α := Nat × List V × List Arr) (fun x => ⟨[(0,.pv (.ro t [.int .i64 a.states,.int .i64 a.start,.lst 0 (a.edges.map Edge.c),.int .i64 b.states,.int .i64 b.start,.lst 0 (b.edges.map Edge.c),.int .i64 cap,.lst 0 (cfgs C),M,.lst 0 (lls rows),F,Y])),(3,.own 0 0 0 n),(4,.pv (.int .i64 i)),(24,.pv (.lst 0 (lls rows))),(25,.pv (.int .i64 n)),(26,.pv (.int .i64 i)),(31,.pv (.lst 0 (ints l))),(32,.pv (.int .i64 l.length)),(33,.pv (.int .i64 x.1))],⟨[],⟨0,1,.inr (rowsV x.2.1)⟩ :: x.2.2,[]⟩⟩)
   (fun x => x.1 ≤ l.length ∧ Lists n (succA n (esT rows i ++ (l.take x.1).map fun k => (k,(i : Int)))) x.2.1 x.2.2 ∧ V.pv (.lst 0 []) ∉ x.2.1) (fun x => l.length - x.1) (0,xs,ars) rfl ⟨Nat.zero_le _,by simpa using hL,hno⟩ fun x hx => ?_
  obtain ⟨k,xs,ars⟩ := x
  obtain ⟨hk,hL,hno⟩ := hx
  dsimp only at hk hL hno
  simp (disch := omega) only [go_sem]
  refine Br.ofP (fun h => ?_) (fun h => ?_)
  ·obtain ⟨e,he⟩ := get_at (l := l) (k := k) (by omega)
   obtain ⟨g1,g2⟩ := hlx e (List.mem_of_getElem? he)
   have hv : e.toNat < n := by omega
   have hvi : ((e.toNat : Nat) : Int) = e := by omega
   obtain ⟨x,s,hx,hs,ho⟩ := hL.get hv
   rw [succA_get hv,hvi] at hs
   cases hs
   have hes : (esT rows i ++ (l.take k).map fun k => (k,(i : Int))).length ≤ 600000000 := by
    have := hsl i (by omega)
    rw [List.length_append,List.length_map,List.length_take]
    omega
   have hol := outP_len (esT rows i ++ (l.take k).map fun k => (k,(i : Int))) e
   have htk : esT rows i ++ (l.take (k + 1)).map (fun k => (k,(i : Int))) = (esT rows i ++ (l.take k).map fun k => (k,(i : Int))) ++ [(e,(i : Int))] := by
    rw [List.take_add_one,he]
    simp
   have hsucc := succA_snoc (n := n) (es := esT rows i ++ (l.take k).map fun k => (k,(i : Int))) (e := (e,(i : Int))) ⟨g1,g2⟩
   rw [← htk] at hsucc
   dsimp only at hsucc
   generalize esT rows i ++ (l.take k).map (fun k => (k,(i : Int))) = es at *
   have hxl := hL.xl
   rcases ho with ⟨h0,h1⟩ | ⟨id,ver,rfl,h1,h2⟩
   ·rcases h0 with rfl | rfl
    ·simp (disch := omega) only [go_sem,he,hx]
     refine ⟨(k + 1,_,_),⟨by dsimp only; omega,?_,not_set hno (by simp)⟩,by dsimp only; omega,rfl⟩
     dsimp only
     rw [← hsucc,h1]
     exact hL.first hv (by simp)
    ·exact (hno (List.mem_of_getElem? hx)).elim
   ·simp (disch := omega) only [go_sem,he,hx,h2]
    refine ⟨(k + 1,_,_),⟨by dsimp only; omega,?_,not_set hno (by simp)⟩,by dsimp only; omega,rfl⟩
    dsimp only
    rw [← hsucc]
    have := hL.same (ver' := ver + 1) (l := outP es e ++ [(i : Int)]) hv hx (by simp)
    simp only [List.length_append,List.length_cons,List.length_nil,Nat.zero_add] at this
    exact this
  ·obtain rfl : k = l.length := by omega
   rw [List.take_length,← hgd,← esT_succ] at hL
   simp (disch := omega) only [go_sem]
   exact ⟨(i + 1,xs,ars),⟨by dsimp only; omega,hL,hno⟩,by dsimp only; omega,rfl⟩
 ·obtain rfl : i = n := by omega
  clear h
  have catO : ∀ (O : Arr) (Q : List Arr),(ars ++ (O :: Q))[ars.length]? = some O := fun O Q => by simp
  have setO : ∀ (O O' : Arr) (Q : List Arr),(ars ++ (O :: Q)).set ars.length O' = ars ++ (O' :: Q) := fun O O' Q => by simp []
  have gr : ∀ bx mp (A0 O : Arr) (q : List Int) (z : Int),q.length ≤ 5000 → appendV ⟨bx,A0 :: (ars ++ (O :: grA 1 (ints q))),mp⟩ 1 (grV (ars.length + 2) (ints q)) (.tl [[.int .i64 z]]) = some (grV (ars.length + 2) (ints (q ++ [z])),grT (ars.length + 2) 1 (ints q) [.int .i64 z]) := fun bx mp A0 O q z hq => by
   have := grow bx mp (A0 :: (ars ++ [O])) 1 (ints q) [.int .i64 z] rfl (by rw [ints_length]; omega)
   rw [ints_snoc] at this
   simpa using this
  have ga : ∀ bx mp (A0 O : Arr) (q : List Int) (z : Int),(grT (ars.length + 2) 1 (ints q) [.int .i64 z]).apply ⟨bx,A0 :: (ars ++ (O :: grA 1 (ints q))),mp⟩ = ⟨bx,A0 :: (ars ++ (O :: grA 1 (ints (q ++ [z])))),mp⟩ := fun bx mp A0 O q z => by
   have := grT_apply bx mp (A0 :: (ars ++ [O])) 1 (ints q) [.int .i64 z]
   rw [ints_snoc] at this
   simpa using this
  have hpd : ∀ (k : Nat) (c : Cfg),C[k]? = some c → doneAt a b cap C k = doneB a b cap c.a c.b c.toA c.toB := fun k c h => by unfold doneAt; rw [h]
  generalize hp : doneAt a b cap C = P at *
  simp (disch := omega) only [go_sem,hC]
  refine W.upto i (fun k => ⟨[(0,.pv (.ro t [.int .i64 a.states,.int .i64 a.start,.lst 0 (a.edges.map Edge.c),.int .i64 b.states,.int .i64 b.start,.lst 0 (b.edges.map Edge.c),.int .i64 cap,.lst 0 (cfgs C),M,.lst 0 (lls rows),F,Y])),(3,.own 0 0 0 i),(8,.own (ars.length + 1) 0 0 i),(9,grV (ars.length + 2) (ints (doneUp P k))),(58,.pv (.lst 0 (cfgs C))),(59,.pv (.int .i64 i)),(60,.pv (.int .i64 k))],
   ⟨[],⟨0,1,.inr (rowsV xs)⟩ :: (ars ++ (⟨0,1,.inl (ints (dI P i k))⟩ :: grA 1 (ints (doneUp P k)))),[]⟩⟩) (fun _ => True) (by rw [dI_zero]; rfl) trivial fun k hk _ => ?_
  simp (disch := omega) only [go_sem]
  refine Br.ofP (fun h => ?_) (fun h => ?_)
  ·obtain ⟨c,hc⟩ := get_at (l := C) (k := k) (by omega)
   obtain ⟨x5,x6⟩ := hcl c (List.mem_of_getElem? hc)
   have hcg : (cfgs C)[k]? = some [.int .i64 c.a,.int .i64 c.b,.lst 0 (ints c.toA),.lst 0 (ints c.toB)] := by rw [cfgs_get,hc]; rfl
   have h159 := r159 0 0 a b cap 0 0 c.a c.b c.toA c.toB (by omega) (by omega) (by omega) (by omega)
   rw [← hpd k c hc] at h159
   have hs0 := dI_succ (p := P) (n := i) (k := k) (v := 0) (by omega)
   have hs1 := dI_succ (p := P) (n := i) (k := k) (v := -1) (by omega)
   have hdl := dI_len P i k
   have hdl2 : ((dI P i k).set k (-1)).length = i := by rw [List.length_set,hdl]
   have hql := doneUp_len P k
   have hqs := doneUp_succ P k
   generalize hd : dI P i k = d at *
   generalize hq : doneUp P k = q at *
   cases hpk : P k with
   | true =>
    rw [hpk] at h159 hs0 hqs
    rw [if_pos rfl] at hqs
    simp (disch := omega) only [go_sem,hcg,h159,catO,setO,gr,ga]
    refine .of (by omega) ?_ trivial
    rw [List.set_set,hs0 rfl,hqs]
    rfl
   | false =>
    rw [hpk] at h159 hs1 hqs
    rw [if_neg (by decide)] at hqs
    simp (disch := omega) only [go_sem,hcg,h159,catO,setO]
    refine .of (by omega) ?_ trivial
    rw [hs1 rfl,hqs]
    rfl
  ·obtain rfl : k = i := by omega
   clear hk h
   have hdn : ∀ x ∈ doneUp P k,0 ≤ x ∧ x < (k : Int) := fun x hx => by
    obtain ⟨j,h1,_,rfl⟩ := doneUp_mem.1 hx
    omega
   have hin : ∀ v x,x ∈ nxt (succA k (esT rows k)) v → 0 ≤ x ∧ x < (k : Int) := by
    have := nx_in (rows := rows) (by rw [hnn]; exact hr)
    rwa [hnn] at this
   have hf0 := fold0 P k k (Nat.le_refl _)
   have hL0 := (lv_fold (d := 0) (LvOk.start k) hdn ⟨by omega,by omega⟩).1
   have hrk : ranksC rows (doneUp P k) = (lvRun (nxt (succA k (esT rows k))) k 0 (dN P k k,doneUp P k)).1 := by
    unfold ranksC levels
    rw [hnn,hf0]
   rw [hf0] at hL0
   rw [hrk,dI_all]
   generalize dN P k k = d0 at *
   generalize doneUp P k = q0 at *
   have hxl := hL.xl
   simp (disch := omega) only [go_sem]
   refine W.loop (α := Nat × List Int × List Int) (fun x => ⟨[(3,.own 0 0 0 k),(8,.own (ars.length + 1) 0 0 k),(9,grV (ars.length + 2) (ints x.2.2)),(12,.pv (.int .i64 x.1))],⟨[],⟨0,1,.inr (rowsV xs)⟩ :: (ars ++ (⟨0,1,.inl (ints x.2.1)⟩ :: grA 1 (ints x.2.2))),[]⟩⟩)
    (fun x => LvOk k x.2 ∧ x.1 ≤ x.2.2.length ∧ (lvRun (nxt (succA k (esT rows k))) (k - x.1) x.1 x.2).1 = (lvRun (nxt (succA k (esT rows k))) k 0 (d0,q0)).1) (fun x => k - x.1) (0,d0,q0) rfl ⟨hL0,Nat.zero_le _,rfl⟩ fun x hx => ?_
   obtain ⟨i,d,q⟩ := x
   obtain ⟨hLv,h2,hb'⟩ := hx
   dsimp only at h2 hb'
   have hbo := hLv.bound
   have hle := hLv.len
   dsimp only at hbo hle
   simp (disch := omega) only [go_sem]
   refine Br.ofP (fun h => ?_) (fun h => ?_)
   ·obtain ⟨v,hv⟩ := get_at (l := q) (k := i) (by omega)
    obtain ⟨v0,v1,v2⟩ := (hLv.mem v).1 (List.mem_of_getElem? hv)
    obtain ⟨xv,l,hxv,hsl',ho⟩ := hL.get (v := v.toNat) (by omega)
    have hnl : nxt (succA k (esT rows k)) v = l := by simp [nxt,hsl']
    have hlr' : ∀ x ∈ l,0 ≤ x ∧ x < (k : Int) := fun x hx => hin v x (by rw [hnl]; exact hx)
    have hlen : ∀ h,lenV h 0 xv = some (l.length,{}) := by
     rcases ho with ⟨rfl | rfl,rfl⟩ | ⟨_,_,rfl,_,_⟩ <;> intro h <;> rfl
    have hscr : scrub [] xv = xv := by rcases ho with ⟨rfl | rfl,rfl⟩ | ⟨_,_,rfl,_,_⟩ <;> rfl
    have hlb : l.length ≤ 600000000 := by
     rw [succA_get (by omega)] at hsl'
     cases hsl'
     have h1 := outP_len (esT rows k) ((v.toNat : Nat) : Int)
     have h2 := hsl k (Nat.le_refl _)
     omega
    obtain ⟨m,hm'⟩ : ∃ m,(ints q).length = m + 1 := ⟨q.length - 1,by rw [ints_len]; omega⟩
    have hgV := grV_own (i := ars.length + 2) hm'
    have hgA := grA_own (k := 1) hm'
    rw [ints_len] at hm'
    rw [hgV,hgA]
    have catQ : ∀ (O Qa : Arr),(ars ++ [O,Qa])[ars.length + 1]? = some Qa := fun O Qa => by simp
    have hd0 : d[v.toNat]? = some (d.getD v.toNat (-1)) := by
     have : v.toNat < d.length := by omega
     simp [this]
    have htop := hLv.top v.toNat
    dsimp only at htop v2
    simp (disch := omega) only [go_sem,hv,catQ,hxv,hlen,hscr]
    refine W.fold l (lvIn (d.getD v.toNat (-1) + 1)) (d,q) (fun j p => ⟨[(3,.own 0 0 0 k),(8,.own (ars.length + 1) 0 0 k),(9,grV (ars.length + 2) (ints p.2)),(12,.pv (.int .i64 i)),(94,xv),(95,.pv (.int .i64 l.length)),(96,.pv (.int .i64 j))],⟨[],⟨0,1,.inr (rowsV xs)⟩ :: (ars ++ (⟨0,1,.inl (ints p.1)⟩ :: grA 1 (ints p.2))),[]⟩⟩)
     (fun _ p => LvOk k p ∧ q <+: p.2 ∧ p.1.getD v.toNat (-1) = d.getD v.toNat (-1)) (by
      rw [hgV,hgA]
      rfl) ⟨hLv,List.prefix_refl _,rfl⟩ (fun j x p hx hj _ hi => ?_) (fun p hp hi => ?_)
    ·obtain ⟨d',q'⟩ := p
     obtain ⟨hL',hpre,hv'⟩ := hi
     dsimp only at hpre hv'
     rcases ho with ⟨_,rfl⟩ | ⟨id,ver,rfl,_,hid⟩
     ·simp at hx
     have catR : ∀ (O : Arr) (Q : List Arr),(ars ++ (O :: Q))[id]? = some ⟨ver,1,.inl (ints l)⟩ := fun O Q => by
      rw [List.getElem?_append_left (List.getElem?_eq_some_iff.1 hid).1]
      exact hid
     obtain ⟨x0,x1⟩ := hlr' x (List.mem_of_getElem? hx)
     have hbo' := hL'.bound
     have hle' := hL'.len
     dsimp only at hbo' hle'
     have hql' := hpre.length_le
     have hst := hL'.step (x := x) (d := d.getD v.toNat (-1) + 1) ⟨x0,x1⟩ ⟨by omega,by dsimp only; omega⟩
     have hg : d'[x.toNat]? = some (d'.getD x.toNat (-1)) := by
      have : x.toNat < d'.length := by omega
      simp [this]
     have hgv : d'[v.toNat]? = some (d.getD v.toNat (-1)) := by
      have : v.toNat < d'.length := by omega
      rw [← hv']
      simp [this]
     have hqv := get_pre hpre hv
     obtain ⟨m2,hm2⟩ : ∃ m2,(ints q').length = m2 + 1 := ⟨q'.length - 1,by rw [ints_len]; omega⟩
     have hgV2 := grV_own (i := ars.length + 2) hm2
     have hgA2 := grA_own (k := 1) hm2
     rw [ints_len] at hm2
     have setQ : ∀ (O Qa Qb : Arr),(ars ++ [O,Qa]).set (ars.length + 1) Qb = ars ++ [O,Qb] := fun O Qa Qb => by simp []
     dsimp only
     rw [hgV2,hgA2]
     simp (disch := omega) only [go_sem]
     refine Br.ofP (fun h => ?_) (fun h => (h (by omega)).elim)
     simp (disch := omega) only [go_sem,hx,catR,catO,hg]
     refine Br.ofP (fun g => ?_) (fun g => ?_)
     ·have hin' : lvIn (d.getD v.toNat (-1) + 1) (d',q') x = (d'.set x.toNat (d.getD v.toNat (-1) + 1),q' ++ [x]) := if_pos g
      rw [hin'] at hst ⊢
      simp (disch := omega) only [go_sem,catQ,catO,setO,setQ,hqv,hgv]
      refine foldK.of ?_ ⟨hst,hpre.trans (List.prefix_append _ _),?_⟩
      ·dsimp only
       have hm3 : (ints (q' ++ [x])).length = m2 + 1 + 1 := by rw [ints_len,List.length_append,hm2]; rfl
       rw [grV_own (i := ars.length + 2) hm3,grA_own (k := 1) hm3]
       rfl
      ·dsimp only
       rw [getD_set' (by omega),if_neg (fun e => by rw [e] at g; omega)]
       exact hv'
     ·have hin' : lvIn (d.getD v.toNat (-1) + 1) (d',q') x = (d',q') := if_neg g
      rw [hin'] at hst ⊢
      simp (disch := omega) only [go_sem]
      refine foldK.of ?_ ⟨hst,hpre,hv'⟩
      dsimp only
      rw [hgV2,hgA2]
      rfl
    ·obtain ⟨d',q'⟩ := p
     obtain ⟨hL',hpre,hv'⟩ := hi
     dsimp only at hpre
     have hql' := hpre.length_le
     simp (disch := omega) only [go_sem]
     have hb3 : q.length ≤ k := hLv.bound
     have h3 : i < q.length := (List.getElem?_eq_some_iff.1 hv).1
     refine ⟨(i + 1,d',q'),⟨hL',by dsimp only; omega,?_⟩,by dsimp only; omega,rfl⟩
     dsimp only
     rw [← hb',show k - i = (k - (i + 1)) + 1 by omega,lvRun,hv]
     simp only
     rw [hnl,← hp]
   ·have hlq : q.length ≤ i := by
     have h : ¬ ((i : Int) < (q.length : Int)) := h
     omega
    have hnone : (lvRun (nxt (succA k (esT rows k))) (k - i) i (d,q)) = (d,q) := by
     cases k - i with
     | zero => rfl
     | succ j =>
      rw [lvRun,List.getElem?_eq_none hlq]
    rw [hnone] at hb'
    have htk : (ints d).take k = ints d := List.take_of_length_le (by rw [ints_len,hle]; exact Nat.le_refl _)
    simp (disch := omega) only [go_sem,catO,htk]
    rw [← hb']
end Go.Pv
namespace Go.Pv
end Go.Pv
namespace Go.Pv
end Go.Pv
