/-
 The interpreter over plain values,and that it is sound.
-/
import Derived.Test.YtpchfogcccagjaaGreatA3
import Derived.Shelf.Sort.Plain
import Derived.Shelf.Slices.In.SortNone
namespace Go.Pv
abbrev Prim := List V → Heap → Option (V × Tn)
structure Prim.Law (pr : Prim) : Prop where
 loc : ∀ vs h1 h2 v t,pr vs h1 = some (v,t) → Agree t h1 h2 → pr vs h2 = some (v,t)
 fit : ∀ vs h v t,pr vs h = some (v,t) → t.fit h
 old : ∀ vs h v t,pr vs h = some (v,t) → t.new = false
def Prim.Ok (P : Program) (N : Nat → Nat) (fn : Nat) (pr : Prim) : Prop :=
 ∀ (L : Lx) (e : Emb) (W : Nat → Prop) (h : Heap) (w : World) (vs : List V) (args : Array Value) (v : V) (tn : Tn),pr vs h = some (v,tn) → HR N L e W h w →
  args.size = vs.length → (∀ (j : Nat) (x : V),vs[j]? = some x → VR N L e w x (args.getD j undef)) →
  CallGood P (N fn) args w fun v' w' => ∃ L' e',Nx N W L e w L' e' (tn.apply h) w' ∧ VR N L' e' w' v v'
theorem look1_mem {α : Type} {n : Nat} {x : α} : ∀ {l : List (Nat × α)},look1 n l = some x → (n,x) ∈ l
 | [],h => by cases h
 | (m,y) :: r,h => by
  simp only [look1] at h
  split at h
  ·rename_i hm
   cases h
   subst hm
   exact List.mem_cons_self ..
  ·exact List.mem_cons_of_mem _ (look1_mem h)
theorem prims_law {l : List (Nat × Prim)} (hl : ∀ x ∈ l,Prim.Law x.2) : PrimLaw (fun n => look1 n l) :=
 ⟨fun _fn _pr hf => (hl _ (look1_mem hf)).loc,fun _fn _pr hf => (hl _ (look1_mem hf)).fit,fun _fn _pr hf => (hl _ (look1_mem hf)).old⟩
theorem prims_ok {P : Program} {N : Nat → Nat} {l : List (Nat × Prim)} (hl : ∀ x ∈ l,Prim.Ok P N x.1 x.2) : PrimOk P N (fun n => look1 n l) :=
 fun _fn _pr hf => hl _ (look1_mem hf)
theorem sortP_law (k : Nat) (f : List (List PV) → Option (List (List PV))) (g : Nat) : Prim.Law (sortP k f g) where
 old := by
  intro vs h v t hh
  unfold sortP at hh
  repeat' split at hh
  all_goals first | (cases hh; done) | (injection hh with hh; injection hh with e1 e2; subst e2; rfl)
 loc := by
  intro vs h1 h2 v t hh ha
  unfold sortP at hh ⊢
  split at hh <;> first | (cases hh; done) | skip
  split at hh <;> first | (cases hh; done) | skip
  rename_i hg
  simp only [hg,if_true]
  split at hh <;> first | (cases hh; done) | skip
  ·exact hh
  ·rename_i id ver off len
   split at hh <;> first | (cases hh; done) | skip
   rename_i a ho
   have : (t.ra = some id ∨ t.ra2 = some id ∨ ∃ a,t.ar = some (id,a)) → ownArr h2 id ver = some a := fun hi => (ha.own hi).trans ho
   split at hh
   ·rename_i h0
    injection hh with hh
    injection hh with e1 e2
    subst e1
    subst e2
    rw [this (.inl rfl)]
    simp only [h0,if_true]
   ·rename_i h0
    split at hh <;> first | (cases hh; done) | skip
    rename_i rows hb
    split at hh <;> first | (cases hh; done) | skip
    rename_i hc
    split at hh <;> first | (cases hh; done) | skip
    rename_i news hn
    injection hh with hh
    injection hh with e1 e2
    subst e1
    subst e2
    rw [this (.inr (.inr ⟨_,rfl⟩))]
    simp only [h0,if_false,hb,hn]
    rw [if_pos hc]
 fit := by
  intro vs h v t hh
  unfold sortP at hh
  split at hh <;> first | (cases hh; done) | skip
  split at hh <;> first | (cases hh; done) | skip
  split at hh <;> first | (cases hh; done) | skip
  ·injection hh with hh
   injection hh with e1 e2
   subst e2
   exact ⟨fun hp => absurd rfl hp,fun i a hia => by cases hia⟩
  ·split at hh <;> first | (cases hh; done) | skip
   rename_i a ho
   split at hh
   ·injection hh with hh
    injection hh with e1 e2
    subst e2
    exact ⟨fun hp => absurd rfl hp,fun i a hia => by cases hia⟩
   ·split at hh <;> first | (cases hh; done) | skip
    split at hh <;> first | (cases hh; done) | skip
    split at hh <;> first | (cases hh; done) | skip
    injection hh with hh
    injection hh with e1 e2
    subst e2
    refine ⟨fun hp => absurd rfl hp,fun i a' hia => ?_⟩
    cases hia
    exact ownArr_lt ho
theorem cloneP_law (k : Nat) : Prim.Law (cloneP k) where
 old := by
  intro vs h v t hh
  unfold cloneP at hh
  repeat' split at hh
  all_goals first | (cases hh; done) | (injection hh with hh; injection hh with e1 e2; subst e2; rfl)
 loc := by
  intro vs h1 h2 v t hh ha
  unfold cloneP at hh ⊢
  split at hh <;> first | (cases hh; done) | skip
  split at hh <;> first | (cases hh; done) | skip
  rename_i rows rd hs
  split at hh <;> first | (cases hh; done) | skip
  rename_i hc
  split at hh
  ·rename_i h0
   injection hh with hh
   injection hh with e1 e2
   subst e1
   subst e2
   rw [srcRows_loc hs (fun i hi => ha.ar i (.inl hi))]
   simp only
   rw [if_pos hc,if_pos h0]
  ·rename_i h0
   injection hh with hh
   injection hh with e1 e2
   subst e1
   subst e2
   rw [srcRows_loc hs (fun i hi => ha.ar i (.inl hi))]
   simp only
   rw [if_pos hc,if_neg h0,ha.len (by simp)]
 fit := by
  intro vs h v t hh
  unfold cloneP at hh
  split at hh <;> first | (cases hh; done) | skip
  split at hh <;> first | (cases hh; done) | skip
  split at hh <;> first | (cases hh; done) | skip
  split at hh
  all_goals
   injection hh with hh
   injection hh with e1 e2
   subst e2
   refine ⟨fun hp => ?_,fun i a hia => by cases hia⟩
   first | rfl | exact absurd rfl hp
end Go.Pv
namespace Go.Pv
open Go.Sort
variable {P : Program} {N : Nat → Nat} {W : Nat → Prop} {L : Lx} {e : Emb} {h : Heap} {w : World}
def ltI (x y : Int) : Bool := decide (x < y)
theorem ins_sorted (x : Int) : ∀ l : List Int,l.Pairwise (· ≤ ·) → (ins ltI x l).Pairwise (· ≤ ·)
 | [],_ => List.pairwise_singleton _ _
 | y :: r,h => by
  obtain ⟨h1,h2⟩ := List.pairwise_cons.1 h
  unfold ins ltI
  by_cases hxy : y < x
  ·simp only [hxy,decide_true,if_true]
   refine List.pairwise_cons.2 ⟨fun z hz => ?_,ins_sorted x r h2⟩
   rcases List.mem_cons.1 ((ins_perm _ x r).subset hz) with rfl | hz
   ·omega
   ·exact h1 z hz
  ·simp only [hxy,decide_false,Bool.false_eq_true,if_false]
   refine List.pairwise_cons.2 ⟨fun z hz => ?_,h⟩
   rcases List.mem_cons.1 hz with rfl | hz
   ·omega
   ·have := h1 z hz; omega
theorem isort_sorted : ∀ l : List Int,(isort ltI l).Pairwise (· ≤ ·)
 | [] => List.Pairwise.nil
 | x :: r => ins_sorted x _ (isort_sorted r)
theorem le_uniq : ∀ (a b : List Int),a.Pairwise (· ≤ ·) → b.Pairwise (· ≤ ·) → a.Perm b → a = b
 | [],b,_,_,hp => (List.Perm.eq_nil hp.symm).symm
 | x :: a,[],_,_,hp => by simp at hp
 | x :: a,y :: b,ha,hb,hp => by
  obtain ⟨a1,a2⟩ := List.pairwise_cons.1 ha
  obtain ⟨b1,b2⟩ := List.pairwise_cons.1 hb
  have hxy : x = y := by
   have hx : x ∈ y :: b := hp.subset (List.mem_cons_self ..)
   have hy : y ∈ x :: a := hp.symm.subset (List.mem_cons_self ..)
   rcases List.mem_cons.1 hx with h | h
   ·exact h
   ·rcases List.mem_cons.1 hy with h' | h'
    ·exact h'.symm
    ·have := a1 y h'; have := b1 x h; omega
  subst hxy
  rw [le_uniq a b a2 b2 (List.Perm.cons_inv hp)]
theorem isort_merge (l : List Int) : l.mergeSort (fun x y => decide (x ≤ y)) = isort ltI l := by
 refine le_uniq _ _ ?_ (isort_sorted l) ((List.mergeSort_perm _ _).trans (isort_perm _ _).symm)
 have := List.pairwise_mergeSort (le := fun x y : Int => decide (x ≤ y)) (fun a b c h1 h2 => by simp at *; omega) (fun a b => by simp; omega) l
 simpa using this
def intDec : List PV → Option Int
 | [.int .i64 x] => some x
 | _ => none
def sortIP : List V → Heap → Option (V × Tn)
 | [x],h => match x with
  | .tl [] => some (.tup [],{})
  | .tl [r] => (match intDec r with
   | some _ => some (.tup [],{})
   | none => none)
  | .own id ver off len => match ownArr h id ver with
   | some a => if len = 0 then some (.tup [],{ ra := some id }) else (match a.body with
    | .inl rows => if a.k = 1 ∧ off + len ≤ rows.length ∧ len ≤ mostRows then (match mapO intDec ((rows.drop off).take len) with
     | some l => some (.tup [],{ ar := some (id,⟨ver,1,.inl (rows.take off ++ (isort ltI l).map (fun x => [.int .i64 x]) ++ rows.drop (off + len))⟩) })
     | none => none) else none
    | .inr _ => none)
   | none => none
  | _ => none
 | _,_ => none
theorem putRow_map (w : World) (blk off : Nat) (d : Array Int) : putRow (Value.int .i64) w blk off d = putRow id w blk off (d.map (Value.int .i64)) := by
 unfold putRow
 congr 1
 funext c
 unfold putCells
 congr 1
 funext k x
 rw [Array.size_map]
 by_cases hk : off ≤ k ∧ k < off + d.size
 ·rw [if_pos hk,if_pos hk]
  have h1 : k - off < d.size := by omega
  rw [getElem!_pos d _ h1,getElem!_pos (d.map _) _ (by rw [Array.size_map]; exact h1)]
  simp
 ·rw [if_neg hk,if_neg hk]
theorem behind (hr : HR N L e W h w) (n : Nat) (os : Array Obj) : Nx N W L e w L e h (grow (Sort.ahead w n) os) := by
 have hold : ∀ g,g < w.heap.size → (grow (Sort.ahead w n) os).heap[g]? = w.heap[g]? := by
  intro g hg
  rw [heap_grow_old _ _ (by simpa [Sort.ahead] using hg)]
  rfl
 have hsz : w.heap.size ≤ (grow (Sort.ahead w n) os).heap.size := by simp [Sort.ahead]
 obtain ⟨q1,q2⟩ := hr.quiet2 (w' := grow (Sort.ahead w n) os) (L' := L) (fun _ => False) (fun b hb => hb.elim) (fun b hb _ => hold b hb) hsz (fun _ _ h => h) (fun _ _ h => .inl h)
 refine ⟨q1,q2,⟨rfl,rfl,rfl,hsz,fun g hg _ => hold g hg,?_⟩,fun _ _ h => .inl h⟩
 show w.drawn ≤ w.drawn + n
 omega
theorem sortIP_ok {ρ : Go.Shelf.Ren} (LL : Go.Proofs.Lays.n189 P ρ) {fn : Nat} (hfn : N fn = ρ.f 189) (hent : ∀ args w,(callFunc (N fn) args).run P w = .ok (.enter (N fn) args) w)
  {vs : List V} {args : Array Value} {v : V} {tn : Tn} (hp : sortIP vs h = some (v,tn)) (hr : HR N L e W h w)
  (hs : args.size = vs.length) (hv : ∀ (j : Nat) (x : V),vs[j]? = some x → VR N L e w x (args.getD j undef)) :
  CallGood P (N fn) args w fun v' w' => ∃ L' e',Nx N W L e w L' e' (tn.apply h) w' ∧ VR N L' e' w' v v' := by
 have key : ∀ x,vs = [x] → ∃ v0,args = #[v0] ∧ VR N L e w x v0 := by
  rintro x rfl
  have h0 := hv 0 x rfl
  have hsz : args.size = 1 := hs
  obtain ⟨l⟩ := args
  match l,hsz with
  | [v0],_ => exact ⟨v0,rfl,h0⟩
 have fin0 : ∀ (a : Option Addr) (cap : Nat),args = #[.slice a 0 cap] → tn.apply h = h → v = .tup [] → CallGood P (N fn) args w fun v' w' => ∃ L' e',Nx N W L e w L' e' (tn.apply h) w' ∧ VR N L' e' w' v v' := by
  rintro a cap rfl ht rfl
  refine .inr ⟨hent _ _,?_⟩
  rw [hfn]
  refine (Go.Proofs.Any.slices_Sort_int_none LL a cap w).mono ?_
  rintro en w' ⟨rfl,rfl⟩
  exact ⟨L,e,by rw [ht]; exact Nx.refl hr,.tup [] #[] rfl (fun j c hj => by simp at hj)⟩
 unfold sortIP at hp
 split at hp <;> first | (cases hp; done) | skip
 rename_i x
 obtain ⟨v0,hargs,hv0⟩ := key x rfl
 split at hp <;> first | (cases hp; done) | skip
 ·injection hp with hp
  injection hp with e1 e2
  subst e1
  subst e2
  cases hv0 with
  | tl rows a hh => exact fin0 a 0 hargs (by cases h; simp [Tn.apply]) rfl
 ·rename_i r
  split at hp <;> first | (cases hp; done) | skip
  rename_i x hx
  injection hp with hp
  injection hp with e1 e2
  subst e1
  subst e2
  have hr1 : r = [.int .i64 x] := by
   unfold intDec at hx
   split at hx
   ·cases hx; rfl
   ·cases hx
  subst hr1
  cases hv0 with
  | tl rows a hh hsoft =>
   cases hh with
   | lst _ _ _ ad _ k vs hk hc ha hcell hv hpm h1 =>
    obtain ⟨rfl,hsp,hl⟩ := ha (by simp)
    obtain ⟨blk,off,sp⟩ := ad
    dsimp only at hsp hl hcell
    subst hsp
    have hc0 := hcell 0 0 (.int .i64 x) rfl
    have hv1 := hv 0 0 (.int .i64 x) rfl
    have hv2 : vs 0 0 = .int .i64 x := by
     generalize vs 0 0 = u at hv1
     cases hv1
     rfl
    rw [hv2] at hc0
    have hblk : blk < w.heap.size := by
     rcases hl with hl | ⟨hl,_⟩
     ·exact hr.lsz _ _ hl
     ·exact absurd rfl hl
    have hH : Holds (Value.int .i64) w blk off [x].toArray := by
     intro j hj
     have hj0 : j = 0 := by simpa using hj
     subst hj0
     obtain ⟨arr,ty,h1⟩ := hsoft (by simp) _ rfl
     exact ⟨by simpa using hc0,by simp [World.frozen?,h1]⟩
    have hcall := Go.Proofs.Any.slices_Sort_int LL blk off 1 [x] w hH hblk (by simp)
    rw [hargs]
    refine .inr ⟨hent _ _,?_⟩
    rw [hfn]
    refine hcall.mono ?_
    rintro en w' ⟨rfl,n,os,rfl⟩
    rw [isort_merge]
    have hself : putRow (Value.int .i64) (Sort.ahead w n) blk off (isort ltI [x]).toArray = Sort.ahead w n := putRow_self _ _ _ _ _ (by exact hH)
    refine ⟨L,e,?_,.tup [] #[] rfl (fun j c hj => by simp at hj)⟩
    have h0 : Tn.apply {} h = h := by cases h; simp [Tn.apply]
    rw [h0,hself]
    exact behind hr n os
 ·rename_i id0 ver off len
  split at hp <;> first | (cases hp; done) | skip
  rename_i a ha
  obtain ⟨ha1,ha2⟩ := ownArr_spec ha
  split at hp
  ·rename_i hl
   subst hl
   injection hp with hp
   injection hp with e1 e2
   subst e1
   subst e2
   cases hv0 with
   | own _ _ _ _ a' cap _ _ _ _ => exact fin0 a' cap hargs (by cases h; simp [Tn.apply]) rfl
  ·rename_i hl
   split at hp <;> first | (cases hp; done) | skip
   rename_i rows hb
   split at hp <;> first | (cases hp; done) | skip
   rename_i hc
   obtain ⟨hak,hol,hm⟩ := hc
   split at hp <;> first | (cases hp; done) | skip
   rename_i l hl2
   injection hp with hp
   injection hp with e1 e2
   subst e1
   subst e2
   obtain ⟨m1,m2⟩ := mapO_some hl2
   have hcut : ((rows.drop off).take len).length = len := by simp only [List.length_take,List.length_drop]; omega
   have hll : l.length = len := by omega
   have hdec : ∀ (r : List PV) (x : Int),intDec r = some x → r = [.int .i64 x] := by
    intro r x hx
    unfold intDec at hx
    split at hx
    ·cases hx; rfl
    ·cases hx
   have hrl : (rows.drop off).take len = l.map (fun x => [.int .i64 x]) := by
    apply List.ext_getElem?
    intro i
    rw [List.getElem?_map]
    rcases Nat.lt_or_ge i len with hi | hi
    ·have h1 : ((rows.drop off).take len)[i]? = some (((rows.drop off).take len)[i]'(by omega)) := List.getElem?_eq_getElem (by omega)
     have h2 : l[i]? = some (l[i]'(by omega)) := List.getElem?_eq_getElem (by omega)
     rw [h2,h1]
     exact congrArg some (hdec _ _ (m2 i _ _ h1 h2))
    ·rw [List.getElem?_eq_none (by omega),List.getElem?_eq_none (by omega)]
     rfl
   have hk' : a.k ≠ 0 := by rw [hak]; decide
   obtain ⟨v1,v2,v3,_⟩ := hr.ver id0 a ha1
   have hid : id0 < e.na := by rw [hr.na]; exact (List.getElem?_eq_some_iff.1 ha1).1
   have flat : ∀ (m : List Int) (i j : Nat) (c : PV),at2 (m.map fun x => [PV.int .i64 x]) i j = some c → (m.toArray.map (Value.int .i64))[i * a.k + j]! = sv c := by
    intro m i j c hc
    unfold at2 at hc
    rw [List.getElem?_map] at hc
    cases hx : m[i]? with
    | none => simp [hx] at hc
    | some x =>
     simp only [hx,Option.map_some,Option.bind_some] at hc
     match j,hc with
     | 0,hc =>
      cases hc
      have hi := (List.getElem?_eq_some_iff.1 hx).1
      rw [hak,Nat.mul_one,Nat.add_zero,getElem!_pos _ i (by simpa using hi)]
      have := (List.getElem?_eq_some_iff.1 hx).2
      simp [this,sv]
     | j + 1,hc => simp at hc
   cases hv0 with
   | own _ _ _ _ a' cap g0 g1 g2 g3 =>
    obtain ⟨k1,k2,k3,k4⟩ := g3 (by rw [v1,ha2])
    have ha' := k4 (by omega)
    subst ha'
    have hH0 : Holds id w (e.ar id0) (e.ad id0 + off * a.k) (l.toArray.map (Value.int .i64)) := by
     refine holds_row hr ha1 hb hk' hol ?_ _ (by simp [hll,hak]) ?_
     ·intro r hr' c hc
      rw [hrl] at hr'
      obtain ⟨y,_,rfl⟩ := List.mem_map.1 hr'
      simp only [List.mem_cons,List.not_mem_nil,or_false] at hc
      subst hc
      rfl
     ·intro i j c hc
      rw [hrl] at hc
      exact flat l i j c hc
    have hH : Holds (Value.int .i64) w (e.ar id0) (e.ad id0 + off * a.k) l.toArray := by
     intro j hj
     obtain ⟨q1,q2⟩ := hH0 j (by simpa using hj)
     refine ⟨?_,q2⟩
     rw [q1,getElem!_pos (l.toArray.map (Value.int .i64)) j (by simpa using hj),getElem!_pos l.toArray j hj]
     simp
    have hblk := hr.lt_ar hid (by rw [v2]; exact hk')
    rw [hargs]
    refine .inr ⟨hent _ _,?_⟩
    rw [hfn]
    have hcall := Go.Proofs.Any.slices_Sort_int LL (e.ar id0) (e.ad id0 + off * e.ak id0) cap l w (by rw [v2]; exact hH) hblk (by rw [hll]; unfold mostRows at hm; omega)
    rw [hll] at hcall
    refine hcall.mono ?_
    rintro en w' ⟨rfl,n,os,rfl⟩
    rw [isort_merge]
    have hlen2 : (isort ltI l).length = len := by rw [(isort_perm ltI l).length_eq,hll]
    obtain ⟨e',hnx⟩ := inplace hr ha1 hb hk' hol (news := (isort ltI l).map fun x => [.int .i64 x]) (by simp [hlen2]) (by
     intro r hr'
     obtain ⟨y,_,rfl⟩ := List.mem_map.1 hr'
     refine ⟨by rw [hak]; rfl,fun c hc => ?_⟩
     simp only [List.mem_cons,List.not_mem_nil,or_false] at hc
     subst hc
     rfl) ((isort ltI l).toArray.map (Value.int .i64)) (by simp [hlen2,hak]) (flat _) n os _ hH0 (by simp [hll,hlen2])
    refine ⟨L,e',?_,.tup [] #[] rfl (fun j c hj => by simp at hj)⟩
    rw [apply_arr0,← ha2,← hak,putRow_map,v2]
    exact hnx
theorem sortIP_law : Prim.Law sortIP where
 old := by
  intro vs h v t hh
  unfold sortIP at hh
  repeat' split at hh
  all_goals first | (cases hh; done) | (injection hh with hh; injection hh with e1 e2; subst e2; rfl)
 loc := by
  intro vs h1 h2 v t hh ha
  unfold sortIP at hh ⊢
  split at hh <;> first | (cases hh; done) | skip
  split at hh <;> first | (cases hh; done) | skip
  ·exact hh
  ·exact hh
  ·rename_i id ver off len
   split at hh <;> first | (cases hh; done) | skip
   rename_i a ho
   have : (t.ra = some id ∨ t.ra2 = some id ∨ ∃ a,t.ar = some (id,a)) → ownArr h2 id ver = some a := fun hi => (ha.own hi).trans ho
   split at hh
   ·rename_i h0
    injection hh with hh
    injection hh with e1 e2
    subst e1
    subst e2
    rw [this (.inl rfl)]
    simp only [h0,if_true]
   ·rename_i h0
    split at hh <;> first | (cases hh; done) | skip
    rename_i rows hb
    split at hh <;> first | (cases hh; done) | skip
    rename_i hc
    split at hh <;> first | (cases hh; done) | skip
    rename_i news hn
    injection hh with hh
    injection hh with e1 e2
    subst e1
    subst e2
    rw [this (.inr (.inr ⟨_,rfl⟩))]
    simp only [h0,if_false,hb,hn]
    rw [if_pos hc]
 fit := by
  intro vs h v t hh
  unfold sortIP at hh
  split at hh <;> first | (cases hh; done) | skip
  split at hh <;> first | (cases hh; done) | skip
  ·injection hh with hh
   injection hh with e1 e2
   subst e2
   exact ⟨fun hp => absurd rfl hp,fun i a hia => by cases hia⟩
  ·split at hh <;> first | (cases hh; done) | skip
   injection hh with hh
   injection hh with e1 e2
   subst e2
   exact ⟨fun hp => absurd rfl hp,fun i a hia => by cases hia⟩
  ·split at hh <;> first | (cases hh; done) | skip
   rename_i a ho
   split at hh
   ·injection hh with hh
    injection hh with e1 e2
    subst e2
    exact ⟨fun hp => absurd rfl hp,fun i a hia => by cases hia⟩
   ·split at hh <;> first | (cases hh; done) | skip
    split at hh <;> first | (cases hh; done) | skip
    split at hh <;> first | (cases hh; done) | skip
    injection hh with hh
    injection hh with e1 e2
    subst e2
    refine ⟨fun hp => absurd rfl hp,fun i a' hia => ?_⟩
    cases hia
    exact ownArr_lt ho
end Go.Pv
namespace Go.Pv
structure Edge where
 fr : Int
 send : Bool
 label : Int
 to : Int
 deriving DecidableEq,Inhabited
structure Auto where
 states : Int
 start : Int
 edges : List Edge
 deriving DecidableEq,Inhabited
def Edge.c (e : Edge) : List PV := [.int .i64 e.fr,.bool e.send,.int .i64 e.label,.int .i64 e.to]
@[go_sem] theorem Edge.c_eq (e : Edge) : e.c = [.int .i64 e.fr,.bool e.send,.int .i64 e.label,.int .i64 e.to] := rfl
def Edge.dec : List PV → Option Edge
 | [.int .i64 a,.bool b,.int .i64 c,.int .i64 d] => some ⟨a,b,c,d⟩
 | _ => none
theorem Edge.dec_enc (r : List PV) (x : Edge) (h : Edge.dec r = some x) : x.c = r := by
 unfold Edge.dec at h
 split at h
 ·cases h
  rfl
 ·cases h
def Auto.p (t : Nat) (a : Auto) : PV := .agg [.int .i64 a.states,.int .i64 a.start,.lst t (a.edges.map Edge.c)]
@[go_sem] theorem Auto.p_eq (t : Nat) (a : Auto) : a.p t = .agg [.int .i64 a.states,.int .i64 a.start,.lst t (a.edges.map Edge.c)] := rfl
def ints (l : List Int) : List (List PV) := l.map fun x => [.int .i64 x]
@[go_sem] theorem ints_length (l : List Int) : (ints l).length = l.length := by simp [ints]
@[go_sem] theorem ints_get (l : List Int) (i : Nat) : (ints l)[i]? = l[i]?.map fun x => [.int .i64 x] := by simp [ints]
@[go_sem] theorem ints_set (l : List Int) (i : Nat) (x : Int) : (ints l).set i [.int .i64 x] = ints (l.set i x) := by simp [ints,List.map_set]
theorem ints_store {id row ver : Nat} {k : IntKind} {x : Int} {l : List Int} (h1 : row < l.length) (hk : k = .i64) : storeRow id row 0 [.pv (.int k x)] ⟨ver,1,.inl (ints l)⟩ = some { ar := some (id,⟨ver,1,.inl (ints (l.set row x))⟩) } := by
 subst hk
 rw [storeRow_one (by rw [ints_length]; exact h1) rfl (.inr ⟨.int .i64 l[row],by simp [ints,h1]⟩) rfl,ints_set]
@[go_sem] theorem ints_store64 {id row ver : Nat} {x : Int} {l : List Int} (h1 : row < l.length) : storeRow id row 0 [.pv (.int .i64 x)] ⟨ver,1,.inl (ints l)⟩ = some { ar := some (id,⟨ver,1,.inl (ints (l.set row x))⟩) } := ints_store h1 rfl
@[go_sem] theorem ints_take (l : List Int) (n : Nat) : (ints l).take n = ints (l.take n) := by simp [ints]
@[go_sem] theorem ints_drop (l : List Int) (n : Nat) : (ints l).drop n = ints (l.drop n) := by simp [ints]
def Edge.side (e : Edge) : Int := if e.send = true then 1 else 0
def cmpI (x y : Int) : Int := if x < y then -1 else if y < x then 1 else 0
def Edge.cmp (a b : Edge) : Int := if cmpI a.fr b.fr ≠ 0 then cmpI a.fr b.fr else if cmpI a.side b.side ≠ 0 then cmpI a.side b.side else cmpI a.label b.label
def Edge.lt (a b : Edge) : Bool := if a.fr ≠ b.fr then decide (a.fr < b.fr) else if a.send ≠ b.send then b.send else decide (a.label < b.label)
theorem Edge.cmp_lt (a b : Edge) : decide (Edge.cmp a b < 0) = Edge.lt a b := by
 unfold Edge.cmp Edge.lt cmpI Edge.side
 by_cases h1 : a.fr = b.fr
 ·simp only [h1,Int.lt_irrefl,if_false,ne_eq,not_true_eq_false]
  cases ha : a.send <;> cases hb : b.send <;> simp <;> (repeat' split) <;> simp <;> omega
 ·rcases Int.lt_or_gt_of_ne h1 with h | h
  ·simp [h,h1]
  ·have : ¬ a.fr < b.fr := by omega
   simp [h,h1,this]
theorem Edge.swo : Go.Sort.SWO Edge.lt where
 irrefl x := by simp [Edge.lt]
 trans x y z h1 h2 := by
  unfold Edge.lt at *
  by_cases a1 : x.fr = y.fr <;> by_cases a2 : y.fr = z.fr <;> by_cases b1 : x.send = y.send <;> by_cases b2 : y.send = z.send <;> simp_all <;> (try omega)
  all_goals (try (have : ¬ x.fr = z.fr := by omega); simp_all; omega)
 ntrans x y z h1 h2 := by
  unfold Edge.lt at *
  by_cases a1 : x.fr = y.fr <;> by_cases a2 : y.fr = z.fr <;> by_cases b1 : x.send = y.send <;> by_cases b2 : y.send = z.send <;> simp_all <;> (try omega)
  all_goals (try (have : ¬ x.fr = z.fr := by omega); simp_all; omega)
end Go.Pv
namespace Go.Pv
def Edge.fits (e : Edge) (n : Int) : Bool := decide (0 ≤ e.fr) && decide (e.fr < n) && decide (0 ≤ e.to) && decide (e.to < n) && decide (1 ≤ e.label) && decide (e.label ≤ 1000)
def chk (n : Int) : Option Edge → List Edge → Bool
 | _,[] => true
 | p,e :: r => e.fits n && (match p with | none => true | some q => Edge.lt q e) && chk n (some e) r
def Auto.err (a : Auto) : Int := if 12 < a.states ∨ 100 < a.edges.length then 3 else if 0 ≤ a.start ∧ a.start < a.states then (if chk a.states none a.edges = true then 0 else 1) else 1
end Go.Pv
namespace Go.Pv
def cntE (l nx : List Int) (e : Edge) : List Int := nx.set e.fr.toNat (min (nx.getD e.fr.toNat 0 + l.getD e.to.toNat 0) 1000000000000001)
def cntS (n : Nat) (es : List Edge) (l : List Int) : List Int := es.foldl (cntE l) (List.replicate n 0)
def cntN (n : Nat) (es : List Edge) : Nat → List Int
 | 0 => List.replicate n 1
 | k + 1 => cntS n es (cntN n es k)
theorem getD_some {l : List Int} {i : Nat} (h : i < l.length) : l[i]? = some (l.getD i 0) := by simp [h]
def Auto.count (a : Auto) (n : Int) : Int × Int :=
 if a.err ≠ 0 then (0,a.err) else if n < 0 ∨ 1000 < n then (0,7) else
  let v := (cntN a.states.toNat a.edges n.toNat).getD a.start.toNat 0
  if 1000000000000000 < v then (0,3) else (v,0)
end Go.Pv
namespace Go.Pv
def I64 (x : Int) : Prop := -9223372036854775808 ≤ x ∧ x ≤ 9223372036854775807
def lenOk {α : Type} (l : List α) : Prop := l.length ≤ 9223372036854775807
def strOk (s : ByteArray) : Prop := s.size ≤ 9223372036854775807
structure Raw where
 id : Int
 data : ByteArray
def Raw.c (r : Raw) : List PV := [.int .i64 r.id,.str r.data]
def Raw.ok (r : Raw) : Prop := I64 r.id ∧ strOk r.data
structure Val where
 kind : Int
 bool : Bool
 int : Int
 str : ByteArray
 id : Int
 keys : List (List PV)
 items : List (List PV)
 rest : List Raw
def Val.c (v : Val) : List PV := [.int .i64 v.kind,.bool v.bool,.int .i64 v.int,.str v.str,.int .i64 v.id,.lst 0 v.keys,.lst 0 v.items,.lst 0 (v.rest.map Raw.c)]
def VOk : Nat → List PV → Prop
 | 0,_ => False
 | n + 1,cs => ∃ v : Val,cs = v.c ∧ (I64 v.kind ∧ I64 v.int ∧ strOk v.str ∧ I64 v.id) ∧ (lenOk v.keys ∧ lenOk v.items ∧ lenOk v.rest) ∧ (∀ r ∈ v.keys,VOk n r) ∧ (∀ r ∈ v.items,VOk n r) ∧ ∀ r ∈ v.rest,r.ok
structure Sym where
 id : Int
 name : ByteArray
def Sym.c (s : Sym) : List PV := [.int .i64 s.id,.str s.name]
def Sym.ok (s : Sym) : Prop := I64 s.id ∧ strOk s.name
structure Mem where
 id : Int
 name : ByteArray
 type : Int
 crit : Bool
 has : Bool
 dflt : Val
def Mem.c (m : Mem) : List PV := [.int .i64 m.id,.str m.name,.int .i64 m.type,.bool m.crit,.bool m.has,.int .i64 m.dflt.kind,.bool m.dflt.bool,.int .i64 m.dflt.int,.str m.dflt.str,.int .i64 m.dflt.id,.lst 0 m.dflt.keys,.lst 0 m.dflt.items,.lst 0 (m.dflt.rest.map Raw.c)]
def Mem.ok (m : Mem) : Prop := I64 m.id ∧ strOk m.name ∧ I64 m.type ∧ ∃ n,VOk n m.dflt.c
structure Typ where
 kind : Int
 name : ByteArray
 low : Int
 high : Int
 max : Int
 syms : List Sym
 mems : List Mem
 key : Int
 elem : Int
 opn : Bool
def Typ.c (t : Typ) : List PV := [.int .i64 t.kind,.str t.name,.int .i64 t.low,.int .i64 t.high,.int .i64 t.max,.lst 0 (t.syms.map Sym.c),.lst 0 (t.mems.map Mem.c),.int .i64 t.key,.int .i64 t.elem,.bool t.opn]
def Typ.ok (t : Typ) : Prop := (I64 t.kind ∧ strOk t.name ∧ I64 t.low ∧ I64 t.high ∧ I64 t.max ∧ I64 t.key ∧ I64 t.elem) ∧ (lenOk t.syms ∧ lenOk t.mems) ∧ (∀ s ∈ t.syms,s.ok) ∧ ∀ m ∈ t.mems,m.ok
end Go.Pv
namespace Go.Pv
structure Cal where
 name : ByteArray
 req : Int
 rep : Int
 deriving DecidableEq,Inhabited
structure Tpc where
 name : ByteArray
 ty : Int
 deriving DecidableEq,Inhabited
structure Msg where
 id : Int
 name : ByteArray
 ty : Int
 deriving DecidableEq,Inhabited
structure Ses where
 name : ByteArray
 msgs : List Msg
 auto : Auto
structure Ver where
 name : ByteArray
 types : List Typ
 calls : List Cal
 sess : List Ses
 tops : List Tpc
def Cal.c (x : Cal) : List PV := [.str x.name,.int .i64 x.req,.int .i64 x.rep]
def Tpc.c (x : Tpc) : List PV := [.str x.name,.int .i64 x.ty]
def Msg.c (x : Msg) : List PV := [.int .i64 x.id,.str x.name,.int .i64 x.ty]
def Ses.c (x : Ses) : List PV := [.str x.name,.lst 0 (x.msgs.map Msg.c),.int .i64 x.auto.states,.int .i64 x.auto.start,.lst 0 (x.auto.edges.map Edge.c)]
@[go_sem] theorem Cal.c_eq (x : Cal) : x.c = [.str x.name,.int .i64 x.req,.int .i64 x.rep] := rfl
@[go_sem] theorem Tpc.c_eq (x : Tpc) : x.c = [.str x.name,.int .i64 x.ty] := rfl
@[go_sem] theorem Msg.c_eq (x : Msg) : x.c = [.int .i64 x.id,.str x.name,.int .i64 x.ty] := rfl
@[go_sem] theorem Ses.c_eq (x : Ses) : x.c = [.str x.name,.lst 0 (x.msgs.map Msg.c),.int .i64 x.auto.states,.int .i64 x.auto.start,.lst 0 (x.auto.edges.map Edge.c)] := rfl
def cals (l : List Cal) : List (List PV) := l.map Cal.c
def tpcs (l : List Tpc) : List (List PV) := l.map Tpc.c
def msgs (l : List Msg) : List (List PV) := l.map Msg.c
def sess (l : List Ses) : List (List PV) := l.map Ses.c
@[go_sem] theorem cals_len (l : List Cal) : (cals l).length = l.length := List.length_map _
@[go_sem] theorem tpcs_len (l : List Tpc) : (tpcs l).length = l.length := List.length_map _
@[go_sem] theorem msgs_len (l : List Msg) : (msgs l).length = l.length := List.length_map _
@[go_sem] theorem sess_len (l : List Ses) : (sess l).length = l.length := List.length_map _
@[go_sem] theorem cals_get (l : List Cal) (k : Nat) : (cals l)[k]? = l[k]?.map Cal.c := List.getElem?_map
@[go_sem] theorem tpcs_get (l : List Tpc) (k : Nat) : (tpcs l)[k]? = l[k]?.map Tpc.c := List.getElem?_map
@[go_sem] theorem msgs_get (l : List Msg) (k : Nat) : (msgs l)[k]? = l[k]?.map Msg.c := List.getElem?_map
@[go_sem] theorem sess_get (l : List Ses) (k : Nat) : (sess l)[k]? = l[k]?.map Ses.c := List.getElem?_map
def idxF {α : Type} (p : α → Bool) (l : List α) : Int := match l.findIdx? p with | some j => (j : Int) | none => -1
def pickF {α : Type} (p : α → Bool) (l : List α) : Option α := (l.findIdx? p).bind fun j => l[j]?
theorem fi_some {α : Type} {p : α → Bool} {l : List α} {k : Nat} {w : α} (hw : l[k]? = some w) (hp : p w = true) (hn : ∀ i v,i < k → l[i]? = some v → p v = false) : l.findIdx? p = some k := by
 have hk := (List.getElem?_eq_some_iff.1 hw).1
 rw [List.findIdx?_eq_some_iff_getElem]
 refine ⟨hk,by rw [(List.getElem?_eq_some_iff.1 hw).2]; exact hp,fun j hj => ?_⟩
 rw [hn j _ hj (List.getElem?_eq_getElem (by omega))]
 decide
theorem fi_none {α : Type} {p : α → Bool} {l : List α} (hn : ∀ (i : Nat) (v : α),l[i]? = some v → p v = false) : l.findIdx? p = none := by
 rw [List.findIdx?_eq_none_iff]
 intro w hw
 obtain ⟨i,hi⟩ := List.getElem?_of_mem hw
 exact hn i w hi
theorem pre_step {α : Type} {l : List α} {k : Nat} {x : α} (hx : l[k]? = some x) {Q : Nat → α → Prop} (h : ∀ i y,i < k → l[i]? = some y → Q i y) (hq : Q k x) : ∀ i y,i < k + 1 → l[i]? = some y → Q i y := fun i y hi hy => by
 rcases Nat.lt_or_ge i k with hh | hh
 ·exact h i y hh hy
 ·have : i = k := by omega
  subst this
  rw [hx] at hy
  cases hy
  exact hq
theorem pre_whole {α : Type} {l : List α} {k : Nat} (hk : l.length ≤ k) {Q : Nat → α → Prop} (h : ∀ i y,i < k → l[i]? = some y → Q i y) : ∀ i y,l[i]? = some y → Q i y := fun i y hy => h i y (by have := (List.getElem?_eq_some_iff.1 hy).1; omega) hy
theorem get_some {α : Type} {l : List α} {k : Nat} (h : k < l.length) : ∃ x,l[k]? = some x := ⟨l[k],List.getElem?_eq_getElem h⟩
end Go.Pv
namespace Go.Pv
variable {P : Program}
theorem typed_int {n : Nat} {t : TypeId} {k : IntKind} {cs : List PV} (hu : P.underlying t = some (.int k)) (h : typed P (n + 1) t cs) : ∃ x,cs = [.int k x] ∧ k.min ≤ x ∧ x ≤ k.max := by
 simpa only [typed,hu] using h
theorem typed_bool {n : Nat} {t : TypeId} {cs : List PV} (hu : P.underlying t = some .bool) (h : typed P (n + 1) t cs) : ∃ b,cs = [.bool b] := by
 simpa only [typed,hu] using h
theorem typed_slice {n : Nat} {t el : TypeId} {cs : List PV} (hu : P.underlying t = some (.slice el)) (h : typed P (n + 1) t cs) : ∃ rows,cs = [.lst 0 rows] ∧ rows.length ≤ maxLen ∧ ∀ r ∈ rows,typed P n el r := by
 simpa only [typed,hu] using h
def typesOk (P : Program) (n : Nat) : List TypeId → List PV → Prop
 | [],cs => cs = []
 | t :: ts,cs => ∃ r q,cs = r ++ q ∧ typed P n t r ∧ typesOk P n ts q
theorem typed_struct {n : Nat} {t : TypeId} {fs : Array Field} {ts : List TypeId} {cs : List PV} (hu : P.underlying t = some (.struct fs)) (hts : fs.toList.map (·.type) = ts) (h : typed P (n + 1) t cs) : typesOk P n ts cs := by
 simp only [typed,hu] at h
 obtain ⟨parts,h1,rfl,h3⟩ := h
 subst hts
 have key : ∀ (l : List Field) (parts : List (List PV)),parts.length = l.length → (∀ (i : Nat) (f : Field) (r : List PV),l[i]? = some f → parts[i]? = some r → typed P n f.type r) → typesOk P n (l.map (·.type)) parts.flatten := by
  intro l
  induction l with
  | nil => intro parts hl _; simp [List.eq_nil_of_length_eq_zero hl,typesOk]
  | cons f l ih =>
   intro parts hl hp
   match parts,hl with
   | r :: parts,hl => exact ⟨r,parts.flatten,rfl,hp 0 f r rfl rfl,ih parts (by simpa using hl) (fun i g q hg hq => hp (i + 1) g q (by simpa using hg) (by simpa using hq))⟩
 exact key fs.toList parts (by simpa using h1) (fun i f r hf hr => h3 i f r (by simpa using hf) hr)
theorem rows_map {α : Type} {c : α → List PV} : ∀ {rows : List (List PV)},(∀ r ∈ rows,∃ x,r = c x) → ∃ l : List α,rows = l.map c
 | [],_ => ⟨[],rfl⟩
 | r :: rows,h => by
  obtain ⟨x,rfl⟩ := h r (by simp)
  obtain ⟨l,rfl⟩ := rows_map (rows := rows) (fun q hq => h q (by simp [hq]))
  exact ⟨x :: l,rfl⟩
def Edge.r64 (e : Edge) : Prop := (-9223372036854775808 ≤ e.fr ∧ e.fr ≤ 9223372036854775807) ∧ (-9223372036854775808 ≤ e.label ∧ e.label ≤ 9223372036854775807) ∧ (-9223372036854775808 ≤ e.to ∧ e.to ≤ 9223372036854775807)
def Auto.r64 (a : Auto) : Prop := (-9223372036854775808 ≤ a.states ∧ a.states ≤ 9223372036854775807) ∧ (-9223372036854775808 ≤ a.start ∧ a.start ≤ 9223372036854775807) ∧ a.edges.length ≤ 2 ^ 63 - 1 ∧ ∀ e ∈ a.edges,e.r64
theorem isAgg_struct {t : TypeId} {fs : Array Field} (hu : P.underlying t = some (.struct fs)) : isAggT P t = some true := by simp [isAggT,hu]
end Go.Pv
