/-
 The interpreter over plain values,and that it is sound.
-/
import Derived.Test.YtppmbamefnacaaaGreatDoorA3
import Derived.Shelf.GgSortFunc.InsertionK
import Derived.Shelf.SlSortCmp.InsertionK
import Derived.Shelf.SlicesE.Clone
import Derived.Shelf.Sort.Plain
import Derived.Shelf.Slices.In.SortNone
import Derived.KernelRfl
import Derived.Lib.ItoaMem
import Derived.Lib.ItoaLen
import Derived.Shelf.Strconv.Itoa3
import Derived.Lib.LaidTab
import Derived.Deep.DeepHandedRow
namespace Go.Pv
open Go.Sort
def ins {α : Type} (lt : α → α → Bool) (x : α) : List α → List α
 | [] => [x]
 | y :: r => if lt y x then y :: ins lt x r else x :: y :: r
def isort {α : Type} (lt : α → α → Bool) : List α → List α
 | [] => []
 | x :: r => ins lt x (isort lt r)
def rising {α : Type} (lt : α → α → Bool) : List α → Bool
 | [] => true
 | [_] => true
 | x :: y :: r => lt x y && rising lt (y :: r)
theorem ins_perm {α : Type} (lt : α → α → Bool) (x : α) : ∀ l,(ins lt x l).Perm (x :: l)
 | [] => List.Perm.refl _
 | y :: r => by
  unfold ins
  split
  ·exact ((ins_perm lt x r).cons y).trans (List.Perm.swap x y r)
  ·exact List.Perm.refl _
theorem isort_perm {α : Type} (lt : α → α → Bool) : ∀ l,(isort lt l).Perm l
 | [] => List.Perm.refl _
 | x :: r => (ins_perm lt x _).trans ((isort_perm lt r).cons x)
theorem rising_all {α : Type} {lt : α → α → Bool} (ht : ∀ x y z,lt x y = true → lt y z = true → lt x z = true) : ∀ l,rising lt l = true → l.Pairwise (fun a b => lt a b = true)
 | [],_ => List.Pairwise.nil
 | [x],_ => List.pairwise_singleton _ _
 | x :: y :: r,h => by
  simp only [rising,Bool.and_eq_true] at h
  have h2 := rising_all ht (y :: r) h.2
  refine List.Pairwise.cons (fun z hz => ?_) h2
  rcases List.mem_cons.1 hz with rfl | hz
  ·exact h.1
  ·exact ht _ _ _ h.1 ((List.pairwise_cons.1 h2).1 z hz)
theorem sorted_uniq {α : Type} {lt : α → α → Bool} : ∀ (m d : List α),m.Pairwise (fun a b => lt a b = true) → d.Pairwise (fun a b => lt b a = false) → d.Perm m → d = m
 | [],d,_,_,hp => List.Perm.eq_nil hp
 | x :: m,[],_,_,hp => by simp at hp
 | x :: m,y :: d,hm,hd,hp => by
  have hxy : y = x := by
   have hy : y ∈ x :: m := hp.subset (List.mem_cons_self ..)
   have hx : x ∈ y :: d := hp.symm.subset (List.mem_cons_self ..)
   rcases List.mem_cons.1 hy with h | h
   ·exact h
   ·rcases List.mem_cons.1 hx with h' | h'
    ·exact h'.symm
    ·have h1 := (List.pairwise_cons.1 hm).1 y h
     have h2 := (List.pairwise_cons.1 hd).1 x h'
     rw [h1] at h2
     cases h2
  subst hxy
  rw [sorted_uniq m d (List.pairwise_cons.1 hm).2 (List.pairwise_cons.1 hd).2 (List.Perm.cons_inv hp)]
variable {P : Program} {N : Nat → Nat} {W : Nat → Prop} {L : Lx} {e : Emb} {h : Heap} {w : World} {α : Type} [Inhabited α]
def sortRows (enc : α → List PV) (dec : List PV → Option α) (lt : α → α → Bool) (rows : List (List PV)) : Option (List (List PV)) :=
 match mapO dec rows with
 | some l => if rising lt (isort lt l) = true then some ((isort lt l).map enc) else none
 | none => none
def sortP (k : Nat) (f : List (List PV) → Option (List (List PV))) (g : Nat) : List V → Heap → Option (V × Tn)
 | [x,.func g' []],h => if g' = g then (match x with
  | .tl [] => some (.tup [],{})
  | .own id ver off len => match ownArr h id ver with
   | some a => if len = 0 then some (.tup [],{ ra := some id }) else (match a.body with
    | .inl rows => if a.k = k ∧ off + len ≤ rows.length ∧ len ≤ mostRows then (match f ((rows.drop off).take len) with
     | some news => some (.tup [],{ ar := some (id,⟨ver,k,.inl (rows.take off ++ news ++ rows.drop (off + len))⟩) })
     | none => none) else none
    | .inr _ => none)
   | none => none
  | _ => none) else none
 | _,_ => none
theorem mapO_some {β γ : Type} {f : β → Option γ} : ∀ {l : List β} {r : List γ},mapO f l = some r → r.length = l.length ∧ ∀ (i : Nat) (x : β) (y : γ),l[i]? = some x → r[i]? = some y → f x = some y
 | [],r,h => by cases h; exact ⟨rfl,fun i x y hx => by simp at hx⟩
 | b :: l,r,h => by
  simp only [mapO] at h
  split at h
  ·rename_i y l' h1 h2
   cases h
   obtain ⟨k1,k2⟩ := mapO_some h2
   refine ⟨by simp [k1],fun i x z hx hz => ?_⟩
   cases i with
   | zero => simp at hx hz; subst hx; subst hz; exact h1
   | succ i => exact k2 i x z (by simpa using hx) (by simpa using hz)
  ·cases h
def venc (enc : α → List PV) (x : α) : List Value := (enc x).map sv
theorem flat_enc {enc : α → List PV} {k : Nat} (hk : ∀ x,(enc x).length = k) (l : List α) (i j : Nat) (c : PV) (hc : at2 (l.map enc) i j = some c) : (flatK (venc enc) k l.toArray)[i * k + j]! = sv c := by
 unfold at2 at hc
 rw [List.getElem?_map] at hc
 cases hx : l[i]? with
 | none => simp [hx] at hc
 | some x =>
  simp only [hx,Option.map_some,Option.bind_some] at hc
  have hi := (List.getElem?_eq_some_iff.1 hx).1
  have hj : j < k := by rw [← hk x]; exact (List.getElem?_eq_some_iff.1 hc).1
  have hlt : i * k + j < l.toArray.size * k := flat_lt (by simpa using hi) hj
  rw [get_flatK _ _ _ _ hlt]
  have h1 : (i * k + j) / k = i := by
   rw [Nat.mul_comm,Nat.mul_add_div (by omega),Nat.div_eq_of_lt hj,Nat.add_zero]
  have h2 : (i * k + j) % k = j := by
   rw [Nat.mul_comm,Nat.mul_add_mod,Nat.mod_eq_of_lt hj]
  rw [h1,h2]
  have h3 : l.toArray[i]! = x := by
   rw [getElem!_pos _ i (by simpa using hi)]
   have := (List.getElem?_eq_some_iff.1 hx).2
   simpa using this
  rw [h3]
  have h4 : (venc enc x)[j]? = some (sv c) := by simp [venc,hc]
  rw [List.getElem!_eq_getElem?_getD,h4]
  rfl
theorem apply_arr0 (i : Nat) (a : Arr) (h : Heap) : Tn.apply { ar := some (i,a) } h = { h with ar := h.ar.set i a } := by
 cases h
 simp [Tn.apply]
theorem sortP_ok {k : Nat} (hk0 : k ≠ 0) {enc : α → List PV} {dec : List PV → Option α} (hde : ∀ r x,dec r = some x → enc x = r) (hk : ∀ x,(enc x).length = k) (hsc : ∀ x,∀ c ∈ enc x,scal c = true)
  {lt : α → α → Bool} (hO : SWO lt) {fn g : Nat}
  (hent : ∀ args w,(callFunc (N fn) args).run P w = .ok (.enter (N fn) args) w)
  (hnone : ∀ (a : Option Addr) (cap : Nat) (w : World),Calls P (N fn) #[.slice a 0 cap,.func (.func (N g)) #[] #[]] w fun e w' => e = .returned (.tuple #[]) ∧ w' = w)
  (hcon : ∀ (blk off cap : Nat) (d : Array α) (w : World),HoldsK (venc enc) k w blk off d → blk < w.heap.size → d.size < 4611686018427387904 → TabH N L w → (∀ t,¬ L t blk) →
   Calls P (N fn) #[.slice (some ⟨blk,off,none⟩) d.size cap,.func (.func (N g)) #[] #[]] w fun e w' => e = .returned (.tuple #[]) ∧ ∃ d' n os,PermIn 0 d.size d d' ∧ SortedIn lt 0 d.size d' ∧ w' = Go.Proofs.sortWorldK (venc enc) k w blk off n d' os)
  {vs : List V} {args : Array Value} {v : V} {tn : Tn} (hp : sortP k (sortRows enc dec lt) g vs h = some (v,tn)) (hr : HR N L e W h w)
  (hs : args.size = vs.length) (hv : ∀ (j : Nat) (x : V),vs[j]? = some x → VR N L e w x (args.getD j undef)) :
  CallGood P (N fn) args w fun v' w' => ∃ L' e',Nx N W L e w L' e' (tn.apply h) w' ∧ VR N L' e' w' v v' := by
 have key : ∀ (x : V) (g' : Nat),vs = [x,.func g' []] → g' = g → ∃ v0,args = #[v0,.func (.func (N g)) #[] #[]] ∧ VR N L e w x v0 := by
  rintro x g' rfl rfl
  have h0 := hv 0 x rfl
  have h1 := hv 1 (.func g' []) rfl
  have hsz : args.size = 2 := hs
  obtain ⟨l⟩ := args
  match l,hsz with
  | [v0,v1],_ =>
   refine ⟨v0,?_,h0⟩
   have h1' : VR N L e w (.func g' []) v1 := h1
   cases h1' with
   | func _ _ arr ha _ =>
    have : arr = #[] := Array.eq_empty_of_size_eq_zero ha
    subst this
    rfl
 have fin0 : ∀ (a : Option Addr) (cap : Nat),args = #[.slice a 0 cap,.func (.func (N g)) #[] #[]] → tn.apply h = h → v = .tup [] → CallGood P (N fn) args w fun v' w' => ∃ L' e',Nx N W L e w L' e' (tn.apply h) w' ∧ VR N L' e' w' v v' := by
  rintro a cap rfl ht rfl
  refine .inr ⟨hent _ _,(hnone a cap w).mono ?_⟩
  rintro en w' ⟨rfl,rfl⟩
  exact ⟨L,e,by rw [ht]; exact Nx.refl hr,.tup [] #[] rfl (fun j c hj => by simp at hj)⟩
 unfold sortP at hp
 split at hp <;> first | (cases hp; done) | skip
 rename_i _ x g'
 split at hp <;> first | (cases hp; done) | skip
 rename_i hg
 obtain ⟨v0,hargs,hv0⟩ := key x g' rfl hg
 split at hp <;> first | (cases hp; done) | skip
 ·injection hp with hp
  injection hp with e1 e2
  subst e1
  subst e2
  cases hv0 with
  | tl rows a hh => exact fin0 a 0 hargs (by cases h; simp [Tn.apply]) rfl
 ·rename_i id0 ver off len
  split at hp <;> first | (cases hp; done) | skip
  rename_i a ha
  obtain ⟨ha1,ha2⟩ := ownArr_spec ha
  split at hp
  ·rename_i hl
   subst hl
   injection hp with hp
   injection hp with e1 e2
   subst e1
   subst e2
   cases hv0 with
   | own _ _ _ _ a' cap _ _ _ _ => exact fin0 a' cap hargs (by cases h; simp [Tn.apply]) rfl
  ·rename_i hl
   split at hp <;> first | (cases hp; done) | skip
   rename_i rows hb
   split at hp <;> first | (cases hp; done) | skip
   rename_i hc
   obtain ⟨hak,hol,hm⟩ := hc
   split at hp <;> first | (cases hp; done) | skip
   rename_i news hnews
   injection hp with hp
   injection hp with e1 e2
   subst e1
   subst e2
   unfold sortRows at hnews
   split at hnews <;> first | (cases hnews; done) | skip
   rename_i l hl2
   split at hnews <;> first | (cases hnews; done) | skip
   rename_i hris
   injection hnews with hnews
   subst hnews
   obtain ⟨m1,m2⟩ := mapO_some hl2
   have hcut : ((rows.drop off).take len).length = len := by simp only [List.length_take,List.length_drop]; omega
   have hrl : (rows.drop off).take len = l.map enc := by
    apply List.ext_getElem?
    intro i
    rw [List.getElem?_map]
    rcases Nat.lt_or_ge i len with hi | hi
    ·have h1 : ((rows.drop off).take len)[i]? = some (((rows.drop off).take len)[i]'(by omega)) := List.getElem?_eq_getElem (by omega)
     have h2 : l[i]? = some (l[i]'(by omega)) := List.getElem?_eq_getElem (by omega)
     rw [h2,h1]
     exact congrArg some (hde _ _ (m2 i _ _ h1 h2)).symm
    ·rw [List.getElem?_eq_none (by omega),List.getElem?_eq_none (by omega)]
     rfl
   have hll : l.length = len := by omega
   have hk' : a.k ≠ 0 := by rw [hak]; exact hk0
   obtain ⟨v1,v2,v3,_⟩ := hr.ver id0 a ha1
   have hid : id0 < e.na := by rw [hr.na]; exact (List.getElem?_eq_some_iff.1 ha1).1
   cases hv0 with
   | own _ _ _ _ a' cap g0 g1 g2 g3 =>
    obtain ⟨k1,k2,k3,k4⟩ := g3 (by rw [v1,ha2])
    have ha' := k4 (by omega)
    subst ha'
    have hH : Holds id w (e.ar id0) (e.ad id0 + off * a.k) (flatK (venc enc) k l.toArray) := by
     refine holds_row hr ha1 hb hk' hol ?_ _ (by simp [hll,hak]) ?_
     ·intro r hr' c hc
      rw [hrl] at hr'
      obtain ⟨y,_,rfl⟩ := List.mem_map.1 hr'
      exact hsc y c hc
     ·intro i j c hc
      rw [hrl] at hc
      rw [hak]
      exact flat_enc hk l i j c hc
    have hblk := hr.lt_ar hid (by rw [v2]; exact hk')
    rw [hargs]
    refine .inr ⟨hent _ _,?_⟩
    have hcall := hcon (e.ar id0) (e.ad id0 + off * e.ak id0) cap l.toArray w (by rw [v2]; exact hH) hblk (by simp [hll]; unfold mostRows at hm; omega) hr.tab (hr.war id0 hid (by rw [v2]; exact hk')).2
    rw [show l.toArray.size = len by simp [hll]] at hcall
    refine hcall.mono ?_
    rintro en w' ⟨rfl,d',n,os,hp1,hp2,rfl⟩
    have hd' : d' = (isort lt l).toArray := by
     obtain ⟨p1,p2,p3⟩ := hp1
     have hsz : d'.size = len := by simpa [hll] using p1
     have hperm : d'.toList.Perm l := by
      have e1 : d'.extract 0 len = d' := by rw [← hsz]; exact Array.extract_size
      have e2 : l.toArray.extract 0 len = l.toArray := by rw [show len = l.toArray.size by simp [hll]]; exact Array.extract_size
      rw [e1,e2] at p3
      simpa using p3
     have hsort : d'.toList.Pairwise (fun a b => lt b a = false) := by
      rw [List.pairwise_iff_getElem]
      intro i j hi hj hij
      have := hp2 i j (Nat.zero_le _) hij (by rw [← hsz]; simpa using hj)
      rw [getElem!_pos d' i (by simpa using hi),getElem!_pos d' j (by simpa using hj)] at this
      simpa using this
     have := sorted_uniq (isort lt l) d'.toList (rising_all hO.trans _ hris) hsort (hperm.trans (isort_perm lt l).symm)
     rw [← this]
    subst hd'
    have hlen2 : (isort lt l).length = len := by rw [(isort_perm lt l).length_eq,hll]
    obtain ⟨e',hnx⟩ := inplace hr ha1 hb hk' hol (news := (isort lt l).map enc) (by simp [hlen2]) (by
     intro r hr'
     obtain ⟨y,_,rfl⟩ := List.mem_map.1 hr'
     exact ⟨by rw [hak]; exact hk y,hsc y⟩) (flatK (venc enc) k (isort lt l).toArray) (by simp [hlen2,hak]) (by
     intro i j c hc
     rw [hak]
     exact flat_enc hk _ i j c hc) n os _ hH (by simp [hll,hlen2])
    refine ⟨L,e',?_,.tup [] #[] rfl (fun j c hj => by simp at hj)⟩
    rw [apply_arr0,← ha2,← hak]
    have : Go.Proofs.sortWorldK (venc enc) a.k w (e.ar id0) (e.ad id0 + off * e.ak id0) n (isort lt l).toArray os = grow (putRow id (Sort.ahead w n) (e.ar id0) (e.ad id0 + off * a.k) (flatK (venc enc) k (isort lt l).toArray)) os := by
     rw [v2,hak]
     rfl
    rw [this]
    exact hnx
end Go.Pv
namespace Go.Pv
open Go.Sort
variable {P : Program} {N : Nat → Nat} {W : Nat → Prop} {L : Lx} {e : Emb} {h : Heap} {w w' : World}
theorem Fr.grown (hf : Fr (Wc w none) w w') : ∃ q os,w' = grow (w.drewN q) os := by
 refine ⟨w'.drawn - w.drawn,w'.heap.extract w.heap.size w'.heap.size,?_⟩
 obtain ⟨h1,h2,h3,h4,h5,h6⟩ := hf
 have hh : w'.heap = w.heap ++ w'.heap.extract w.heap.size w'.heap.size := by
  apply Array.ext_getElem?
  intro i
  rcases Nat.lt_or_ge i w.heap.size with hi | hi
  ·rw [Array.getElem?_append_left hi]
   exact h5 i hi (fun hc => by rcases hc with hc | hc <;> first | omega | cases hc)
  ·rw [Array.getElem?_append_right hi,Array.getElem?_extract]
   rcases Nat.lt_or_ge i w'.heap.size with hi2 | hi2
   ·rw [if_pos (by omega)]
    congr 1
    omega
   ·rw [Array.getElem?_eq_none hi2,if_neg (by omega)]
 obtain ⟨heap,tape,drawn,os,output⟩ := w
 obtain ⟨heap',tape',drawn',os',output'⟩ := w'
 simp only at h1 h2 h3 h4 h5 h6 hh
 subst h1
 subst h2
 subst h3
 show _ = grow (Sort.ahead _ _) _
 simp only [grow,Sort.ahead]
 rw [← hh]
 congr 1
 show drawn' = drawn + (drawn' - drawn)
 omega
theorem scal_one {p : PV} (hp : scal p = true) : p.one = true := by
 cases p <;> simp [scal] at hp <;> rfl
theorem plain_args {ps : List PV} (hp : ∀ c ∈ ps,scal c = true) : PVR N L w (.agg ps) (.agg (ps.map sv).toArray) := by
 refine .agg _ _ (by simp) (fun j c hj => ?_) (fun c hc => scal_one (hp c hc))
 have : (ps.map sv).toArray.getD j undef = sv c := by
  simp [Array.getD_eq_getD_getElem?,hj]
 rw [this]
 exact scal_pvr (hp c (List.mem_of_getElem? hj))
theorem fnr_calls {g : Nat} {ps : List PV} {k : IntKind} {n : Int} (hF : FnR P N g ps [.int k n]) {args : Array Value} (w : World) (ht : TabH N L w)
  (eg : ∀ args w,(callFunc (N g) args).run P w = .ok (.enter (N g) args) w) (hl : args.toList.length = ps.length) (ha : ∀ (j : Nat) (p : PV),ps[j]? = some p → ∃ v,args.toList[j]? = some v ∧ ∀ L',PVR N L' w p v) :
  Calls P (N g) args w fun e w' => e = .returned (.int k n) ∧ ∃ q os',w' = grow (w.drewN q) os' := by
 have hc := hF (fun t b => t = 7777 ∧ L t b ∧ b < w.heap.size) w none args (fun _ _ h => h.2.2) (fun g hg => by
  obtain ⟨h1,ty,z,h2⟩ := ht g hg
  exact ⟨⟨rfl,h1,(Array.getElem?_eq_some_iff.1 h2).1⟩,ty,z,h2⟩) (.plain _ _ hl fun j p hj => by
  obtain ⟨v,h1,h2⟩ := ha j p hj
  exact ⟨v,h1,h2 _⟩)
 rcases hc with ⟨v,w',h1,h2⟩ | ⟨h1,h2⟩
 ·rw [eg] at h1
  cases h1
 ·refine h2.mono fun en w' hh => ?_
  cases en with
  | returned v =>
   obtain ⟨L1,bs,vals,f1,f2,f3,f4,f5,f6,f7,rfl⟩ := hh
   refine ⟨?_,f1.grown⟩
   cases f5 with
   | cons p u b1 ps vs b2 q1 q2 =>
    cases q2
    cases q1 with
    | cell _ _ _ q =>
     cases q with
     | keep _ _ _ q => cases q; rfl
  | panicked => exact hh.elim
  | outgrown => exact hh.elim
theorem fnr_lays {α : Type} [Inhabited α] {g : Nat} {enc : α → List PV} (hsc : ∀ x,∀ c ∈ enc x,scal c = true) {cf : α → α → Int} (hF : ∀ x y,FnR P N g [.agg (enc x),.agg (enc y)] [.int .i64 (cf x y)])
  (eg : ∀ args w,(callFunc (N g) args).run P w = .ok (.enter (N g) args) w) (k blk off size : Nat) (w : World) (ht : TabH N L w) (hb : ∀ t,¬ L t blk) : Go.Proofs.CmpLays P (N g) #[] (venc enc) k cf blk off size w := by
 intro m os dk hs x y
 refine fnr_calls (L := L) (hF x y) _ (fun b hg => ?_) eg rfl fun j p hj => ?_
 ·obtain ⟨h1,ty,z,h2⟩ := ht b hg
  refine ⟨h1,ty,z,?_⟩
  have hlt := (Array.getElem?_eq_some_iff.1 h2).1
  have hne : blk ≠ b := fun he => hb _ (he ▸ h1)
  show (grow (putRow id (Sort.ahead w m) blk off (flatK (venc enc) k dk)) os).heap[b]? = _
  rw [heap_grow_old _ _ (by simp [putRow,mapBlock,Sort.ahead]; exact hlt)]
  simp only [putRow,mapBlock,Sort.ahead,Array.getElem?_modify]
  rw [if_neg hne]
  exact h2
 ·match j,hj with
  | 0,hj =>
   cases hj
   exact ⟨_,rfl,fun _ => plain_args (hsc x)⟩
  | 1,hj =>
   cases hj
   exact ⟨_,rfl,fun _ => plain_args (hsc y)⟩
  | j + 2,hj => simp at hj
end Go.Pv
namespace Go.Proofs
open Go.Shelf Go.RowKit Go.Lib
variable {P : Program} {ρ : Ren}
theorem pv_append_zero {ops : Array Oper} {rest : List Oper} {o : Oper} {a : Act} {w : World} {Q : Exit → Act → World → Prop} (hgd : o.guard = none) (s x : Operand) (t : TypeId)
  (ho : o.op = .call { callee := .builtin .append,args := #[s,x],argTypes := #[t,t] }) (e : TypeId) (i : TypeInfo) (ht : P.underlying t = some (.slice e)) (hi : P.info? e = some i)
  (g : Nat) (hg : w.heap[g]? = some (.cells #[] e (0,0))) (hs : a.eval s = .slice (some ⟨g,0,none⟩) 0 0) (ad : Addr) (c : Nat) (hx : a.eval x = .slice (some ad) 0 c)
  (h : wpList P ops Q rest (a.put o.dst (.slice (some ⟨g,0,none⟩) 0 0)) w) : wpList P ops Q (o :: rest) a w := by
 refine wpList_plain hgd fun K hK => ?_
 have hr := run_append_room (P := P) w t o.type e i ht hi g 0 0 #[] hg ad 0 c [] (by simp) (fun j u hj => by simp at hj) (fun u hu => by simp at hu) (Nat.le_refl _) (by simp)
 have hw : w.setRow g (([] : List Value).take (0 * i.size) ++ [] ++ ([] : List Value).drop (0 * i.size + ([] : List Value).length)).toArray = w := by
  simp only [List.take_nil,List.drop_nil,List.append_nil]
  unfold World.setRow
  have : w.heap.modify g (fun | .cells _ t f => .cells #[] t f | o => o) = w.heap := by
   apply Array.ext_getElem?
   intro k
   rw [Array.getElem?_modify]
   split
   ·rename_i hk
    subst hk
    rw [hg]
    rfl
   ·rfl
  first | rw [this] | (congr 1)
 rw [show (#[] : Array Value).toList = [] from rfl,hw] at hr
 unfold Oper.wp execOp
 simp only [ho,resolve,invoke,builtin,Sem.run_bind,Sem.run_pure,Result.andThen_ok,List.map_toArray,List.map_cons,List.map_nil,hs,hx,hr]
 exact hK _ _ h
set_option maxHeartbeats 1000000 in
theorem pv_clone_empty (L : SlLaysE0.n41 P ρ) (i0 : TypeInfo) (z : Value) (hi : P.info? (ρ.t 23) = some i0) (_hz0 : i0.zero = some z)
  (z23 : ∀ w,(Go.sizeOf (ρ.t 23)).run P w = .ok i0.size w) (ad : Addr) (c : Nat) (w : World) :
  Calls P (ρ.f 41) #[.slice (some ad) 0 c] w fun e w' => ∃ g,e = .returned (.slice (some ⟨g,0,none⟩) 0 0) ∧ w' = w.alloc (.cells #[] (ρ.t 23)) := by
 have mixed := L.mixed; have t4 := L.t4; have a4 := L.a4; have z4 := L.z4; have v4 := L.v4; have t22 := L.t22; have a22 := L.a22; have z22 := L.z22; have v22 := L.v22
 have q22 : ∀ (w : World) (a : Option Addr) (n c n' c' : Nat),(binOp .eql (ρ.t 22) (.slice a n c) (.slice none n' c')).run P w = .ok (.bool a.isNone) w := fun w a n c n' c' => Lib.run_eql_slice_nil w _ _ a n c n' c' L.t22
 have u22 : ∀ w,Sem.run P (underlying (ρ.t 22)) w = .ok (TypeDesc.slice (ρ.t 23)) w := run_underlying t22
 obtain ⟨_,_,FG⟩ := L.f41
 go_enter FG,SlBodyN.n41_ntmps ρ
 go_wp2_with (at_builtin; refine pv_append_zero rfl _ _ (ρ.t 22) rfl (ρ.t 23) i0 t22 hi w.heap.size ?qc1 rfl ad c rfl ?_)
 case qc1 => exact heap_alloc_new w _
 go_wp2
 go_ret
 exact ⟨_,rfl,rfl⟩
theorem pv_append_grow {ops : Array Oper} {rest : List Oper} {o : Oper} {a : Act} {w : World} {Q : Exit → Act → World → Prop} (hgd : o.guard = none) (s x : Operand) (t : TypeId)
  (ho : o.op = .call { callee := .builtin .append,args := #[s,x],argTypes := #[t,t] }) (e : TypeId) (i : TypeInfo) (z : Value) (ht : P.underlying t = some (.slice e)) (hi : P.info? e = some i) (hz : i.zero = some z) (zc : Array Value) (hzc : z.cells = zc)
  (g : Nat) (hs : a.eval s = .slice (some ⟨g,0,none⟩) 0 0) (ad : Addr) (n c : Nat) (hx : a.eval x = .slice (some ad) n c) (news : List Value) (hl : news.length = n * i.size) (hnews : ∀ j v,news[j]? = some v → w.cell? (ad.add j) = some v)
  (hn : 0 < n) (hm : n ≤ maxLen) (hb : n * i.bytes ≤ 140737488355328)
  (h : wpList P ops Q rest (a.put o.dst (.slice (some ⟨w.heap.size,0,none⟩) n (grownCap w n 0 e))) (w.drew.alloc (.cells (news.toArray ++ Builtin.zeroCells zc (grownCap w n 0 e - n)) e))) : wpList P ops Q (o :: rest) a w := by
 subst hzc
 refine wpList_plain hgd fun K hK => ?_
 have hr := run_append_grow (P := P) w t o.type e i z ht hi hz ⟨g,0,none⟩ 0 0 [] (by simp) (fun j v hj => by simp at hj) ad n c news hl hnews (by omega) (by unfold maxLen at hm; omega) (by rw [Nat.zero_add,nextslicecap_zero hn]; omega)
 simp only [Nat.zero_add,Array.empty_append] at hr
 unfold Oper.wp execOp
 simp only [ho,resolve,invoke,builtin,Sem.run_bind,Sem.run_pure,Result.andThen_ok,List.map_toArray,List.map_cons,List.map_nil,hs,hx,hr]
 exact hK _ _ h
def cloneWorld (w : World) (e : TypeId) (zc : Array Value) (n : Nat) (news : List Value) : World :=
 (w.alloc (.cells #[] e)).drew.alloc (.cells (news.toArray ++ Builtin.zeroCells zc (grownCap (w.alloc (.cells #[] e)) n 0 e - n)) e)
set_option maxHeartbeats 1000000 in
theorem pv_clone_some (L : SlLaysE0.n41 P ρ) (i0 : TypeInfo) (z : Value) (hi : P.info? (ρ.t 23) = some i0) (hz0 : i0.zero = some z) (zc : Array Value) (hzc : z.cells = zc)
  (z23 : ∀ w,(Go.sizeOf (ρ.t 23)).run P w = .ok i0.size w) (ad : Addr) (n c : Nat) (news : List Value) (w : World) (hl : news.length = n * i0.size) (hn0 : 0 < n) (hn : n ≤ maxLen) (hbig : n * i0.bytes ≤ 140737488355328)
  (hc : ∀ j u,news[j]? = some u → w.cell? (ad.add j) = some u) :
  Calls P (ρ.f 41) #[.slice (some ad) n c] w fun e w' => e = .returned (.slice (some ⟨w.heap.size + 1,0,none⟩) n (grownCap (w.alloc (.cells #[] (ρ.t 23))) n 0 (ρ.t 23))) ∧ w' = cloneWorld w (ρ.t 23) zc n news := by
 have mixed := L.mixed; have t4 := L.t4; have a4 := L.a4; have z4 := L.z4; have v4 := L.v4; have t22 := L.t22; have a22 := L.a22; have z22 := L.z22; have v22 := L.v22
 have q22 : ∀ (w : World) (a : Option Addr) (n c n' c' : Nat),(binOp .eql (ρ.t 22) (.slice a n c) (.slice none n' c')).run P w = .ok (.bool a.isNone) w := fun w a n c n' c' => Lib.run_eql_slice_nil w _ _ a n c n' c' L.t22
 have u22 : ∀ w,Sem.run P (underlying (ρ.t 22)) w = .ok (TypeDesc.slice (ρ.t 23)) w := run_underlying t22
 have A : Aside (∀ j u,news[j]? = some u → w.cell? (ad.add j) = some u) := hc
 clear hc
 unfold cloneWorld
 obtain ⟨_,_,FG⟩ := L.f41
 go_enter FG,SlBodyN.n41_ntmps ρ
 go_wp2_with (at_builtin; refine pv_append_grow rfl _ _ (ρ.t 22) rfl (ρ.t 23) i0 z t22 hi hz0 zc hzc w.heap.size rfl ad n c rfl news ?qc1 ?qc2 ?qc3 ?qc4 ?qc5 ?_)
 case qc1 => exact hl
 case qc2 =>
  intro j u hj
  exact Lib.cell?_alloc_some _ (A.out j u hj)
 case qc3 => exact hn0
 case qc4 => exact hn
 case qc5 => exact hbig
 go_wp2
 go_ret
 exact ⟨by simp,rfl⟩
end Go.Proofs
namespace Go.Pv
open Go.Shelf
variable {P : Program} {N : Nat → Nat} {W : Nat → Prop} {L : Lx} {e : Emb} {h : Heap} {w : World}
def cloneP (k : Nat) : List V → Heap → Option (V × Tn)
 | [x],h => match srcRows h x with
  | some (.inl rows,rd) => if rowsFit k (.inl rows) = true ∧ rows.length ≤ mostRows then
    (if rows.length = 0 then some (.tl [],{ ra := rd }) else some (.own h.ar.length 0 0 rows.length,{ push := [⟨0,k,.inl rows⟩],ra := rd,base := h.ar.length })) else none
  | _ => none
 | _,_ => none
theorem PVR.nil (a : Option Addr) : PVR N L w (.lst 0 []) (.slice a 0 0) :=
 .lst 0 [] a ⟨0,0,none⟩ 0 0 (fun _ _ => undef) (fun r hr => by simp at hr) (Nat.le_refl _) (fun h => by simp at h) (fun i j c hc => by simp [at2] at hc) (fun i j c hc => by simp [at2] at hc) (fun _ i j c hc => by simp [at2] at hc) (fun i j c hc => by simp [at2] at hc)
theorem cloneP_ok {ρ : Ren} (LL : Go.Proofs.SlLaysE0.n41 P ρ) {fn : Nat} (hfn : N fn = ρ.f 41) {k : Nat} (hk : k ≠ 0) (i0 : TypeInfo) (z : Value) (hi : P.info? (ρ.t 23) = some i0) (hz0 : i0.zero = some z) (hzs : z.cells.size = k) (his : i0.size = k) (hby : i0.bytes ≤ 32768)
  (z23k : ∀ w,(Go.sizeOf (ρ.t 23)).run P w = .ok k w) (hent : ∀ args w,(callFunc (N fn) args).run P w = .ok (.enter (N fn) args) w)
  {vs : List V} {args : Array Value} {v : V} {tn : Tn} (hp : cloneP k vs h = some (v,tn)) (hr : HR N L e W h w)
  (hs : args.size = vs.length) (hv : ∀ (j : Nat) (x : V),vs[j]? = some x → VR N L e w x (args.getD j undef)) :
  CallGood P (N fn) args w fun v' w' => ∃ L' e',Nx N W L e w L' e' (tn.apply h) w' ∧ VR N L' e' w' v v' := by
 have z23 : ∀ w,(Go.sizeOf (ρ.t 23)).run P w = .ok i0.size w := fun w => by rw [his]; exact z23k w
 unfold cloneP at hp
 split at hp <;> first | (cases hp; done) | skip
 rename_i x
 split at hp <;> first | (cases hp; done) | skip
 rename_i rows rd hsrc
 split at hp <;> first | (cases hp; done) | skip
 rename_i hc
 obtain ⟨hfit,hmost⟩ := hc
 have hargs : ∃ v0,args = #[v0] ∧ VR N L e w x v0 := by
  have h0 := hv 0 x rfl
  have hsz : args.size = 1 := hs
  obtain ⟨l⟩ := args
  match l,hsz with
  | [v0],_ => exact ⟨v0,rfl,h0⟩
 obtain ⟨v0,rfl,hv0⟩ := hargs
 obtain ⟨B,c,ad,vals,rfl,s1,s2,s3,s4,s5⟩ := src_rows hr hv0 hsrc hfit hk
 have hlen : rowsLen (.inl rows : Sum (List (List PV)) (List (List V))) = rows.length := rfl
 rw [hlen] at s1 ⊢
 split at hp
 ·rename_i h0
  injection hp with hp
  injection hp with e1 e2
  subst e1
  subst e2
  rw [h0]
  have hap : Tn.apply { ra := rd } h = h := by cases h; simp [Tn.apply]
  rw [hap]
  have h2 : VR N L e w (.tl []) (.slice none 0 0) := .tl [] none (PVR.nil _) Soft.nil
  cases B with
  | none =>
   refine .inr ⟨hent _ _,?_⟩
   rw [hfn]
   refine (Go.Proofs.AnyE.slices_Clone_nil LL 0 c w).mono ?_
   rintro en w' ⟨rfl,rfl⟩
   exact ⟨L,e,Nx.refl hr,h2⟩
  | some a =>
   refine .inr ⟨hent _ _,?_⟩
   rw [hfn]
   refine (Go.Proofs.pv_clone_empty LL i0 z hi hz0 z23 a c w).mono ?_
   rintro en w' ⟨g,rfl,rfl⟩
   exact ⟨L,e,Nx.idle hr _,.tl [] _ (PVR.nil _) Soft.nil⟩
 ·rename_i h0
  injection hp with hp
  injection hp with e1 e2
  subst e1
  subst e2
  have hB := s1 (by omega)
  subst hB
  refine .inr ⟨hent _ _,?_⟩
  rw [hfn]
  have hvl : vals.length = rows.length * k := by rw [s2.1,rowsOf_len]; rfl
  refine (Go.Proofs.pv_clone_some LL i0 z hi hz0 z.cells rfl z23 ad rows.length c vals w (by rw [his]; exact hvl) (by omega) (by unfold maxLen; unfold mostRows at hmost; omega) (by
   have : rows.length * i0.bytes ≤ 2147483648 * 32768 := Nat.mul_le_mul hmost hby
   omega) s3).mono ?_
  rintro en w' ⟨rfl,rfl⟩
  unfold Go.Proofs.cloneWorld
  have n1 := Nx.idle hr (.cells #[] (ρ.t 23))
  have n2 := Nx.drew n1.hr
  have n12 := n1.trans n2
  have hG := grownCap_ge (w.alloc (.cells #[] (ρ.t 23))) rows.length 0 (ρ.t 23)
  generalize grownCap (w.alloc (.cells #[] (ρ.t 23))) rows.length 0 (ρ.t 23) = G at hG ⊢
  have hsz : (vals.toArray ++ Builtin.zeroCells z.cells (G - rows.length)).size = G * k := by
   simp only [Array.size_append,List.size_toArray,size_zeroCells,hzs,hvl,← Nat.add_mul]
   congr 1
   omega
  obtain ⟨n3,v3⟩ := new_arr n2.hr hk (n := rows.length) (c := G) (body := .inl rows) (arr := vals.toArray ++ Builtin.zeroCells z.cells (G - rows.length)) (el := ρ.t 23) (by
   rw [Array.toList_append,List.take_append_of_le_length (by simp [hvl])]
   rw [show (vals.toArray.toList).take (rows.length * k) = vals by simp [← hvl]]
   exact s2.mono n12.ext) rfl hG (by rw [hsz]; exact Nat.le_refl _) s4
  refine ⟨L,_,by rw [Tn.apply_push]; exact n12.trans n3,?_⟩
  have hheap : ((w.alloc (.cells #[] (ρ.t 23))).drew).heap.size = w.heap.size + 1 := by simp [World.drew]
  rw [← hheap]
  exact v3
end Go.Pv
namespace Go.Pv
abbrev Prim := List V → Heap → Option (V × Tn)
structure Prim.Law (pr : Prim) : Prop where
 loc : ∀ vs h1 h2 v t,pr vs h1 = some (v,t) → Agree t h1 h2 → pr vs h2 = some (v,t)
 fit : ∀ vs h v t,pr vs h = some (v,t) → t.fit h
 old : ∀ vs h v t,pr vs h = some (v,t) → t.new = false
def Prim.Ok (P : Program) (N : Nat → Nat) (fn : Nat) (pr : Prim) : Prop :=
 ∀ (L : Lx) (e : Emb) (W : Nat → Prop) (h : Heap) (w : World) (vs : List V) (args : Array Value) (v : V) (tn : Tn),pr vs h = some (v,tn) → HR N L e W h w →
  args.size = vs.length → (∀ (j : Nat) (x : V),vs[j]? = some x → VR N L e w x (args.getD j undef)) →
  CallGood P (N fn) args w fun v' w' => ∃ L' e',Nx N W L e w L' e' (tn.apply h) w' ∧ VR N L' e' w' v v'
theorem look1_mem {α : Type} {n : Nat} {x : α} : ∀ {l : List (Nat × α)},look1 n l = some x → (n,x) ∈ l
 | [],h => by cases h
 | (m,y) :: r,h => by
  simp only [look1] at h
  split at h
  ·rename_i hm
   cases h
   subst hm
   exact List.mem_cons_self ..
  ·exact List.mem_cons_of_mem _ (look1_mem h)
theorem prims_law {l : List (Nat × Prim)} (hl : ∀ x ∈ l,Prim.Law x.2) : PrimLaw (fun n => look1 n l) :=
 ⟨fun _fn _pr hf => (hl _ (look1_mem hf)).loc,fun _fn _pr hf => (hl _ (look1_mem hf)).fit,fun _fn _pr hf => (hl _ (look1_mem hf)).old⟩
theorem prims_ok {P : Program} {N : Nat → Nat} {l : List (Nat × Prim)} (hl : ∀ x ∈ l,Prim.Ok P N x.1 x.2) : PrimOk P N (fun n => look1 n l) :=
 fun _fn _pr hf => hl _ (look1_mem hf)
theorem sortP_law (k : Nat) (f : List (List PV) → Option (List (List PV))) (g : Nat) : Prim.Law (sortP k f g) where
 old := by
  intro vs h v t hh
  unfold sortP at hh
  repeat' split at hh
  all_goals first | (cases hh; done) | (injection hh with hh; injection hh with e1 e2; subst e2; rfl)
 loc := by
  intro vs h1 h2 v t hh ha
  unfold sortP at hh ⊢
  split at hh <;> first | (cases hh; done) | skip
  split at hh <;> first | (cases hh; done) | skip
  rename_i hg
  simp only [hg,if_true]
  split at hh <;> first | (cases hh; done) | skip
  ·exact hh
  ·rename_i id ver off len
   split at hh <;> first | (cases hh; done) | skip
   rename_i a ho
   have : (t.ra = some id ∨ t.ra2 = some id ∨ ∃ a,t.ar = some (id,a)) → ownArr h2 id ver = some a := fun hi => (ha.own hi).trans ho
   split at hh
   ·rename_i h0
    injection hh with hh
    injection hh with e1 e2
    subst e1
    subst e2
    rw [this (.inl rfl)]
    simp only [h0,if_true]
   ·rename_i h0
    split at hh <;> first | (cases hh; done) | skip
    rename_i rows hb
    split at hh <;> first | (cases hh; done) | skip
    rename_i hc
    split at hh <;> first | (cases hh; done) | skip
    rename_i news hn
    injection hh with hh
    injection hh with e1 e2
    subst e1
    subst e2
    rw [this (.inr (.inr ⟨_,rfl⟩))]
    simp only [h0,if_false,hb,hn]
    rw [if_pos hc]
 fit := by
  intro vs h v t hh
  unfold sortP at hh
  split at hh <;> first | (cases hh; done) | skip
  split at hh <;> first | (cases hh; done) | skip
  split at hh <;> first | (cases hh; done) | skip
  ·injection hh with hh
   injection hh with e1 e2
   subst e2
   exact ⟨fun hp => absurd rfl hp,fun i a hia => by cases hia⟩
  ·split at hh <;> first | (cases hh; done) | skip
   rename_i a ho
   split at hh
   ·injection hh with hh
    injection hh with e1 e2
    subst e2
    exact ⟨fun hp => absurd rfl hp,fun i a hia => by cases hia⟩
   ·split at hh <;> first | (cases hh; done) | skip
    split at hh <;> first | (cases hh; done) | skip
    split at hh <;> first | (cases hh; done) | skip
    injection hh with hh
    injection hh with e1 e2
    subst e2
    refine ⟨fun hp => absurd rfl hp,fun i a' hia => ?_⟩
    cases hia
    exact ownArr_lt ho
theorem cloneP_law (k : Nat) : Prim.Law (cloneP k) where
 old := by
  intro vs h v t hh
  unfold cloneP at hh
  repeat' split at hh
  all_goals first | (cases hh; done) | (injection hh with hh; injection hh with e1 e2; subst e2; rfl)
 loc := by
  intro vs h1 h2 v t hh ha
  unfold cloneP at hh ⊢
  split at hh <;> first | (cases hh; done) | skip
  split at hh <;> first | (cases hh; done) | skip
  rename_i rows rd hs
  split at hh <;> first | (cases hh; done) | skip
  rename_i hc
  split at hh
  ·rename_i h0
   injection hh with hh
   injection hh with e1 e2
   subst e1
   subst e2
   rw [srcRows_loc hs (fun i hi => ha.ar i (.inl hi))]
   simp only
   rw [if_pos hc,if_pos h0]
  ·rename_i h0
   injection hh with hh
   injection hh with e1 e2
   subst e1
   subst e2
   rw [srcRows_loc hs (fun i hi => ha.ar i (.inl hi))]
   simp only
   rw [if_pos hc,if_neg h0,ha.len (by simp)]
 fit := by
  intro vs h v t hh
  unfold cloneP at hh
  split at hh <;> first | (cases hh; done) | skip
  split at hh <;> first | (cases hh; done) | skip
  split at hh <;> first | (cases hh; done) | skip
  split at hh
  all_goals
   injection hh with hh
   injection hh with e1 e2
   subst e2
   refine ⟨fun hp => ?_,fun i a hia => by cases hia⟩
   first | rfl | exact absurd rfl hp
end Go.Pv
namespace Go.Pv
open Go.Sort
variable {P : Program} {N : Nat → Nat} {W : Nat → Prop} {L : Lx} {e : Emb} {h : Heap} {w : World}
def ltI (x y : Int) : Bool := decide (x < y)
theorem ins_sorted (x : Int) : ∀ l : List Int,l.Pairwise (· ≤ ·) → (ins ltI x l).Pairwise (· ≤ ·)
 | [],_ => List.pairwise_singleton _ _
 | y :: r,h => by
  obtain ⟨h1,h2⟩ := List.pairwise_cons.1 h
  unfold ins ltI
  by_cases hxy : y < x
  ·simp only [hxy,decide_true,if_true]
   refine List.pairwise_cons.2 ⟨fun z hz => ?_,ins_sorted x r h2⟩
   rcases List.mem_cons.1 ((ins_perm _ x r).subset hz) with rfl | hz
   ·omega
   ·exact h1 z hz
  ·simp only [hxy,decide_false,Bool.false_eq_true,if_false]
   refine List.pairwise_cons.2 ⟨fun z hz => ?_,h⟩
   rcases List.mem_cons.1 hz with rfl | hz
   ·omega
   ·have := h1 z hz; omega
theorem isort_sorted : ∀ l : List Int,(isort ltI l).Pairwise (· ≤ ·)
 | [] => List.Pairwise.nil
 | x :: r => ins_sorted x _ (isort_sorted r)
theorem le_uniq : ∀ (a b : List Int),a.Pairwise (· ≤ ·) → b.Pairwise (· ≤ ·) → a.Perm b → a = b
 | [],b,_,_,hp => (List.Perm.eq_nil hp.symm).symm
 | x :: a,[],_,_,hp => by simp at hp
 | x :: a,y :: b,ha,hb,hp => by
  obtain ⟨a1,a2⟩ := List.pairwise_cons.1 ha
  obtain ⟨b1,b2⟩ := List.pairwise_cons.1 hb
  have hxy : x = y := by
   have hx : x ∈ y :: b := hp.subset (List.mem_cons_self ..)
   have hy : y ∈ x :: a := hp.symm.subset (List.mem_cons_self ..)
   rcases List.mem_cons.1 hx with h | h
   ·exact h
   ·rcases List.mem_cons.1 hy with h' | h'
    ·exact h'.symm
    ·have := a1 y h'; have := b1 x h; omega
  subst hxy
  rw [le_uniq a b a2 b2 (List.Perm.cons_inv hp)]
theorem isort_merge (l : List Int) : l.mergeSort (fun x y => decide (x ≤ y)) = isort ltI l := by
 refine le_uniq _ _ ?_ (isort_sorted l) ((List.mergeSort_perm _ _).trans (isort_perm _ _).symm)
 have := List.pairwise_mergeSort (le := fun x y : Int => decide (x ≤ y)) (fun a b c h1 h2 => by simp at *; omega) (fun a b => by simp; omega) l
 simpa using this
def intDec : List PV → Option Int
 | [.int .i64 x] => some x
 | _ => none
def sortIP : List V → Heap → Option (V × Tn)
 | [x],h => match x with
  | .tl [] => some (.tup [],{})
  | .tl [r] => (match intDec r with
   | some _ => some (.tup [],{})
   | none => none)
  | .own id ver off len => match ownArr h id ver with
   | some a => if len = 0 then some (.tup [],{ ra := some id }) else (match a.body with
    | .inl rows => if a.k = 1 ∧ off + len ≤ rows.length ∧ len ≤ mostRows then (match mapO intDec ((rows.drop off).take len) with
     | some l => some (.tup [],{ ar := some (id,⟨ver,1,.inl (rows.take off ++ (isort ltI l).map (fun x => [.int .i64 x]) ++ rows.drop (off + len))⟩) })
     | none => none) else none
    | .inr _ => none)
   | none => none
  | _ => none
 | _,_ => none
theorem putRow_map (w : World) (blk off : Nat) (d : Array Int) : putRow (Value.int .i64) w blk off d = putRow id w blk off (d.map (Value.int .i64)) := by
 unfold putRow
 congr 1
 funext c
 unfold putCells
 congr 1
 funext k x
 rw [Array.size_map]
 by_cases hk : off ≤ k ∧ k < off + d.size
 ·rw [if_pos hk,if_pos hk]
  have h1 : k - off < d.size := by omega
  rw [getElem!_pos d _ h1,getElem!_pos (d.map _) _ (by rw [Array.size_map]; exact h1)]
  simp
 ·rw [if_neg hk,if_neg hk]
theorem behind (hr : HR N L e W h w) (n : Nat) (os : Array Obj) : Nx N W L e w L e h (grow (Sort.ahead w n) os) := by
 have hold : ∀ g,g < w.heap.size → (grow (Sort.ahead w n) os).heap[g]? = w.heap[g]? := by
  intro g hg
  rw [heap_grow_old _ _ (by simpa [Sort.ahead] using hg)]
  rfl
 have hsz : w.heap.size ≤ (grow (Sort.ahead w n) os).heap.size := by simp [Sort.ahead]
 obtain ⟨q1,q2⟩ := hr.quiet2 (w' := grow (Sort.ahead w n) os) (L' := L) (fun _ => False) (fun b hb => hb.elim) (fun b hb _ => hold b hb) hsz (fun _ _ h => h) (fun _ _ h => .inl h)
 refine ⟨q1,q2,⟨rfl,rfl,rfl,hsz,fun g hg _ => hold g hg,?_⟩,fun _ _ h => .inl h⟩
 show w.drawn ≤ w.drawn + n
 omega
theorem sortIP_ok {ρ : Go.Shelf.Ren} (LL : Go.Proofs.Lays.n189 P ρ) {fn : Nat} (hfn : N fn = ρ.f 189) (hent : ∀ args w,(callFunc (N fn) args).run P w = .ok (.enter (N fn) args) w)
  {vs : List V} {args : Array Value} {v : V} {tn : Tn} (hp : sortIP vs h = some (v,tn)) (hr : HR N L e W h w)
  (hs : args.size = vs.length) (hv : ∀ (j : Nat) (x : V),vs[j]? = some x → VR N L e w x (args.getD j undef)) :
  CallGood P (N fn) args w fun v' w' => ∃ L' e',Nx N W L e w L' e' (tn.apply h) w' ∧ VR N L' e' w' v v' := by
 have key : ∀ x,vs = [x] → ∃ v0,args = #[v0] ∧ VR N L e w x v0 := by
  rintro x rfl
  have h0 := hv 0 x rfl
  have hsz : args.size = 1 := hs
  obtain ⟨l⟩ := args
  match l,hsz with
  | [v0],_ => exact ⟨v0,rfl,h0⟩
 have fin0 : ∀ (a : Option Addr) (cap : Nat),args = #[.slice a 0 cap] → tn.apply h = h → v = .tup [] → CallGood P (N fn) args w fun v' w' => ∃ L' e',Nx N W L e w L' e' (tn.apply h) w' ∧ VR N L' e' w' v v' := by
  rintro a cap rfl ht rfl
  refine .inr ⟨hent _ _,?_⟩
  rw [hfn]
  refine (Go.Proofs.Any.slices_Sort_int_none LL a cap w).mono ?_
  rintro en w' ⟨rfl,rfl⟩
  exact ⟨L,e,by rw [ht]; exact Nx.refl hr,.tup [] #[] rfl (fun j c hj => by simp at hj)⟩
 unfold sortIP at hp
 split at hp <;> first | (cases hp; done) | skip
 rename_i x
 obtain ⟨v0,hargs,hv0⟩ := key x rfl
 split at hp <;> first | (cases hp; done) | skip
 ·injection hp with hp
  injection hp with e1 e2
  subst e1
  subst e2
  cases hv0 with
  | tl rows a hh => exact fin0 a 0 hargs (by cases h; simp [Tn.apply]) rfl
 ·rename_i r
  split at hp <;> first | (cases hp; done) | skip
  rename_i x hx
  injection hp with hp
  injection hp with e1 e2
  subst e1
  subst e2
  have hr1 : r = [.int .i64 x] := by
   unfold intDec at hx
   split at hx
   ·cases hx; rfl
   ·cases hx
  subst hr1
  cases hv0 with
  | tl rows a hh hsoft =>
   cases hh with
   | lst _ _ _ ad _ k vs hk hc ha hcell hv hpm h1 =>
    obtain ⟨rfl,hsp,hl⟩ := ha (by simp)
    obtain ⟨blk,off,sp⟩ := ad
    dsimp only at hsp hl hcell
    subst hsp
    have hc0 := hcell 0 0 (.int .i64 x) rfl
    have hv1 := hv 0 0 (.int .i64 x) rfl
    have hv2 : vs 0 0 = .int .i64 x := by
     generalize vs 0 0 = u at hv1
     cases hv1
     rfl
    rw [hv2] at hc0
    have hblk : blk < w.heap.size := by
     rcases hl with hl | ⟨hl,_⟩
     ·exact hr.lsz _ _ hl
     ·exact absurd rfl hl
    have hH : Holds (Value.int .i64) w blk off [x].toArray := by
     intro j hj
     have hj0 : j = 0 := by simpa using hj
     subst hj0
     obtain ⟨arr,ty,h1⟩ := hsoft (by simp) _ rfl
     exact ⟨by simpa using hc0,by simp [World.frozen?,h1]⟩
    have hcall := Go.Proofs.Any.slices_Sort_int LL blk off 1 [x] w hH hblk (by simp)
    rw [hargs]
    refine .inr ⟨hent _ _,?_⟩
    rw [hfn]
    refine hcall.mono ?_
    rintro en w' ⟨rfl,n,os,rfl⟩
    rw [isort_merge]
    have hself : putRow (Value.int .i64) (Sort.ahead w n) blk off (isort ltI [x]).toArray = Sort.ahead w n := putRow_self _ _ _ _ _ (by exact hH)
    refine ⟨L,e,?_,.tup [] #[] rfl (fun j c hj => by simp at hj)⟩
    have h0 : Tn.apply {} h = h := by cases h; simp [Tn.apply]
    rw [h0,hself]
    exact behind hr n os
 ·rename_i id0 ver off len
  split at hp <;> first | (cases hp; done) | skip
  rename_i a ha
  obtain ⟨ha1,ha2⟩ := ownArr_spec ha
  split at hp
  ·rename_i hl
   subst hl
   injection hp with hp
   injection hp with e1 e2
   subst e1
   subst e2
   cases hv0 with
   | own _ _ _ _ a' cap _ _ _ _ => exact fin0 a' cap hargs (by cases h; simp [Tn.apply]) rfl
  ·rename_i hl
   split at hp <;> first | (cases hp; done) | skip
   rename_i rows hb
   split at hp <;> first | (cases hp; done) | skip
   rename_i hc
   obtain ⟨hak,hol,hm⟩ := hc
   split at hp <;> first | (cases hp; done) | skip
   rename_i l hl2
   injection hp with hp
   injection hp with e1 e2
   subst e1
   subst e2
   obtain ⟨m1,m2⟩ := mapO_some hl2
   have hcut : ((rows.drop off).take len).length = len := by simp only [List.length_take,List.length_drop]; omega
   have hll : l.length = len := by omega
   have hdec : ∀ (r : List PV) (x : Int),intDec r = some x → r = [.int .i64 x] := by
    intro r x hx
    unfold intDec at hx
    split at hx
    ·cases hx; rfl
    ·cases hx
   have hrl : (rows.drop off).take len = l.map (fun x => [.int .i64 x]) := by
    apply List.ext_getElem?
    intro i
    rw [List.getElem?_map]
    rcases Nat.lt_or_ge i len with hi | hi
    ·have h1 : ((rows.drop off).take len)[i]? = some (((rows.drop off).take len)[i]'(by omega)) := List.getElem?_eq_getElem (by omega)
     have h2 : l[i]? = some (l[i]'(by omega)) := List.getElem?_eq_getElem (by omega)
     rw [h2,h1]
     exact congrArg some (hdec _ _ (m2 i _ _ h1 h2))
    ·rw [List.getElem?_eq_none (by omega),List.getElem?_eq_none (by omega)]
     rfl
   have hk' : a.k ≠ 0 := by rw [hak]; decide
   obtain ⟨v1,v2,v3,_⟩ := hr.ver id0 a ha1
   have hid : id0 < e.na := by rw [hr.na]; exact (List.getElem?_eq_some_iff.1 ha1).1
   have flat : ∀ (m : List Int) (i j : Nat) (c : PV),at2 (m.map fun x => [PV.int .i64 x]) i j = some c → (m.toArray.map (Value.int .i64))[i * a.k + j]! = sv c := by
    intro m i j c hc
    unfold at2 at hc
    rw [List.getElem?_map] at hc
    cases hx : m[i]? with
    | none => simp [hx] at hc
    | some x =>
     simp only [hx,Option.map_some,Option.bind_some] at hc
     match j,hc with
     | 0,hc =>
      cases hc
      have hi := (List.getElem?_eq_some_iff.1 hx).1
      rw [hak,Nat.mul_one,Nat.add_zero,getElem!_pos _ i (by simpa using hi)]
      have := (List.getElem?_eq_some_iff.1 hx).2
      simp [this,sv]
     | j + 1,hc => simp at hc
   cases hv0 with
   | own _ _ _ _ a' cap g0 g1 g2 g3 =>
    obtain ⟨k1,k2,k3,k4⟩ := g3 (by rw [v1,ha2])
    have ha' := k4 (by omega)
    subst ha'
    have hH0 : Holds id w (e.ar id0) (e.ad id0 + off * a.k) (l.toArray.map (Value.int .i64)) := by
     refine holds_row hr ha1 hb hk' hol ?_ _ (by simp [hll,hak]) ?_
     ·intro r hr' c hc
      rw [hrl] at hr'
      obtain ⟨y,_,rfl⟩ := List.mem_map.1 hr'
      simp only [List.mem_cons,List.not_mem_nil,or_false] at hc
      subst hc
      rfl
     ·intro i j c hc
      rw [hrl] at hc
      exact flat l i j c hc
    have hH : Holds (Value.int .i64) w (e.ar id0) (e.ad id0 + off * a.k) l.toArray := by
     intro j hj
     obtain ⟨q1,q2⟩ := hH0 j (by simpa using hj)
     refine ⟨?_,q2⟩
     rw [q1,getElem!_pos (l.toArray.map (Value.int .i64)) j (by simpa using hj),getElem!_pos l.toArray j hj]
     simp
    have hblk := hr.lt_ar hid (by rw [v2]; exact hk')
    rw [hargs]
    refine .inr ⟨hent _ _,?_⟩
    rw [hfn]
    have hcall := Go.Proofs.Any.slices_Sort_int LL (e.ar id0) (e.ad id0 + off * e.ak id0) cap l w (by rw [v2]; exact hH) hblk (by rw [hll]; unfold mostRows at hm; omega)
    rw [hll] at hcall
    refine hcall.mono ?_
    rintro en w' ⟨rfl,n,os,rfl⟩
    rw [isort_merge]
    have hlen2 : (isort ltI l).length = len := by rw [(isort_perm ltI l).length_eq,hll]
    obtain ⟨e',hnx⟩ := inplace hr ha1 hb hk' hol (news := (isort ltI l).map fun x => [.int .i64 x]) (by simp [hlen2]) (by
     intro r hr'
     obtain ⟨y,_,rfl⟩ := List.mem_map.1 hr'
     refine ⟨by rw [hak]; rfl,fun c hc => ?_⟩
     simp only [List.mem_cons,List.not_mem_nil,or_false] at hc
     subst hc
     rfl) ((isort ltI l).toArray.map (Value.int .i64)) (by simp [hlen2,hak]) (flat _) n os _ hH0 (by simp [hll,hlen2])
    refine ⟨L,e',?_,.tup [] #[] rfl (fun j c hj => by simp at hj)⟩
    rw [apply_arr0,← ha2,← hak,putRow_map,v2]
    exact hnx
theorem sortIP_law : Prim.Law sortIP where
 old := by
  intro vs h v t hh
  unfold sortIP at hh
  repeat' split at hh
  all_goals first | (cases hh; done) | (injection hh with hh; injection hh with e1 e2; subst e2; rfl)
 loc := by
  intro vs h1 h2 v t hh ha
  unfold sortIP at hh ⊢
  split at hh <;> first | (cases hh; done) | skip
  split at hh <;> first | (cases hh; done) | skip
  ·exact hh
  ·exact hh
  ·rename_i id ver off len
   split at hh <;> first | (cases hh; done) | skip
   rename_i a ho
   have : (t.ra = some id ∨ t.ra2 = some id ∨ ∃ a,t.ar = some (id,a)) → ownArr h2 id ver = some a := fun hi => (ha.own hi).trans ho
   split at hh
   ·rename_i h0
    injection hh with hh
    injection hh with e1 e2
    subst e1
    subst e2
    rw [this (.inl rfl)]
    simp only [h0,if_true]
   ·rename_i h0
    split at hh <;> first | (cases hh; done) | skip
    rename_i rows hb
    split at hh <;> first | (cases hh; done) | skip
    rename_i hc
    split at hh <;> first | (cases hh; done) | skip
    rename_i news hn
    injection hh with hh
    injection hh with e1 e2
    subst e1
    subst e2
    rw [this (.inr (.inr ⟨_,rfl⟩))]
    simp only [h0,if_false,hb,hn]
    rw [if_pos hc]
 fit := by
  intro vs h v t hh
  unfold sortIP at hh
  split at hh <;> first | (cases hh; done) | skip
  split at hh <;> first | (cases hh; done) | skip
  ·injection hh with hh
   injection hh with e1 e2
   subst e2
   exact ⟨fun hp => absurd rfl hp,fun i a hia => by cases hia⟩
  ·split at hh <;> first | (cases hh; done) | skip
   injection hh with hh
   injection hh with e1 e2
   subst e2
   exact ⟨fun hp => absurd rfl hp,fun i a hia => by cases hia⟩
  ·split at hh <;> first | (cases hh; done) | skip
   rename_i a ho
   split at hh
   ·injection hh with hh
    injection hh with e1 e2
    subst e2
    exact ⟨fun hp => absurd rfl hp,fun i a hia => by cases hia⟩
   ·split at hh <;> first | (cases hh; done) | skip
    split at hh <;> first | (cases hh; done) | skip
    split at hh <;> first | (cases hh; done) | skip
    injection hh with hh
    injection hh with e1 e2
    subst e2
    refine ⟨fun hp => absurd rfl hp,fun i a' hia => ?_⟩
    cases hia
    exact ownArr_lt ho
end Go.Pv
namespace Go.Pv
def autoP : List V → Heap → Option (V × Tn)
 | [.pv (.int .i64 n),.tl r],_ => some (.agg [.pv (.int .i64 n),.pv (.int .i64 0),.tl r],{})
 | [.pv (.int .i64 n),.own a b c d],_ => some (.agg [.pv (.int .i64 n),.pv (.int .i64 0),.own a b c d],{})
 | _,_ => none
theorem autoP_some {vs : List V} {h : Heap} {v : V} {t : Tn} (hh : autoP vs h = some (v,t)) : t = {} ∧ ∃ n x,vs = [.pv (.int .i64 n),x] ∧ v = .agg [.pv (.int .i64 n),.pv (.int .i64 0),x] ∧ ((∃ r,x = .tl r) ∨ ∃ a b c d,x = .own a b c d) := by
 unfold autoP at hh
 split at hh
 ·cases hh
  exact ⟨rfl,_,_,rfl,rfl,.inl ⟨_,rfl⟩⟩
 ·cases hh
  exact ⟨rfl,_,_,rfl,rfl,.inr ⟨_,_,_,_,rfl⟩⟩
 ·cases hh
theorem autoP_law : Prim.Law autoP where
 old := by
  intro vs h v t hh
  obtain ⟨rfl,_⟩ := autoP_some hh
  rfl
 loc := by
  intro vs h1 h2 v t hh _
  unfold autoP at hh ⊢
  split at hh <;> first | exact hh | cases hh
 fit := by
  intro vs h v t hh
  obtain ⟨rfl,_⟩ := autoP_some hh
  exact ⟨fun hp => absurd rfl hp,fun i a hia => by cases hia⟩
def autoF : AFunc := ⟨2,
(.seq
(.region [
⟨some 4,.alloc 4 [.pv (.int .i64 0),.pv (.int .i64 0),.tl []],none⟩] [0,1,4] [4])
(.seq
(.region [
⟨some 5,.mov (.tmp 0),none⟩,
⟨some 6,.mov (.tmp 1),none⟩,
⟨some 7,.build [.pv (.int .i64 0),.pv (.int .i64 0),.tl []] [(0,1,(.tmp 5)),(2,1,(.tmp 6))],none⟩,
⟨none,.store 3 (.tmp 4) (.tmp 7),none⟩] [4] [4])
.ret)),
 [.cell 4 3 true],false,false,false⟩
def noF : Nat → Option AFunc := fun _ => none
def noP : Prims := fun n => look1 n []
theorem auto_run (n : Int) (x : V) (h : Heap) (hx : (∃ r,x = .tl r) ∨ ∃ a b c d,x = .own a b c d) : runInl (exec noF noP 20) autoF [.pv (.int .i64 n),x] h = some (.agg [.pv (.int .i64 n),.pv (.int .i64 0),x],{ all := some ([],h.ar,h.mp) }) := by
 rcases hx with ⟨r,rfl⟩ | ⟨a,b,c,d,rfl⟩
 ·have e : runInl (exec noF noP 20) autoF [.pv (.int .i64 n),.tl r] h = some (.agg [.pv (.int .i64 n),.pv (.int .i64 0),.tl r],{ all := some ([],h.ar ++ [] ++ [] ++ [] ++ [] ++ [],h.mp ++ [] ++ [] ++ [] ++ [] ++ []) }) := by rfl
  simpa using e
 ·have e : runInl (exec noF noP 20) autoF [.pv (.int .i64 n),.own a b c d] h = some (.agg [.pv (.int .i64 n),.pv (.int .i64 0),.own a b c d],{ all := some ([],h.ar ++ [] ++ [] ++ [] ++ [] ++ [],h.mp ++ [] ++ [] ++ [] ++ [] ++ []) }) := by rfl
  simpa using e
theorem autoP_ok {P : Program} {N M : Nat → Nat} {f : Nat} {an : Ann} (hm : P.follows .mixedOrders = true) (hfn : FnOk P N M (N f) an autoF) : Prim.Ok P N f autoP := by
 intro L e W h w vs args v tn hp hr hs hv
 obtain ⟨rfl,n,x,rfl,rfl,hx⟩ := autoP_some hp
 have hL : PrimLaw noP := prims_law (l := []) (fun x hx => by cases hx)
 have hO : PrimOk P N noP := prims_ok (l := []) (fun x hx => by cases hx)
 have hc : CodeOk P N M noF noP 20 := (sound (M := M) hm hL hO (A := noF) (fun f fn h => by cases h) 20).1 20 (Nat.le_refl _)
 have := inl_sound (h := h) hc hfn (auto_run n x h hx) hr hs hv
 rw [show ({ all := some ([],h.ar,h.mp) } : Tn).apply h = h from rfl] at this
 rw [show ({} : Tn).apply h = h from idle0.apply h]
 exact this
end Go.Pv
namespace Go.Pv
structure Edge where
 fr : Int
 send : Bool
 label : Int
 to : Int
 deriving DecidableEq,Inhabited
structure Auto where
 states : Int
 start : Int
 edges : List Edge
 deriving DecidableEq,Inhabited
def Edge.c (e : Edge) : List PV := [.int .i64 e.fr,.bool e.send,.int .i64 e.label,.int .i64 e.to]
@[go_sem] theorem Edge.c_eq (e : Edge) : e.c = [.int .i64 e.fr,.bool e.send,.int .i64 e.label,.int .i64 e.to] := rfl
def Edge.dec : List PV → Option Edge
 | [.int .i64 a,.bool b,.int .i64 c,.int .i64 d] => some ⟨a,b,c,d⟩
 | _ => none
theorem Edge.dec_enc (r : List PV) (x : Edge) (h : Edge.dec r = some x) : x.c = r := by
 unfold Edge.dec at h
 split at h
 ·cases h
  rfl
 ·cases h
def Auto.p (t : Nat) (a : Auto) : PV := .agg [.int .i64 a.states,.int .i64 a.start,.lst t (a.edges.map Edge.c)]
@[go_sem] theorem Auto.p_eq (t : Nat) (a : Auto) : a.p t = .agg [.int .i64 a.states,.int .i64 a.start,.lst t (a.edges.map Edge.c)] := rfl
def ints (l : List Int) : List (List PV) := l.map fun x => [.int .i64 x]
@[go_sem] theorem ints_length (l : List Int) : (ints l).length = l.length := by simp [ints]
@[go_sem] theorem ints_get (l : List Int) (i : Nat) : (ints l)[i]? = l[i]?.map fun x => [.int .i64 x] := by simp [ints]
@[go_sem] theorem ints_set (l : List Int) (i : Nat) (x : Int) : (ints l).set i [.int .i64 x] = ints (l.set i x) := by simp [ints,List.map_set]
theorem ints_store {id row ver : Nat} {k : IntKind} {x : Int} {l : List Int} (h1 : row < l.length) (hk : k = .i64) : storeRow id row 0 [.pv (.int k x)] ⟨ver,1,.inl (ints l)⟩ = some { ar := some (id,⟨ver,1,.inl (ints (l.set row x))⟩) } := by
 subst hk
 rw [storeRow_one (by rw [ints_length]; exact h1) rfl (.inr ⟨.int .i64 l[row],by simp [ints,h1]⟩) rfl,ints_set]
@[go_sem] theorem ints_store64 {id row ver : Nat} {x : Int} {l : List Int} (h1 : row < l.length) : storeRow id row 0 [.pv (.int .i64 x)] ⟨ver,1,.inl (ints l)⟩ = some { ar := some (id,⟨ver,1,.inl (ints (l.set row x))⟩) } := ints_store h1 rfl
@[go_sem] theorem ints_made (n : Nat) (x : Int) : sameRows n [.pv (.int .i64 x)] = .inl (ints (List.replicate n x)) := by
 simp [sameRows,mapO,V.purec,PV.perm,ints]
@[go_sem] theorem ints_take (l : List Int) (n : Nat) : (ints l).take n = ints (l.take n) := by simp [ints]
@[go_sem] theorem ints_drop (l : List Int) (n : Nat) : (ints l).drop n = ints (l.drop n) := by simp [ints]
def Edge.side (e : Edge) : Int := if e.send = true then 1 else 0
def cmpI (x y : Int) : Int := if x < y then -1 else if y < x then 1 else 0
def Edge.cmp (a b : Edge) : Int := if cmpI a.fr b.fr ≠ 0 then cmpI a.fr b.fr else if cmpI a.side b.side ≠ 0 then cmpI a.side b.side else cmpI a.label b.label
def Edge.lt (a b : Edge) : Bool := if a.fr ≠ b.fr then decide (a.fr < b.fr) else if a.send ≠ b.send then b.send else decide (a.label < b.label)
theorem Edge.cmp_lt (a b : Edge) : decide (Edge.cmp a b < 0) = Edge.lt a b := by
 unfold Edge.cmp Edge.lt cmpI Edge.side
 by_cases h1 : a.fr = b.fr
 ·simp only [h1,Int.lt_irrefl,if_false,ne_eq,not_true_eq_false]
  cases ha : a.send <;> cases hb : b.send <;> simp <;> (repeat' split) <;> simp <;> omega
 ·rcases Int.lt_or_gt_of_ne h1 with h | h
  ·simp [h,h1]
  ·have : ¬ a.fr < b.fr := by omega
   simp [h,h1,this]
theorem Edge.cmp_ge (a b : Edge) : decide (0 ≤ Edge.cmp a b) = !Edge.lt a b := by
 rw [← Edge.cmp_lt]
 by_cases h : 0 ≤ Edge.cmp a b
 ·have : ¬ Edge.cmp a b < 0 := by omega
  simp [h,this]
 ·have : Edge.cmp a b < 0 := by omega
  simp [h,this]
theorem Edge.swo : Go.Sort.SWO Edge.lt where
 irrefl x := by simp [Edge.lt]
 trans x y z h1 h2 := by
  unfold Edge.lt at *
  by_cases a1 : x.fr = y.fr <;> by_cases a2 : y.fr = z.fr <;> by_cases b1 : x.send = y.send <;> by_cases b2 : y.send = z.send <;> simp_all <;> (try omega)
  all_goals (try (have : ¬ x.fr = z.fr := by omega); simp_all; omega)
 ntrans x y z h1 h2 := by
  unfold Edge.lt at *
  by_cases a1 : x.fr = y.fr <;> by_cases a2 : y.fr = z.fr <;> by_cases b1 : x.send = y.send <;> by_cases b2 : y.send = z.send <;> simp_all <;> (try omega)
  all_goals (try (have : ¬ x.fr = z.fr := by omega); simp_all; omega)
end Go.Pv
namespace Go.Pv
def Edge.fits (e : Edge) (n : Int) : Bool := decide (0 ≤ e.fr) && decide (e.fr < n) && decide (0 ≤ e.to) && decide (e.to < n) && decide (1 ≤ e.label) && decide (e.label ≤ 1000)
def chk (n : Int) : Option Edge → List Edge → Bool
 | _,[] => true
 | p,e :: r => e.fits n && (match p with | none => true | some q => Edge.lt q e) && chk n (some e) r
def Auto.err (a : Auto) : Int := if 12 < a.states ∨ 100 < a.edges.length then 3 else if 0 ≤ a.start ∧ a.start < a.states then (if chk a.states none a.edges = true then 0 else 1) else 1
def ahead1 (l : List Edge) (k : Nat) : Option Edge := if k = 0 then none else l[k - 1]?
theorem ahead1_succ {l : List Edge} {k : Nat} : ahead1 l (k + 1) = l[k]? := by simp [ahead1]
end Go.Pv
namespace Go.Pv
theorem chk_fits {n : Int} : ∀ {p : Option Edge} {l : List Edge},chk n p l = true → ∀ e ∈ l,e.fits n = true
 | _,[],_,e,he => by simp at he
 | p,x :: r,h,e,he => by
  simp only [chk,Bool.and_eq_true] at h
  rcases List.mem_cons.1 he with rfl | he
  ·exact h.1.1
  ·exact chk_fits h.2 e he
theorem fits_iff {e : Edge} {n : Int} : e.fits n = true ↔ 0 ≤ e.fr ∧ e.fr < n ∧ 0 ≤ e.to ∧ e.to < n ∧ 1 ≤ e.label ∧ e.label ≤ 1000 := by
 simp [Edge.fits,and_assoc]
def small (l : List Int) : Prop := ∀ i,0 ≤ l.getD i 0 ∧ l.getD i 0 ≤ 1000000000000001
theorem getD_some {l : List Int} {i : Nat} (h : i < l.length) : l[i]? = some (l.getD i 0) := by simp [h]
end Go.Pv
namespace Go.Pv
structure Cfg where
 a : Int
 b : Int
 toA : List Int
 toB : List Int
 deriving DecidableEq,Inhabited
structure Mov where
 party : Int
 send : Bool
 label : Int
 deriving DecidableEq,Inhabited
def Mov.c (m : Mov) : List PV := [.int .i64 m.party,.bool m.send,.int .i64 m.label]
@[go_sem] theorem Mov.c_eq (m : Mov) : m.c = [.int .i64 m.party,.bool m.send,.int .i64 m.label] := rfl
def Mov.dec : List PV → Option Mov
 | [.int .i64 a,.bool b,.int .i64 c] => some ⟨a,b,c⟩
 | _ => none
theorem Mov.dec_enc (r : List PV) (x : Mov) (h : Mov.dec r = some x) : x.c = r := by
 unfold Mov.dec at h
 split at h
 ·cases h
  rfl
 ·cases h
def Mov.e (m : Mov) : Edge := ⟨m.party,m.send,m.label,0⟩
def Mov.cmp (a b : Mov) : Int := Edge.cmp a.e b.e
def Mov.lt (a b : Mov) : Bool := Edge.lt a.e b.e
theorem Mov.cmp_lt (a b : Mov) : decide (Mov.cmp a b < 0) = Mov.lt a b := Edge.cmp_lt a.e b.e
theorem Mov.swo : Go.Sort.SWO Mov.lt where
 irrefl x := Edge.swo.irrefl x.e
 trans x y z := Edge.swo.trans x.e y.e z.e
 ntrans x y z := Edge.swo.ntrans x.e y.e z.e
def encN (n : Int) : List UInt8 := if n < 10 then [UInt8.ofNat (48 + n.toNat)] else [UInt8.ofNat (48 + n.toNat / 10),UInt8.ofNat (48 + n.toNat % 10)]
def encL (l : List Int) : List UInt8 := (l.flatMap fun n => encN n ++ [44]) ++ [59]
def keyL (a b : Int) (l m : List Int) : List UInt8 := encL [a,b] ++ encL l ++ encL m
def keyS (a b : Int) (l m : List Int) : ByteArray := ⟨(keyL a b l m).toArray⟩
def smallI (n : Int) : Bool := decide (0 ≤ n) && decide (n < 100)
def keyP : List V → Heap → Option (V × Tn)
 | [.agg [.pv (.int .i64 a),.pv (.int .i64 b),.pv (.lst _ ra),.pv (.lst _ rb)]],_ =>
  match mapO intDec ra,mapO intDec rb with
  | some l,some m => if smallI a = true ∧ smallI b = true ∧ l.all smallI = true ∧ m.all smallI = true ∧ l.length ≤ 1000 ∧ m.length ≤ 1000 then some (.pv (.str (keyS a b l m)),{}) else none
  | _,_ => none
 | _,_ => none
theorem keyP_law : Prim.Law keyP where
 old := by
  intro vs h v t hh
  unfold keyP at hh
  repeat' split at hh
  all_goals first | (cases hh; done) | (injection hh with hh; injection hh with e1 e2; subst e2; rfl)
 loc := by
  intro vs h1 h2 v t hh _
  unfold keyP at hh ⊢
  split at hh <;> first | (cases hh; done) | skip
  exact hh
 fit := by
  intro vs h v t hh
  unfold keyP at hh
  repeat' split at hh
  all_goals first | (cases hh; done) | (injection hh with hh; injection hh with e1 e2; subst e2; exact ⟨fun hp => absurd rfl hp,fun i a hia => by cases hia⟩)
end Go.Pv
namespace Go.Pv
open Go.Lib (itoa decDigits)
def wideI (n : Int) : Bool := decide (-9223372036854775808 ≤ n) && decide (n ≤ 9223372036854775807)
theorem wideI_iff {n : Int} : wideI n = true ↔ -9223372036854775808 ≤ n ∧ n ≤ 9223372036854775807 := by simp [wideI]
def itoaP : List V → Heap → Option (V × Tn)
 | [.pv (.int .i64 n)],_ => if wideI n = true then some (.pv (.str ⟨(itoa n).toArray⟩),{}) else none
 | _,_ => none
theorem itoaP_some {vs : List V} {h : Heap} {v : V} {t : Tn} (hh : itoaP vs h = some (v,t)) : t = {} ∧ ∃ n,vs = [.pv (.int .i64 n)] ∧ wideI n = true ∧ v = .pv (.str ⟨(itoa n).toArray⟩) := by
 unfold itoaP at hh
 split at hh
 ·split at hh
  ·rename_i hw
   cases hh
   exact ⟨rfl,_,rfl,hw,rfl⟩
  ·cases hh
 ·cases hh
theorem itoaP_law : Prim.Law itoaP where
 old := by
  intro vs h v t hh
  obtain ⟨rfl,_⟩ := itoaP_some hh
  rfl
 loc := by
  intro vs h1 h2 v t hh _
  unfold itoaP at hh ⊢
  split at hh <;> first | exact hh | cases hh
 fit := by
  intro vs h v t hh
  obtain ⟨rfl,_⟩ := itoaP_some hh
  exact ⟨fun hp => absurd rfl hp,fun i a hia => by cases hia⟩
def Cfg.ok (c : Cfg) : Prop := wideI c.a = true ∧ wideI c.b = true ∧ c.toA.all wideI = true ∧ c.toB.all wideI = true ∧ c.toA.length ≤ 2000000 ∧ c.toB.length ≤ 2000000
theorem small_wide {n : Int} (h : smallI n = true) : wideI n = true := by
 simp only [smallI,Bool.and_eq_true,decide_eq_true_eq] at h
 rw [wideI_iff]
 omega
theorem smalls_wide {l : List Int} (h : l.all smallI = true) : l.all wideI = true := by
 rw [List.all_eq_true] at h ⊢
 exact fun x hx => small_wide (h x hx)
def dval (l : List UInt8) : Nat := l.foldl (fun a c => a * 10 + (c.toNat - 48)) 0
theorem dval_dec (u : Nat) : dval (decDigits u) = u := by
 induction u using Nat.strongRecOn with
 | _ u ih =>
  rw [decDigits]
  split
  ·rename_i h
   simp only [dval,List.foldl_cons,List.foldl_nil,UInt8.toNat_ofNat']
   omega
  ·rename_i h
   have := ih (u / 10) (by omega)
   simp only [dval] at this
   simp only [dval,List.foldl_append,this,List.foldl_cons,List.foldl_nil,UInt8.toNat_ofNat']
   omega
theorem dec_digits (u : Nat) : ∀ c ∈ decDigits u,48 ≤ c.toNat ∧ c.toNat ≤ 57 := by
 induction u using Nat.strongRecOn with
 | _ u ih =>
  rw [decDigits]
  split
  ·rename_i h
   intro c hc
   rw [List.mem_singleton] at hc
   subst hc
   simp only [UInt8.toNat_ofNat']
   omega
  ·rename_i h
   intro c hc
   rcases List.mem_append.1 hc with hc | hc
   ·exact ih (u / 10) (by omega) c hc
   ·rw [List.mem_singleton] at hc
    subst hc
    simp only [UInt8.toNat_ofNat']
    omega
theorem itoa_chars (n : Int) : ∀ c ∈ itoa n,45 ≤ c.toNat ∧ c.toNat ≤ 57 := by
 unfold itoa
 split
 ·intro c hc
  rcases List.mem_cons.1 hc with rfl | hc
  ·decide
  ·have := dec_digits _ c hc
   omega
 ·intro c hc
  have := dec_digits _ c hc
  omega
theorem itoa_inj {x y : Int} (h : itoa x = itoa y) : x = y := by
 have key : ∀ u v : Nat,45 :: decDigits u = decDigits v → False := fun u v h => by
  have := dec_digits v 45 (by rw [← h]; exact List.mem_cons_self ..)
  exact absurd this.1 (by decide)
 unfold itoa at h
 split at h <;> split at h
 ·have := congrArg dval (List.cons.inj h).2
  rw [dval_dec,dval_dec] at this
  omega
 ·exact (key _ _ h).elim
 ·exact (key _ _ h.symm).elim
 ·have := congrArg dval h
  rw [dval_dec,dval_dec] at this
  omega
theorem itoa_len {n : Int} (h : wideI n = true) : (itoa n).length ≤ 21 := by
 rw [wideI_iff] at h
 exact Lib.itoa_length_le n h.1 h.2
end Go.Pv
namespace Go.Pv
variable {P : Program}
theorem typed_int {n : Nat} {t : TypeId} {k : IntKind} {cs : List PV} (hu : P.underlying t = some (.int k)) (h : typed P (n + 1) t cs) : ∃ x,cs = [.int k x] ∧ k.min ≤ x ∧ x ≤ k.max := by
 simpa only [typed,hu] using h
theorem typed_bool {n : Nat} {t : TypeId} {cs : List PV} (hu : P.underlying t = some .bool) (h : typed P (n + 1) t cs) : ∃ b,cs = [.bool b] := by
 simpa only [typed,hu] using h
theorem typed_slice {n : Nat} {t el : TypeId} {cs : List PV} (hu : P.underlying t = some (.slice el)) (h : typed P (n + 1) t cs) : ∃ rows,cs = [.lst 0 rows] ∧ rows.length ≤ maxLen ∧ ∀ r ∈ rows,typed P n el r := by
 simpa only [typed,hu] using h
def typesOk (P : Program) (n : Nat) : List TypeId → List PV → Prop
 | [],cs => cs = []
 | t :: ts,cs => ∃ r q,cs = r ++ q ∧ typed P n t r ∧ typesOk P n ts q
theorem typed_struct {n : Nat} {t : TypeId} {fs : Array Field} {ts : List TypeId} {cs : List PV} (hu : P.underlying t = some (.struct fs)) (hts : fs.toList.map (·.type) = ts) (h : typed P (n + 1) t cs) : typesOk P n ts cs := by
 simp only [typed,hu] at h
 obtain ⟨parts,h1,rfl,h3⟩ := h
 subst hts
 have key : ∀ (l : List Field) (parts : List (List PV)),parts.length = l.length → (∀ (i : Nat) (f : Field) (r : List PV),l[i]? = some f → parts[i]? = some r → typed P n f.type r) → typesOk P n (l.map (·.type)) parts.flatten := by
  intro l
  induction l with
  | nil => intro parts hl _; simp [List.eq_nil_of_length_eq_zero hl,typesOk]
  | cons f l ih =>
   intro parts hl hp
   match parts,hl with
   | r :: parts,hl => exact ⟨r,parts.flatten,rfl,hp 0 f r rfl rfl,ih parts (by simpa using hl) (fun i g q hg hq => hp (i + 1) g q (by simpa using hg) (by simpa using hq))⟩
 exact key fs.toList parts (by simpa using h1) (fun i f r hf hr => h3 i f r (by simpa using hf) hr)
theorem rows_map {α : Type} {c : α → List PV} : ∀ {rows : List (List PV)},(∀ r ∈ rows,∃ x,r = c x) → ∃ l : List α,rows = l.map c
 | [],_ => ⟨[],rfl⟩
 | r :: rows,h => by
  obtain ⟨x,rfl⟩ := h r (by simp)
  obtain ⟨l,rfl⟩ := rows_map (rows := rows) (fun q hq => h q (by simp [hq]))
  exact ⟨x :: l,rfl⟩
theorem i64_min : IntKind.min .i64 = -9223372036854775808 := by decide
theorem i64_max : IntKind.max .i64 = 9223372036854775807 := by decide
structure Arg (P : Program) (t : TypeId) (α : Type) where
 pv : α → PV
 ok : α → Prop
 dec : ∀ cs,typed P 12 t cs → ∃ x : α,ok x ∧ argPV P t cs = pv x
theorem isAgg_struct {t : TypeId} {fs : Array Field} (hu : P.underlying t = some (.struct fs)) : isAggT P t = some true := by simp [isAggT,hu]
def intArg {t : TypeId} {k : IntKind} (hu : P.underlying t = some (.int k)) : Arg P t Int where
 pv n := .int k n
 ok n := k.min ≤ n ∧ n ≤ k.max
 dec cs h := by
  obtain ⟨x,rfl,hx⟩ := typed_int (n := 11) hu h
  have : isAggT P t = some false := by simp [isAggT,hu]
  exact ⟨x,hx,by simp [argPV,this]⟩
theorem law1 {N : Nat → Nat} {f : Nat} {t1 : TypeId} {α : Type} (A1 : Arg P t1 α) (hF : ∀ x,A1.ok x → FnR P N f [A1.pv x] [.bool true]) (css : List (List PV)) (hl : css.length = [t1].length)
  (ht : ∀ (j : Nat) (t : TypeId) (cs : List PV),[t1][j]? = some t → css[j]? = some cs → typed P 12 t cs) : FnR P N f (List.zipWith (argPV P) [t1] css) [.bool true] := by
 match css,hl with
 | [c1],_ =>
  obtain ⟨x,hx,e1⟩ := A1.dec c1 (ht 0 t1 c1 rfl rfl)
  simp only [List.zipWith,e1]
  exact hF x hx
theorem law2 {N : Nat → Nat} {f : Nat} {t1 t2 : TypeId} {α β : Type} (A1 : Arg P t1 α) (A2 : Arg P t2 β) (hF : ∀ x y,A1.ok x → A2.ok y → FnR P N f [A1.pv x,A2.pv y] [.bool true]) (css : List (List PV)) (hl : css.length = [t1,t2].length)
  (ht : ∀ (j : Nat) (t : TypeId) (cs : List PV),[t1,t2][j]? = some t → css[j]? = some cs → typed P 12 t cs) : FnR P N f (List.zipWith (argPV P) [t1,t2] css) [.bool true] := by
 match css,hl with
 | [c1,c2],_ =>
  obtain ⟨x,hx,e1⟩ := A1.dec c1 (ht 0 t1 c1 rfl rfl)
  obtain ⟨y,hy,e2⟩ := A2.dec c2 (ht 1 t2 c2 rfl rfl)
  simp only [List.zipWith,e1,e2]
  exact hF x y hx hy
theorem law3 {N : Nat → Nat} {f : Nat} {t1 t2 t3 : TypeId} {α β γ : Type} (A1 : Arg P t1 α) (A2 : Arg P t2 β) (A3 : Arg P t3 γ) (hF : ∀ x y z,A1.ok x → A2.ok y → A3.ok z → FnR P N f [A1.pv x,A2.pv y,A3.pv z] [.bool true]) (css : List (List PV)) (hl : css.length = [t1,t2,t3].length)
  (ht : ∀ (j : Nat) (t : TypeId) (cs : List PV),[t1,t2,t3][j]? = some t → css[j]? = some cs → typed P 12 t cs) : FnR P N f (List.zipWith (argPV P) [t1,t2,t3] css) [.bool true] := by
 match css,hl with
 | [c1,c2,c3],_ =>
  obtain ⟨x,hx,e1⟩ := A1.dec c1 (ht 0 t1 c1 rfl rfl)
  obtain ⟨y,hy,e2⟩ := A2.dec c2 (ht 1 t2 c2 rfl rfl)
  obtain ⟨z,hz,e3⟩ := A3.dec c3 (ht 2 t3 c3 rfl rfl)
  simp only [List.zipWith,e1,e2,e3]
  exact hF x y z hx hy hz
end Go.Pv
namespace Go.Pv
variable {P : Program} {N : Nat → Nat} {W : Nat → Prop} {L : Lx} {e : Emb} {h : Heap} {w : World}
theorem Nx.grown (hr : HR N L e W h w) (k : Nat) (os : Array Obj) : Nx N W L e w L e h (Sort.grow (w.drewN k) os) := by
 have hs : ∀ b,b < w.heap.size → (Sort.grow (w.drewN k) os).heap[b]? = w.heap[b]? := fun b hb => by
  rw [Sort.heap_grow_old _ _ (by simpa [World.drewN] using hb)]
  rfl
 have hz : w.heap.size ≤ (Sort.grow (w.drewN k) os).heap.size := by
  rw [Sort.size_grow]
  exact Nat.le_add_right _ _
 obtain ⟨h1,h2⟩ := hr.quiet (w' := Sort.grow (w.drewN k) os) hs hz (fun _ _ h => h) (fun _ _ h => .inl h)
 exact ⟨h1,h2,⟨rfl,rfl,rfl,hz,fun b hb _ => hs b hb,by show w.drawn ≤ w.drawn + k; omega⟩,fun _ _ hb => .inl hb⟩
theorem tabCells_pow : tabCells = (Lib.pow10Tab.map fun z => Value.int .u64 z).toArray := by
 unfold tabCells Lib.pow10Tab
 rw [List.map_map]
 congr 1
theorem itoaP_ok {ρ : Go.Shelf.Ren} (LL : Go.Proofs.LaysM.n171 P ρ) {fn : Nat} (hfn : N fn = ρ.f 171) {g : Nat} (hg : P.globalNamed "internal/strconv.uint64pow10" = some g) (hN : N 1000000 = 100000 + g)
  (hent : ∀ args w,(callFunc (N fn) args).run P w = .ok (.enter (N fn) args) w) : Prim.Ok P N fn itoaP := by
 intro L e W h w vs args v tn hp hr hs hv
 obtain ⟨rfl,n,rfl,hw,rfl⟩ := itoaP_some hp
 rw [wideI_iff] at hw
 have hargs : args = #[.int .i64 n] := by
  have h0 := hv 0 _ rfl
  have hsz : args.size = 1 := hs
  obtain ⟨l⟩ := args
  match l,hsz with
  | [v0],_ =>
   cases h0 with
   | pv _ _ h0 =>
    cases h0
    simp_all
 subst hargs
 refine .inr ⟨hent _ _,?_⟩
 rw [hfn]
 have ht : Lib.TabIs P w "internal/strconv.uint64pow10" .u64 Lib.pow10Tab := by
  obtain ⟨_,ty,z,h1⟩ := hr.tab g hN
  unfold Lib.TabIs World.var?
  rw [hg,Option.bind_some,h1,← tabCells_pow]
 refine (Go.Proofs.Any.strconv_Itoa LL n hw.1 hw.2 w ht).mono ?_
 rintro en w' ⟨rfl,k,os,rfl⟩
 rw [show ({} : Tn).apply h = h from idle0.apply h]
 exact ⟨L,e,Nx.grown hr k os,.pv _ _ (.str _)⟩
theorem tabW_of {g : Nat} (hg : P.globalNamed "internal/strconv.uint64pow10" = some g) (hN : N 1000000 = 100000 + g) (ht : Lib.TabIs P w "internal/strconv.uint64pow10" .u64 Lib.pow10Tab) : TabW N w := fun g' hg' => by
 obtain rfl : g = g' := by omega
 unfold Lib.TabIs World.var? at ht
 rw [hg,Option.bind_some] at ht
 split at ht
 ·rename_i cs ty z h1
  cases ht
  exact ⟨ty,z,by rw [h1,tabCells_pow]⟩
 ·cases ht
theorem laidMetTail {x : String × DataW Unit} {r : List (String × DataW Unit)} (h : laidMet P (x :: r) w) : laidMet P r w := by
 obtain ⟨ps,hv,hnd,hrows⟩ := h
 obtain ⟨n,d⟩ := x
 obtain ⟨g,t,cs,fuel,p,q,_,_,_,_,hq,rfl⟩ := hv
 exact ⟨q,hq,List.Nodup.sublist (List.sublist_append_right _ _) hnd,fun b off hm => hrows b off (List.mem_append_right _ hm)⟩
end Go.Pv
namespace Go.Pv
open Go.RowKit Go.ChangeShapes
variable {H : Type} {enc : TypeId × Value → H} {P : Program}
theorem law_lifted_row_upto {H : Type} {B : DataW H → Nat} (hB : Bulky B) {M : Nat} {S : List TypeId} {C : Checked} {os : Os} {N : Nat → Nat} {f : Nat} {fn : Func} {s : ChangeSpec} {s' : OpenSpec} {k : (H : Type) → List (DataW H) → Bool} (hk : s'.cond = some k) (hkM : ∀ ds : List (DataW H),k H ds = true → ∀ d ∈ ds,B d ≤ M) {F : Stop.Interp} {code : Code} {tb : TypeId} {laid : List (String × DataW Unit)} {dom : List PathCond} (enc : TypeId × Value → H)
  (hF : ∀ css : List (List PV),css.length = fn.params.toList.length → (∀ (j : Nat) (t : TypeId) (cs : List PV),fn.params.toList[j]? = some t → css[j]? = some cs → (∃ n,typed C.prog n t cs) ∧ ∀ c ∈ cs,Small M c) → FnR C.prog N f (List.zipWith (argPV C.prog) fn.params.toList css) [.bool true])
  (hT : ∀ w, laidMetH C.prog laid w → TabW N w) (own : ownKnob C.prog.godebug = none) (hl : laidOutB C.prog = true) (started : os.Started) (noInit : C.prog.inits.idxOf? (N f) = none) (hfn : C.prog.funcs[N f]? = some fn) (hcode : fn.body = some code) (hname : (fn.name == "runtime.NumGoroutine") = false)
  (wit : ∃ (w : World) (tape : Tape) (i : Input),w.os = os ∧ (w.forCall tape i).Shaped C.prog ∧ i.vars = [] ∧ Input.okWide C.prog (w.forCall tape i) .any w.heap.size (N f) i ∧
   s'.preRow enc C.prog fn dom false laid (w.forCall tape i).memory i.args ∧ ({} : Assume).holds C.prog (lone (Frame.enter C.prog (N f) i.args .normal) [] (w.forCall tape i)))
  (hres : fn.resultTypes = #[tb]) (htb : C.prog.underlying tb = some .bool) (hsv : s.vars = []) (hsv' : s'.vars = s.vars) (hpost : (s'.at F).post enc C.prog fn false true false false = s.post enc C.prog fn false true false false) (hsf : ∀ ds : List (DataW H),ds.length = fn.params.toList.length → s.fn H ds = { results := [.lit (.bool true)],args := ds })
  (hr : ∀ t ∈ fn.params.toList,C.prog.readableRec t = true ∧ t < C.prog.types.size) (hS : recData C.prog S = true) (hp : ∀ t ∈ fn.params.toList,t ∈ S) :
  ReturnsInHanded {} C os (N f) .any (s'.preRow enc C.prog fn dom false laid) ((s'.at F).post enc C.prog fn false true false false) := by
 refine returnsInHanded_of_row (s := s') own started noInit hfn wit ?_
 intro W base args ds gs before hval hW _ hcond _ hL _ _
 rw [hsv'] at hW
 have hMM := hkM _ (hcond k hk)
 have hW' := hW
 obtain ⟨p,q,h1,h2,h3,h4,h5⟩ := hW
 have hlen : ds.length = fn.params.toList.length := by
  have key : ∀ (ts : List TypeId) (vs : List Value) (ds : List (DataW H)) (ps : List MemPlace),DataW.TrodAll enc C.prog W 0 (fun _ => true) true ts vs ds ps → ds.length = ts.length := by
   intro ts
   induction ts with
   | nil => intro vs ds ps h; obtain ⟨rfl,rfl,rfl⟩ := trodAll_nil h; rfl
   | cons t ts ih =>
    intro vs ds ps h
    obtain ⟨v,vs',d,ds',p,q,rfl,rfl,rfl,_,g2⟩ := trodAll_cons h
    simp [ih _ _ _ g2]
  exact key _ _ _ _ h1
 have hgs : gs = [] := by
  rw [hsv] at h2
  obtain ⟨g1,g2⟩ := trodVars_none h2
  first | exact g2 | exact g1
 refine (law_calls_small hS hB hF (hT _ hL) hfn hcode hname h1 hp (fun d hd => hMM d (List.mem_append_left _ hd)) (fun j t v hj hv => hval j t v (by simpa using hj) (by simpa using hv))).mono fun e W' ⟨he,hb⟩ => ?_
 subst he
 rw [hpost]
 exact ⟨_,rfl,law_post hl hW' hsv hres htb (by rw [hgs,List.append_nil]; exact hsf ds hlen) hr hb⟩
end Go.Pv
