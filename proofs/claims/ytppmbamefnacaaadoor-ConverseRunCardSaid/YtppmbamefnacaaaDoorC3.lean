/-
  What the functions of the law give.
-/
import Derived.Test.YtppmbamefnacaaaDoorC2
set_option linter.unusedSimpArgs false
set_option linter.unusedVariables false
namespace Go.Pv
structure Nod (α μ : Type) where
  c : α
  bef : Int
  by' : Option μ
  path : List μ
section
variable {α μ : Type} [DecidableEq α]
def addD (out : List (Nod α μ)) (x : Nod α μ) : List (Nod α μ) := if x.c ∈ out.map Nod.c then out else out ++ [x]
def addDs (lim : Nat) : List (Nod α μ) → List (Nod α μ) → Option (List (Nod α μ))
  | out,[] => some out
  | out,x :: l => if lim < (addD out x).length then none else addDs lim (addD out x) l
def sucD (mv : α → List (μ × α)) (i : Nat) (x : Nod α μ) : List (Nod α μ) := (mv x.c).map fun y => ⟨y.2,(i : Int),some y.1,x.path ++ [y.1]⟩
def nodL (mv : α → List (μ × α)) (lim : Nat) : Nat → List (Nod α μ) → Nat → Option (List (Nod α μ))
  | 0,_,_ => none
  | n + 1,out,i => match out[i]? with
    | none => some out
    | some x => match addDs lim out (sucD mv i x) with
      | none => none
      | some out' => nodL mv lim n out' (i + 1)
def sucOf (mv : α → List (μ × α)) (c : α) : List α := (mv c).map (·.2)
def nod0 (c : α) : Nod α μ := ⟨c,-1,none,[]⟩
theorem addD_map (out : List (Nod α μ)) (x : Nod α μ) : (addD out x).map Nod.c = addU (out.map Nod.c) x.c := by
  unfold addD addU
  split <;> simp
theorem addD_pre {out : List (Nod α μ)} {x : Nod α μ} : out <+: addD out x := by
  unfold addD
  split
  · exact List.prefix_refl _
  · exact List.prefix_append _ _
theorem addD_len (out : List (Nod α μ)) (x : Nod α μ) : (addD out x).length = (addU (out.map Nod.c) x.c).length := by rw [← addD_map,List.length_map]
theorem addDs_map {lim : Nat} : ∀ (l out : List (Nod α μ)),(addDs lim out l).map (List.map Nod.c) = addUs lim (out.map Nod.c) (l.map Nod.c)
  | [],out => rfl
  | x :: l,out => by
    unfold addDs
    simp only [List.map_cons,addUs]
    rw [addD_len,← addD_map]
    split
    · rfl
    · exact addDs_map l _
omit [DecidableEq α] in
theorem sucD_map (mv : α → List (μ × α)) (i : Nat) (x : Nod α μ) : (sucD mv i x).map Nod.c = sucOf mv x.c := by simp [sucD,sucOf]
theorem nodL_map (mv : α → List (μ × α)) {lim : Nat} : ∀ (n : Nat) (out : List (Nod α μ)) (i : Nat),(nodL mv lim n out i).map (List.map Nod.c) = bfsL (sucOf mv) lim n (out.map Nod.c) i
  | 0,_,_ => rfl
  | n + 1,out,i => by
    unfold nodL bfsL
    rw [List.getElem?_map]
    cases hi : out[i]? with
    | none => rfl
    | some x =>
      simp only [Option.map_some]
      have := addDs_map (lim := lim) (sucD mv i x) out
      rw [sucD_map] at this
      cases ha : addDs lim out (sucD mv i x) with
      | none =>
        rw [ha] at this
        rw [← this]
        rfl
      | some o2 =>
        rw [ha] at this
        rw [← this]
        exact nodL_map mv n o2 (i + 1)
theorem nodL_some {mv : α → List (μ × α)} {lim n : Nat} {s : α} {o : List α} (h : bfsL (sucOf mv) lim n [s] 0 = some o) : ∃ out,nodL mv lim n [nod0 s] 0 = some out ∧ out.map Nod.c = o := by
  have := nodL_map mv (lim := lim) n [nod0 s] 0
  rw [show ([nod0 s] : List (Nod α μ)).map Nod.c = [s] from rfl,h] at this
  cases hn : nodL mv lim n [nod0 s] 0 with
  | none => rw [hn] at this; cases this
  | some out => rw [hn] at this; exact ⟨out,rfl,by injection this⟩
structure Fnd (mv : α → List (μ × α)) (s : α) (out : List (Nod α μ)) (i : Nat) : Prop where
  nd : (out.map Nod.c).Nodup
  first : out[0]? = some (nod0 s)
  way : ∀ (j : Nat) (x : Nod α μ),out[j]? = some x → 0 < j → ∃ (k : Nat) (y : Nod α μ) (m : μ),k < j ∧ k ≤ i ∧ out[k]? = some y ∧ (m,x.c) ∈ mv y.c ∧ x = ⟨x.c,(k : Int),some m,y.path ++ [m]⟩
  mono : ∀ (j k : Nat) (x y : Nod α μ),j ≤ k → out[j]? = some x → out[k]? = some y → x.path.length ≤ y.path.length
  near : ∀ (j : Nat) (x y : Nod α μ),out[i]? = some x → out[j]? = some y → y.path.length ≤ x.path.length + 1
  dn : ∀ (j : Nat) (x : Nod α μ),j < i → out[j]? = some x → ∀ c ∈ sucOf mv x.c,∃ (k : Nat) (y : Nod α μ),out[k]? = some y ∧ y.c = c ∧ y.path.length ≤ x.path.length + 1
omit [DecidableEq α] in
theorem fnd0 (mv : α → List (μ × α)) (s : α) : Fnd mv s [nod0 s] 0 where
  nd := by simp
  first := rfl
  way := fun j x hx hj => by
    obtain ⟨j,rfl⟩ : ∃ k,j = k + 1 := ⟨j - 1,by omega⟩
    simp at hx
  mono := fun j k x y _ hx hy => by
    have h1 : j = 0 := by have := (List.getElem?_eq_some_iff.1 hx).1; simpa using this
    have h2 : k = 0 := by have := (List.getElem?_eq_some_iff.1 hy).1; simpa using this
    subst h1; subst h2
    rw [hx] at hy
    cases hy
    exact Nat.le_refl _
  near := fun j x y hx hy => by
    have h2 : j = 0 := by have := (List.getElem?_eq_some_iff.1 hy).1; simpa using this
    subst h2
    rw [hx] at hy
    cases hy
    omega
  dn := fun j x hj => by omega
theorem get_pre {β : Type} {l l' : List β} (h : l <+: l') {i : Nat} {x : β} (hx : l[i]? = some x) : l'[i]? = some x := by
  obtain ⟨r,rfl⟩ := h
  rw [List.getElem?_append_left (List.getElem?_eq_some_iff.1 hx).1]
  exact hx
theorem mem_get {β : Type} {l : List β} {x : β} (h : x ∈ l) : ∃ i : Nat,l[i]? = some x := by
  obtain ⟨i,hi⟩ := List.mem_iff_getElem?.1 h
  exact ⟨i,hi⟩
theorem Fnd.adds {mv : α → List (μ × α)} {s : α} {i lim : Nat} {x : Nod α μ} : ∀ (l out out' : List (Nod α μ)),(∀ y ∈ l,∃ m,(m,y.c) ∈ mv x.c ∧ y = ⟨y.c,(i : Int),some m,x.path ++ [m]⟩) → Fnd mv s out i → out[i]? = some x → addDs lim out l = some out' →
    Fnd mv s out' i ∧ out <+: out' ∧ (∀ y ∈ l,∃ (k : Nat) (z : Nod α μ),out'[k]? = some z ∧ z.c = y.c ∧ z.path.length ≤ x.path.length + 1)
  | [],out,out',_,hf,hx,ha => by
    cases ha
    exact ⟨hf,List.prefix_refl _,fun y hy => by cases hy⟩
  | y :: l,out,out',hl,hf,hx,ha => by
    unfold addDs at ha
    split at ha
    · cases ha
    · have hx' : (addD out y)[i]? = some x := get_pre addD_pre hx
      obtain ⟨m,hm,hy⟩ := hl y (List.mem_cons_self ..)
      have hyl : y.path.length = x.path.length + 1 := by rw [hy]; simp
      have hf' : Fnd mv s (addD out y) i := by
        unfold addD
        split
        · exact hf
        · rename_i hn
          have old : ∀ {j z},(out ++ [y])[j]? = some z → (out[j]? = some z) ∨ (j = out.length ∧ z = y) := fun {j z} hz => by
            rcases Nat.lt_or_ge j out.length with hj | hj
            · rw [List.getElem?_append_left hj] at hz
              exact .inl hz
            · rw [List.getElem?_append_right hj] at hz
              have : j - out.length = 0 := by have := (List.getElem?_eq_some_iff.1 hz).1; simpa using this
              rw [this] at hz
              cases hz
              exact .inr ⟨by omega,rfl⟩
          have ext : ∀ {j z},out[j]? = some z → (out ++ [y])[j]? = some z := fun hz => get_pre (List.prefix_append _ _) hz
          have hil : i < out.length := (List.getElem?_eq_some_iff.1 hx).1
          refine ⟨?_,ext hf.first,fun j z hz hj => ?_,fun j k a b hjk ha hb => ?_,fun j a b ha hb => ?_,fun j a hj ha c hc => ?_⟩
          · rw [List.map_append,List.nodup_append]
            exact ⟨hf.nd,by simp,fun a ha b hb => by
              rw [List.map_singleton,List.mem_singleton] at hb
              rw [hb]
              exact fun e => hn (e ▸ ha)⟩
          · rcases old hz with hz | ⟨rfl,rfl⟩
            · obtain ⟨k,w,m',h1,h2,h3,h4,h5⟩ := hf.way j z hz hj
              exact ⟨k,w,m',h1,h2,ext h3,h4,h5⟩
            · exact ⟨i,x,m,hil,Nat.le_refl _,ext hx,hm,hy⟩
          · rcases old hb with hb' | ⟨hk,hbe⟩
            · rcases old ha with ha' | ⟨hj',_⟩
              · exact hf.mono j k a b hjk ha' hb'
              · have := (List.getElem?_eq_some_iff.1 hb').1; omega
            · rcases old ha with ha' | ⟨_,hae⟩
              · rw [hbe]
                have := hf.near j x a hx ha'
                omega
              · rw [hbe,hae]
                exact Nat.le_refl _
          · rcases old ha with ha' | ⟨h1,_⟩
            · rcases old hb with hb' | ⟨_,hbe⟩
              · exact hf.near j a b ha' hb'
              · rw [hx] at ha'
                cases ha'
                rw [hbe]
                omega
            · omega
          · rcases old ha with ha' | ⟨h1,_⟩
            · obtain ⟨k,w,h1,h2,h3⟩ := hf.dn j a hj ha' c hc
              exact ⟨k,w,ext h1,h2,h3⟩
            · omega
      obtain ⟨g1,g2,g3⟩ := Fnd.adds l _ _ (fun z hz => hl z (List.mem_cons_of_mem _ hz)) hf' hx' ha
      refine ⟨g1,addD_pre.trans g2,fun z hz => ?_⟩
      rcases List.mem_cons.1 hz with rfl | hz
      · have hin : z.c ∈ (addD out z).map Nod.c := by
          unfold addD
          split
          · rename_i h; exact h
          · simp
        obtain ⟨k,hk⟩ := mem_get hin
        rw [List.getElem?_map] at hk
        obtain ⟨w,hw,hwc⟩ := Option.map_eq_some_iff.1 hk
        exact ⟨k,w,get_pre g2 hw,hwc,hf'.near k x w hx' hw⟩
      · exact g3 z hz
theorem Fnd.next {mv : α → List (μ × α)} {s : α} {i lim : Nat} {x : Nod α μ} {out out' : List (Nod α μ)} (hf : Fnd mv s out i) (hx : out[i]? = some x) (ha : addDs lim out (sucD mv i x) = some out') : Fnd mv s out' (i + 1) ∧ out <+: out' := by
  obtain ⟨g1,g2,g3⟩ := Fnd.adds (mv := mv) (s := s) (x := x) _ _ _ (fun y hy => by
    obtain ⟨p,hp,rfl⟩ := List.mem_map.1 hy
    exact ⟨p.1,hp,rfl⟩) hf hx ha
  have hx' := get_pre g2 hx
  refine ⟨⟨g1.nd,g1.first,fun j z hz hj => ?_,g1.mono,fun j a b ha hb => ?_,fun j a hj haj c hc => ?_⟩,g2⟩
  · obtain ⟨k,w,m',h1,h2,h3⟩ := g1.way j z hz hj
    exact ⟨k,w,m',h1,by omega,h3⟩
  · have h1 := g1.mono i (i + 1) x a (by omega) hx' ha
    have h2 := g1.near j x b hx' hb
    omega
  · rcases Nat.lt_or_ge j i with hji | hji
    · exact g1.dn j a hji haj c hc
    · obtain rfl : j = i := by omega
      rw [hx'] at haj
      cases haj
      obtain ⟨p,hp,rfl⟩ := List.mem_map.1 hc
      exact g3 ⟨p.2,(j : Int),some p.1,x.path ++ [p.1]⟩ (List.mem_map.2 ⟨p,hp,rfl⟩)
theorem nodL_fnd {mv : α → List (μ × α)} {s : α} {lim : Nat} : ∀ {n : Nat} {out out' : List (Nod α μ)} {i : Nat},Fnd mv s out i → nodL mv lim n out i = some out' → Fnd mv s out' out'.length ∧ out <+: out'
  | 0,_,_,_,_,h => by cases h
  | n + 1,out,out',i,hf,h => by
    unfold nodL at h
    split at h
    · rename_i hi
      cases h
      have hle : out.length ≤ i := List.getElem?_eq_none_iff.1 hi
      refine ⟨⟨hf.nd,hf.first,fun j z hz hj => ?_,hf.mono,fun j a b ha hb => ?_,fun j a hj ha => hf.dn j a (by omega) ha⟩,List.prefix_refl _⟩
      · obtain ⟨k,w,m',h1,h2,h3,h4⟩ := hf.way j z hz hj
        have := (List.getElem?_eq_some_iff.1 h3).1
        exact ⟨k,w,m',h1,by omega,h3,h4⟩
      · have := (List.getElem?_eq_some_iff.1 ha).1; omega
    · rename_i x hx
      split at h
      · cases h
      · rename_i o2 ha
        obtain ⟨h1,h2⟩ := hf.next hx ha
        obtain ⟨h3,h4⟩ := nodL_fnd h1 h
        exact ⟨h3,h2.trans h4⟩
theorem nodL_end {mv : α → List (μ × α)} {s : α} {lim n : Nat} {out : List (Nod α μ)} (h : nodL mv lim n [nod0 s] 0 = some out) : Fnd mv s out out.length := (nodL_fnd (fnd0 mv s) h).1
inductive Stp (mv : α → List (μ × α)) : α → List μ → α → Prop
  | nil (c : α) : Stp mv c [] c
  | snoc {c d e : α} {l : List μ} {m : μ} : Stp mv c l d → (m,e) ∈ mv d → Stp mv c (l ++ [m]) e
omit [DecidableEq α] in
theorem Fnd.stp {mv : α → List (μ × α)} {s : α} {out : List (Nod α μ)} {i : Nat} (hf : Fnd mv s out i) : ∀ (n j : Nat) (x : Nod α μ),j ≤ n → out[j]? = some x → Stp mv s x.path x.c
  | n,j,x,hj,hx => by
    rcases Nat.eq_zero_or_pos j with h0 | h0
    · subst h0
      rw [hf.first] at hx
      cases hx
      exact .nil _
    · obtain ⟨k,y,m,h1,h2,h3,h4,h5⟩ := hf.way j x hx h0
      have : Stp mv s y.path y.c := match n with
        | 0 => by omega
        | n + 1 => Fnd.stp hf n k y (by omega) h3
      rw [h5]
      exact this.snoc h4
end
end Go.Pv
namespace Go.Pv
abbrev Nd := Nod Cfg Mov
def Nd.mv (x : Nd) : Mov := x.by'.getD ⟨0,false,0⟩
def idxM (l : List ByteArray) : List (PV × PV) := l.zipIdx.map fun p => (.str p.1,.int .i64 p.2)
def keysN (out : List Nd) : List ByteArray := out.map fun x => x.c.keyB
theorem findKey_zip (x : ByteArray) : ∀ (l : List ByteArray) (k i : Nat),findKey false [2] (.str x) ((l.zipIdx k).map fun (p : ByteArray × Nat) => (PV.str p.1,PV.int .i64 (p.2 : Int))) i = some ((l.findIdx? fun s => decide (s = x)).map fun j => (j + i,.int .i64 ((j + k : Nat) : Int)))
  | [],k,i => by
    show (if (keyEq false [2] (.str x) (.str x)).isSome then some none else none) = _
    rw [keyEq_str]
    rfl
  | y :: l,k,i => by
    show (match keyEq false [2] (.str x) (.str y) with
      | some true => some (some (i,PV.int .i64 k))
      | some false => findKey false [2] (.str x) ((l.zipIdx (k + 1)).map fun (p : ByteArray × Nat) => (PV.str p.1,PV.int .i64 (p.2 : Int))) (i + 1)
      | none => none) = _
    rw [keyEq_str]
    by_cases h : x = y
    · subst h
      simp [List.findIdx?_cons]
    · have h' : ¬ y = x := fun e => h e.symm
      simp only [h,decide_false]
      rw [findKey_zip x l (k + 1) (i + 1)]
      simp only [List.findIdx?_cons,h',decide_false]
      cases l.findIdx? fun s => decide (s = x) with
      | none => rfl
      | some j =>
        have e1 : j + (i + 1) = j + 1 + i := by omega
        have e2 : j + (k + 1) = j + 1 + k := by omega
        simp [e1]
        omega
theorem find_idxM (x : ByteArray) (l : List ByteArray) : findKey false [2] (.str x) (idxM l) 0 = some ((l.findIdx? fun s => decide (s = x)).map fun j => (j,.int .i64 (j : Int))) := by
  have := findKey_zip x l 0 0
  simpa [idxM] using this
theorem idxM_snoc (l : List ByteArray) (x : ByteArray) : idxM l ++ [(.str x,.int .i64 (l.length : Int))] = idxM (l ++ [x]) := by
  simp [idxM,List.zipIdx_append]
theorem upd_idxM (x : ByteArray) (l : List ByteArray) (id : Nat) (h : (l.findIdx? fun s => decide (s = x)) = none) : updM false [2] (.str x) (.int .i64 (l.length : Int)) id (idxM l) = some { mp := some (id,idxM (l ++ [x])) } := by
  unfold updM
  rw [find_idxM,h]
  simp [idxM_snoc]
def cellsX (a b : Auto) (cap : Int) (c m n f y : V) : List V := [.pv (.int .i64 a.states),.pv (.int .i64 a.start),.pv (.lst 0 (a.edges.map Edge.c)),.pv (.int .i64 b.states),.pv (.int .i64 b.start),.pv (.lst 0 (b.edges.map Edge.c)),.pv (.int .i64 cap),c,m,n,f,y]
theorem foundT_some (z : V) (j : Nat) (p : PV) : foundV z true (some (j,p)) = .tup [.pv p,.pv (.bool true)] := rfl
theorem foundT_none (z : V) : foundV z true none = .tup [z,.pv (.bool false)] := rfl
def arX (m : Nat) (out : List Nd) (rest : List Arr) : List Arr := ⟨m,4,.inl (cfgs (out.map Nod.c))⟩ :: ⟨m,1,.inl (ints (out.map Nod.bef))⟩ :: ⟨m,3,.inl (mvs3 (out.map Nd.mv))⟩ :: rest
theorem app_rows {h : Heap} {id m k : Nat} {rows : List (List PV)} {r : List PV} (ho : ownArr h id m = some ⟨m,k,.inl rows⟩) (hl : rows.length = m + 1) (hr : r.length = k) (hm : m < 100000) : appendV h k (.own id m 0 (m + 1)) (.tl [r]) = some (.own id (m + 1) 0 (m + 1 + 1),{ ar := some (id,⟨m + 1,k,.inl (rows ++ [r])⟩) }) := by
  have h2 : rows.take (m + 1) = rows := List.take_of_length_le (by omega)
  simp [appendV,srcRows,rowsFit,rowsLen,hr,ho,cutRows,catRows,mostRows,Arr.size,hl,h2]
  omega
set_option maxHeartbeats 4000000 in
theorem add256 (a b : Auto) (cap : Int) (m : Nat) (mV nV : V) (rest : List Arr) (out : List Nd) (c : Cfg) (bef : Int) (y : Mov) (pt : List Mov) (hc : c.ok) (Q : Ex → St → Prop) (hl : out.length = m + 1) (hm : m < 100000)
    (j : Option Nat) (hj : ((keysN out).findIdx? fun s => decide (s = c.keyB)) = j)
    (hQ : ∀ env,match j with
      | some j => Q .ret ⟨(8,.pv (.int .i64 j)) :: env,⟨[(200000,[.map 0]),(200001,[.ptr 200002 0]),(200002,cellsX a b cap (.own 0 m 0 (m + 1)) mV nV (.own 1 m 0 (m + 1)) (.own 2 m 0 (m + 1)))],arX m out rest,[idxM (keysN out)]⟩⟩
      | none => Q .ret ⟨(8,.pv (.int .i64 (m + 1 : Nat))) :: env,⟨[(200000,[.map 0]),(200001,[.ptr 200002 0]),(200002,cellsX a b cap (.own 0 (m + 1) 0 (m + 1 + 1)) mV nV (.own 1 (m + 1) 0 (m + 1 + 1)) (.own 2 (m + 1) 0 (m + 1 + 1)))],arX (m + 1) (out ++ [⟨c,bef,some y,pt⟩]) rest,[idxM (keysN (out ++ [⟨c,bef,some y,pt⟩]))]⟩⟩) :
    W A PrA F256.body ⟨[(0,.agg [.pv (.int .i64 c.a),.pv (.int .i64 c.b),.pv (.lst 0 (ints c.toA)),.pv (.lst 0 (ints c.toB))]),(1,.pv (.int .i64 bef)),(2,.agg [.pv (.int .i64 y.party),.pv (.bool y.send),.pv (.int .i64 y.label)]),(3,.ptr 200000 0),(4,.ptr 200001 0)],
      ⟨[(200000,[.map 0]),(200001,[.ptr 200002 0]),(200002,cellsX a b cap (.own 0 m 0 (m + 1)) mV nV (.own 1 m 0 (m + 1)) (.own 2 m 0 (m + 1)))],arX m out rest,[idxM (keysN out)]⟩⟩ Q := by
  have hk := r251 0 0 c.a c.b c.toA c.toB hc
  have hj' : ((keysN out).findIdx? fun s => decide (s = keyBS c.a c.b c.toA c.toB)) = j := hj
  simp only [F256,cellsX,arX] at hQ ⊢
  simp (disch := omega) only [go_sem,hk,find_idxM,hj']
  cases j with
  | some j =>
    simp (disch := omega) only [go_sem,Option.map_some,foundT_some]
    exact hQ _
  | none =>
    have h1 : (cfgs (out.map Nod.c)).length = m + 1 := by rw [cfgs_length,List.length_map,hl]
    have h2 : (ints (out.map Nod.bef)).length = m + 1 := by rw [ints_length,List.length_map,hl]
    have h3 : (mvs3 (out.map Nd.mv)).length = m + 1 := by rw [mvs3_length,List.length_map,hl]
    have hkl : (keysN out).length = m + 1 := by simp [keysN,hl]
    have hu := upd_idxM (keyBS c.a c.b c.toA c.toB) (keysN out) 0 hj'
    rw [hkl] at hu
    have a1 : ∀ bx mp r2,appendV ⟨bx,⟨m,4,.inl (cfgs (out.map Nod.c))⟩ :: r2,mp⟩ 4 (.own 0 m 0 (m + 1)) (.tl [[.int .i64 c.a,.int .i64 c.b,.lst 0 (ints c.toA),.lst 0 (ints c.toB)]]) = _ := fun bx mp r2 => app_rows (by simp [ownArr]) h1 rfl hm
    have a2 : ∀ bx mp x r2,appendV ⟨bx,x :: ⟨m,1,.inl (ints (out.map Nod.bef))⟩ :: r2,mp⟩ 1 (.own 1 m 0 (m + 1)) (.tl [[.int .i64 bef]]) = _ := fun bx mp x r2 => app_rows (by simp [ownArr]) h2 rfl hm
    have a3 : ∀ bx mp x z r2,appendV ⟨bx,x :: z :: ⟨m,3,.inl (mvs3 (out.map Nd.mv))⟩ :: r2,mp⟩ 3 (.own 2 m 0 (m + 1)) (.tl [[.int .i64 y.party,.bool y.send,.int .i64 y.label]]) = _ := fun bx mp x z r2 => app_rows (by simp [ownArr]) h3 rfl hm
    simp (disch := omega) only [go_sem,Option.map_none,foundT_none,hu,hk,a1,a2,a3]
    have e1 : out.map Nod.c ++ [c] = (out ++ [(⟨c,bef,some y,pt⟩ : Nd)]).map Nod.c := by simp
    have e2 : out.map Nod.bef ++ [bef] = (out ++ [(⟨c,bef,some y,pt⟩ : Nd)]).map Nod.bef := by simp
    have e3 : out.map Nd.mv ++ [(⟨y.party,y.send,y.label⟩ : Mov)] = (out ++ [(⟨c,bef,some y,pt⟩ : Nd)]).map Nd.mv := by simp [Nd.mv]
    have e4 : keysN out ++ [keyBS c.a c.b c.toA c.toB] = keysN (out ++ [(⟨c,bef,some y,pt⟩ : Nd)]) := by simp [keysN,Cfg.keyB]
    rw [cfgs_snoc,e1,e3,e4]
    first | rw [e2] | skip
    exact hQ _
def Flat2 (x y : V) : Prop := (x = .tl [] ∧ y = .tl []) ∨ ∃ a b c a' b' c',x = .own a b 0 c ∧ y = .own a' b' 0 c'
def pinX (S2 S3 X : List V) : List (Nat × List V) := [(100002,S2),(100003,S3),(100019,X),(100006,[.ptr 100019 0]),(100007,[.map 0])]
theorem call256 {a b : Auto} {cap : Int} {m1 m2 m3 n1 n2 n3 : Nat} {mV nV : V} {S2 S3 S14 S15 : List V} {ar : List Arr} {mp : List (List (PV × PV))} {x1 x2 x3 x4 x5 x7 : PV} {bef : Int} {sd : Bool} {K : V → Tn → Prop} (h1 : Flat2 mV nV)
    (h : W A PrA F256.body ⟨[(0,.agg [.pv x1,.pv x2,.pv x3,.pv x4]),(1,.pv (.int .i64 bef)),(2,.agg [.pv x5,.pv (.bool sd),.pv x7]),(3,.ptr 200000 0),(4,.ptr 200001 0)],
      ⟨[(200000,[.map 0]),(200001,[.ptr 200002 0]),(200002,cellsX a b cap (.own 0 m1 0 n1) mV nV (.own 1 m2 0 n2) (.own 2 m3 0 n3))],ar,mp⟩⟩ (inlK [.tmp 8] [100007,100006,100019] K)) :
    IW A PrA 256 [.agg [.pv x1,.pv x2,.pv x3,.pv x4],.pv (.int .i64 bef),.agg [.pv x5,.pv (.bool sd),.pv x7],.ptr 100007 0,.ptr 100006 0] ⟨(14,S14) :: (15,S15) :: pinX S2 S3 (cellsX a b cap (.own 0 m1 0 n1) mV nV (.own 1 m2 0 n2) (.own 2 m3 0 n3)),ar,mp⟩ K := by
  rw [IW_eq a256]
  rcases h1 with ⟨rfl,rfl⟩ | ⟨_,_,_,_,_,_,rfl,rfl⟩ <;> exact ⟨rfl,_,rfl,_,rfl,h⟩
theorem call0 {a b : Auto} {cap : Int} {S2 S3 : List V} {ar : List Arr} {mp : List (List (PV × PV))} {x1 x2 x3 x4 x5 x7 : PV} {bef : Int} {sd : Bool} {K : V → Tn → Prop}
    (h : W A PrA F256.body ⟨[(0,.agg [.pv x1,.pv x2,.pv x3,.pv x4]),(1,.pv (.int .i64 bef)),(2,.agg [.pv x5,.pv (.bool sd),.pv x7]),(3,.ptr 200000 0),(4,.ptr 200001 0)],
      ⟨[(200000,[.map 0]),(200001,[.ptr 200002 0]),(200002,cellsX a b cap (.tl []) (.tl []) (.tl []) (.tl []) (.tl []))],ar,mp⟩⟩ (inlK [.tmp 8] [100007,100006,100019] K)) :
    IW A PrA 256 [.agg [.pv x1,.pv x2,.pv x3,.pv x4],.pv (.int .i64 bef),.agg [.pv x5,.pv (.bool sd),.pv x7],.ptr 100007 0,.ptr 100006 0] ⟨pinX S2 S3 (cellsX a b cap (.tl []) (.tl []) (.tl []) (.tl []) (.tl [])),ar,mp⟩ K := by
  rw [IW_eq a256]
  exact ⟨rfl,_,rfl,_,rfl,h⟩
theorem back256 {a b : Auto} {cap : Int} {m1 m2 m3 n1 n2 n3 : Nat} {mV nV : V} {ar : List Arr} {mp : List (List (PV × PV))} {env : List (Nat × V)} {n : Int} {K : V → Tn → Prop} (h1 : Flat2 mV nV)
    (h : K (.pv (.int .i64 n)) { all := some ([(100007,[.map 0]),(100006,[.ptr 100019 0]),(100019,cellsX a b cap (.own 0 m1 0 n1) mV nV (.own 1 m2 0 n2) (.own 2 m3 0 n3))],ar,mp) }) :
    inlK [.tmp 8] [100007,100006,100019] K .mk .ret ⟨(8,.pv (.int .i64 n)) :: env,⟨[(200000,[.map 0]),(200001,[.ptr 200002 0]),(200002,cellsX a b cap (.own 0 m1 0 n1) mV nV (.own 1 m2 0 n2) (.own 2 m3 0 n3))],ar,mp⟩⟩ := by
  rcases h1 with ⟨rfl,rfl⟩ | ⟨_,_,_,_,_,_,rfl,rfl⟩ <;> exact ⟨_,rfl,_,rfl,_,rfl,h⟩
set_option maxHeartbeats 4000000 in
theorem add0 (a b : Auto) (cap : Int) (c : Cfg) (bef : Int) (y : Mov) (hc : c.ok) (Q : Ex → St → Prop)
    (hQ : ∀ env,Q .ret ⟨(8,.pv (.int .i64 (0 : Nat))) :: env,⟨[(200000,[.map 0]),(200001,[.ptr 200002 0]),(200002,cellsX a b cap (.own 0 0 0 1) (.tl []) (.tl []) (.own 1 0 0 1) (.own 2 0 0 1))],[⟨0,4,.inl [[.int .i64 c.a,.int .i64 c.b,.lst 0 (ints c.toA),.lst 0 (ints c.toB)]]⟩,⟨0,1,.inl [[.int .i64 bef]]⟩,⟨0,3,.inl [[.int .i64 y.party,.bool y.send,.int .i64 y.label]]⟩],[idxM [c.keyB]]⟩⟩) :
    W A PrA F256.body ⟨[(0,.agg [.pv (.int .i64 c.a),.pv (.int .i64 c.b),.pv (.lst 0 (ints c.toA)),.pv (.lst 0 (ints c.toB))]),(1,.pv (.int .i64 bef)),(2,.agg [.pv (.int .i64 y.party),.pv (.bool y.send),.pv (.int .i64 y.label)]),(3,.ptr 200000 0),(4,.ptr 200001 0)],
      ⟨[(200000,[.map 0]),(200001,[.ptr 200002 0]),(200002,cellsX a b cap (.tl []) (.tl []) (.tl []) (.tl []) (.tl []))],[],[[]]⟩⟩ Q := by
  have hk := r251 0 0 c.a c.b c.toA c.toB hc
  simp only [F256,cellsX] at hQ ⊢
  have hf0 : findKey false [2] (.str (keyBS c.a c.b c.toA c.toB)) [] 0 = some none := rfl
  have hu0 : updM false [2] (.str (keyBS c.a c.b c.toA c.toB)) (.int .i64 (0 : Nat)) 0 [] = some { mp := some (0,idxM [keyBS c.a c.b c.toA c.toB]) } := upd_idxM _ [] 0 rfl
  have a1 : ∀ bx mp,appendV ⟨bx,[],mp⟩ 4 (.tl []) (.tl [[.int .i64 c.a,.int .i64 c.b,.lst 0 (ints c.toA),.lst 0 (ints c.toB)]]) = some (.own 0 0 0 1,{ push := [⟨0,4,.inl [[.int .i64 c.a,.int .i64 c.b,.lst 0 (ints c.toA),.lst 0 (ints c.toB)]]⟩],base := 0 }) := fun bx mp => rfl
  have a2 : ∀ bx mp x,appendV ⟨bx,[x],mp⟩ 1 (.tl []) (.tl [[.int .i64 bef]]) = some (.own 1 0 0 1,{ push := [⟨0,1,.inl [[.int .i64 bef]]⟩],base := 1 }) := fun bx mp x => rfl
  have a3 : ∀ bx mp x z,appendV ⟨bx,[x,z],mp⟩ 3 (.tl []) (.tl [[.int .i64 y.party,.bool y.send,.int .i64 y.label]]) = some (.own 2 0 0 1,{ push := [⟨0,3,.inl [[.int .i64 y.party,.bool y.send,.int .i64 y.label]]⟩],base := 2 }) := fun bx mp x z => rfl
  simp (disch := omega) only [go_sem,hk,hf0,foundT_none,hu0,a1,a2,a3]
  exact hQ _
end Go.Pv
namespace Go.Pv
theorem side_len {es : List Edge} {cap st : Int} {i o : List Int} {send : Bool} {label q : Int} {i' o' : List Int} (hs : (sideC es cap st i o send label).1 = some (q,i',o')) : i'.length ≤ i.length + 1 ∧ o'.length ≤ o.length + 1 := by
  unfold sideC at hs
  cases hn : nextE st send label es with
  | none => rw [hn] at hs; cases hs
  | some t =>
    rw [hn] at hs
    dsimp only at hs
    split at hs
    · injection hs with h1
      injection h1 with h1 h3
      injection h3 with h3 h4
      subst h1 h3 h4
      simp
    · cases i with
      | nil => cases hs
      | cons z r =>
        dsimp only at hs
        split at hs
        · injection hs with h1
          injection h1 with h1 h3
          injection h3 with h3 h4
          subst h1 h3 h4
          simp
          omega
        · cases hs
theorem after_len (a b : Auto) (cap x y : Int) (l m : List Int) (mv : Mov) : (afterC a b cap x y l m mv).1.toA.length ≤ l.length + 1 ∧ (afterC a b cap x y l m mv).1.toB.length ≤ m.length + 1 := by
  unfold afterC
  split
  · rcases hs : sideC a.edges cap x l m mv.send mv.label with ⟨_ | ⟨q,i,o⟩,ok⟩
    · exact ⟨Nat.zero_le _,Nat.zero_le _⟩
    · exact side_len (q := q) (by rw [hs])
  · split
    · rcases hs : sideC b.edges cap y m l mv.send mv.label with ⟨_ | ⟨q,i,o⟩,ok⟩
      · exact ⟨Nat.zero_le _,Nat.zero_le _⟩
      · have := side_len (q := q) (i' := i) (o' := o) (by rw [hs])
        exact ⟨this.2,this.1⟩
    · exact ⟨Nat.zero_le _,Nat.zero_le _⟩
theorem chkE_yes {a b : Auto} {cap x y : Int} {l m : List Int} (h : sysErr a b cap = 0) (h2 : fitsB a b cap x y l m = true) : chkE a b cap x y l m = 0 := by
  unfold chkE
  rw [if_neg (by simp [h]),if_pos h2]
theorem fitsB_iff {a b : Auto} {cap x y : Int} {l m : List Int} : fitsB a b cap x y l m = true ↔ sysErr a b cap = 0 ∧ (0 ≤ x ∧ x < a.states) ∧ (0 ≤ y ∧ y < b.states) ∧ chanB l cap = true ∧ chanB m cap = true := by
  unfold fitsB
  simp only [Bool.and_eq_true,decide_eq_true_eq]
  constructor
  · rintro ⟨⟨⟨⟨⟨⟨h1,h2⟩,h3⟩,h4⟩,h5⟩,h6⟩,h7⟩
    exact ⟨h1,⟨h2,h3⟩,⟨h4,h5⟩,h6,h7⟩
  · rintro ⟨h1,⟨h2,h3⟩,⟨h4,h5⟩,h6,h7⟩
    exact ⟨⟨⟨⟨⟨⟨h1,h2⟩,h3⟩,h4⟩,h5⟩,h6⟩,h7⟩
theorem side_fits {a : Auto} (h : a.Good) {cap st : Int} {i o : List Int} {send : Bool} {label q : Int} {i' o' : List Int} (hi : chanB i cap = true) (ho : chanB o cap = true) (hs : sideC a.edges cap st i o send label = (some (q,i',o'),true)) : (0 ≤ q ∧ q < a.states) ∧ chanB i' cap = true ∧ chanB o' cap = true := by
  unfold sideC at hs
  cases hn : nextE st send label a.edges with
  | none => rw [hn] at hs; cases hs
  | some t =>
    rw [hn] at hs
    dsimp only at hs
    have hm := (nextE_some (h.asc.imp fun h => .inl h)).1 hn
    have hf := h.fit _ hm
    unfold Edge.fits at hf
    simp only [Bool.and_eq_true,decide_eq_true_eq] at hf
    split at hs
    · injection hs with h1 h2
      injection h1 with h1
      injection h1 with h1 h3
      injection h3 with h3 h4
      subst h1 h3 h4
      have h2 := of_decide_eq_true h2
      refine ⟨by omega,hi,?_⟩
      unfold chanB at ho ⊢
      simp only [Bool.and_eq_true,decide_eq_true_eq,Bool.not_eq_true'] at ho ⊢
      refine ⟨by rw [List.length_append]; simp; omega,?_⟩
      rw [List.any_append,ho.2]
      simp [badL]
      omega
    · cases i with
      | nil => cases hs
      | cons z r =>
        dsimp only at hs
        split at hs
        · injection hs with h1 h2
          injection h1 with h1
          injection h1 with h1 h3
          injection h3 with h3 h4
          subst h1 h3 h4
          refine ⟨by omega,?_,ho⟩
          unfold chanB at hi ⊢
          simp only [Bool.and_eq_true,decide_eq_true_eq,Bool.not_eq_true',List.any_cons,Bool.or_eq_false_iff,List.length_cons] at hi ⊢
          exact ⟨by omega,hi.2.2⟩
        · cases hs
theorem fits_after {a b : Auto} {cap x y : Int} {l m : List Int} {mv : Mov} (h : fitsB a b cap x y l m = true) (ho : (afterC a b cap x y l m mv).2 = true) : fitsB a b cap (afterC a b cap x y l m mv).1.a (afterC a b cap x y l m mv).1.b (afterC a b cap x y l m mv).1.toA (afterC a b cap x y l m mv).1.toB = true := by
  obtain ⟨h1,h2,h3,h4,h5⟩ := fitsB_iff.1 h
  obtain ⟨ga,gb,_,_⟩ := sys_good h1
  rw [fitsB_iff]
  refine ⟨h1,?_⟩
  revert ho
  unfold afterC
  split
  · cases hs : sideC a.edges cap x l m mv.send mv.label with
    | mk r ok =>
      cases r with
      | none =>
        intro ho
        exfalso
        have ho : ok = true := ho
        subst ho
        unfold sideC at hs
        cases hn : nextE x mv.send mv.label a.edges with
        | none => rw [hn] at hs; cases hs
        | some q =>
          rw [hn] at hs
          dsimp only at hs
          split at hs
          · cases hs
          · cases l with
            | nil => cases hs
            | cons z r => dsimp only at hs; split at hs <;> cases hs
      | some r =>
        obtain ⟨q,i,o⟩ := r
        intro ho
        have ho : ok = true := ho
        subst ho
        obtain ⟨g1,g2,g3⟩ := side_fits ga h4 h5 hs
        exact ⟨g1,h3,g2,g3⟩
  · split
    · cases hs : sideC b.edges cap y m l mv.send mv.label with
      | mk r ok =>
        cases r with
        | none =>
          intro ho
          exfalso
          have ho : ok = true := ho
          subst ho
          unfold sideC at hs
          cases hn : nextE y mv.send mv.label b.edges with
          | none => rw [hn] at hs; cases hs
          | some q =>
            rw [hn] at hs
            dsimp only at hs
            split at hs
            · cases hs
            · cases m with
              | nil => cases hs
              | cons z r => dsimp only at hs; split at hs <;> cases hs
        | some r =>
          obtain ⟨q,i,o⟩ := r
          intro ho
          have ho : ok = true := ho
          subst ho
          obtain ⟨g1,g2,g3⟩ := side_fits gb h5 h4 hs
          exact ⟨h2,g1,g3,g2⟩
    · intro ho
      cases ho
theorem r171 (a b : Auto) (cap : Int) (x y : Int) (l m : List Int) (ha : a.edges.length ≤ 2 ^ 63 - 1) (hb : b.edges.length ≤ 2 ^ 63 - 1) (hl : l.length ≤ 2000000000) (hm : m.length ≤ 2000000000) : res A PrA 171 [.agg [.int .i64 a.states,.int .i64 a.start,.lst 0 (a.edges.map Edge.c),.int .i64 b.states,.int .i64 b.start,.lst 0 (b.edges.map Edge.c),.int .i64 cap],.agg [.int .i64 x,.int .i64 y,.lst 0 (ints l),.lst 0 (ints m)]] = some (if chkE a b cap x y l m = 0 then [.lst 0 (mvs3 (movesC a b cap x y l m)),.int .i64 0] else [.lst 0 [],.int .i64 (chkE a b cap x y l m)]) := by
  refine res_of a171 rfl rfl ?_
  simp only [F171]
  by_cases h1 : chkE a b cap x y l m = 0
  · have hs : sysErr a b cap = 0 := by
      unfold chkE at h1
      by_cases h : sysErr a b cap = 0
      · exact h
      · rw [if_pos h] at h1
        exact h1
    obtain ⟨ga,gb,_,_⟩ := sys_good hs
    have h186 := r186 a b cap x y l m (by have := ga.len; omega) (by have := gb.len; omega) hl hm (movesC_asc ga.asc gb.asc)
    have d1 : decide (chkE a b cap x y l m = 0) = true := by simp [h1]
    simp (disch := omega) only [go_sem,d1,h186]
    rw [if_pos h1]
  · have d1 : decide (chkE a b cap x y l m = 0) = false := by simp [h1]
    simp (disch := omega) only [go_sem,d1]
    rw [if_neg h1]
def applyC (a b : Auto) (cap x y : Int) (l m : List Int) (mv : Mov) : List PV := if chkE a b cap x y l m = 0 then (if (afterC a b cap x y l m mv).2 = true then [cfgP (afterC a b cap x y l m mv).1,.int .i64 0] else [cfgP cfg0,.int .i64 11]) else [cfgP cfg0,.int .i64 (chkE a b cap x y l m)]
set_option maxHeartbeats 1000000 in
theorem r174 (a b : Auto) (cap : Int) (x y : Int) (l m : List Int) (mv : Mov) (ha : a.edges.length ≤ 2 ^ 63 - 1) (hb : b.edges.length ≤ 2 ^ 63 - 1) (hl : l.length ≤ 2000000000) (hm : m.length ≤ 2000000000) : res A PrA 174 [.agg [.int .i64 a.states,.int .i64 a.start,.lst 0 (a.edges.map Edge.c),.int .i64 b.states,.int .i64 b.start,.lst 0 (b.edges.map Edge.c),.int .i64 cap],.agg [.int .i64 x,.int .i64 y,.lst 0 (ints l),.lst 0 (ints m)],.agg [.int .i64 mv.party,.bool mv.send,.int .i64 mv.label]] = some (applyC a b cap x y l m mv) := by
  refine res_of a174 rfl rfl ?_
  simp only [F174]
  unfold applyC
  have h182 := r182 a b cap x y l m mv ha hb hl hm
  by_cases h1 : chkE a b cap x y l m = 0
  · have d1 : decide (chkE a b cap x y l m = 0) = true := by simp [h1]
    rw [if_pos h1]
    cases h2 : (afterC a b cap x y l m mv).2 with
    | true =>
      rw [h2] at h182
      generalize (afterC a b cap x y l m mv).1 = c at *
      simp (disch := omega) only [go_sem,d1,h182]
    | false =>
      rw [h2] at h182
      generalize (afterC a b cap x y l m mv).1 = c at *
      simp (disch := omega) only [go_sem,d1,h182]
      rfl
  · have d1 : decide (chkE a b cap x y l m = 0) = false := by simp [h1]
    rw [if_neg h1]
    simp (disch := omega) only [go_sem,d1]
    rfl
end Go.Pv
namespace Go.Pv
theorem after_lab {P : Int → Prop} {a b : Auto} {cap x y : Int} {l m : List Int} {mv : Mov} (hl : ∀ z ∈ l,P z) (hm : ∀ z ∈ m,P z) (hv : P mv.label) : (∀ z ∈ (afterC a b cap x y l m mv).1.toA,P z) ∧ ∀ z ∈ (afterC a b cap x y l m mv).1.toB,P z := by
  have key : ∀ (es : List Edge) (st : Int) (i o : List Int),(∀ z ∈ i,P z) → (∀ z ∈ o,P z) → ∀ q i' o' ok,sideC es cap st i o mv.send mv.label = (some (q,i',o'),ok) → (∀ z ∈ i',P z) ∧ ∀ z ∈ o',P z := by
    intro es st i o hi ho q i' o' ok h
    unfold sideC at h
    split at h
    · cases h
    · split at h
      · cases h
        refine ⟨hi,fun z hz => ?_⟩
        rcases List.mem_append.1 hz with hz | hz
        · exact ho z hz
        · rw [List.mem_singleton.1 hz]
          exact hv
      · split at h
        · cases h
        · split at h
          · cases h
            exact ⟨fun z hz => hi z (List.mem_cons_of_mem _ hz),ho⟩
          · cases h
  have h0 : (∀ z ∈ cfg0.toA,P z) ∧ ∀ z ∈ cfg0.toB,P z := ⟨fun z hz => (by cases hz),fun z hz => (by cases hz)⟩
  unfold afterC
  split
  · split
    · exact h0
    · rename_i q i o ok h
      exact key _ _ _ _ hl hm q i o ok h
  · split
    · split
      · exact h0
      · rename_i q i o ok h
        obtain ⟨h1,h2⟩ := key _ _ _ _ hm hl q i o ok h
        exact ⟨h2,h1⟩
    · exact h0
theorem movesC_mem {a b : Auto} {cap x y : Int} {l m : List Int} {mv : Mov} (h : mv ∈ movesC a b cap x y l m) : (afterC a b cap x y l m mv).2 = true ∧ ∃ e ∈ a.edges ++ b.edges,mv.label = e.label := by
  unfold movesC at h
  rcases List.mem_append.1 h with h | h
  · obtain ⟨e,he,rfl⟩ := List.mem_map.1 h
    obtain ⟨h1,h2⟩ := List.mem_filter.1 he
    rw [Bool.and_eq_true] at h2
    exact ⟨h2.2,e,List.mem_append_left _ h1,rfl⟩
  · obtain ⟨e,he,rfl⟩ := List.mem_map.1 h
    obtain ⟨h1,h2⟩ := List.mem_filter.1 he
    rw [Bool.and_eq_true] at h2
    exact ⟨h2.2,e,List.mem_append_right _ h1,rfl⟩
def smC (a b : Auto) (cap : Int) (c : Cfg) : Prop := fitsB a b cap c.a c.b c.toA c.toB = true ∧ (∀ z ∈ c.toA,z ≤ 2) ∧ ∀ z ∈ c.toB,z ≤ 2
theorem chan_ok {l : List Int} {cap : Int} (h : chanB l cap = true) : (l.length : Int) ≤ cap ∧ ∀ z ∈ l,1 ≤ z := by
  unfold chanB at h
  rw [Bool.and_eq_true,decide_eq_true_eq,Bool.not_eq_true'] at h
  refine ⟨h.1,fun z hz => ?_⟩
  have := h.2
  rw [List.any_eq_false] at this
  have := this z hz
  unfold badL at this
  simp at this
  omega
theorem smC_small {l : List Int} {cap : Int} (h : chanB l cap = true) (h2 : ∀ z ∈ l,z ≤ 2) : l.all smallI = true := by
  rw [List.all_eq_true]
  intro z hz
  have h3 := (chan_ok h).2 z hz
  have h4 := h2 z hz
  simp only [smallI,Bool.and_eq_true,decide_eq_true_eq]
  omega
theorem smC_runs {a b : Auto} {cap : Int} (hs : sysErr a b cap = 0) (hl : ∀ e ∈ a.edges ++ b.edges,e.label ≤ 2) : Runs29 a b cap (smC a b cap) := by
  obtain ⟨ga,gb,hc1,hc2⟩ := sys_good hs
  refine ⟨⟨?_,by simp,by simp⟩,?_,?_,?_⟩
  · rw [fitsB_iff]
    refine ⟨hs,ga.st,gb.st,?_,?_⟩ <;> simp [chanB] <;> omega
  · intro c hc x hx
    obtain ⟨mv,hmv,rfl⟩ := List.mem_map.1 hx
    obtain ⟨h1,e,he,h2⟩ := movesC_mem hmv
    obtain ⟨h3,h4⟩ := after_lab (P := fun z => z ≤ 2) (a := a) (b := b) (cap := cap) (x := c.a) (y := c.b) (mv := mv) hc.2.1 hc.2.2 (by rw [h2]; exact hl e he)
    exact ⟨fits_after hc.1 h1,h3,h4⟩
  · intro c hc
    obtain ⟨h1,h2,h3⟩ := hc
    obtain ⟨_,h4,h5,h6,h7⟩ := fitsB_iff.1 h1
    have m1 := ga.mx
    have m2 := gb.mx
    have q1 := (chan_ok h6).1
    have q2 := (chan_ok h7).1
    refine ⟨?_,?_,smC_small h6 h2,smC_small h7 h3,by omega,by omega⟩
    · simp only [smallI,Bool.and_eq_true,decide_eq_true_eq]
      omega
    · simp only [smallI,Bool.and_eq_true,decide_eq_true_eq]
      omega
  · intro c _
    exact movesC_asc ga.asc gb.asc
def chans : List (List Int) := [[],[1],[2],[1,1],[1,2],[2,1],[2,2]]
theorem chans_mem {l : List Int} {cap : Int} (h : chanB l cap = true) (h2 : ∀ z ∈ l,z ≤ 2) (hc : cap ≤ 2) : l ∈ chans := by
  obtain ⟨h3,h4⟩ := chan_ok h
  match l,h2,h3,h4 with
  | [],_,_,_ => simp [chans]
  | [x],h2,_,h4 =>
    have a1 := h2 x (by simp)
    have a2 := h4 x (by simp)
    obtain rfl | rfl : x = 1 ∨ x = 2 := by omega
    all_goals simp [chans]
  | [x,y],h2,_,h4 =>
    have a1 := h2 x (by simp)
    have a2 := h4 x (by simp)
    have b1 := h2 y (by simp)
    have b2 := h4 y (by simp)
    obtain rfl | rfl : x = 1 ∨ x = 2 := by omega
    all_goals
      obtain rfl | rfl : y = 1 ∨ y = 2 := by omega
      all_goals simp [chans]
  | x :: y :: z :: r,_,h3,_ =>
    simp only [List.length_cons] at h3
    omega
def cfgU : List Cfg := [(0 : Int),1,2].flatMap fun a => [(0 : Int),1,2].flatMap fun b => chans.flatMap fun l => chans.map fun m => ⟨a,b,l,m⟩
theorem cfgU_mem {c : Cfg} (h1 : 0 ≤ c.a ∧ c.a < 3) (h2 : 0 ≤ c.b ∧ c.b < 3) (h3 : c.toA ∈ chans) (h4 : c.toB ∈ chans) : c ∈ cfgU := by
  obtain ⟨a,b,l,m⟩ := c
  simp only at h1 h2 h3 h4
  unfold cfgU
  rw [List.mem_flatMap]
  refine ⟨a,?_,?_⟩
  · obtain rfl | rfl | rfl : a = 0 ∨ a = 1 ∨ a = 2 := by omega
    all_goals simp
  rw [List.mem_flatMap]
  refine ⟨b,?_,?_⟩
  · obtain rfl | rfl | rfl : b = 0 ∨ b = 1 ∨ b = 2 := by omega
    all_goals simp
  rw [List.mem_flatMap]
  exact ⟨l,h3,List.mem_map.2 ⟨m,h4,rfl⟩⟩
end Go.Pv
namespace Go.Pv
def mvC (a b : Auto) (cap : Int) (c : Cfg) : List (Mov × Cfg) := (movesC a b cap c.a c.b c.toA c.toB).map fun m => (m,(afterC a b cap c.a c.b c.toA c.toB m).1)
theorem mvC_suc (a b : Auto) (cap : Int) (c : Cfg) : sucOf (mvC a b cap) c = sucC a b cap c := by simp [sucOf,mvC,sucC]
def posZ (out : List Nd) (c : Cfg) : Int := ((out.findIdx? fun y => decide (y.c = c)).getD 0 : Nat)
def NextOk (mv : Cfg → List (Mov × Cfg)) (out : List Nd) (x : Nd) (l : List Int) : Prop := l.length = (sucOf mv x.c).length ∧ ∀ (k : Nat) (c : Cfg),(sucOf mv x.c)[k]? = some c → ∃ (z : Nat) (y : Nd),l[k]? = some (z : Int) ∧ out[z]? = some y ∧ y.c = c
theorem NextOk.mono {mv : Cfg → List (Mov × Cfg)} {out out' : List Nd} {x : Nd} {l : List Int} (h : NextOk mv out x l) (hp : out <+: out') : NextOk mv out' x l :=
  ⟨h.1,fun k c hc => by
    obtain ⟨z,y,h1,h2,h3⟩ := h.2 k c hc
    exact ⟨z,y,h1,get_pre hp h2,h3⟩⟩
theorem pos_at {out : List Nd} (hn : (out.map Nod.c).Nodup) {z : Nat} {y : Nd} (hy : out[z]? = some y) : (out.findIdx? fun w => decide (w.c = y.c)) = some z := by
  have hz := (List.getElem?_eq_some_iff.1 hy).1
  have hyz := (List.getElem?_eq_some_iff.1 hy).2
  rw [List.findIdx?_eq_some_iff_getElem]
  refine ⟨hz,by rw [hyz]; simp,fun j hj => ?_⟩
  simp only [decide_eq_true_eq]
  intro e
  have h1 : (out.map Nod.c)[j]? = some y.c := by rw [List.getElem?_map,List.getElem?_eq_getElem (by omega)]; simp [e]
  have h2 : (out.map Nod.c)[z]? = some y.c := by rw [List.getElem?_map,hy]; rfl
  have := (List.getElem?_inj (by rw [List.length_map]; omega) hn).1 (h1.trans h2.symm)
  omega
theorem NextOk.eq {mv : Cfg → List (Mov × Cfg)} {out : List Nd} {x : Nd} {l : List Int} (h : NextOk mv out x l) (hn : (out.map Nod.c).Nodup) : l = (sucOf mv x.c).map (posZ out) := by
  apply List.ext_getElem?
  intro k
  rw [List.getElem?_map]
  cases hc : (sucOf mv x.c)[k]? with
  | none =>
    have := List.getElem?_eq_none_iff.1 hc
    rw [List.getElem?_eq_none (by rw [h.1]; exact this)]
    rfl
  | some c =>
    obtain ⟨z,y,h1,h2,h3⟩ := h.2 k c hc
    rw [h1]
    simp only [Option.map_some,posZ]
    rw [← h3,pos_at hn h2]
    rfl
def RowR (rest : List Arr) (x : V) (l : List Int) : Prop := (x = .tl [] ∧ l = []) ∨ ∃ id ver,x = .own (id + 3) ver 0 l.length ∧ rest[id]? = some ⟨ver,1,.inl (ints l)⟩ ∧ l ≠ []
def NxR (rest : List Arr) (x : V) (ls : List (List Int)) : Prop := (x = .tl [] ∧ ls = []) ∨ ∃ id ver xs,x = .own (id + 3) ver 0 ls.length ∧ rest[id]? = some ⟨ver,1,.inr (rowsV xs)⟩ ∧ xs.length = ls.length ∧ ls ≠ [] ∧ ∀ (j : Nat) (y : V) (l : List Int),xs[j]? = some y → ls[j]? = some l → RowR rest y l
def mvRows (ms : List (List Mov)) : List (List PV) := ms.map fun l => [.lst 0 (mvs3 l)]
def MvR (rest : List Arr) (x : V) (ms : List (List Mov)) : Prop := (x = .tl [] ∧ ms = []) ∨ ∃ id ver,x = .own (id + 3) ver 0 ms.length ∧ rest[id]? = some ⟨ver,1,.inl (mvRows ms)⟩ ∧ ms ≠ []
def NotInts (b : Arr) : Prop := ∀ (ver : Nat) (l : List Int),l ≠ [] → b ≠ ⟨ver,1,.inl (ints l)⟩
theorem notInts_inr (v k : Nat) (r : List (List V)) : NotInts ⟨v,k,.inr r⟩ := fun ver l _ e => by
  injection e with _ _ e
  cases e
theorem notInts_mv (v k : Nat) {ms : List (List Mov)} (hm : ms ≠ []) : NotInts ⟨v,k,.inl (mvRows ms)⟩ := fun ver l hl e => by
  obtain ⟨z,l',rfl⟩ := List.exists_cons_of_ne_nil hl
  obtain ⟨m,ms',rfl⟩ := List.exists_cons_of_ne_nil hm
  injection e with _ _ e
  simp [mvRows,ints] at e
theorem RowR.push {rest : List Arr} {x : V} {l : List Int} (h : RowR rest x l) (r : List Arr) : RowR (rest ++ r) x l := by
  rcases h with h | ⟨id,ver,h1,h2,h3⟩
  · exact .inl h
  · exact .inr ⟨id,ver,h1,by rw [List.getElem?_append_left (List.getElem?_eq_some_iff.1 h2).1]; exact h2,h3⟩
theorem RowR.set {rest : List Arr} {x : V} {l : List Int} (h : RowR rest x l) {j : Nat} {b b' : Arr} (hb : rest[j]? = some b) (hn : NotInts b) : RowR (rest.set j b') x l := by
  rcases h with h | ⟨id,ver,h1,h2,h3⟩
  · exact .inl h
  · refine .inr ⟨id,ver,h1,?_,h3⟩
    rw [List.getElem?_set_ne]
    · exact h2
    · intro e
      subst e
      rw [hb] at h2
      cases h2
      exact hn ver l h3 rfl
structure SpR (mv : Cfg → List (Mov × Cfg)) (out : List Nd) (i : Nat) (rest : List Arr) (mV nV : V) (ls : List (List Int)) : Prop where
  mr : MvR rest mV ((out.take i).map fun x => (mv x.c).map (·.1))
  nr : NxR rest nV ls
  ll : ls.length = i
  ok : ∀ (j : Nat) (x : Nd) (l : List Int),out[j]? = some x → ls[j]? = some l → NextOk mv out x l
theorem SpR.flat {mv : Cfg → List (Mov × Cfg)} {out : List Nd} {i : Nat} {rest : List Arr} {mV nV : V} {ls : List (List Int)} (h : SpR mv out i rest mV nV ls) (hi : i ≤ out.length) : Flat2 mV nV := by
  have hl : ((out.take i).map fun x => (mv x.c).map (·.1)).length = i := by rw [List.length_map,List.length_take]; omega
  rcases h.mr with ⟨h1,h2⟩ | ⟨id,ver,h1,_,h2⟩
  · have h0 : i = 0 := by rw [← hl,h2]; rfl
    rcases h.nr with ⟨h3,h4⟩ | ⟨_,_,_,_,_,_,h4,_⟩
    · exact .inl ⟨h1,h3⟩
    · exact (h4 (List.eq_nil_of_length_eq_zero (by rw [h.ll,h0]))).elim
  · have h0 : i ≠ 0 := fun e => h2 (List.eq_nil_of_length_eq_zero (by rw [hl,e]))
    rcases h.nr with ⟨h3,h4⟩ | ⟨id',ver',xs,h3,_,_,_,_⟩
    · exact (h0 (by rw [← h.ll,h4]; rfl)).elim
    · exact .inr ⟨_,_,_,_,_,_,h1,h3⟩
structure Sp30 (a b : Auto) (cap : Int) (p : Cfg → Prop) : Prop where
  nx : ∀ c,p c → ∀ x ∈ sucC a b cap c,p x
  ok : ∀ c,p c → c.ok
  fit : ∀ c,p c → fitsB a b cap c.a c.b c.toA c.toB = true
set_option maxHeartbeats 1000000 in
theorem r257 (x y : Int) (l m : List Int) (hl : l.length ≤ 2147483648) (hm : m.length ≤ 2147483648) : res A PrA 257 [.agg [.int .i64 x,.int .i64 y,.lst 0 (ints l),.lst 0 (ints m)]] = some [cfgP ⟨x,y,l,m⟩] := by
  refine res_of a257 rfl rfl ?_
  simp only [F257]
  rcases cloneIntsT hl 0 (by omega) with ⟨rfl,h1⟩ | ⟨h0,h1⟩ <;> rcases cloneIntsT hm 0 (by omega) with ⟨rfl,h2⟩ | ⟨g0,h2⟩
  · simp (disch := omega) only [go_sem,h1,ints_nil]
  · simp (disch := omega) only [go_sem,h1,h2,ints_nil,List.take_length]
  · simp (disch := omega) only [go_sem,h1,h2,ints_nil,List.take_length]
  · simp (disch := omega) only [go_sem,h1,h2,List.take_length]
def spc (a b : Auto) (cap : Int) (out : List Nd) : List PV := [.int .i64 a.states,.int .i64 a.start,.lst 0 (a.edges.map Edge.c),.int .i64 b.states,.int .i64 b.start,.lst 0 (b.edges.map Edge.c),.int .i64 cap,.lst 0 (cfgs (out.map Nod.c)),.lst 0 (mvRows (out.map fun x => movesC a b cap x.c.a x.c.b x.c.toA x.c.toB)),.lst 0 (lls (out.map fun x => (sucC a b cap x.c).map (posZ out))),.lst 0 (ints (out.map Nod.bef)),.lst 0 (mvs3 (out.map Nd.mv))]
theorem idx_dec {out : List Nd} {c : Cfg} (ho : ∀ x ∈ out,x.c.ok) (hc : c.ok) : ((keysN out).findIdx? fun s => decide (s = c.keyB)) = out.findIdx? fun x => decide (x.c = c) := by
  unfold keysN
  rw [List.findIdx?_map]
  induction out with
  | nil => rfl
  | cons x out ih =>
    have hx := ho x (List.mem_cons_self ..)
    have e : decide (x.c.keyB = c.keyB) = decide (x.c = c) := by
      by_cases h : x.c = c
      · simp [h]
      · simp only [h,decide_false,decide_eq_false_iff_not]
        exact fun e => h (keyB_inj hx hc e)
    simp only [List.findIdx?_cons,Function.comp_apply,e]
    split
    · rfl
    · have := ih (fun y hy => ho y (List.mem_cons_of_mem _ hy))
      rw [this]
theorem addDs_snoc {lim : Nat} : ∀ {l out : List Nd} {x : Nd},addDs lim out (l ++ [x]) = (addDs lim out l).bind fun o => if lim < (addD o x).length then none else some (addD o x)
  | [],out,x => by simp [addDs]
  | y :: l,out,x => by
    rw [List.cons_append]
    unfold addDs
    split
    · rfl
    · exact addDs_snoc
theorem addDs_none {lim : Nat} {out : List Nd} : ∀ {l : List Nd} (k : Nat),addDs lim out (l.take k) = none → addDs lim out l = none := by
  intro l k h
  have key : ∀ (l1 l2 : List Nd) (out : List Nd),addDs lim out l1 = none → addDs lim out (l1 ++ l2) = none := by
    intro l1
    induction l1 with
    | nil => intro l2 out h; cases h
    | cons c l1 ih =>
      intro l2 out h
      rw [List.cons_append]
      unfold addDs at h ⊢
      split
      · rfl
      · rename_i hc
        rw [if_neg hc] at h
        exact ih l2 _ h
  have := key (l.take k) (l.drop k) out h
  rwa [List.take_append_drop] at this
theorem addDs_some {lim : Nat} : ∀ {l out out' : List Nd},addDs lim out l = some out' → out <+: out' ∧ (∀ x,x ∈ out' → x ∈ out ∨ x ∈ l) ∧ (out.length ≤ lim → out'.length ≤ lim)
  | [],out,out',h => by
    cases h
    exact ⟨List.prefix_refl _,fun x hx => .inl hx,id⟩
  | c :: l,out,out',h => by
    unfold addDs at h
    split at h
    · cases h
    · rename_i hl
      obtain ⟨h1,h2,h4⟩ := addDs_some h
      refine ⟨addD_pre.trans h1,fun x hx => ?_,fun _ => h4 (by omega)⟩
      rcases h2 x hx with hx | hx
      · unfold addD at hx
        split at hx
        · exact .inl hx
        · rcases List.mem_append.1 hx with hx | hx
          · exact .inl hx
          · rw [List.mem_singleton.1 hx]
            exact .inr (List.mem_cons_self ..)
      · exact .inr (List.mem_cons_of_mem _ hx)
theorem take_pre {out o : List Nd} (hp : out <+: o) {i : Nat} {x : Nd} (hx : out[i]? = some x) : o.take (i + 1) = out.take i ++ [x] := by
  obtain ⟨r,rfl⟩ := hp
  have hi := (List.getElem?_eq_some_iff.1 hx).1
  rw [List.take_append_of_le_length (by omega),List.take_add_one,hx]
  rfl
theorem SpR.next {mv : Cfg → List (Mov × Cfg)} {out o : List Nd} {i : Nat} {rest T : List Arr} {mV nV mV' nV' : V} {ls : List (List Int)} {x : Nd} {l : List Int} (h : SpR mv out i rest mV nV ls) (hp : out <+: o) (hx : out[i]? = some x)
    (hm : MvR T mV' ((out.take i).map (fun x => (mv x.c).map (·.1)) ++ [(mv x.c).map (·.1)])) (hn : NxR T nV' (ls ++ [l])) (ho : NextOk mv o x l) : SpR mv o (i + 1) T mV' nV' (ls ++ [l]) where
  mr := by rw [take_pre hp hx,List.map_append]; exact hm
  nr := hn
  ll := by rw [List.length_append,h.ll]; rfl
  ok := fun j z k hz hk => by
    rcases Nat.lt_or_ge j i with hj | hj
    · rw [List.getElem?_append_left (by rw [h.ll]; exact hj)] at hk
      have hjo : j < out.length := by have := (List.getElem?_eq_some_iff.1 hx).1; omega
      have hzo : out[j]? = some z := by
        have h1 := List.getElem?_eq_getElem hjo
        have h2 := get_pre hp h1
        rw [hz] at h2
        rw [h1,h2]
      exact (h.ok j z k hzo hk).mono hp
    · have hj2 : j < i + 1 := by have := (List.getElem?_eq_some_iff.1 hk).1; rw [List.length_append,h.ll] at this; exact this
      obtain rfl : j = i := by omega
      rw [List.getElem?_append_right (by rw [h.ll]; exact Nat.le_refl _),h.ll,Nat.sub_self] at hk
      cases hk
      rw [get_pre hp hx] at hz
      cases hz
      exact ho
theorem mvRows_snoc (ms : List (List Mov)) (m : List Mov) : mvRows ms ++ [[.lst 0 (mvs3 m)]] = mvRows (ms ++ [m]) := by simp [mvRows]
theorem rows_snoc {T : List Arr} {xs : List V} {ls : List (List Int)} {y : V} {l : List Int} (hl : xs.length = ls.length) (h : ∀ (j : Nat) (z : V) (k : List Int),xs[j]? = some z → ls[j]? = some k → RowR T z k) (hy : RowR T y l) : ∀ (j : Nat) (z : V) (k : List Int),(xs ++ [y])[j]? = some z → (ls ++ [l])[j]? = some k → RowR T z k := fun j z k hz hk => by
  rcases Nat.lt_or_ge j ls.length with hj | hj
  · rw [List.getElem?_append_left (by omega)] at hz hk
    exact h j z k hz hk
  · rw [List.getElem?_append_right (by omega)] at hz hk
    have : j - ls.length = 0 := by have := (List.getElem?_eq_some_iff.1 hk).1; simpa using this
    rw [hl,this] at hz
    rw [this] at hk
    cases hz
    cases hk
    exact hy
theorem notInts_dead : NotInts ⟨0,0,.inl []⟩ := fun ver l _ e => by
  injection e with _ e _
  cases e
theorem MvR.keep {rest : List Arr} {x : V} {ms : List (List Mov)} (h : MvR rest x ms) (bx : List (Nat × List V)) (mp : List (List (PV × PV))) (A1 A2 A3 : Arr) (d : Nat) : keepc ⟨bx,A1 :: A2 :: A3 :: rest,mp⟩ (d + 1) x = some (.lst 0 (mvRows ms)) := by
  rcases h with ⟨rfl,rfl⟩ | ⟨id,ver,rfl,h2,_⟩
  · rfl
  · have e : (mvRows ms).length = ms.length := by simp [mvRows]
    simp [keepc_own,ownArr,h2,keepRows,cutRows,List.take_of_length_le (Nat.le_of_eq e)]
theorem RowR.keep {rest : List Arr} {x : V} {l : List Int} (h : RowR rest x l) (bx : List (Nat × List V)) (mp : List (List (PV × PV))) (A1 A2 A3 : Arr) (d : Nat) : keepc ⟨bx,A1 :: A2 :: A3 :: rest,mp⟩ (d + 1) x = some (.lst 0 (ints l)) := by
  rcases h with ⟨rfl,rfl⟩ | ⟨id,ver,rfl,h2,_⟩
  · rfl
  · have e : (ints l).length = l.length := ints_length l
    simp [keepc_own,ownArr,h2,keepRows,cutRows,List.take_of_length_le (Nat.le_of_eq e)]
theorem NxR.keep {rest : List Arr} {x : V} {ls : List (List Int)} (h : NxR rest x ls) (bx : List (Nat × List V)) (mp : List (List (PV × PV))) (A1 A2 A3 : Arr) (d : Nat) : keepc ⟨bx,A1 :: A2 :: A3 :: rest,mp⟩ (d + 2) x = some (.lst 0 (lls ls)) := by
  have key : ∀ (xs : List V) (s : List (List Int)),xs.length = s.length → (∀ (v : Nat) (x : V) (l : List Int),xs[v]? = some x → s[v]? = some l → RowR rest x l) → mapO (mapO (keepc ⟨bx,A1 :: A2 :: A3 :: rest,mp⟩ (d + 1))) (rowsV xs) = some (lls s) := by
    intro xs
    induction xs with
    | nil =>
      intro s hl _
      have : s = [] := List.eq_nil_of_length_eq_zero hl.symm
      subst this
      rfl
    | cons x xs ih =>
      intro s hl ho
      match s,hl with
      | l :: s,hl =>
        have h1 := (ho 0 x l rfl rfl).keep bx mp A1 A2 A3 d
        have h2 := ih s (by simpa using hl) fun v y m hy hm => ho (v + 1) y m (by simpa using hy) (by simpa using hm)
        show mapO (mapO (keepc ⟨bx,A1 :: A2 :: A3 :: rest,mp⟩ (d + 1))) ([x] :: rowsV xs) = some ([.lst 0 (ints l)] :: lls s)
        simp only [mapO,h1,h2]
  rcases h with ⟨rfl,rfl⟩ | ⟨id,ver,xs,rfl,h2,h3,_,h5⟩
  · rfl
  · have e : (rowsV xs).length = ls.length := by simp [rowsV,h3]
    have hk := key xs ls h3 h5
    simp [keepc_own,ownArr,h2,keepRows,cutRows,List.take_of_length_le (Nat.le_of_eq e),hk]
theorem beq_no {a b : Nat} (h : a ≠ b) : (a == b) = false := by simpa using h
theorem litAt_pv (h : Heap) (id : Nat) (r : List (List PV)) : litAtV h id 1 1 [.pv (.lst 0 r)] = some (.tl [[.lst 0 r]],{}) := by
  simp [litAtV,mkRows,chop,mapO,V.purec,PV.perm]
theorem litAt_row {h : Heap} {id : Nat} {y : V} (hy : y = .tl [] ∨ ∃ a b c d,y = .own a b c d) (hd : h.ar[id]? = some ⟨0,0,.inl []⟩) : litAtV h id 1 1 [y] = some (.own id 1 0 1,{ ar := some (id,⟨1,1,.inr (rowsV [y])⟩) }) := by
  rcases hy with rfl | ⟨a,b,c,d,rfl⟩ <;> simp [litAtV,mkRows,chop,mapO,V.purec,hd,V.calm,rowsV]
theorem appAt_tl {h : Heap} {id : Nat} {r : List PV} (hr : r.length = 1) (hd : h.ar[id]? = some ⟨0,0,.inl []⟩) : appendAt h id 1 (.tl []) (.tl [r]) = some (.own id 1 0 1,{ ar := some (id,⟨1,1,.inl [r]⟩) }) := by
  simp [appendAt,srcRows,rowsFit,rowsLen,hd,hr,catRows,mostRows]
theorem appAt_own {h : Heap} {id i ver len : Nat} {rows : List (List PV)} {r : List PV} (ho : ownArr h i ver = some ⟨ver,1,.inl rows⟩) (hl : rows.length = len) (hr : r.length = 1) (hm : len + 1 ≤ 2147483648) : appendAt h id 1 (.own i ver 0 len) (.tl [r]) = some (.own i (ver + 1) 0 (len + 1),{ ar := some (i,⟨ver + 1,1,.inl (rows ++ [r])⟩) }) := by
  have h2 : rows.take len = rows := List.take_of_length_le (by omega)
  simp [appendAt,appendV,srcRows,rowsFit,rowsLen,hr,ho,cutRows,catRows,mostRows,Arr.size,hl,h2,hm]
theorem appAt_tlR {h : Heap} {id lid : Nat} {y : V} (hl : ownArr h lid 1 = some ⟨1,1,.inr (rowsV [y])⟩) (hd : h.ar[id]? = some ⟨0,0,.inl []⟩) : appendAt h id 1 (.tl []) (.own lid 1 0 1) = some (.own id 1 0 1,{ ar := some (id,⟨1,1,.inr (rowsV [y])⟩),ra := some lid }) := by
  simp [appendAt,srcRows,hl,cutRows,rowsFit,rowsLen,catRows,mostRows,rowsV,hd]
theorem appAt_ownR {h : Heap} {id lid i ver m : Nat} {y : V} {xs : List V} (hl : ownArr h lid 1 = some ⟨1,1,.inr (rowsV [y])⟩) (ho : ownArr h i ver = some ⟨ver,1,.inr (rowsV xs)⟩) (hx : xs.length = m) (hm : m + 1 ≤ 2147483648) (hne : lid ≠ i) : appendAt h id 1 (.own i ver 0 m) (.own lid 1 0 1) = some (.own i (ver + 1) 0 (m + 1),{ ar := some (i,⟨ver + 1,1,.inr (rowsV (xs ++ [y]))⟩),ra := some lid }) := by
  have h1 : m ≤ (⟨ver,1,.inr (rowsV xs)⟩ : Arr).size := by simp [Arr.size,rowsV,hx]
  have h2 : (rowsV xs).take m = rowsV xs := List.take_of_length_le (by simp [rowsV,hx])
  have h3 : (rowsV [y]).take 1 = rowsV [y] := rfl
  simp [appendAt,appendV,srcRows,hl,ho,cutRows,rowsFit,rowsLen,catRows,mostRows,h1,hne,h2,h3]
  simp [rowsV]
  omega
set_option maxHeartbeats 16000000 in
theorem r253 (a b : Auto) (cap : Int) (c0 : Cfg) {p : Cfg → Prop} (hp : Sp30 a b cap p) (h0 : p c0) (ha : a.edges.length ≤ 1000000) (hb : b.edges.length ≤ 1000000) (hs : sysErr a b cap = 0) : res A PrA 253 [.agg [.int .i64 a.states,.int .i64 a.start,.lst 0 (a.edges.map Edge.c),.int .i64 b.states,.int .i64 b.start,.lst 0 (b.edges.map Edge.c),.int .i64 cap],.agg [.int .i64 c0.a,.int .i64 c0.b,.lst 0 (ints c0.toA),.lst 0 (ints c0.toB)]] = some (match nodL (mvC a b cap) 5000 5002 [nod0 c0] 0 with | some out => [.ro 0 (spc a b cap out),.int .i64 0] | none => [.nilp,.int .i64 3]) := by
  refine res_of a253 rfl rfl ?_
  simp only [F253]
  generalize hR : (match nodL (mvC a b cap) 5000 5002 [nod0 c0] 0 with | some out => [PV.ro 0 (spc a b cap out),.int .i64 0] | none => [.nilp,.int .i64 3]) = R
  have hok0 := hp.ok c0 h0
  obtain ⟨k1,k2,k3,k4,k5,k6⟩ := hok0
  have h257 := r257 c0.a c0.b c0.toA c0.toB (by omega) (by omega)
  simp (disch := omega) only [go_sem,h257]
  refine call0 (add0 a b cap c0 (-1) ⟨0,false,0⟩ (hp.ok c0 h0) _ fun env => back256 (.inl ⟨rfl,rfl⟩) ?_)
  simp only [cellsX]
  simp (disch := omega) only [go_sem]
  refine W.loop (α := List Nd × Nat × List Arr × V × V × List (List Int)) (fun q => ⟨[(2,.ptr 100002 0),(6,.ptr 100006 0),(8,.func 256 [.ptr 100007 0,.ptr 100006 0]),(9,.pv (.int .i64 q.2.1))],
      ⟨pinX [.pv (.int .i64 a.states),.pv (.int .i64 a.start),.pv (.lst 0 (a.edges.map Edge.c)),.pv (.int .i64 b.states),.pv (.int .i64 b.start),.pv (.lst 0 (b.edges.map Edge.c)),.pv (.int .i64 cap)] [.pv (.int .i64 c0.a),.pv (.int .i64 c0.b),.pv (.lst 0 (ints c0.toA)),.pv (.lst 0 (ints c0.toB))] (cellsX a b cap (.own 0 (q.1.length - 1) 0 (q.1.length - 1 + 1)) q.2.2.2.1 q.2.2.2.2.1 (.own 1 (q.1.length - 1) 0 (q.1.length - 1 + 1)) (.own 2 (q.1.length - 1) 0 (q.1.length - 1 + 1))),
        arX (q.1.length - 1) q.1 q.2.2.1,[idxM (keysN q.1)]⟩⟩)
    (fun q => (∀ x ∈ q.1,p x.c) ∧ 1 ≤ q.1.length ∧ q.1.length ≤ 5000 ∧ q.2.1 ≤ q.1.length ∧ (q.1.map Nod.c).Nodup ∧ nodL (mvC a b cap) 5000 5002 [nod0 c0] 0 = nodL (mvC a b cap) 5000 (5002 - q.2.1) q.1 q.2.1 ∧ SpR (mvC a b cap) q.1 q.2.1 q.2.2.1 q.2.2.2.1 q.2.2.2.2.1 q.2.2.2.2.2) (fun q => 5001 - q.2.1)
    ([nod0 c0],0,[],.tl [],.tl [],[]) rfl ⟨fun x hx => by rw [List.mem_singleton.1 hx]; exact h0,by simp,by simp,by simp,by simp,rfl,⟨.inl ⟨rfl,rfl⟩,.inl ⟨rfl,rfl⟩,rfl,fun j x l _ hl => by simp at hl⟩⟩ fun q hq => ?_
  obtain ⟨out,i,rest,mV,nV,ls⟩ := q
  obtain ⟨q1,q2,q3,q4,q5,q6,q7⟩ := hq
  simp only at q1 q2 q3 q4 q5 q6 q7 ⊢
  obtain ⟨m,hm⟩ : ∃ m,out.length = m + 1 := ⟨out.length - 1,by omega⟩
  have hfl := q7.flat q4
  rw [hm,Nat.add_sub_cancel]
  simp only [pinX,cellsX,arX]
  simp (disch := omega) only [go_sem]
  refine Br.ofP (fun c1 => ?_) (fun c1 => ?_)
  · obtain ⟨x,hx⟩ := get_at (l := out) (k := i) (by omega)
    have hpx := q1 x (List.mem_of_getElem? hx)
    obtain ⟨x1,x2,x3,x4,x5,x6⟩ := hp.ok _ hpx
    have hfit := hp.fit _ hpx
    have h171 := r171 a b cap x.c.a x.c.b x.c.toA x.c.toB (by omega) (by omega) (by omega) (by omega)
    rw [chkE_yes hs hfit,if_pos rfl] at h171
    have hcg : (cfgs (out.map Nod.c))[i]? = some [.int .i64 x.c.a,.int .i64 x.c.b,.lst 0 (ints x.c.toA),.lst 0 (ints x.c.toB)] := by rw [cfgs_get,List.getElem?_map,hx]; rfl
    have hml : (movesC a b cap x.c.a x.c.b x.c.toA x.c.toB).length ≤ 2000000 := by
      have h1 := mvsOf_len a b cap x.c.a x.c.b x.c.toA x.c.toB 0 x.c.a a.edges
      have h2 := mvsOf_len a b cap x.c.a x.c.b x.c.toA x.c.toB 1 x.c.b b.edges
      rw [movesC,List.length_append]
      omega
    have hmvs : mvC a b cap x.c = (movesC a b cap x.c.a x.c.b x.c.toA x.c.toB).map fun m => (m,(afterC a b cap x.c.a x.c.b x.c.toA x.c.toB m).1) := rfl
    have hafter : ∀ mv ∈ movesC a b cap x.c.a x.c.b x.c.toA x.c.toB,(afterC a b cap x.c.a x.c.b x.c.toA x.c.toB mv).2 = true := fun mv h => (movesC_mem h).1
    have h174 := fun mv => r174 a b cap x.c.a x.c.b x.c.toA x.c.toB mv (by omega) (by omega) (by omega) (by omega)
    have happ : ∀ mv ∈ movesC a b cap x.c.a x.c.b x.c.toA x.c.toB,applyC a b cap x.c.a x.c.b x.c.toA x.c.toB mv = [cfgP (afterC a b cap x.c.a x.c.b x.c.toA x.c.toB mv).1,.int .i64 0] := fun mv h => by
      unfold applyC
      rw [if_pos (chkE_yes hs hfit),if_pos (hafter mv h)]
    simp (disch := omega) only [go_sem,hcg,h171]
    generalize hms : movesC a b cap x.c.a x.c.b x.c.toA x.c.toB = ms at *
    have hsl : (sucD (mvC a b cap) i x).length = ms.length := by simp [sucD,hmvs]
    refine W.loop (α := List Nd × Nat × List Int) (fun q => ⟨[(2,.ptr 100002 0),(6,.ptr 100006 0),(8,.func 256 [.ptr 100007 0,.ptr 100006 0]),(9,.pv (.int .i64 i)),(10,.pv (.lst 0 (mvs3 ms))),(12,grV (rest.length + 3) (ints q.2.2)),(51,.pv (.lst 0 (mvs3 ms))),(52,.pv (.int .i64 ms.length)),(53,.pv (.int .i64 q.2.1))],
      ⟨pinX [.pv (.int .i64 a.states),.pv (.int .i64 a.start),.pv (.lst 0 (a.edges.map Edge.c)),.pv (.int .i64 b.states),.pv (.int .i64 b.start),.pv (.lst 0 (b.edges.map Edge.c)),.pv (.int .i64 cap)] [.pv (.int .i64 c0.a),.pv (.int .i64 c0.b),.pv (.lst 0 (ints c0.toA)),.pv (.lst 0 (ints c0.toB))] (cellsX a b cap (.own 0 (q.1.length - 1) 0 (q.1.length - 1 + 1)) mV nV (.own 1 (q.1.length - 1) 0 (q.1.length - 1 + 1)) (.own 2 (q.1.length - 1) 0 (q.1.length - 1 + 1))),
        arX (q.1.length - 1) q.1 (rest ++ grA 1 (ints q.2.2)),[idxM (keysN q.1)]⟩⟩)
      (fun q => q.2.1 ≤ ms.length ∧ addDs 5000 out ((sucD (mvC a b cap) i x).take q.2.1) = some q.1 ∧ (q.1.map Nod.c).Nodup ∧ q.2.2.length = q.2.1 ∧ ∀ (j : Nat) (y : Nd),j < q.2.1 → (sucD (mvC a b cap) i x)[j]? = some y → ∃ (z : Nat) (w : Nd),q.2.2[j]? = some (z : Int) ∧ q.1[z]? = some w ∧ w.c = y.c) (fun q => ms.length - q.2.1)
      (out,0,[]) (by simp only [hm,Nat.add_sub_cancel,pinX,cellsX,arX,ints_nil,grV,grA,List.append_nil]; rfl) ⟨Nat.zero_le _,rfl,q5,rfl,fun j y hj => (Nat.not_lt_zero _ hj).elim⟩ fun q hq => ?_
    obtain ⟨o,k,l⟩ := q
    obtain ⟨y1,y2,y3,y4,y5⟩ := hq
    simp only at y1 y2 y3 y4 y5 ⊢
    obtain ⟨z1,z2,z3⟩ := addDs_some y2
    have z4 := z3 q3
    have z5 := z1.length_le
    obtain ⟨mo,hmo⟩ : ∃ mo,o.length = mo + 1 := ⟨o.length - 1,by omega⟩
    rw [hmo,Nat.add_sub_cancel]
    simp only [pinX,cellsX,arX]
    have hpo : ∀ y ∈ o,p y.c := fun y hy => (z2 y hy).elim (q1 y) fun hy => by
      obtain ⟨w,hw,rfl⟩ := List.mem_map.1 (List.mem_of_mem_take hy)
      exact hp.nx _ hpx _ (by rw [← mvC_suc]; exact List.mem_map.2 ⟨w,hw,rfl⟩)
    have ho : o[i]? = some x := get_pre z1 hx
    simp (disch := omega) only [go_sem]
    refine Br.ofP (fun c2 => ?_) (fun c2 => ?_)
    · obtain ⟨mv,hmv⟩ := get_at (l := ms) (k := k) (by omega)
      have hog : (cfgs (o.map Nod.c))[i]? = some [.int .i64 x.c.a,.int .i64 x.c.b,.lst 0 (ints x.c.toA),.lst 0 (ints x.c.toB)] := by rw [cfgs_get,List.getElem?_map,ho]; rfl
      have h174 := h174 mv
      rw [happ mv (List.mem_of_getElem? hmv)] at h174
      have hdg : (sucD (mvC a b cap) i x)[k]? = some ⟨(afterC a b cap x.c.a x.c.b x.c.toA x.c.toB mv).1,(i : Int),some mv,x.path ++ [mv]⟩ := by simp [sucD,hmvs,hmv]
      generalize (afterC a b cap x.c.a x.c.b x.c.toA x.c.toB mv).1 = d at *
      have hdp : p d := hp.nx _ hpx _ (by rw [← mvC_suc,← sucD_map (mvC a b cap) i x]; exact List.mem_map.2 ⟨_,List.mem_of_getElem? hdg,rfl⟩)
      have hdok := hp.ok _ hdp
      have hidx := idx_dec (fun y hy => hp.ok _ (hpo y hy)) hdok
      have hnext : addDs 5000 out ((sucD (mvC a b cap) i x).take (k + 1)) = if 5000 < (addD o ⟨d,(i : Int),some mv,x.path ++ [mv]⟩).length then none else some (addD o ⟨d,(i : Int),some mv,x.path ++ [mv]⟩) := by
        rw [List.take_add_one,hdg,Option.toList_some,addDs_snoc,y2]
        rfl
      have gr : ∀ bx mp A1 A2 A3 (z : Int),appendV ⟨bx,A1 :: A2 :: A3 :: (rest ++ grA 1 (ints l)),mp⟩ 1 (grV (rest.length + 3) (ints l)) (.tl [[.int .i64 z]]) = some (grV (rest.length + 3) (ints (l ++ [z])),grT (rest.length + 3) 1 (ints l) [.int .i64 z]) := fun bx mp A1 A2 A3 z => by
        have := grow bx mp (A1 :: A2 :: A3 :: rest) 1 (ints l) [.int .i64 z] rfl (by rw [ints_length]; omega)
        rw [ints_snoc] at this
        exact this
      have ga : ∀ bx mp A1 A2 A3 (z : Int),(grT (rest.length + 3) 1 (ints l) [.int .i64 z]).apply ⟨bx,A1 :: A2 :: A3 :: (rest ++ grA 1 (ints l)),mp⟩ = ⟨bx,A1 :: A2 :: A3 :: (rest ++ grA 1 (ints (l ++ [z]))),mp⟩ := fun bx mp A1 A2 A3 z => by
        have := grT_apply bx mp (A1 :: A2 :: A3 :: rest) 1 (ints l) [.int .i64 z]
        rw [ints_snoc] at this
        exact this
      simp (disch := omega) only [go_sem,hmv,hog,h174]
      cases hj : (o.findIdx? fun y => decide (y.c = d)) with
      | some z =>
        rw [hj] at hidx
        refine call256 hfl (add256 a b cap mo mV nV (rest ++ grA 1 (ints l)) o d i mv (x.path ++ [mv]) hdok _ hmo (by omega) (some z) hidx fun env => back256 hfl ?_)
        simp only [cellsX,arX]
        simp (disch := omega) only [go_sem,gr,ga]
        obtain ⟨hz,hzc,_⟩ := List.findIdx?_eq_some_iff_getElem.1 hj
        have hzo : o[z]? = some o[z] := List.getElem?_eq_getElem hz
        have hzd : (o[z]).c = d := by simpa using hzc
        have hin : addD o ⟨d,(i : Int),some mv,x.path ++ [mv]⟩ = o := if_pos (List.mem_map.2 ⟨_,List.mem_of_getElem? hzo,hzd⟩)
        rw [hin,if_neg (by omega)] at hnext
        refine Br.ofP (fun c3 => by omega) (fun c3 => ?_)
        simp (disch := omega) only [go_sem]
        refine ⟨(o,k + 1,l ++ [(z : Int)]),⟨by dsimp only; omega,hnext,y3,by simp [y4],fun j y hj hy => ?_⟩,by dsimp only; omega,by simp only [hmo,Nat.add_sub_cancel]; rfl⟩
        dsimp only at hj ⊢
        rcases Nat.lt_or_ge j k with hjk | hjk
        · obtain ⟨z',w,e1,e2,e3⟩ := y5 j y hjk hy
          exact ⟨z',w,by rw [List.getElem?_append_left (by omega)]; exact e1,e2,e3⟩
        · obtain rfl : j = k := by omega
          rw [hdg] at hy
          cases hy
          exact ⟨z,_,by rw [List.getElem?_append_right (by omega),y4]; simp,hzo,hzd⟩
      | none =>
        rw [hj] at hidx
        refine call256 hfl (add256 a b cap mo mV nV (rest ++ grA 1 (ints l)) o d i mv (x.path ++ [mv]) hdok _ hmo (by omega) none hidx fun env => back256 hfl ?_)
        simp only [cellsX,arX]
        simp (disch := omega) only [go_sem,gr,ga]
        have hnd : d ∉ o.map Nod.c := fun hm' => by
          obtain ⟨w,hw,hwd⟩ := List.mem_map.1 hm'
          have := List.findIdx?_eq_none_iff.1 hj w hw
          simp [hwd] at this
        have hin : addD o ⟨d,(i : Int),some mv,x.path ++ [mv]⟩ = o ++ [⟨d,(i : Int),some mv,x.path ++ [mv]⟩] := if_neg hnd
        have hlen : (o ++ [(⟨d,(i : Int),some mv,x.path ++ [mv]⟩ : Nd)]).length = mo + 1 + 1 := by simp [hmo]
        rw [hin,hlen] at hnext
        refine Br.ofP (fun c3 => ?_) (fun c3 => ?_)
        · rw [if_pos (by omega)] at hnext
          have hno : nodL (mvC a b cap) 5000 5002 [nod0 c0] 0 = none := by
            rw [q6,show 5002 - i = (5001 - i) + 1 by omega]
            unfold nodL
            rw [hx]
            simp only
            rw [addDs_none (k + 1) hnext]
          rw [hno] at hR
          simp (disch := omega) only [go_sem]
          rw [← hR]
        · rw [if_neg (by omega)] at hnext
          simp (disch := omega) only [go_sem]
          refine ⟨(o ++ [⟨d,(i : Int),some mv,x.path ++ [mv]⟩],k + 1,l ++ [((mo + 1 : Nat) : Int)]),⟨by dsimp only; omega,hnext,?_,by simp [y4],fun j y hj hy => ?_⟩,by dsimp only; omega,by simp only [hlen,Nat.add_sub_cancel]; rfl⟩
          · dsimp only
            rw [List.map_append,List.nodup_append]
            exact ⟨y3,by simp,fun a' ha' b' hb' => by
              simp only [List.map_cons,List.map_nil,List.mem_singleton] at hb'
              rw [hb']
              exact fun e => hnd (e ▸ ha')⟩
          · dsimp only at hj ⊢
            rcases Nat.lt_or_ge j k with hjk | hjk
            · obtain ⟨z',w,e1,e2,e3⟩ := y5 j y hjk hy
              exact ⟨z',w,by rw [List.getElem?_append_left (by omega)]; exact e1,get_pre (List.prefix_append _ _) e2,e3⟩
            · obtain rfl : j = k := by omega
              rw [hdg] at hy
              cases hy
              exact ⟨mo + 1,_,by rw [List.getElem?_append_right (by omega),y4]; simp,by rw [List.getElem?_append_right (by omega),hmo]; simp,rfl⟩
    · obtain rfl : k = ms.length := by omega
      have hyf : grV (rest.length + 3) (ints l) = .tl [] ∨ ∃ a b c d,grV (rest.length + 3) (ints l) = .own a b c d := by
        cases l with
        | nil => exact .inl rfl
        | cons z l => exact .inr ⟨_,_,_,_,rfl⟩
      have hRow : RowR (rest ++ grA 1 (ints l)) (grV (rest.length + 3) (ints l)) l := by
        cases l with
        | nil => exact .inl ⟨rfl,rfl⟩
        | cons z l =>
          refine .inr ⟨rest.length,l.length,?_,?_,by simp⟩
          · simp [ints,grV]
          · simp [ints,grA]
      have hstep : nodL (mvC a b cap) 5000 5002 [nod0 c0] 0 = nodL (mvC a b cap) 5000 (5002 - (i + 1)) o (i + 1) := by
        rw [q6,show 5002 - i = (5002 - (i + 1)) + 1 by omega,nodL,hx]
        simp only
        rw [List.take_of_length_le (by omega)] at y2
        rw [y2]
      have hmsm : (mvC a b cap x.c).map (·.1) = ms := by simp [hmvs,Function.comp_def]
      have hnok : NextOk (mvC a b cap) o x l := ⟨by rw [y4,← sucD_map (mvC a b cap) i x,List.length_map,hsl],fun j c hc => by
        rw [← sucD_map (mvC a b cap) i x,List.getElem?_map] at hc
        obtain ⟨y,hy,rfl⟩ := Option.map_eq_some_iff.1 hc
        exact y5 j y (by rw [← hsl]; exact (List.getElem?_eq_some_iff.1 hy).1) hy⟩
      simp (disch := omega) only [go_sem]
      rw [show rest.length + (grA 1 (ints l)).length = (rest ++ grA 1 (ints l)).length by simp]
      have hll := q7.ll
      have hsp := q7
      obtain ⟨R1,hR1⟩ : ∃ R1,R1 = rest ++ grA 1 (ints l) := ⟨_,rfl⟩
      rw [← hR1] at hRow ⊢
      generalize hy : grV (rest.length + 3) (ints l) = y at *
      have hys : y.sized = true := by rcases hyf with rfl | ⟨_,_,_,_,rfl⟩ <;> rfl
      have hyc : y.cells = [y] := by rcases hyf with rfl | ⟨_,_,_,_,rfl⟩ <;> rfl
      obtain ⟨n1,hn1⟩ : ∃ n1,R1.length = n1 := ⟨_,rfl⟩
      rw [hn1]
      obtain ⟨T0,hT0⟩ : ∃ T0,T0 = R1 ++ [(⟨0,0,.inl []⟩ : Arr),⟨0,0,.inl []⟩,⟨0,0,.inl []⟩,⟨0,0,.inl []⟩] := ⟨_,rfl⟩
      rw [← hT0]
      have t0 : T0[n1]? = some ⟨0,0,.inl []⟩ := by rw [hT0,← hn1]; simp
      have t1 : T0[n1 + 1]? = some ⟨0,0,.inl []⟩ := by rw [hT0,← hn1,List.getElem?_append_right (by omega)]; simp
      have t2 : T0[n1 + 2]? = some ⟨0,0,.inl []⟩ := by rw [hT0,← hn1,List.getElem?_append_right (by omega)]; simp
      have t3 : T0[n1 + 3]? = some ⟨0,0,.inl []⟩ := by rw [hT0,← hn1,List.getElem?_append_right (by omega)]; simp
      have tl0 : T0.length = n1 + 4 := by rw [hT0,← hn1]; simp
      have tr : ∀ (j : Nat) (b : Arr),rest[j]? = some b → T0[j]? = some b ∧ j < n1 := fun j b hb => by
        have := (List.getElem?_eq_some_iff.1 hb).1
        have hlt : j < R1.length := by rw [hR1,List.length_append]; omega
        refine ⟨?_,by omega⟩
        rw [hT0,List.getElem?_append_left hlt,hR1,List.getElem?_append_left this]
        exact hb
      rcases q7.nr with ⟨hnV,hls⟩ | ⟨nid,nver,xs,hnV,n2,n3,n4,n5⟩
      · obtain rfl : i = 0 := by rw [← hll,hls]; rfl
        obtain rfl : mV = .tl [] := by
          rcases q7.mr with ⟨h,_⟩ | ⟨_,_,_,_,h⟩
          · exact h
          · simp at h
        subst hnV
        have e96 : ∀ bx mp A1 A2 A3,appendAt ⟨bx,A1 :: A2 :: A3 :: T0,mp⟩ (n1 + 1 + 1 + 1 + 1) 1 (.tl []) (.tl [[.lst 0 (mvs3 ms)]]) = some (.own (n1 + 1 + 1 + 1 + 1) 1 0 1,{ ar := some (n1 + 1 + 1 + 1 + 1,⟨1,1,.inl [[.lst 0 (mvs3 ms)]]⟩) }) := fun bx mp A1 A2 A3 => appAt_tl rfl (by simpa using t1)
        have e102 : ∀ bx mp A1 A2 A3,litAtV ⟨bx,A1 :: A2 :: A3 :: T0.set (n1 + 1) ⟨1,1,.inl [[.lst 0 (mvs3 ms)]]⟩,mp⟩ (n1 + 1 + 1 + 1 + 1 + 1) 1 1 [y] = some (.own (n1 + 1 + 1 + 1 + 1 + 1) 1 0 1,{ ar := some (n1 + 1 + 1 + 1 + 1 + 1,⟨1,1,.inr (rowsV [y])⟩) }) := fun bx mp A1 A2 A3 => litAt_row hyf (by simpa [List.getElem?_set] using t2)
        have e103 : ∀ bx mp A1 A2 A3,appendAt ⟨bx,A1 :: A2 :: A3 :: (T0.set (n1 + 1) ⟨1,1,.inl [[.lst 0 (mvs3 ms)]]⟩).set (n1 + 1 + 1) ⟨1,1,.inr (rowsV [y])⟩,mp⟩ (n1 + 1 + 1 + 1 + 1 + 1 + 1) 1 (.tl []) (.own (n1 + 1 + 1 + 1 + 1 + 1) 1 0 1) = some (.own (n1 + 1 + 1 + 1 + 1 + 1 + 1) 1 0 1,{ ar := some (n1 + 1 + 1 + 1 + 1 + 1 + 1,⟨1,1,.inr (rowsV [y])⟩),ra := some (n1 + 1 + 1 + 1 + 1 + 1) }) := fun bx mp A1 A2 A3 => appAt_tlR (by simp [ownArr,tl0]) (by simpa [List.getElem?_set] using t3)
        simp (disch := omega) only [go_sem,litAt_pv,e96,e102,e103,hys,hyc,beq_no,Bool.not_false,Bool.and_self]
        refine ⟨(o,1,((T0.set (n1 + 1) ⟨1,1,.inl [[.lst 0 (mvs3 ms)]]⟩).set (n1 + 2) ⟨1,1,.inr (rowsV [y])⟩).set (n1 + 3) ⟨1,1,.inr (rowsV [y])⟩,.own (n1 + 1 + 3) 1 0 1,.own (n1 + 3 + 3) 1 0 1,ls ++ [l]),⟨hpo,by dsimp only; omega,z4,by dsimp only; omega,y3,?_,?_⟩,by dsimp only; omega,by simp only [hmo,Nat.add_sub_cancel]; rfl⟩
        · exact hstep
        · refine hsp.next z1 hx ?_ ?_ hnok
          · rw [hmsm]
            refine .inr ⟨n1 + 1,1,rfl,?_,by simp⟩
            simp [tl0,mvRows]
          · rw [hls]
            refine .inr ⟨n1 + 3,1,[y],rfl,?_,rfl,by simp,rows_snoc (xs := []) rfl (fun j z k hz => by simp at hz) ?_⟩
            · simp [tl0]
            · have w1 : RowR T0 y l := by rw [hT0]; exact hRow.push _
              have w2 := w1.set (b' := ⟨1,1,.inl [[.lst 0 (mvs3 ms)]]⟩) t1 notInts_dead
              have w3 := w2.set (j := n1 + 2) (b := ⟨0,0,.inl []⟩) (b' := ⟨1,1,.inr (rowsV [y])⟩) (by simpa [List.getElem?_set] using t2) notInts_dead
              exact w3.set (j := n1 + 3) (b := ⟨0,0,.inl []⟩) (by simpa [List.getElem?_set] using t3) notInts_dead
      · have hMl : ((out.take i).map fun x => (mvC a b cap x.c).map (·.1)).length = i := by rw [List.length_map,List.length_take]; omega
        have hi0 : i ≠ 0 := fun e => n4 (List.eq_nil_of_length_eq_zero (by rw [hll,e]))
        obtain ⟨mid,mver,hmV,m2,m3⟩ : ∃ id ver,mV = .own (id + 3) ver 0 i ∧ rest[id]? = some ⟨ver,1,.inl (mvRows ((out.take i).map fun x => (mvC a b cap x.c).map (·.1)))⟩ ∧ ((out.take i).map fun x => (mvC a b cap x.c).map (·.1)) ≠ [] := by
          rcases q7.mr with ⟨_,h⟩ | ⟨id,ver,h1,h2,h3⟩
          · exact (hi0 (by rw [← hMl,h]; rfl)).elim
          · rw [hMl] at h1
            exact ⟨id,ver,h1,h2,h3⟩
        generalize hM : ((out.take i).map fun x => (mvC a b cap x.c).map (·.1)) = M at *
        subst hmV
        rw [hll] at hnV
        subst hnV
        obtain ⟨g1,g2⟩ := tr _ _ m2
        obtain ⟨g3,g4⟩ := tr _ _ n2
        have hne : mid ≠ nid := fun e => by
          rw [e,g3] at g1
          cases g1
        have hrl : (mvRows M).length = i := by simp [mvRows,hMl]
        have hnl : nid < T0.length := by omega
        have hml2 : mid < T0.length := by omega
        have e96 : ∀ bx mp A1 A2 A3,appendAt ⟨bx,A1 :: A2 :: A3 :: T0,mp⟩ (n1 + 1 + 1 + 1 + 1) 1 (.own (mid + 3) mver 0 i) (.tl [[.lst 0 (mvs3 ms)]]) = some (.own (mid + 3) (mver + 1) 0 (i + 1),{ ar := some (mid + 3,⟨mver + 1,1,.inl (mvRows M ++ [[.lst 0 (mvs3 ms)]])⟩) }) := fun bx mp A1 A2 A3 => appAt_own (by simp [ownArr,g1]) hrl rfl (by omega)
        have e102 : ∀ bx mp A1 A2 A3,litAtV ⟨bx,A1 :: A2 :: A3 :: T0.set mid ⟨mver + 1,1,.inl (mvRows M ++ [[.lst 0 (mvs3 ms)]])⟩,mp⟩ (n1 + 1 + 1 + 1 + 1 + 1) 1 1 [y] = some (.own (n1 + 1 + 1 + 1 + 1 + 1) 1 0 1,{ ar := some (n1 + 1 + 1 + 1 + 1 + 1,⟨1,1,.inr (rowsV [y])⟩) }) := fun bx mp A1 A2 A3 => litAt_row hyf (by
          have : mid ≠ n1 + 2 := by omega
          simpa [List.getElem?_set,this] using t2)
        have g5 : ((T0.set mid ⟨mver + 1,1,.inl (mvRows M ++ [[.lst 0 (mvs3 ms)]])⟩).set (n1 + 2) ⟨1,1,.inr (rowsV [y])⟩)[nid]? = some ⟨nver,1,.inr (rowsV xs)⟩ := by
          have h1 : n1 + 2 ≠ nid := by omega
          simpa [List.getElem?_set,h1,hne] using g3
        have g6 : ((T0.set mid ⟨mver + 1,1,.inl (mvRows M ++ [[.lst 0 (mvs3 ms)]])⟩).set (n1 + 2) ⟨1,1,.inr (rowsV [y])⟩)[n1 + 2]? = some ⟨1,1,.inr (rowsV [y])⟩ := by simp [tl0]
        have e103 : ∀ bx mp A1 A2 A3,appendAt ⟨bx,A1 :: A2 :: A3 :: (T0.set mid ⟨mver + 1,1,.inl (mvRows M ++ [[.lst 0 (mvs3 ms)]])⟩).set (n1 + 1 + 1) ⟨1,1,.inr (rowsV [y])⟩,mp⟩ (n1 + 1 + 1 + 1 + 1 + 1 + 1) 1 (.own (nid + 3) nver 0 i) (.own (n1 + 1 + 1 + 1 + 1 + 1) 1 0 1) = some (.own (nid + 3) (nver + 1) 0 (i + 1),{ ar := some (nid + 3,⟨nver + 1,1,.inr (rowsV (xs ++ [y]))⟩),ra := some (n1 + 1 + 1 + 1 + 1 + 1) }) := fun bx mp A1 A2 A3 => appAt_ownR (by simp [ownArr,g6]) (by simp [ownArr,g5]) (by rw [n3,hll]) (by omega) (by omega)
        simp (disch := omega) only [go_sem,litAt_pv,e96,e102,e103,hys,hyc,beq_no,Bool.not_false,Bool.and_self]
        have lift : ∀ (z : V) (k : List Int),RowR T0 z k → RowR (((T0.set mid ⟨mver + 1,1,.inl (mvRows M ++ [[.lst 0 (mvs3 ms)]])⟩).set (n1 + 2) ⟨1,1,.inr (rowsV [y])⟩).set nid ⟨nver + 1,1,.inr (rowsV (xs ++ [y]))⟩) z k := fun z k hz => by
          have w2 := hz.set (b' := ⟨mver + 1,1,.inl (mvRows M ++ [[.lst 0 (mvs3 ms)]])⟩) g1 (notInts_mv _ _ m3)
          have w3 := w2.set (j := n1 + 2) (b := ⟨0,0,.inl []⟩) (b' := ⟨1,1,.inr (rowsV [y])⟩) (by
            have : mid ≠ n1 + 2 := by omega
            simpa [List.getElem?_set,this] using t2) notInts_dead
          exact w3.set g5 (notInts_inr _ _ _)
        refine ⟨(o,i + 1,((T0.set mid ⟨mver + 1,1,.inl (mvRows M ++ [[.lst 0 (mvs3 ms)]])⟩).set (n1 + 2) ⟨1,1,.inr (rowsV [y])⟩).set nid ⟨nver + 1,1,.inr (rowsV (xs ++ [y]))⟩,.own (mid + 3) (mver + 1) 0 (i + 1),.own (nid + 3) (nver + 1) 0 (i + 1),ls ++ [l]),⟨hpo,by dsimp only; omega,z4,by dsimp only; omega,y3,hstep,?_⟩,by dsimp only; omega,by simp only [hmo,Nat.add_sub_cancel]; rfl⟩
        refine hsp.next z1 hx ?_ ?_ hnok
        · rw [hmsm,hM]
          refine .inr ⟨mid,mver + 1,by rw [List.length_append,hMl]; rfl,?_,by simp⟩
          have h1 : n1 + 2 ≠ mid := by omega
          have h2 : nid ≠ mid := Ne.symm hne
          simp [h1,h2,hml2,mvRows_snoc]
        · refine .inr ⟨nid,nver + 1,xs ++ [y],by rw [List.length_append,hll]; rfl,?_,by simp [n3],by simp,rows_snoc n3 (fun j z k hz hk => lift z k ?_) (lift y l ?_)⟩
          · simp [hnl]
          · rw [hT0,hR1,List.append_assoc]
            exact (n5 j z k hz hk).push _
          · rw [hT0]
            exact hRow.push _
  · have hend : i = out.length := by omega
    subst hend
    have kM := fun bx mp A1 A2 A3 => q7.mr.keep bx mp A1 A2 A3 3
    have kN := fun bx mp A1 A2 A3 => q7.nr.keep bx mp A1 A2 A3 2
    have hsome : nodL (mvC a b cap) 5000 5002 [nod0 c0] 0 = some out := by
      rw [q6,show 5002 - out.length = (5001 - out.length) + 1 by omega,nodL,List.getElem?_eq_none (Nat.le_refl _)]
    have hls : ls = out.map fun x => (sucC a b cap x.c).map (posZ out) := by
      apply List.ext_getElem?
      intro j
      rw [List.getElem?_map]
      cases hj : out[j]? with
      | none =>
        have := List.getElem?_eq_none_iff.1 hj
        rw [List.getElem?_eq_none (by rw [q7.ll]; exact this)]
        rfl
      | some x =>
        have hlt := (List.getElem?_eq_some_iff.1 hj).1
        obtain ⟨l,hl⟩ := get_at (l := ls) (k := j) (by rw [q7.ll]; exact hlt)
        rw [hl,(q7.ok j x l hj hl).eq q5,mvC_suc]
        rfl
    rw [List.take_length] at kM
    have hmm : (out.map fun x => (mvC a b cap x.c).map (·.1)) = out.map fun x => movesC a b cap x.c.a x.c.b x.c.toA x.c.toB := by
      refine List.map_congr_left fun x _ => ?_
      simp [mvC,Function.comp_def]
    rw [hmm] at kM
    rw [hls] at kN
    rw [hsome] at hR
    have h1 : (cfgs (out.map Nod.c)).take (m + 1) = cfgs (out.map Nod.c) := List.take_of_length_le (by rw [cfgs_length,List.length_map,hm]; exact Nat.le_refl _)
    have h2 : (ints (out.map Nod.bef)).take (m + 1) = ints (out.map Nod.bef) := List.take_of_length_le (by rw [ints_length,List.length_map,hm]; exact Nat.le_refl _)
    have h3 : (mvs3 (out.map Nd.mv)).take (m + 1) = mvs3 (out.map Nd.mv) := List.take_of_length_le (by rw [mvs3_length,List.length_map,hm]; exact Nat.le_refl _)
    simp (disch := omega) only [go_sem,kM,kN,h1,h2,h3]
    rw [← hR]
    rfl
end Go.Pv
