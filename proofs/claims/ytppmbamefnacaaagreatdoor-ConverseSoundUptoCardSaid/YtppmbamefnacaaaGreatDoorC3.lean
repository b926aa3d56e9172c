/-
 What the functions of the law give.
-/
import Derived.Test.YtppmbamefnacaaaGreatDoorC2
namespace Go.Pv
def Cfg.c (c : Cfg) : List PV := [.int .i64 c.a,.int .i64 c.b,.lst 0 (ints c.toA),.lst 0 (ints c.toB)]
def cfgs (l : List Cfg) : List (List PV) := l.map Cfg.c
@[go_sem] theorem cfgs_length (l : List Cfg) : (cfgs l).length = l.length := List.length_map _
theorem cfgs_get (l : List Cfg) (i : Nat) : (cfgs l)[i]? = l[i]?.map Cfg.c := by simp [cfgs]
theorem cfgs_snoc (l : List Cfg) (c : Cfg) : cfgs l ++ [[.int .i64 c.a,.int .i64 c.b,.lst 0 (ints c.toA),.lst 0 (ints c.toB)]] = cfgs (l ++ [c]) := by simp [cfgs,Cfg.c]
def sucC (a b : Auto) (cap : Int) (c : Cfg) : List Cfg := (movesC a b cap c.a c.b c.toA c.toB).map fun m => (afterC a b cap c.a c.b c.toA c.toB m).1
structure Runs29 (a b : Auto) (cap : Int) (p : Cfg → Prop) : Prop where
 st : p ⟨a.start,b.start,[],[]⟩
 nx : ∀ c,p c → ∀ x ∈ sucC a b cap c,p x
 sm : ∀ c,p c → c.sm
 so : ∀ c,p c → (movesC a b cap c.a c.b c.toA c.toB).Pairwise (fun x y => Mov.lt x y = true)
theorem Runs29.ok {a b : Auto} {cap : Int} {p : Cfg → Prop} (h : Runs29 a b cap p) : ∀ c,p c → c.ok := fun c hc => (h.sm c hc).ok
def cfgStart (a b : Auto) : Cfg := ⟨a.start,b.start,[],[]⟩
theorem addUs_snoc {lim : Nat} : ∀ {l out : List Cfg} {c : Cfg},addUs lim out (l ++ [c]) = (addUs lim out l).bind fun o => if lim < (addU o c).length then none else some (addU o c)
 | [],out,c => by simp [addUs]
 | d :: l,out,c => by
  rw [List.cons_append]
  unfold addUs
  split
  ·rfl
  ·exact addUs_snoc
theorem addUs_none {lim : Nat} {out : List Cfg} : ∀ {l : List Cfg} (k : Nat),addUs lim out (l.take k) = none → addUs lim out l = none := by
 intro l k h
 have key : ∀ (l1 l2 : List Cfg) (out : List Cfg),addUs lim out l1 = none → addUs lim out (l1 ++ l2) = none := by
  intro l1
  induction l1 with
  | nil => intro l2 out h; cases h
  | cons c l1 ih =>
   intro l2 out h
   rw [List.cons_append]
   unfold addUs at h ⊢
   split
   ·rfl
   ·rename_i hc
    rw [if_neg hc] at h
    exact ih l2 _ h
 have := key (l.take k) (l.drop k) out h
 rwa [List.take_append_drop] at this
theorem cfgs_rows (l : List Cfg) : ∀ x ∈ cfgs l,x.length = 4 := by
 intro x hx
 obtain ⟨c,_,rfl⟩ := List.mem_map.1 hx
 rfl
end Go.Pv
namespace Go.Pv
open Go.Lib (itoa)
def txt (l : List UInt8) : ByteArray := ⟨l.toArray⟩
def itoaS (n : Int) : ByteArray := txt (itoa n)
theorem r194v {n : Int} (h : wideI n = true) (hp : Heap) : itoaP [.pv (.int .i64 n)] hp = some (.pv (.str (itoaS n)),{}) := by
 show (if wideI n = true then some (V.pv (PV.str ⟨(itoa n).toArray⟩),({} : Tn)) else none) = _
 rw [if_pos h]
 rfl
theorem bcat (a b : List UInt8) : txt a ++ txt b = txt (a ++ b) := by
 apply ByteArray.ext
 simp [txt]
theorem bsize (a : List UInt8) : (txt a).size = a.length := by simp [ByteArray.size,txt]
theorem addT (a b : List UInt8) (h : a.length + b.length ≤ 1099511627776) : binV .add (.pv (.str (txt a))) (.pv (.str (txt b))) = some (.pv (.str (txt (a ++ b)))) := by
 simp only [binV,strBin,bsize]
 rw [if_pos (by omega),bcat]
 rfl
theorem txt32 : (⟨#[32]⟩ : ByteArray) = txt [32] := rfl
theorem txt59 : (⟨#[59]⟩ : ByteArray) = txt [59] := rfl
theorem txt0 : (⟨#[]⟩ : ByteArray) = txt [] := rfl
theorem spN_len : ∀ {l : List Int},l.all wideI = true → (l.flatMap spN).length ≤ 22 * l.length
 | [],_ => by simp
 | x :: l,h => by
  rw [List.all_cons,Bool.and_eq_true] at h
  have := itoa_len h.1
  have := spN_len h.2
  simp only [List.flatMap_cons,List.length_append,List.length_cons,spN]
  omega
theorem all_take {l : List Int} {f : Int → Bool} (h : l.all f = true) (k : Nat) : (l.take k).all f = true := by
 rw [List.all_eq_true] at h ⊢
 exact fun x hx => h x (List.mem_of_mem_take hx)
theorem spN_snoc {l : List Int} {k : Nat} {x : Int} (h : l[k]? = some x) : (l.take (k + 1)).flatMap spN = (l.take k).flatMap spN ++ spN x := by
 rw [List.take_add_one,h,List.flatMap_append]
 simp
set_option maxHeartbeats 4000000 in
theorem r251 (t u : Nat) (a b : Int) (l m : List Int) (h : Cfg.ok ⟨a,b,l,m⟩) : res A PrA 251 [.agg [.int .i64 a,.int .i64 b,.lst t (ints l),.lst u (ints m)]] = some [.str (keyBS a b l m)] := by
 refine res_of a251 rfl rfl ?_
 simp only [F251]; try delta sS tT zZ nN gG bB pZ
 obtain ⟨h1,h2,h3,h4,h5,h6⟩ := h
 simp only at h1 h2 h3 h4 h5 h6
 have ha := fun hp => r194v (n := a) h1 hp
 have hb := fun hp => r194v (n := b) h2 hp
 have la := itoa_len h1
 have lb := itoa_len h2
 have e32 : ([32] : List UInt8).length = 1 := rfl
 have hl63 : l.length ≤ 2 ^ 63 - 1 := by omega
 have hm63 : m.length ≤ 2 ^ 63 - 1 := by omega
 simp (disch := first | omega | (simp only [List.length_append,List.length_cons,List.length_nil]; omega)) only [go_sem,ha,hb,txt32,txt59,txt0,itoaS,addT]
 refine W.upto l.length (fun k => ⟨[(1,.ptr 1 0),(3,.pv (.str (txt (itoa a ++ [32] ++ itoa b ++ (l.take k).flatMap spN)))),(17,.pv (.lst t (ints l))),(18,.pv (.int .i64 l.length)),(19,.pv (.int .i64 k))],⟨[(1,[.pv (.int .i64 a),.pv (.int .i64 b),.pv (.lst t (ints l)),.pv (.lst u (ints m))])],[],[]⟩⟩) (fun _ => True) (by simp) trivial fun k hk _ => ?_
 simp (disch := omega) only [go_sem]
 refine Br.ofP (fun c => ?_) (fun c => ?_)
 ·have hx := List.getElem?_eq_getElem (l := l) (i := k) (by omega)
  generalize l[k]'(by omega) = x at hx
  have hxw := List.all_eq_true.1 h3 x (List.mem_of_getElem? hx)
  have hx1 := fun hp => r194v (n := x) hxw hp
  have hs := spN_snoc hx
  have lk := spN_len (all_take h3 k)
  have lx := itoa_len hxw
  have lt : (l.take k).length ≤ l.length := by rw [List.length_take]; omega
  simp (disch := first | omega | (simp only [List.length_append,List.length_cons,List.length_nil]; omega)) only [go_sem,hx,hx1,itoaS,addT]
  refine .of (by omega) ?_ trivial
  rw [hs]
  simp [spN]
 obtain rfl : k = l.length := by omega
 clear hk c
 rw [List.take_length]
 have lk := spN_len h3
 simp (disch := first | omega | (simp only [List.length_append,List.length_cons,List.length_nil]; omega)) only [go_sem,addT]
 refine W.upto m.length (fun k => ⟨[(3,.pv (.str (txt (itoa a ++ [32] ++ itoa b ++ l.flatMap spN ++ [59] ++ (m.take k).flatMap spN)))),(32,.pv (.lst u (ints m))),(33,.pv (.int .i64 m.length)),(34,.pv (.int .i64 k))],⟨[],[],[]⟩⟩) (fun _ => True) (by simp) trivial fun k hk _ => ?_
 simp (disch := omega) only [go_sem]
 refine Br.ofP (fun c => ?_) (fun c => ?_)
 ·have hx := List.getElem?_eq_getElem (l := m) (i := k) (by omega)
  generalize m[k]'(by omega) = x at hx
  have hxw := List.all_eq_true.1 h4 x (List.mem_of_getElem? hx)
  have hx1 := fun hp => r194v (n := x) hxw hp
  have hs := spN_snoc hx
  have lk2 := spN_len (all_take h4 k)
  have lx := itoa_len hxw
  have lt : (m.take k).length ≤ m.length := by rw [List.length_take]; omega
  simp (disch := first | omega | (simp only [List.length_append,List.length_cons,List.length_nil]; omega)) only [go_sem,hx,hx1,itoaS,addT]
  refine .of (by omega) ?_ trivial
  rw [hs]
  simp [spN]
 obtain rfl : k = m.length := by omega
 rw [List.take_length]
 simp (disch := omega) only [go_sem]
 simp [keyBS,keyB,txt,spN]
end Go.Pv
namespace Go.Pv
structure Nod (α μ : Type) where
 c : α
 bef : Int
 by' : Option μ
 path : List μ
section
variable {α μ : Type} [DecidableEq α]
def addD (out : List (Nod α μ)) (x : Nod α μ) : List (Nod α μ) := if x.c ∈ out.map Nod.c then out else out ++ [x]
def addDs (lim : Nat) : List (Nod α μ) → List (Nod α μ) → Option (List (Nod α μ))
 | out,[] => some out
 | out,x :: l => if lim < (addD out x).length then none else addDs lim (addD out x) l
def sucD (mv : α → List (μ × α)) (i : Nat) (x : Nod α μ) : List (Nod α μ) := (mv x.c).map fun y => ⟨y.2,(i : Int),some y.1,x.path ++ [y.1]⟩
def nodL (mv : α → List (μ × α)) (lim : Nat) : Nat → List (Nod α μ) → Nat → Option (List (Nod α μ))
 | 0,_,_ => none
 | n + 1,out,i => match out[i]? with
  | none => some out
  | some x => match addDs lim out (sucD mv i x) with
   | none => none
   | some out' => nodL mv lim n out' (i + 1)
def sucOf (mv : α → List (μ × α)) (c : α) : List α := (mv c).map (·.2)
def nod0 (c : α) : Nod α μ := ⟨c,-1,none,[]⟩
theorem addD_map (out : List (Nod α μ)) (x : Nod α μ) : (addD out x).map Nod.c = addU (out.map Nod.c) x.c := by
 unfold addD addU
 split <;> simp
theorem addD_pre {out : List (Nod α μ)} {x : Nod α μ} : out <+: addD out x := by
 unfold addD
 split
 ·exact List.prefix_refl _
 ·exact List.prefix_append _ _
theorem addD_len (out : List (Nod α μ)) (x : Nod α μ) : (addD out x).length = (addU (out.map Nod.c) x.c).length := by rw [← addD_map,List.length_map]
theorem addDs_map {lim : Nat} : ∀ (l out : List (Nod α μ)),(addDs lim out l).map (List.map Nod.c) = addUs lim (out.map Nod.c) (l.map Nod.c)
 | [],out => rfl
 | x :: l,out => by
  unfold addDs
  simp only [List.map_cons,addUs]
  rw [addD_len,← addD_map]
  split
  ·rfl
  ·exact addDs_map l _
omit [DecidableEq α] in
theorem sucD_map (mv : α → List (μ × α)) (i : Nat) (x : Nod α μ) : (sucD mv i x).map Nod.c = sucOf mv x.c := by simp [sucD,sucOf]
theorem nodL_map (mv : α → List (μ × α)) {lim : Nat} : ∀ (n : Nat) (out : List (Nod α μ)) (i : Nat),(nodL mv lim n out i).map (List.map Nod.c) = bfsL (sucOf mv) lim n (out.map Nod.c) i
 | 0,_,_ => rfl
 | n + 1,out,i => by
  unfold nodL bfsL
  rw [List.getElem?_map]
  cases hi : out[i]? with
  | none => rfl
  | some x =>
   simp only [Option.map_some]
   have := addDs_map (lim := lim) (sucD mv i x) out
   rw [sucD_map] at this
   cases ha : addDs lim out (sucD mv i x) with
   | none =>
    rw [ha] at this
    rw [← this]
    rfl
   | some o2 =>
    rw [ha] at this
    rw [← this]
    exact nodL_map mv n o2 (i + 1)
theorem nodL_some {mv : α → List (μ × α)} {lim n : Nat} {s : α} {o : List α} (h : bfsL (sucOf mv) lim n [s] 0 = some o) : ∃ out,nodL mv lim n [nod0 s] 0 = some out ∧ out.map Nod.c = o := by
 have := nodL_map mv (lim := lim) n [nod0 s] 0
 rw [show ([nod0 s] : List (Nod α μ)).map Nod.c = [s] from rfl,h] at this
 cases hn : nodL mv lim n [nod0 s] 0 with
 | none => rw [hn] at this; cases this
 | some out => rw [hn] at this; exact ⟨out,rfl,by injection this⟩
structure Fnd (mv : α → List (μ × α)) (s : α) (out : List (Nod α μ)) (i : Nat) : Prop where
 nd : (out.map Nod.c).Nodup
 first : out[0]? = some (nod0 s)
 way : ∀ (j : Nat) (x : Nod α μ),out[j]? = some x → 0 < j → ∃ (k : Nat) (y : Nod α μ) (m : μ),k < j ∧ k ≤ i ∧ out[k]? = some y ∧ (m,x.c) ∈ mv y.c ∧ x = ⟨x.c,(k : Int),some m,y.path ++ [m]⟩
 mono : ∀ (j k : Nat) (x y : Nod α μ),j ≤ k → out[j]? = some x → out[k]? = some y → x.path.length ≤ y.path.length
 near : ∀ (j : Nat) (x y : Nod α μ),out[i]? = some x → out[j]? = some y → y.path.length ≤ x.path.length + 1
 dn : ∀ (j : Nat) (x : Nod α μ),j < i → out[j]? = some x → ∀ c ∈ sucOf mv x.c,∃ (k : Nat) (y : Nod α μ),out[k]? = some y ∧ y.c = c ∧ y.path.length ≤ x.path.length + 1
omit [DecidableEq α] in
theorem fnd0 (mv : α → List (μ × α)) (s : α) : Fnd mv s [nod0 s] 0 where
 nd := by simp
 first := rfl
 way := fun j x hx hj => by
  obtain ⟨j,rfl⟩ : ∃ k,j = k + 1 := ⟨j - 1,by omega⟩
  simp at hx
 mono := fun j k x y _ hx hy => by
  have h1 : j = 0 := by have := (List.getElem?_eq_some_iff.1 hx).1; simpa using this
  have h2 : k = 0 := by have := (List.getElem?_eq_some_iff.1 hy).1; simpa using this
  subst h1; subst h2
  rw [hx] at hy
  cases hy
  exact Nat.le_refl _
 near := fun j x y hx hy => by
  have h2 : j = 0 := by have := (List.getElem?_eq_some_iff.1 hy).1; simpa using this
  subst h2
  rw [hx] at hy
  cases hy
  omega
 dn := fun j x hj => by omega
theorem get_pre {β : Type} {l l' : List β} (h : l <+: l') {i : Nat} {x : β} (hx : l[i]? = some x) : l'[i]? = some x := by
 obtain ⟨r,rfl⟩ := h
 rw [List.getElem?_append_left (List.getElem?_eq_some_iff.1 hx).1]
 exact hx
theorem mem_get {β : Type} {l : List β} {x : β} (h : x ∈ l) : ∃ i : Nat,l[i]? = some x := by
 obtain ⟨i,hi⟩ := List.mem_iff_getElem?.1 h
 exact ⟨i,hi⟩
theorem Fnd.adds {mv : α → List (μ × α)} {s : α} {i lim : Nat} {x : Nod α μ} : ∀ (l out out' : List (Nod α μ)),(∀ y ∈ l,∃ m,(m,y.c) ∈ mv x.c ∧ y = ⟨y.c,(i : Int),some m,x.path ++ [m]⟩) → Fnd mv s out i → out[i]? = some x → addDs lim out l = some out' →
  Fnd mv s out' i ∧ out <+: out' ∧ (∀ y ∈ l,∃ (k : Nat) (z : Nod α μ),out'[k]? = some z ∧ z.c = y.c ∧ z.path.length ≤ x.path.length + 1)
 | [],out,out',_,hf,hx,ha => by
  cases ha
  exact ⟨hf,List.prefix_refl _,fun y hy => by cases hy⟩
 | y :: l,out,out',hl,hf,hx,ha => by
  unfold addDs at ha
  split at ha
  ·cases ha
  ·have hx' : (addD out y)[i]? = some x := get_pre addD_pre hx
   obtain ⟨m,hm,hy⟩ := hl y (List.mem_cons_self ..)
   have hyl : y.path.length = x.path.length + 1 := by rw [hy]; simp
   have hf' : Fnd mv s (addD out y) i := by
    unfold addD
    split
    ·exact hf
    ·rename_i hn
     have old : ∀ {j z},(out ++ [y])[j]? = some z → (out[j]? = some z) ∨ (j = out.length ∧ z = y) := fun {j z} hz => by
      rcases Nat.lt_or_ge j out.length with hj | hj
      ·rw [List.getElem?_append_left hj] at hz
       exact .inl hz
      ·rw [List.getElem?_append_right hj] at hz
       have : j - out.length = 0 := by have := (List.getElem?_eq_some_iff.1 hz).1; simpa using this
       rw [this] at hz
       cases hz
       exact .inr ⟨by omega,rfl⟩
     have ext : ∀ {j z},out[j]? = some z → (out ++ [y])[j]? = some z := fun hz => get_pre (List.prefix_append _ _) hz
     have hil : i < out.length := (List.getElem?_eq_some_iff.1 hx).1
     refine ⟨?_,ext hf.first,fun j z hz hj => ?_,fun j k a b hjk ha hb => ?_,fun j a b ha hb => ?_,fun j a hj ha c hc => ?_⟩
     ·rw [List.map_append,List.nodup_append]
      exact ⟨hf.nd,by simp,fun a ha b hb => by
       rw [List.map_singleton,List.mem_singleton] at hb
       rw [hb]
       exact fun e => hn (e ▸ ha)⟩
     ·rcases old hz with hz | ⟨rfl,rfl⟩
      ·obtain ⟨k,w,m',h1,h2,h3,h4,h5⟩ := hf.way j z hz hj
       exact ⟨k,w,m',h1,h2,ext h3,h4,h5⟩
      ·exact ⟨i,x,m,hil,Nat.le_refl _,ext hx,hm,hy⟩
     ·rcases old hb with hb' | ⟨hk,hbe⟩
      ·rcases old ha with ha' | ⟨hj',_⟩
       ·exact hf.mono j k a b hjk ha' hb'
       ·have := (List.getElem?_eq_some_iff.1 hb').1; omega
      ·rcases old ha with ha' | ⟨_,hae⟩
       ·rw [hbe]
        have := hf.near j x a hx ha'
        omega
       ·rw [hbe,hae]
        exact Nat.le_refl _
     ·rcases old ha with ha' | ⟨h1,_⟩
      ·rcases old hb with hb' | ⟨_,hbe⟩
       ·exact hf.near j a b ha' hb'
       ·rw [hx] at ha'
        cases ha'
        rw [hbe]
        omega
      ·omega
     ·rcases old ha with ha' | ⟨h1,_⟩
      ·obtain ⟨k,w,h1,h2,h3⟩ := hf.dn j a hj ha' c hc
       exact ⟨k,w,ext h1,h2,h3⟩
      ·omega
   obtain ⟨g1,g2,g3⟩ := Fnd.adds l _ _ (fun z hz => hl z (List.mem_cons_of_mem _ hz)) hf' hx' ha
   refine ⟨g1,addD_pre.trans g2,fun z hz => ?_⟩
   rcases List.mem_cons.1 hz with rfl | hz
   ·have hin : z.c ∈ (addD out z).map Nod.c := by
     unfold addD
     split
     ·rename_i h; exact h
     ·simp
    obtain ⟨k,hk⟩ := mem_get hin
    rw [List.getElem?_map] at hk
    obtain ⟨w,hw,hwc⟩ := Option.map_eq_some_iff.1 hk
    exact ⟨k,w,get_pre g2 hw,hwc,hf'.near k x w hx' hw⟩
   ·exact g3 z hz
theorem Fnd.next {mv : α → List (μ × α)} {s : α} {i lim : Nat} {x : Nod α μ} {out out' : List (Nod α μ)} (hf : Fnd mv s out i) (hx : out[i]? = some x) (ha : addDs lim out (sucD mv i x) = some out') : Fnd mv s out' (i + 1) ∧ out <+: out' := by
 obtain ⟨g1,g2,g3⟩ := Fnd.adds (mv := mv) (s := s) (x := x) _ _ _ (fun y hy => by
  obtain ⟨p,hp,rfl⟩ := List.mem_map.1 hy
  exact ⟨p.1,hp,rfl⟩) hf hx ha
 have hx' := get_pre g2 hx
 refine ⟨⟨g1.nd,g1.first,fun j z hz hj => ?_,g1.mono,fun j a b ha hb => ?_,fun j a hj haj c hc => ?_⟩,g2⟩
 ·obtain ⟨k,w,m',h1,h2,h3⟩ := g1.way j z hz hj
  exact ⟨k,w,m',h1,by omega,h3⟩
 ·have h1 := g1.mono i (i + 1) x a (by omega) hx' ha
  have h2 := g1.near j x b hx' hb
  omega
 ·rcases Nat.lt_or_ge j i with hji | hji
  ·exact g1.dn j a hji haj c hc
  ·obtain rfl : j = i := by omega
   rw [hx'] at haj
   cases haj
   obtain ⟨p,hp,rfl⟩ := List.mem_map.1 hc
   exact g3 ⟨p.2,(j : Int),some p.1,x.path ++ [p.1]⟩ (List.mem_map.2 ⟨p,hp,rfl⟩)
theorem nodL_fnd {mv : α → List (μ × α)} {s : α} {lim : Nat} : ∀ {n : Nat} {out out' : List (Nod α μ)} {i : Nat},Fnd mv s out i → nodL mv lim n out i = some out' → Fnd mv s out' out'.length ∧ out <+: out'
 | 0,_,_,_,_,h => by cases h
 | n + 1,out,out',i,hf,h => by
  unfold nodL at h
  split at h
  ·rename_i hi
   cases h
   have hle : out.length ≤ i := List.getElem?_eq_none_iff.1 hi
   refine ⟨⟨hf.nd,hf.first,fun j z hz hj => ?_,hf.mono,fun j a b ha hb => ?_,fun j a hj ha => hf.dn j a (by omega) ha⟩,List.prefix_refl _⟩
   ·obtain ⟨k,w,m',h1,h2,h3,h4⟩ := hf.way j z hz hj
    have := (List.getElem?_eq_some_iff.1 h3).1
    exact ⟨k,w,m',h1,by omega,h3,h4⟩
   ·have := (List.getElem?_eq_some_iff.1 ha).1; omega
  ·rename_i x hx
   split at h
   ·cases h
   ·rename_i o2 ha
    obtain ⟨h1,h2⟩ := hf.next hx ha
    obtain ⟨h3,h4⟩ := nodL_fnd h1 h
    exact ⟨h3,h2.trans h4⟩
theorem nodL_end {mv : α → List (μ × α)} {s : α} {lim n : Nat} {out : List (Nod α μ)} (h : nodL mv lim n [nod0 s] 0 = some out) : Fnd mv s out out.length := (nodL_fnd (fnd0 mv s) h).1
inductive Stp (mv : α → List (μ × α)) : α → List μ → α → Prop
 | nil (c : α) : Stp mv c [] c
 | snoc {c d e : α} {l : List μ} {m : μ} : Stp mv c l d → (m,e) ∈ mv d → Stp mv c (l ++ [m]) e
omit [DecidableEq α] in
theorem Fnd.stp {mv : α → List (μ × α)} {s : α} {out : List (Nod α μ)} {i : Nat} (hf : Fnd mv s out i) : ∀ (n j : Nat) (x : Nod α μ),j ≤ n → out[j]? = some x → Stp mv s x.path x.c
 | n,j,x,hj,hx => by
  rcases Nat.eq_zero_or_pos j with h0 | h0
  ·subst h0
   rw [hf.first] at hx
   cases hx
   exact .nil _
  ·obtain ⟨k,y,m,h1,h2,h3,h4,h5⟩ := hf.way j x hx h0
   have : Stp mv s y.path y.c := match n with
    | 0 => by omega
    | n + 1 => Fnd.stp hf n k y (by omega) h3
   rw [h5]
   exact this.snoc h4
end
end Go.Pv
namespace Go.Pv
abbrev Nd := Nod Cfg Mov
def Nd.mv (x : Nd) : Mov := x.by'.getD ⟨0,false,0⟩
theorem foundT_some (z : V) (j : Nat) (p : PV) : foundV z true (some (j,p)) = .tup [.pv p,.pv (.bool true)] := rfl
theorem foundT_none (z : V) : foundV z true none = .tup [z,.pv (.bool false)] := rfl
end Go.Pv
namespace Go.Pv
theorem fitsB_iff {a b : Auto} {cap x y : Int} {l m : List Int} : fitsB a b cap x y l m = true ↔ sysErr a b cap = 0 ∧ (0 ≤ x ∧ x < a.states) ∧ (0 ≤ y ∧ y < b.states) ∧ chanB l cap = true ∧ chanB m cap = true := by
 unfold fitsB
 simp only [Bool.and_eq_true,decide_eq_true_eq]
 constructor
 ·rintro ⟨⟨⟨⟨⟨⟨h1,h2⟩,h3⟩,h4⟩,h5⟩,h6⟩,h7⟩
  exact ⟨h1,⟨h2,h3⟩,⟨h4,h5⟩,h6,h7⟩
 ·rintro ⟨h1,⟨h2,h3⟩,⟨h4,h5⟩,h6,h7⟩
  exact ⟨⟨⟨⟨⟨⟨h1,h2⟩,h3⟩,h4⟩,h5⟩,h6⟩,h7⟩
theorem side_fits {a : Auto} (h : a.Good) {cap st : Int} {i o : List Int} {send : Bool} {label q : Int} {i' o' : List Int} (hi : chanB i cap = true) (ho : chanB o cap = true) (hs : sideC a.edges cap st i o send label = (some (q,i',o'),true)) : (0 ≤ q ∧ q < a.states) ∧ chanB i' cap = true ∧ chanB o' cap = true := by
 unfold sideC at hs
 cases hn : nextE st send label a.edges with
 | none => rw [hn] at hs; cases hs
 | some t =>
  rw [hn] at hs
  dsimp only at hs
  have hm := (nextE_some (h.asc.imp fun h => .inl h)).1 hn
  have hf := h.fit _ hm
  unfold Edge.fits at hf
  simp only [Bool.and_eq_true,decide_eq_true_eq] at hf
  split at hs
  ·injection hs with h1 h2
   injection h1 with h1
   injection h1 with h1 h3
   injection h3 with h3 h4
   subst h1 h3 h4
   have h2 := of_decide_eq_true h2
   refine ⟨by omega,hi,?_⟩
   unfold chanB at ho ⊢
   simp only [Bool.and_eq_true,decide_eq_true_eq,Bool.not_eq_true'] at ho ⊢
   refine ⟨by rw [List.length_append]; simp; omega,?_⟩
   rw [List.any_append,ho.2]
   simp [badL]
   omega
  ·cases i with
   | nil => cases hs
   | cons z r =>
    dsimp only at hs
    split at hs
    ·injection hs with h1 h2
     injection h1 with h1
     injection h1 with h1 h3
     injection h3 with h3 h4
     subst h1 h3 h4
     refine ⟨by omega,?_,ho⟩
     unfold chanB at hi ⊢
     simp only [Bool.and_eq_true,decide_eq_true_eq,Bool.not_eq_true',List.any_cons,Bool.or_eq_false_iff,List.length_cons] at hi ⊢
     exact ⟨by omega,hi.2.2⟩
    ·cases hs
theorem fits_after {a b : Auto} {cap x y : Int} {l m : List Int} {mv : Mov} (h : fitsB a b cap x y l m = true) (ho : (afterC a b cap x y l m mv).2 = true) : fitsB a b cap (afterC a b cap x y l m mv).1.a (afterC a b cap x y l m mv).1.b (afterC a b cap x y l m mv).1.toA (afterC a b cap x y l m mv).1.toB = true := by
 obtain ⟨h1,h2,h3,h4,h5⟩ := fitsB_iff.1 h
 obtain ⟨ga,gb,_,_⟩ := sys_good h1
 rw [fitsB_iff]
 refine ⟨h1,?_⟩
 revert ho
 unfold afterC
 split
 ·cases hs : sideC a.edges cap x l m mv.send mv.label with
  | mk r ok =>
   cases r with
   | none =>
    intro ho
    exfalso
    have ho : ok = true := ho
    subst ho
    unfold sideC at hs
    cases hn : nextE x mv.send mv.label a.edges with
    | none => rw [hn] at hs; cases hs
    | some q =>
     rw [hn] at hs
     dsimp only at hs
     split at hs
     ·cases hs
     ·cases l with
      | nil => cases hs
      | cons z r => dsimp only at hs; split at hs <;> cases hs
   | some r =>
    obtain ⟨q,i,o⟩ := r
    intro ho
    have ho : ok = true := ho
    subst ho
    obtain ⟨g1,g2,g3⟩ := side_fits ga h4 h5 hs
    exact ⟨g1,h3,g2,g3⟩
 ·split
  ·cases hs : sideC b.edges cap y m l mv.send mv.label with
   | mk r ok =>
    cases r with
    | none =>
     intro ho
     exfalso
     have ho : ok = true := ho
     subst ho
     unfold sideC at hs
     cases hn : nextE y mv.send mv.label b.edges with
     | none => rw [hn] at hs; cases hs
     | some q =>
      rw [hn] at hs
      dsimp only at hs
      split at hs
      ·cases hs
      ·cases m with
       | nil => cases hs
       | cons z r => dsimp only at hs; split at hs <;> cases hs
    | some r =>
     obtain ⟨q,i,o⟩ := r
     intro ho
     have ho : ok = true := ho
     subst ho
     obtain ⟨g1,g2,g3⟩ := side_fits gb h5 h4 hs
     exact ⟨h2,g1,g3,g2⟩
  ·intro ho
   cases ho
theorem r171 (a b : Auto) (cap : Int) (x y : Int) (l m : List Int) (ha : a.edges.length ≤ 2 ^ 63 - 1) (hb : b.edges.length ≤ 2 ^ 63 - 1) (hl : l.length ≤ 2000000000) (hm : m.length ≤ 2000000000) : res A PrA 171 [.agg [.int .i64 a.states,.int .i64 a.start,.lst 0 (a.edges.map Edge.c),.int .i64 b.states,.int .i64 b.start,.lst 0 (b.edges.map Edge.c),.int .i64 cap],.agg [.int .i64 x,.int .i64 y,.lst 0 (ints l),.lst 0 (ints m)]] = some (if chkE a b cap x y l m = 0 then [.lst 0 (mvs3 (movesC a b cap x y l m)),.int .i64 0] else [.lst 0 [],.int .i64 (chkE a b cap x y l m)]) := by
 refine res_of a171 rfl rfl ?_
 simp only [F171]; try delta sS tT zZ nN gG bB pZ
 by_cases h1 : chkE a b cap x y l m = 0
 ·have hs : sysErr a b cap = 0 := by
   unfold chkE at h1
   by_cases h : sysErr a b cap = 0
   ·exact h
   ·rw [if_pos h] at h1
    exact h1
  obtain ⟨ga,gb,_,_⟩ := sys_good hs
  have h186 := r186 a b cap x y l m (by have := ga.len; omega) (by have := gb.len; omega) hl hm (movesC_asc ga.asc gb.asc)
  have d1 : decide (chkE a b cap x y l m = 0) = true := by simp [h1]
  simp (disch := omega) only [go_sem,d1,h186]
  rw [if_pos h1]
 ·have d1 : decide (chkE a b cap x y l m = 0) = false := by simp [h1]
  simp (disch := omega) only [go_sem,d1]
  rw [if_neg h1]
def applyC (a b : Auto) (cap x y : Int) (l m : List Int) (mv : Mov) : List PV := if chkE a b cap x y l m = 0 then (if (afterC a b cap x y l m mv).2 = true then [cfgP (afterC a b cap x y l m mv).1,.int .i64 0] else [cfgP cfg0,.int .i64 11]) else [cfgP cfg0,.int .i64 (chkE a b cap x y l m)]
set_option maxHeartbeats 1000000 in
theorem r174 (a b : Auto) (cap : Int) (x y : Int) (l m : List Int) (mv : Mov) (ha : a.edges.length ≤ 2 ^ 63 - 1) (hb : b.edges.length ≤ 2 ^ 63 - 1) (hl : l.length ≤ 2000000000) (hm : m.length ≤ 2000000000) : res A PrA 174 [.agg [.int .i64 a.states,.int .i64 a.start,.lst 0 (a.edges.map Edge.c),.int .i64 b.states,.int .i64 b.start,.lst 0 (b.edges.map Edge.c),.int .i64 cap],.agg [.int .i64 x,.int .i64 y,.lst 0 (ints l),.lst 0 (ints m)],.agg [.int .i64 mv.party,.bool mv.send,.int .i64 mv.label]] = some (applyC a b cap x y l m mv) := by
 refine res_of a174 rfl rfl ?_
 simp only [F174]; try delta sS tT zZ nN gG bB pZ
 unfold applyC
 have h182 := r182 a b cap x y l m mv ha hb hl hm
 by_cases h1 : chkE a b cap x y l m = 0
 ·have d1 : decide (chkE a b cap x y l m = 0) = true := by simp [h1]
  rw [if_pos h1]
  cases h2 : (afterC a b cap x y l m mv).2 with
  | true =>
   rw [h2] at h182
   generalize (afterC a b cap x y l m mv).1 = c at *
   simp (disch := omega) only [go_sem,d1,h182]
  | false =>
   rw [h2] at h182
   generalize (afterC a b cap x y l m mv).1 = c at *
   simp (disch := omega) only [go_sem,d1,h182]
   rfl
 ·have d1 : decide (chkE a b cap x y l m = 0) = false := by simp [h1]
  rw [if_neg h1]
  simp (disch := omega) only [go_sem,d1]
  rfl
end Go.Pv
namespace Go.Pv
theorem after_lab {P : Int → Prop} {a b : Auto} {cap x y : Int} {l m : List Int} {mv : Mov} (hl : ∀ z ∈ l,P z) (hm : ∀ z ∈ m,P z) (hv : P mv.label) : (∀ z ∈ (afterC a b cap x y l m mv).1.toA,P z) ∧ ∀ z ∈ (afterC a b cap x y l m mv).1.toB,P z := by
 have key : ∀ (es : List Edge) (st : Int) (i o : List Int),(∀ z ∈ i,P z) → (∀ z ∈ o,P z) → ∀ q i' o' ok,sideC es cap st i o mv.send mv.label = (some (q,i',o'),ok) → (∀ z ∈ i',P z) ∧ ∀ z ∈ o',P z := by
  intro es st i o hi ho q i' o' ok h
  unfold sideC at h
  split at h
  ·cases h
  ·split at h
   ·cases h
    refine ⟨hi,fun z hz => ?_⟩
    rcases List.mem_append.1 hz with hz | hz
    ·exact ho z hz
    ·rw [List.mem_singleton.1 hz]
     exact hv
   ·split at h
    ·cases h
    ·split at h
     ·cases h
      exact ⟨fun z hz => hi z (List.mem_cons_of_mem _ hz),ho⟩
     ·cases h
 have h0 : (∀ z ∈ cfg0.toA,P z) ∧ ∀ z ∈ cfg0.toB,P z := ⟨fun z hz => (by cases hz),fun z hz => (by cases hz)⟩
 unfold afterC
 split
 ·split
  ·exact h0
  ·rename_i q i o ok h
   exact key _ _ _ _ hl hm q i o ok h
 ·split
  ·split
   ·exact h0
   ·rename_i q i o ok h
    obtain ⟨h1,h2⟩ := key _ _ _ _ hm hl q i o ok h
    exact ⟨h2,h1⟩
  ·exact h0
theorem movesC_mem {a b : Auto} {cap x y : Int} {l m : List Int} {mv : Mov} (h : mv ∈ movesC a b cap x y l m) : (afterC a b cap x y l m mv).2 = true ∧ ∃ e ∈ a.edges ++ b.edges,mv.label = e.label := by
 unfold movesC at h
 rcases List.mem_append.1 h with h | h
 ·obtain ⟨e,he,rfl⟩ := List.mem_map.1 h
  obtain ⟨h1,h2⟩ := List.mem_filter.1 he
  rw [Bool.and_eq_true] at h2
  exact ⟨h2.2,e,List.mem_append_left _ h1,rfl⟩
 ·obtain ⟨e,he,rfl⟩ := List.mem_map.1 h
  obtain ⟨h1,h2⟩ := List.mem_filter.1 he
  rw [Bool.and_eq_true] at h2
  exact ⟨h2.2,e,List.mem_append_right _ h1,rfl⟩
def smC (a b : Auto) (cap : Int) (c : Cfg) : Prop := fitsB a b cap c.a c.b c.toA c.toB = true ∧ (∀ z ∈ c.toA,z ≤ 2) ∧ ∀ z ∈ c.toB,z ≤ 2
theorem chan_ok {l : List Int} {cap : Int} (h : chanB l cap = true) : (l.length : Int) ≤ cap ∧ ∀ z ∈ l,1 ≤ z := by
 unfold chanB at h
 rw [Bool.and_eq_true,decide_eq_true_eq,Bool.not_eq_true'] at h
 refine ⟨h.1,fun z hz => ?_⟩
 have := h.2
 rw [List.any_eq_false] at this
 have := this z hz
 unfold badL at this
 simp at this
 omega
theorem smC_small {l : List Int} {cap : Int} (h : chanB l cap = true) (h2 : ∀ z ∈ l,z ≤ 2) : l.all smallI = true := by
 rw [List.all_eq_true]
 intro z hz
 have h3 := (chan_ok h).2 z hz
 have h4 := h2 z hz
 simp only [smallI,Bool.and_eq_true,decide_eq_true_eq]
 omega
theorem smC_runs {a b : Auto} {cap : Int} (hs : sysErr a b cap = 0) (hl : ∀ e ∈ a.edges ++ b.edges,e.label ≤ 2) : Runs29 a b cap (smC a b cap) := by
 obtain ⟨ga,gb,hc1,hc2⟩ := sys_good hs
 refine ⟨⟨?_,by simp,by simp⟩,?_,?_,?_⟩
 ·rw [fitsB_iff]
  refine ⟨hs,ga.st,gb.st,?_,?_⟩ <;> simp [chanB] <;> omega
 ·intro c hc x hx
  obtain ⟨mv,hmv,rfl⟩ := List.mem_map.1 hx
  obtain ⟨h1,e,he,h2⟩ := movesC_mem hmv
  obtain ⟨h3,h4⟩ := after_lab (P := fun z => z ≤ 2) (a := a) (b := b) (cap := cap) (x := c.a) (y := c.b) (mv := mv) hc.2.1 hc.2.2 (by rw [h2]; exact hl e he)
  exact ⟨fits_after hc.1 h1,h3,h4⟩
 ·intro c hc
  obtain ⟨h1,h2,h3⟩ := hc
  obtain ⟨_,h4,h5,h6,h7⟩ := fitsB_iff.1 h1
  have m1 := ga.mx
  have m2 := gb.mx
  have q1 := (chan_ok h6).1
  have q2 := (chan_ok h7).1
  refine ⟨?_,?_,smC_small h6 h2,smC_small h7 h3,by omega,by omega⟩
  ·simp only [smallI,Bool.and_eq_true,decide_eq_true_eq]
   omega
  ·simp only [smallI,Bool.and_eq_true,decide_eq_true_eq]
   omega
 ·intro c _
  exact movesC_asc ga.asc gb.asc
def chans : List (List Int) := [[],[1],[2],[1,1],[1,2],[2,1],[2,2]]
theorem chans_mem {l : List Int} {cap : Int} (h : chanB l cap = true) (h2 : ∀ z ∈ l,z ≤ 2) (hc : cap ≤ 2) : l ∈ chans := by
 obtain ⟨h3,h4⟩ := chan_ok h
 match l,h2,h3,h4 with
 | [],_,_,_ => simp [chans]
 | [x],h2,_,h4 =>
  have a1 := h2 x (by simp)
  have a2 := h4 x (by simp)
  obtain rfl | rfl : x = 1 ∨ x = 2 := by omega
  all_goals simp [chans]
 | [x,y],h2,_,h4 =>
  have a1 := h2 x (by simp)
  have a2 := h4 x (by simp)
  have b1 := h2 y (by simp)
  have b2 := h4 y (by simp)
  obtain rfl | rfl : x = 1 ∨ x = 2 := by omega
  all_goals
   obtain rfl | rfl : y = 1 ∨ y = 2 := by omega
   all_goals simp [chans]
 | x :: y :: z :: r,_,h3,_ =>
  simp only [List.length_cons] at h3
  omega
def cfgU : List Cfg := [(0 : Int),1,2].flatMap fun a => [(0 : Int),1,2].flatMap fun b => chans.flatMap fun l => chans.map fun m => ⟨a,b,l,m⟩
theorem cfgU_mem {c : Cfg} (h1 : 0 ≤ c.a ∧ c.a < 3) (h2 : 0 ≤ c.b ∧ c.b < 3) (h3 : c.toA ∈ chans) (h4 : c.toB ∈ chans) : c ∈ cfgU := by
 obtain ⟨a,b,l,m⟩ := c
 simp only at h1 h2 h3 h4
 unfold cfgU
 rw [List.mem_flatMap]
 refine ⟨a,?_,?_⟩
 ·obtain rfl | rfl | rfl : a = 0 ∨ a = 1 ∨ a = 2 := by omega
  all_goals simp
 rw [List.mem_flatMap]
 refine ⟨b,?_,?_⟩
 ·obtain rfl | rfl | rfl : b = 0 ∨ b = 1 ∨ b = 2 := by omega
  all_goals simp
 rw [List.mem_flatMap]
 exact ⟨l,h3,List.mem_map.2 ⟨m,h4,rfl⟩⟩
end Go.Pv
namespace Go.Pv
def mvC (a b : Auto) (cap : Int) (c : Cfg) : List (Mov × Cfg) := (movesC a b cap c.a c.b c.toA c.toB).map fun m => (m,(afterC a b cap c.a c.b c.toA c.toB m).1)
theorem mvC_suc (a b : Auto) (cap : Int) (c : Cfg) : sucOf (mvC a b cap) c = sucC a b cap c := by simp [sucOf,mvC,sucC]
def posZ (out : List Nd) (c : Cfg) : Int := ((out.findIdx? fun y => decide (y.c = c)).getD 0 : Nat)
theorem pos_at {out : List Nd} (hn : (out.map Nod.c).Nodup) {z : Nat} {y : Nd} (hy : out[z]? = some y) : (out.findIdx? fun w => decide (w.c = y.c)) = some z := by
 have hz := (List.getElem?_eq_some_iff.1 hy).1
 have hyz := (List.getElem?_eq_some_iff.1 hy).2
 rw [List.findIdx?_eq_some_iff_getElem]
 refine ⟨hz,by rw [hyz]; simp,fun j hj => ?_⟩
 simp only [decide_eq_true_eq]
 intro e
 have h1 : (out.map Nod.c)[j]? = some y.c := by rw [List.getElem?_map,List.getElem?_eq_getElem (by omega)]; simp [e]
 have h2 : (out.map Nod.c)[z]? = some y.c := by rw [List.getElem?_map,hy]; rfl
 have := (List.getElem?_inj (by rw [List.length_map]; omega) hn).1 (h1.trans h2.symm)
 omega
structure Sp30 (a b : Auto) (cap : Int) (p : Cfg → Prop) : Prop where
 nx : ∀ c,p c → ∀ x ∈ sucC a b cap c,p x
 ok : ∀ c,p c → c.ok
 fit : ∀ c,p c → fitsB a b cap c.a c.b c.toA c.toB = true
end Go.Pv
namespace Go.Pv
def doneAt (a b : Auto) (cap : Int) (C : List Cfg) (i : Nat) : Bool := match C[i]? with
 | some c => doneB a b cap c.a c.b c.toA c.toB
 | none => false
def doneUp (p : Nat → Bool) (k : Nat) : List Int := ((List.range k).filter p).map fun (i : Nat) => (i : Int)
theorem doneUp_mem {p : Nat → Bool} {k : Nat} {x : Int} : x ∈ doneUp p k ↔ ∃ i : Nat,i < k ∧ p i = true ∧ x = (i : Int) := by
 simp only [doneUp,List.mem_map,List.mem_filter,List.mem_range]
 constructor
 ·rintro ⟨i,⟨h1,h2⟩,rfl⟩
  exact ⟨i,h1,h2,rfl⟩
 ·rintro ⟨i,h1,h2,rfl⟩
  exact ⟨i,⟨h1,h2⟩,rfl⟩
def dI (p : Nat → Bool) (n k : Nat) : List Int := (List.range n).map fun (j : Nat) => if j < k then (if p j = true then 0 else -1) else 0
theorem dI_len (p : Nat → Bool) (n k : Nat) : (dI p n k).length = n := by simp [dI]
theorem dI_zero (p : Nat → Bool) (n : Nat) : dI p n 0 = List.replicate n 0 := by
 apply List.ext_getElem?
 intro i
 rcases Nat.lt_or_ge i n with hi | hi
 ·simp [dI,hi]
 ·simp [dI,hi]
theorem dI_succ {p : Nat → Bool} {n k : Nat} {v : Int} (h : k < n) (hv : v = if p k = true then 0 else -1) : (dI p n k).set k v = dI p n (k + 1) := by
 apply List.ext_getElem?
 intro i
 rcases Nat.lt_or_ge i n with hi | hi
 ·by_cases e : k = i
  ·subst e
   rw [List.getElem?_set_self (by rw [dI_len]; exact h)]
   simp [dI,h,hv]
  ·rw [List.getElem?_set_ne e]
   simp only [dI,List.getElem?_map,List.getElem?_range hi,Option.map_some]
   by_cases h1 : i < k
   ·simp only [h1,if_true,show i < k + 1 by omega]
   ·simp only [h1,if_false,show ¬ i < k + 1 by omega]
 ·rw [List.getElem?_eq_none (by rw [List.length_set,dI_len]; exact hi),List.getElem?_eq_none (by rw [dI_len]; exact hi)]
def dN (p : Nat → Bool) (n k : Nat) : List Int := (List.range n).map fun (j : Nat) => if j < k ∧ p j = true then 0 else -1
theorem dI_all (p : Nat → Bool) (n : Nat) : dI p n n = dN p n n := by
 refine List.map_congr_left fun j hj => ?_
 rw [List.mem_range] at hj
 simp [hj]
theorem rk0_dN (p : Nat → Bool) (n : Nat) : rk0 n (doneUp p n) = dN p n n := by
 refine List.map_congr_left fun j hj => ?_
 rw [List.mem_range] at hj
 have : (j : Int) ∈ doneUp p n ↔ j < n ∧ p j = true := by
  rw [doneUp_mem]
  constructor
  ·rintro ⟨i,h1,h2,h3⟩
   obtain rfl : j = i := by omega
   exact ⟨h1,h2⟩
  ·rintro ⟨h1,h2⟩
   exact ⟨j,h1,h2,rfl⟩
 simp only [this]
end Go.Pv
namespace Go.Pv
def idxC (c : Cfg) (l : List Cfg) : Int := match l.findIdx? fun x => decide (x = c) with
 | some i => i
 | none => -1
theorem idxC_neg {c : Cfg} {l : List Cfg} : idxC c l < 0 ↔ c ∉ l := by
 unfold idxC
 cases h : l.findIdx? fun x => decide (x = c) with
 | none =>
  rw [List.findIdx?_eq_none_iff] at h
  simp only [Int.reduceNeg,Int.neg_lt_zero_iff,Int.zero_lt_one,true_iff]
  intro hc
  simpa using h c hc
 | some i =>
  obtain ⟨h1,h2,_⟩ := List.findIdx?_eq_some_iff_getElem.1 h
  have h3 : l[i] = c := by simpa using h2
  constructor
  ·intro h
   simp only at h
   omega
  ·intro hc
   exact absurd (h3 ▸ List.getElem_mem h1) hc
theorem r168 (t : Nat) (l : List Cfg) (c : Cfg) (hl : l.length ≤ 100000) (ho : ∀ x ∈ l,x.ok) (hc : c.ok) : res A PrA 168 [.lst t (cfgs l),.agg [.int .i64 c.a,.int .i64 c.b,.lst 0 (ints c.toA),.lst 0 (ints c.toB)]] = some [.int .i64 (idxC c l)] := by
 refine res_of a168 rfl rfl ?_
 simp only [F168]; try delta sS tT zZ nN gG bB pZ
 simp (disch := omega) only [go_sem]
 obtain ⟨_,_,_,_,q5,q6⟩ := hc
 refine W.find l (fun x => decide (x = c)) (fun k => ⟨[(0,.pv (.lst t (cfgs l))),(3,.ptr 3 0),(5,.pv (.int .i64 k))],⟨[(3,[.pv (.int .i64 c.a),.pv (.int .i64 c.b),.pv (.lst 0 (ints c.toA)),.pv (.lst 0 (ints c.toB))])],[],[]⟩⟩) rfl (fun k x hx hk hfd => ?_) (fun hn => ?_)
 ·have hcg : (cfgs l)[k]? = some [.int .i64 x.a,.int .i64 x.b,.lst 0 (ints x.toA),.lst 0 (ints x.toB)] := by rw [cfgs_get,hx]; rfl
  obtain ⟨_,_,_,_,p5,p6⟩ := ho x (List.mem_of_getElem? hx)
  have h154 := fun u1 u2 w1 w2 => r154 u1 u2 w1 w2 x.a x.b c.a c.b x.toA x.toB c.toA c.toB (by omega) (by omega) (by omega) (by omega)
  simp (disch := omega) only [go_sem]
  refine Br.ofP (fun h => ?_) (fun h => (h (by omega)).elim)
  simp (disch := omega) only [go_sem,hcg,h154]
  refine Br.of (fun h2 => ?_) (fun h2 => ?_) <;> simp (disch := omega) only [go_sem]
  ·have := (hfd h2).idx
   unfold idxC
   rw [this]
  ·exact findK.of h2 rfl
 ·simp (disch := omega) only [go_sem]
  unfold idxC
  rw [hn.idx]
set_option maxHeartbeats 8000000 in
theorem r167 (a b : Auto) (cap : Int) {p : Cfg → Prop} (hp : Runs29 a b cap p) (ha : a.edges.length ≤ 1000000) (hb : b.edges.length ≤ 1000000) {outF : List Cfg} (hF : bfsL (sucC a b cap) 5000 5002 [cfgStart a b] 0 = some outF) : res A PrA 167 [.agg [.int .i64 a.states,.int .i64 a.start,.lst 0 (a.edges.map Edge.c),.int .i64 b.states,.int .i64 b.start,.lst 0 (b.edges.map Edge.c),.int .i64 cap]] = some [.lst 0 (cfgs outF)] := by
 refine res_of a167 rfl rfl ?_
 simp only [F167]; try delta sS tT zZ nN gG bB pZ
 have hi0 : idxR 4 0 [[PV.int IntKind.i64 a.start,PV.int IntKind.i64 b.start,PV.lst 0 [],PV.lst 0 []]] (some 0) = some (.pv (.ro 0 [PV.int IntKind.i64 a.start,PV.int IntKind.i64 b.start,PV.lst 0 [],PV.lst 0 []])) := rfl
 simp (disch := omega) only [go_sem]
 refine W.loop (fun x : List Cfg × Nat => ⟨[(1,.ptr 1 0),(3,glV 0 1 (cfgs x.1)),(4,.pv (.int .i64 x.2))],⟨[(1,[.pv (.int .i64 a.states),.pv (.int .i64 a.start),.pv (.lst 0 (a.edges.map Edge.c)),.pv (.int .i64 b.states),.pv (.int .i64 b.start),.pv (.lst 0 (b.edges.map Edge.c)),.pv (.int .i64 cap)])],glA 4 1 (cfgs x.1),[]⟩⟩) (fun x => (∀ c ∈ x.1,p c) ∧ x.1.length ≤ 5000 ∧ 1 ≤ x.1.length ∧ x.2 ≤ x.1.length ∧ bfsL (sucC a b cap) 5000 5002 [cfgStart a b] 0 = bfsL (sucC a b cap) 5000 (5002 - x.2) x.1 x.2) (fun x => 5001 - x.2) ([cfgStart a b],0) rfl ⟨?_,?_,?_,?_,rfl⟩ (fun x hx => ?_)
 ·intro c hc
  rw [List.mem_singleton.1 hc]
  exact hp.st
 ·simp
 ·simp
 ·simp
 obtain ⟨out,i⟩ := x
 obtain ⟨x1,x2,x3,x4,x5⟩ := hx
 simp only at x1 x2 x3 x4 x5 ⊢
 simp (disch := omega) only [go_sem]
 refine Br.ofP (fun c1 => ?_) (fun c1 => ?_) <;> simp (disch := omega) only [go_sem,c1]
 ·obtain ⟨c,hc⟩ := get_at (l := out) (k := i) (by omega)
  have hpc := x1 c (List.mem_of_getElem? hc)
  obtain ⟨k1,k2,k3,k4,k5,k6⟩ := hp.ok c hpc
  have h186 := r173 a b cap c.a c.b c.toA c.toB (by omega) (by omega) (by omega) (by omega)
  have hcg : (cfgs out)[i]? = some [.int .i64 c.a,.int .i64 c.b,.lst 0 (ints c.toA),.lst 0 (ints c.toB)] := by rw [cfgs_get,hc]; rfl
  have h182 := fun mv => r183 a b cap c.a c.b c.toA c.toB mv (by omega) (by omega) (by omega) (by omega)
  have hsuc : sucC a b cap c = (movesC a b cap c.a c.b c.toA c.toB).map fun m => (afterC a b cap c.a c.b c.toA c.toB m).1 := rfl
  have hml : (movesC a b cap c.a c.b c.toA c.toB).length ≤ 2000000 := by
   have h1 := mvsOf_len a b cap c.a c.b c.toA c.toB 0 c.a a.edges
   have h2 := mvsOf_len a b cap c.a c.b c.toA c.toB 1 c.b b.edges
   rw [movesC,List.length_append]
   omega
  generalize hms : movesC a b cap c.a c.b c.toA c.toB = ms at *
  have hol : out.length = (cfgs out).length := (cfgs_length out).symm
  rcases gl_cases (b := 1) (rows := cfgs out) with h | ⟨mm,h⟩
  case' inl =>
   rw [glV_lit h,glA_lit h]
   simp (disch := omega) only [go_sem,hcg,h186]
   rw [show V.tl (cfgs out) = glV 0 1 (cfgs out) from (glV_lit h).symm,show ([] : List Arr) = glA 4 1 (cfgs out) from (glA_lit h).symm]
  case' inr =>
   rw [glV_own h,glA_own h]
   simp (disch := omega) only [go_sem,hcg,h186]
   rw [show V.own 0 mm 0 (1 + mm + 1) = glV 0 1 (cfgs out) from (glV_own h).symm,show [⟨mm,4,.inl (cfgs out)⟩] = glA 4 1 (cfgs out) from (glA_own h).symm]
  all_goals
   refine W.loop (fun x : List Cfg × Nat => ⟨[(1,.ptr 1 0),(3,glV 0 1 (cfgs x.1)),(4,.pv (.int .i64 i)),(5,.pv (.lst 0 (mvs3 ms))),(6,.pv (.int .i64 x.2))],⟨[(1,[.pv (.int .i64 a.states),.pv (.int .i64 a.start),.pv (.lst 0 (a.edges.map Edge.c)),.pv (.int .i64 b.states),.pv (.int .i64 b.start),.pv (.lst 0 (b.edges.map Edge.c)),.pv (.int .i64 cap)])],glA 4 1 (cfgs x.1),[]⟩⟩) (fun x => x.2 ≤ ms.length ∧ addUs 5000 out ((sucC a b cap c).take x.2) = some x.1) (fun x => ms.length - x.2) (out,0) rfl ⟨Nat.zero_le _,rfl⟩ (fun x hx => ?_)
   obtain ⟨o,k⟩ := x
   obtain ⟨y1,y2⟩ := hx
   simp only at y1 y2 ⊢
   obtain ⟨z1,z2,z3,z4⟩ := addUs_some y2
   have z5 := z4 x2
   have hpo : ∀ x ∈ o,p x := fun x hx => ((z2 x).1 hx).elim (x1 x) fun hx => hp.nx c hpc x (List.mem_of_mem_take hx)
   have hol2 : o.length = (cfgs o).length := (cfgs_length o).symm
   have ho : o[i]? = some c := by
    obtain ⟨r,rfl⟩ := z1
    rw [List.getElem?_append_left (by omega)]
    exact hc
   have hio : i < o.length := (List.getElem?_eq_some_iff.1 ho).1
   simp (disch := omega) only [go_sem]
   refine Br.ofP (fun c2 => ?_) (fun c2 => ?_) <;> simp (disch := omega) only [go_sem,c2]
   ·obtain ⟨mv,hmv⟩ := get_at (l := ms) (k := k) (by omega)
    have hog : (cfgs o)[i]? = some [.int .i64 c.a,.int .i64 c.b,.lst 0 (ints c.toA),.lst 0 (ints c.toB)] := by rw [cfgs_get,ho]; rfl
    have h182 := h182 mv
    have hdg : (sucC a b cap c)[k]? = some (afterC a b cap c.a c.b c.toA c.toB mv).1 := by rw [hsuc,List.getElem?_map,hmv]; rfl
    generalize (afterC a b cap c.a c.b c.toA c.toB mv).2 = okb at *
    generalize (afterC a b cap c.a c.b c.toA c.toB mv).1 = d at *
    have hpd := hp.nx c hpc d (List.mem_of_getElem? hdg)
    have hok := hp.ok d hpd
    have htk : ∀ n,(cfgs o).length ≤ n → (cfgs o).take n = cfgs o := fun n h => List.take_of_length_le h
    have h168 := fun t => r168 t o d (by omega) (fun x hx => hp.ok x (hpo x hx)) hok
    have hnext : addUs 5000 out ((sucC a b cap c).take (k + 1)) = if 5000 < (addU o d).length then none else some (addU o d) := by
     rw [List.take_add_one,hdg,Option.toList_some,addUs_snoc,y2]
     rfl
    by_cases hin : d ∈ o
    ·have hau : addU o d = o := if_pos hin
     rw [hau,if_neg (by omega)] at hnext
     have hix : ¬ idxC d o < 0 := fun h => idxC_neg.1 h hin
     rcases gl_cases (b := 1) (rows := cfgs o) with g | ⟨m2,g⟩
     case' inl => rw [glV_lit g,glA_lit g]
     case' inr => rw [glV_own g,glA_own g]
     all_goals
      simp (disch := omega) only [go_sem,hmv,hog,h182,htk,h168]
      refine Br.ofP (fun c3 => absurd c3 hix) (fun c3 => ?_)
      simp (disch := omega) only [go_sem,c3]
      refine ⟨(o,k + 1),⟨by simp only; omega,hnext⟩,by simp only; omega,?_⟩
      first
       | (simp only [glV_lit g,glA_lit g]; rfl)
       | (simp only [glV_own (n := 0) g,glA_own (k := 4) g]; rfl)
    ·have hau : addU o d = o ++ [d] := if_neg hin
     rw [hau,List.length_append,List.length_singleton] at hnext
     have hix : idxC d o < 0 := idxC_neg.2 hin
     have hfit : ¬ 5000 < o.length + 1 := fun c3 => by
      rw [if_pos c3] at hnext
      rw [hF,show 5002 - i = (5001 - i) + 1 by omega,bfsL,hc] at x5
      simp only [addUs_none (k + 1) hnext] at x5
      cases x5
     rw [if_neg hfit] at hnext
     have hgs1 : glV 0 1 (cfgs (o ++ [d])) = .own 0 (o.length - 1) 0 (o.length + 1) := by
      rw [← cfgs_snoc,glV_snoc (by omega),cfgs_length]
     have hgs2 : glA 4 1 (cfgs (o ++ [d])) = [⟨o.length - 1,4,.inl (cfgs (o ++ [d]))⟩] := by
      rw [← cfgs_snoc,glA_snoc (by omega),cfgs_length]
     rcases gl_cases (b := 1) (rows := cfgs o) with g | ⟨m2,g⟩
     ·rw [glV_lit g,glA_lit g]
      have happ := fun h => app_tlr h 4 (cfgs o) [.int .i64 d.a,.int .i64 d.b,.lst 0 (ints d.toA),.lst 0 (ints d.toB)] rfl (cfgs_rows o) (by omega)
      simp (disch := omega) only [go_sem,hmv,hog,h182,h168]
      refine Br.ofP (fun c3 => ?_) (fun c3 => absurd hix c3)
      simp (disch := omega) only [go_sem,c3,happ,cfgs_snoc]
      refine ⟨(o ++ [d],k + 1),⟨by simp only; omega,hnext⟩,by simp only; omega,?_⟩
      simp only [hgs1,hgs2,show o.length - 1 = 0 by omega]
      rfl
     ·rw [glV_own g,glA_own g]
      have happ := fun h => app_ownr h 0 m2 0 (1 + m2 + 1) 4 [.int .i64 d.a,.int .i64 d.b,.lst 0 (ints d.toA),.lst 0 (ints d.toB)] rfl
      have hap := apR_ok (id := 0) (ver := m2) (len := 1 + m2 + 1) (k := 4) (r := [.int .i64 d.a,.int .i64 d.b,.lst 0 (ints d.toA),.lst 0 (ints d.toB)]) (l := cfgs o) (by omega) (by omega)
      simp (disch := omega) only [go_sem,hmv,hog,h182,htk,h168]
      refine Br.ofP (fun c3 => ?_) (fun c3 => absurd hix c3)
      simp (disch := omega) only [go_sem,c3,happ,hap,cfgs_snoc]
      refine ⟨(o ++ [d],k + 1),⟨by simp only; omega,hnext⟩,by simp only; omega,?_⟩
      simp only [hgs1,hgs2,show o.length - 1 = m2 + 1 by omega,show o.length + 1 = 1 + m2 + 1 + 1 by omega]
      rfl
   ·have hkm : k = ms.length := by omega
    have hall : (sucC a b cap c).take k = sucC a b cap c := List.take_of_length_le (by rw [hsuc,List.length_map]; omega)
    rw [hall] at y2
    refine ⟨(o,i + 1),⟨hpo,z5,by simp only; omega,by simp only; omega,?_⟩,by simp only; omega,rfl⟩
    rw [x5,show 5002 - i = (5002 - (i + 1)) + 1 by omega,bfsL,hc]
    simp only [y2]
 ·have hn : out[i]? = none := List.getElem?_eq_none_iff.2 (by omega)
  rw [hF,show 5002 - i = (5001 - i) + 1 by omega,bfsL,hn] at x5
  cases x5
  simp (disch := omega) only [go_sem]
end Go.Pv
namespace Go.Pv
def rowsC (a b : Auto) (cap : Int) (C : List Cfg) : List (List Int) := C.map fun c => (sucC a b cap c).map fun d => idxC d C
theorem idxC_in {c : Cfg} {C : List Cfg} (h : c ∈ C) : 0 ≤ idxC c C ∧ idxC c C < (C.length : Int) ∧ C[(idxC c C).toNat]? = some c := by
 unfold idxC
 cases hi : C.findIdx? fun x => decide (x = c) with
 | none =>
  have := List.findIdx?_eq_none_iff.1 hi c h
  simp at this
 | some j =>
  obtain ⟨h1,h2,_⟩ := List.findIdx?_eq_some_iff_getElem.1 hi
  simp only [decide_eq_true_eq] at h2
  refine ⟨by simp only; omega,by simp only; omega,?_⟩
  simp only [Int.toNat_natCast]
  rw [List.getElem?_eq_getElem h1,h2]
theorem fold_any {i : Nat} {m : Int} (_hm : 0 ≤ m) {d : List Int} (_hd : d.getD i (-1) < 0) (_hi : i < d.length) : ∀ (l : List Int),(∀ x ∈ l,0 ≤ x) → l.foldl (fun d' k => if d'.getD k.toNat (-1) = m then d'.set i (m + 1) else d') d = if (l.any fun k => decide (d.getD k.toNat (-1) = m)) = true then d.set i (m + 1) else d := by
 have stay : ∀ (l : List Int),l.foldl (fun d' k => if d'.getD k.toNat (-1) = m then d'.set i (m + 1) else d') (d.set i (m + 1)) = d.set i (m + 1) := by
  intro l
  induction l with
  | nil => rfl
  | cons k l ih =>
   rw [List.foldl_cons]
   split
   ·rw [List.set_set]
    exact ih
   ·exact ih
 intro l
 induction l with
 | nil => intro _; rfl
 | cons k l ih =>
  intro hl
  rw [List.foldl_cons,List.any_cons]
  by_cases h : d.getD k.toNat (-1) = m
  ·rw [if_pos h,stay,decide_eq_true h,Bool.true_or,if_pos rfl]
  ·rw [if_neg h,ih fun x hx => hl x (List.mem_cons_of_mem _ hx),decide_eq_false h,Bool.false_or]
set_option maxHeartbeats 16000000 in
theorem r541 (t : Nat) (a b : Auto) (cap : Int) (C : List Cfg) (hok : ∀ c ∈ C,c.ok) (hn : C.length ≤ 5000) (hcl : ∀ c ∈ C,∀ d ∈ sucC a b cap c,d ∈ C) (ha : a.edges.length ≤ 1000000) (hb : b.edges.length ≤ 1000000) : res A PrA 541 [.agg [.int .i64 a.states,.int .i64 a.start,.lst 0 (a.edges.map Edge.c),.int .i64 b.states,.int .i64 b.start,.lst 0 (b.edges.map Edge.c),.int .i64 cap],.lst t (cfgs C)] = some [.lst 0 (ints (rkAll (rowsC a b cap C) (rk0 C.length (doneUp (doneAt a b cap C) C.length))))] := by
 refine res_of a541 rfl rfl ?_
 simp only [F541]; try delta sS tT zZ nN gG bB pZ
 obtain ⟨n,hnn⟩ : ∃ n,C.length = n := ⟨_,rfl⟩
 have hrl : (rowsC a b cap C).length = n := by rw [rowsC,List.length_map,hnn]
 have hpd : ∀ (k : Nat) (c : Cfg),C[k]? = some c → doneAt a b cap C k = doneB a b cap c.a c.b c.toA c.toB := fun k c h => by unfold doneAt; rw [h]
 generalize hp : doneAt a b cap C = p at *
 rw [rk0_dN,← dI_all,hnn]
 rw [hnn] at hn
 simp (disch := omega) only [go_sem,hnn]
 refine W.upto n (fun k => ⟨[(1,.pv (.lst t (cfgs C))),(2,.ptr 2 0),(5,.own 0 0 0 n),(6,.pv (.int .i64 k))],⟨[(2,[.pv (.int .i64 a.states),.pv (.int .i64 a.start),.pv (.lst 0 (a.edges.map Edge.c)),.pv (.int .i64 b.states),.pv (.int .i64 b.start),.pv (.lst 0 (b.edges.map Edge.c)),.pv (.int .i64 cap)])],[⟨0,1,.inl (ints (dI p n k))⟩],[]⟩⟩) (fun _ => True) (by rw [dI_zero]; rfl) trivial fun k hk _ => ?_
 have hdl := dI_len p n k
 have hdl2 : ((dI p n k).set k (-1)).length = n := by rw [List.length_set,hdl]
 simp (disch := omega) only [go_sem,hnn]
 refine Br.ofP (fun h => ?_) (fun h => ?_)
 ·obtain ⟨c,hc⟩ := get_at (l := C) (k := k) (by omega)
  obtain ⟨x1,x2,x3,x4,x5,x6⟩ := hok c (List.mem_of_getElem? hc)
  have hcg : (cfgs C)[k]? = some [.int .i64 c.a,.int .i64 c.b,.lst 0 (ints c.toA),.lst 0 (ints c.toB)] := by rw [cfgs_get,hc]; rfl
  have h160 := r160 0 0 a b cap 0 0 c.a c.b c.toA c.toB (by omega) (by omega) (by omega) (by omega)
  rw [← hpd k c hc] at h160
  have hs1 := dI_succ (p := p) (n := n) (k := k) (v := 0) (by omega)
  have hs2 := dI_succ (p := p) (n := n) (k := k) (v := -1) (by omega)
  generalize dI p n k = d at *
  simp (disch := omega) only [go_sem,hcg,h160]
  cases hpk : p k with
  | true =>
   rw [hpk] at h160 hs1
   simp (disch := omega) only [go_sem]
   refine .of (by omega) ?_ trivial
   rw [List.set_set,hs1 rfl]
   rfl
  | false =>
   rw [hpk] at h160 hs2
   simp (disch := omega) only [go_sem]
   refine .of (by omega) ?_ trivial
   rw [hs2 rfl]
   rfl
 ·obtain rfl : k = n := by omega
  clear hk h
  have hd0 := dI_len p k k
  generalize dI p k k = d0 at *
  simp (disch := omega) only [go_sem]
  refine W.foldN k (fun d (m : Nat) => rkRound (rowsC a b cap C) m d) d0 (fun m d => ⟨[(1,.pv (.lst t (cfgs C))),(2,.ptr 2 0),(5,.own 0 0 0 k),(7,.pv (.int .i64 m))],⟨[(2,[.pv (.int .i64 a.states),.pv (.int .i64 a.start),.pv (.lst 0 (a.edges.map Edge.c)),.pv (.int .i64 b.states),.pv (.int .i64 b.start),.pv (.lst 0 (b.edges.map Edge.c)),.pv (.int .i64 cap)])],[⟨0,1,.inl (ints d)⟩],[]⟩⟩) (fun _ d => d.length = k) rfl hd0 (fun m d hm _ hi => ?_) (fun d hd hi => ?_)
  ·simp (disch := omega) only [go_sem,hnn]
   refine Br.ofP (fun h => ?_) (fun h => (h (by omega)).elim)
   simp (disch := omega) only [go_sem]
   refine W.foldN k (rk1 (rowsC a b cap C) m) d (fun i d => ⟨[(1,.pv (.lst t (cfgs C))),(2,.ptr 2 0),(5,.own 0 0 0 k),(7,.pv (.int .i64 m)),(8,.pv (.int .i64 i))],⟨[(2,[.pv (.int .i64 a.states),.pv (.int .i64 a.start),.pv (.lst 0 (a.edges.map Edge.c)),.pv (.int .i64 b.states),.pv (.int .i64 b.start),.pv (.lst 0 (b.edges.map Edge.c)),.pv (.int .i64 cap)])],[⟨0,1,.inl (ints d)⟩],[]⟩⟩) (fun _ d => d.length = k) rfl hi (fun i d hik _ hi => ?_) (fun d' hd' hi' => ?_)
   ·obtain ⟨c,hc⟩ := get_at (l := C) (k := i) (by omega)
    obtain ⟨x1,x2,x3,x4,x5,x6⟩ := hok c (List.mem_of_getElem? hc)
    have hcg : (cfgs C)[i]? = some [.int .i64 c.a,.int .i64 c.b,.lst 0 (ints c.toA),.lst 0 (ints c.toB)] := by rw [cfgs_get,hc]; rfl
    have h173 := r173 a b cap c.a c.b c.toA c.toB (by omega) (by omega) (by omega) (by omega)
    have h183 := fun mv => r183 a b cap c.a c.b c.toA c.toB mv (by omega) (by omega) (by omega) (by omega)
    have hrow : (rowsC a b cap C).getD i [] = ((movesC a b cap c.a c.b c.toA c.toB).map fun mv => idxC (afterC a b cap c.a c.b c.toA c.toB mv).1 C) := by simp [rowsC,hc,sucC,Function.comp_def]
    have hgi : d[i]? = some (d.getD i (-1)) := by
     have : i < d.length := by omega
     simp [this]
    simp (disch := omega) only [go_sem,hnn]
    refine Br.ofP (fun h => ?_) (fun h => (h (by omega)).elim)
    simp (disch := omega) only [go_sem,hgi]
    refine Br.ofP (fun h0 => ?_) (fun h0 => ?_)
    ·simp (disch := omega) only [go_sem]
     have : rk1 (rowsC a b cap C) m d i = d := if_pos h0
     rw [this]
     exact foldK.of rfl hi
    have hml : (movesC a b cap c.a c.b c.toA c.toB).length ≤ 2000000 := by
     have h1 := mvsOf_len a b cap c.a c.b c.toA c.toB 0 c.a a.edges
     have h2 := mvsOf_len a b cap c.a c.b c.toA c.toB 1 c.b b.edges
     rw [movesC,List.length_append]
     omega
    have hmem : ∀ mv ∈ movesC a b cap c.a c.b c.toA c.toB,(afterC a b cap c.a c.b c.toA c.toB mv).1 ∈ C := fun mv hmv => hcl c (List.mem_of_getElem? hc) _ (List.mem_map.2 ⟨mv,hmv,rfl⟩)
    have hfa := fold_any (i := i) (m := (m : Int)) (by omega) (d := d) (by omega) (by omega) ((movesC a b cap c.a c.b c.toA c.toB).map fun mv => idxC (afterC a b cap c.a c.b c.toA c.toB mv).1 C) (fun x hx => by
     obtain ⟨mv,hmv,rfl⟩ := List.mem_map.1 hx
     exact (idxC_in (hmem mv hmv)).1)
    rw [List.foldl_map] at hfa
    have hrk : rk1 (rowsC a b cap C) m d i = if (((movesC a b cap c.a c.b c.toA c.toB).map fun mv => idxC (afterC a b cap c.a c.b c.toA c.toB mv).1 C).any fun k => decide (d.getD k.toNat (-1) = (m : Int))) = true then d.set i (m + 1) else d := by
     unfold rk1
     rw [if_neg h0,hrow]
    rw [← hfa] at hrk
    rw [hrk]
    simp (disch := omega) only [go_sem,hcg,h173]
    generalize hms : movesC a b cap c.a c.b c.toA c.toB = ms at *
    refine W.fold ms (fun d' mv => if d'.getD (idxC (afterC a b cap c.a c.b c.toA c.toB mv).1 C).toNat (-1) = (m : Int) then d'.set i (m + 1) else d') d (fun j d => ⟨[(1,.pv (.lst t (cfgs C))),(2,.ptr 2 0),(5,.own 0 0 0 k),(7,.pv (.int .i64 m)),(8,.pv (.int .i64 i)),(9,.pv (.lst 0 (mvs3 ms))),(10,.pv (.int .i64 j))],⟨[(2,[.pv (.int .i64 a.states),.pv (.int .i64 a.start),.pv (.lst 0 (a.edges.map Edge.c)),.pv (.int .i64 b.states),.pv (.int .i64 b.start),.pv (.lst 0 (b.edges.map Edge.c)),.pv (.int .i64 cap)])],[⟨0,1,.inl (ints d)⟩],[]⟩⟩) (fun _ d => d.length = k) rfl hi (fun j mv acc hmv hj _ hi2 => ?_) (fun acc hacc hi2 => ?_)
    ·have hmC := hmem mv (List.mem_of_getElem? hmv)
     obtain ⟨g1,g2,_⟩ := idxC_in hmC
     have h168 := fun t => r168 t C _ (by omega) hok (hok _ hmC)
     have h183 := h183 mv
     generalize (afterC a b cap c.a c.b c.toA c.toB mv).2 = okb at *
     generalize (afterC a b cap c.a c.b c.toA c.toB mv).1 = e at *
     have hga : acc[(idxC e C).toNat]? = some (acc.getD (idxC e C).toNat (-1)) := by
      have : (idxC e C).toNat < acc.length := by omega
      simp [this]
     generalize idxC e C = z at *
     simp (disch := omega) only [go_sem]
     refine Br.ofP (fun h => ?_) (fun h => (h (by omega)).elim)
     simp (disch := omega) only [go_sem,hcg,hmv,h183,h168,hga]
     refine Br.ofP (fun h2 => ?_) (fun h2 => ?_)
     ·simp (disch := omega) only [go_sem]
      rw [if_pos h2]
      exact foldK.of rfl (by rw [List.length_set,hi2])
     ·simp (disch := omega) only [go_sem]
      rw [if_neg h2]
      exact foldK.of rfl hi2
    ·simp (disch := omega) only [go_sem]
     rw [← hacc]
     exact foldK.of rfl hi2
   ·simp (disch := omega) only [go_sem,hnn]
    have : rkRound (rowsC a b cap C) m d = d' := by rw [hd',rkRound,hrl]
    rw [this]
    exact foldK.of rfl hi'
  ·have htk : (ints d).take k = ints d := List.take_of_length_le (by rw [ints_len,hi]; exact Nat.le_refl _)
   have : rkAll (rowsC a b cap C) d0 = d := by rw [hd,rkAll,hrl]
   simp (disch := omega) only [go_sem,hnn,htk]
   rw [this]
end Go.Pv
namespace Go.Pv
section
variable {α μ : Type}
inductive Run (mv : α → List (μ × α)) : α → List μ → α → Prop
 | nil (c : α) : Run mv c [] c
 | cons {c d e : α} {l : List μ} {m : μ} : (m,d) ∈ mv c → Run mv d l e → Run mv c (m :: l) e
theorem Run.snoc {mv : α → List (μ × α)} {c d e : α} {l : List μ} {m : μ} (h : Run mv c l d) (hm : (m,e) ∈ mv d) : Run mv c (l ++ [m]) e := by
 induction h with
 | nil => exact .cons hm (.nil _)
 | cons h1 _ ih => exact .cons h1 (ih hm)
theorem Stp.run {mv : α → List (μ × α)} {c e : α} {l : List μ} (h : Stp mv c l e) : Run mv c l e := by
 induction h with
 | nil => exact .nil _
 | snoc _ hm ih => exact ih.snoc hm
end
structure Spc (a b : Auto) (cap : Int) (s : Cfg) (p : Cfg → Prop) (out : List Nd) : Prop where
 fnd : Fnd (mvC a b cap) s out out.length
 all : ∀ x ∈ out,p x.c
def rowsN (a b : Auto) (cap : Int) (out : List Nd) : List (List Int) := out.map fun x => (sucC a b cap x.c).map (posZ out)
variable {a b : Auto} {cap : Int} {s : Cfg} {p : Cfg → Prop} {out : List Nd}
theorem posZ_at (hn : (out.map Nod.c).Nodup) {z : Nat} {y : Nd} (hy : out[z]? = some y) : posZ out y.c = (z : Int) := by
 unfold posZ
 rw [pos_at hn hy]
 rfl
theorem Spc.closed (h : Spc a b cap s p out) {i : Nat} {x : Nd} (hx : out[i]? = some x) {d : Cfg} (hd : d ∈ sucC a b cap x.c) : ∃ (j : Nat) (y : Nd),out[j]? = some y ∧ y.c = d ∧ posZ out d = (j : Int) := by
 obtain ⟨j,y,h1,h2,_⟩ := h.fnd.dn i x (List.getElem?_eq_some_iff.1 hx).1 hx d (by rw [mvC_suc]; exact hd)
 exact ⟨j,y,h1,h2,by rw [← h2]; exact posZ_at h.fnd.nd h1⟩
theorem posZ_idx {c : Cfg} (hc : c ∈ out.map Nod.c) : posZ out c = idxC c (out.map Nod.c) := by
 unfold posZ idxC
 rw [List.findIdx?_map]
 have : (out.findIdx? ((fun x => decide (x = c)) ∘ Nod.c)) = out.findIdx? fun y => decide (y.c = c) := rfl
 rw [this]
 cases hi : out.findIdx? fun y => decide (y.c = c) with
 | some i => rfl
 | none =>
  obtain ⟨w,hw,hwc⟩ := List.mem_map.1 hc
  have := List.findIdx?_eq_none_iff.1 hi w hw
  simp [hwc] at this
theorem Spc.rows (h : Spc a b cap s p out) : rowsN a b cap out = rowsC a b cap (out.map Nod.c) := by
 unfold rowsN rowsC
 rw [List.map_map]
 refine List.map_congr_left fun x hx => ?_
 refine List.map_congr_left fun d hd => ?_
 obtain ⟨i,hi⟩ := mem_get hx
 obtain ⟨j,y,h1,h2,_⟩ := h.closed hi hd
 exact posZ_idx (List.mem_map.2 ⟨y,List.mem_of_getElem? h1,h2⟩)
theorem rowsN_len : (rowsN a b cap out).length = out.length := by simp [rowsN]
theorem Spc.inR (h : Spc a b cap s p out) : ∀ l ∈ rowsN a b cap out,∀ z ∈ l,0 ≤ z ∧ z < ((rowsN a b cap out).length : Int) := fun l hl z hz => by
 rw [rowsN_len]
 obtain ⟨x,hx,rfl⟩ := List.mem_map.1 hl
 obtain ⟨d,hd,rfl⟩ := List.mem_map.1 hz
 obtain ⟨i,hi⟩ := mem_get hx
 obtain ⟨j,y,h1,h2,h3⟩ := h.closed hi hd
 have := (List.getElem?_eq_some_iff.1 h1).1
 omega
def doneC (a b : Auto) (cap : Int) (c : Cfg) : Bool := doneB a b cap c.a c.b c.toA c.toB
def dnN (a b : Auto) (cap : Int) (out : List Nd) : List Int := doneUp (doneAt a b cap (out.map Nod.c)) out.length
def rkN (a b : Auto) (cap : Int) (out : List Nd) : List Int := ranksC (rowsN a b cap out) (dnN a b cap out)
theorem dnN_mem {i : Nat} {x : Nd} (hx : out[i]? = some x) : (i : Int) ∈ dnN a b cap out ↔ doneC a b cap x.c = true := by
 have hi := (List.getElem?_eq_some_iff.1 hx).1
 have hc : (out.map Nod.c)[i]? = some x.c := by rw [List.getElem?_map,hx]; rfl
 unfold dnN
 rw [doneUp_mem]
 constructor
 ·rintro ⟨j,_,h2,h3⟩
  obtain rfl : i = j := by omega
  unfold doneAt at h2
  rw [hc] at h2
  exact h2
 ·intro h
  refine ⟨i,hi,?_,rfl⟩
  unfold doneAt
  rw [hc]
  exact h
theorem Spc.dist (h : Spc a b cap s p out) : Dist out.length (edR (rowsN a b cap out)) (dnN a b cap out) (rkN a b cap out) := by
 have := ranks_dist (dn := dnN a b cap out) h.inR (fun x hx => by
  obtain ⟨i,h1,_,rfl⟩ := doneUp_mem.1 hx
  rw [rowsN_len]
  omega)
 rwa [rowsN_len] at this
theorem Spc.ed (h : Spc a b cap s p out) {i j : Nat} {x y : Nd} (hx : out[i]? = some x) (hy : out[j]? = some y) (hd : y.c ∈ sucC a b cap x.c) : edR (rowsN a b cap out) (i : Int) (j : Int) := by
 refine ⟨by omega,?_⟩
 rw [Int.toNat_natCast]
 have : (rowsN a b cap out).getD i [] = (sucC a b cap x.c).map (posZ out) := by simp [rowsN,hx]
 rw [this,← posZ_at h.fnd.nd hy]
 exact List.mem_map.2 ⟨_,hd,rfl⟩
theorem Spc.rank_le (h : Spc a b cap s p out) {c d : Cfg} {l : List Mov} (hr : Run (mvC a b cap) c l d) (hd : doneC a b cap d = true) : ∀ {i : Nat} {x : Nd},out[i]? = some x → x.c = c → 0 ≤ (rkN a b cap out).getD i (-1) ∧ (rkN a b cap out).getD i (-1) ≤ l.length := by
 have hD := h.dist
 induction hr with
 | nil c =>
  intro i x hx hc
  have hi := (List.getElem?_eq_some_iff.1 hx).1
  have := (hD.zero (i : Int) (by omega) (by omega)).2 ((dnN_mem hx).2 (by rw [hc]; exact hd))
  rw [Int.toNat_natCast] at this
  rw [this]
  exact ⟨by omega,by simp⟩
 | @cons c e d l m hm _ ih =>
  intro i x hx hc
  have hi := (List.getElem?_eq_some_iff.1 hx).1
  subst hc
  have hs : e ∈ sucC a b cap x.c := by rw [← mvC_suc]; exact List.mem_map.2 ⟨_,hm,rfl⟩
  obtain ⟨j,y,h1,h2,h3⟩ := h.closed hx hs
  have hj := (List.getElem?_eq_some_iff.1 h1).1
  obtain ⟨g1,g2⟩ := ih hd h1 h2
  have := hD.step (i : Int) (j : Int) (h.ed hx h1 (by rw [h2]; exact hs)) ⟨by omega,by omega,by omega,by omega⟩ (by rw [Int.toNat_natCast]; exact g1)
  rw [Int.toNat_natCast,Int.toNat_natCast] at this
  refine ⟨this.1,?_⟩
  rw [List.length_cons]
  omega
end Go.Pv
namespace Go.Pv
structure Few (a b : Auto) (cap : Int) (p : Cfg → Prop) (U : List Cfg) : Prop where
 sp : Sp30 a b cap p
 len : U.length ≤ 5000
 all : ∀ c,p c → c ∈ U
theorem bfsL_len {α : Type} [DecidableEq α] {succ : α → List α} {lim : Nat} : ∀ {n : Nat} {o o' : List α} {i : Nat},o.length ≤ lim → bfsL succ lim n o i = some o' → o'.length ≤ lim
 | 0,_,_,_,_,h => by cases h
 | n + 1,o,o',i,hl,h => by
  unfold bfsL at h
  split at h
  ·cases h
   exact hl
  ·split at h
   ·cases h
   ·rename_i o2 ha
    exact bfsL_len ((addUs_some ha).2.2.2 hl) h
open Classical in
theorem Few.space {a b : Auto} {cap : Int} {p : Cfg → Prop} {U : List Cfg} (h : Few a b cap p U) {c : Cfg} (hc : p c) : ∃ out,nodL (mvC a b cap) 5000 5002 [nod0 c] 0 = some out ∧ Spc a b cap c p out ∧ out.length ≤ 5000 := by
 have hU : ∀ c,p c → c ∈ U.filter fun c => decide (p c) := fun c hc => List.mem_filter.2 ⟨h.all c hc,by simpa using hc⟩
 have hlen : (U.filter fun c => decide (p c)).length ≤ 5000 := by
  have h1 := List.length_filter_le (fun c => decide (p c)) U
  have h2 := h.len
  omega
 have hs : sucOf (mvC a b cap) = sucC a b cap := funext fun c => mvC_suc a b cap c
 obtain ⟨o,ho⟩ := bfsL_total (succ := sucC a b cap) (s := c) (lim := 5000) (n := 5002) hlen (fun c hc x hx => hU x (h.sp.nx c (by simpa using (List.mem_filter.1 hc).2) x hx)) (bfs0 _ _) (fun x hx => by
  rw [List.mem_singleton.1 hx]
  exact hU _ hc) (Nat.zero_le _) (by omega)
 have hall := (bfsL_spec h.sp.nx (bfs0 (sucC a b cap) c) (fun x hx => by
  rw [List.mem_singleton.1 hx]
  exact hc) ho).2.1
 have hl := bfsL_len (by simp) ho
 rw [← hs] at ho
 obtain ⟨out,h1,h2⟩ := nodL_some ho
 refine ⟨out,h1,⟨nodL_end h1,fun x hx => hall _ ?_⟩,?_⟩
 ·rw [← h2]
  exact List.mem_map.2 ⟨x,hx,rfl⟩
 ·rw [← h2,List.length_map] at hl
  exact hl
theorem few_sm {a b : Auto} {cap : Int} (hs : sysErr a b cap = 0) (hl : ∀ e ∈ a.edges ++ b.edges,e.label ≤ 2) (ha : a.states ≤ 3) (hb : b.states ≤ 3) (hc : cap ≤ 2) : Few a b cap (smC a b cap) cfgU := by
 have hr := smC_runs hs hl
 refine ⟨⟨hr.nx,hr.ok,fun c h => h.1⟩,?_,fun c h => ?_⟩
 ·have h2 : cfgU.length = 441 := by decide +kernel
  omega
 ·obtain ⟨h1,h2,h3⟩ := h
  obtain ⟨_,h4,h5,h6,h7⟩ := fitsB_iff.1 h1
  exact cfgU_mem (by omega) (by omega) (chans_mem h6 h2 hc) (chans_mem h7 h3 hc)
end Go.Pv
namespace Go.Pv
theorem chan_wide {l : List Int} {cap : Int} (h : chanB l cap = true) : l.all wideI = true := by
 unfold chanB at h
 rw [Bool.and_eq_true,Bool.not_eq_true'] at h
 rw [List.all_eq_true]
 intro z hz
 have := List.any_eq_false.1 h.2 z hz
 simp only [badL,Bool.or_eq_true,decide_eq_true_eq,not_or] at this
 rw [wideI_iff]
 omega
theorem fits_okX {a b : Auto} {cap : Int} {c : Cfg} (h : fitsB a b cap c.a c.b c.toA c.toB = true) : c.ok := by
 obtain ⟨hs,h4,h5,h6,h7⟩ := fitsB_iff.1 h
 obtain ⟨ga,gb,hc1,hc2⟩ := sys_good hs
 have m1 := ga.mx
 have m2 := gb.mx
 have q1 := (chan_ok h6).1
 have q2 := (chan_ok h7).1
 exact ⟨wideI_iff.2 (by omega),wideI_iff.2 (by omega),chan_wide h6,chan_wide h7,by omega,by omega⟩
end Go.Pv
namespace Go.Pv
end Go.Pv
namespace Go.Pv
end Go.Pv
namespace Go.Pv
@[go_sem] theorem takev_ro (n t : Nat) (cs : List PV) : takev n (.ro t cs) = (.pv (.ro t cs),[]) := rfl
@[go_sem] theorem takev_nilp (n : Nat) : takev n .nilp = (.pv .nilp,[]) := rfl
variable {a b : Auto} {cap : Int} {s : Cfg} {p : Cfg → Prop} {out : List Nd}
structure SpcR (a b : Auto) (cap : Int) (s : Cfg) (p : Cfg → Prop) (out : List Nd) : Prop extends Spc a b cap s p out where
 sp : Sp30 a b cap p
 len : out.length ≤ 5000
 ea : a.edges.length ≤ 10000
 eb : b.edges.length ≤ 10000
theorem rkN_len (h : Spc a b cap s p out) : (rkN a b cap out).length = out.length := h.dist.len
end Go.Pv
namespace Go.Pv
end Go.Pv
namespace Go.Pv
variable {a b : Auto} {cap : Int} {s : Cfg} {p : Cfg → Prop} {out : List Nd}
theorem nod_bfs (hn : nodL (mvC a b cap) 5000 5002 [nod0 s] 0 = some out) : bfsL (sucC a b cap) 5000 5002 [s] 0 = some (out.map Nod.c) := by
 have h := nodL_map (mvC a b cap) (lim := 5000) 5002 [nod0 s] 0
 rw [hn,show sucOf (mvC a b cap) = sucC a b cap from funext fun c => mvC_suc a b cap c] at h
 exact h.symm
theorem SpcR.rk2 (h : SpcR a b cap s p out) (t : Nat) : res A PrA 541 [.agg [.int .i64 a.states,.int .i64 a.start,.lst 0 (a.edges.map Edge.c),.int .i64 b.states,.int .i64 b.start,.lst 0 (b.edges.map Edge.c),.int .i64 cap],.lst t (cfgs (out.map Nod.c))] = some [.lst 0 (ints (rkN a b cap out))] := by
 have hea := h.ea
 have heb := h.eb
 have hle := h.len
 have h1 := r541 t a b cap (out.map Nod.c) (fun c hc => by
  obtain ⟨x,hx,rfl⟩ := List.mem_map.1 hc
  exact h.sp.ok _ (h.all x hx)) (by rw [List.length_map]; exact hle) (fun c hc d hd => by
  obtain ⟨x,hx,rfl⟩ := List.mem_map.1 hc
  obtain ⟨i,hi⟩ := mem_get hx
  obtain ⟨j,y,g1,g2,_⟩ := h.closed hi hd
  exact List.mem_map.2 ⟨y,List.mem_of_getElem? g1,g2⟩) (by omega) (by omega)
 rw [← h.rows,List.length_map] at h1
 have h2 := rk_both (rows := rowsN a b cap out) (dn := dnN a b cap out) h.inR (fun x hx => by
  obtain ⟨i,g1,_,rfl⟩ := doneUp_mem.1 hx
  rw [rowsN_len]
  omega)
 rw [rowsN_len] at h2
 unfold dnN at h2
 rw [h2] at h1
 exact h1
end Go.Pv
namespace Go.Pv
variable {a b : Auto} {cap : Int} {s : Cfg} {p : Cfg → Prop} {out : List Nd}
end Go.Pv
namespace Go.Pv
def afterG (a b : Auto) (cap : Int) (c : Cfg) (mv : Mov) : Cfg × Bool := afterC a b cap c.a c.b c.toA c.toB mv
end Go.Pv
namespace Go.Pv
variable {a b : Auto} {cap : Int}
theorem mvC_after {c d : Cfg} {m : Mov} (h : (m,d) ∈ mvC a b cap c) : m ∈ movesC a b cap c.a c.b c.toA c.toB ∧ (afterG a b cap c m).1 = d ∧ (afterG a b cap c m).2 = true := by
 obtain ⟨m',hm,e⟩ := List.mem_map.1 h
 injection e with e1 e2
 subst e1
 exact ⟨hm,e2,(movesC_mem hm).1⟩
variable {s : Cfg} {p : Cfg → Prop} {out : List Nd}
theorem Spc.run (h : Spc a b cap s p out) {j : Nat} {x : Nd} (hx : out[j]? = some x) : Run (mvC a b cap) s x.path x.c := (h.fnd.stp j j x (Nat.le_refl _) hx).run
end Go.Pv
namespace Go.Pv
def smallA (m : Int) (x : Arc) : Arc := ⟨x.fr % m,x.act % 4,x.to % m⟩
def smallL (m : Int) (l : List Arc) (k : Nat) : List Arc := (l.take k).map (smallA m)
theorem smallL_len {m : Int} {l : List Arc} {k : Nat} (h : k ≤ l.length) : (smallL m l k).length = k := by rw [smallL,List.length_map,List.length_take]; omega
theorem smallL_succ {m : Int} {l : List Arc} {k : Nat} {x : Arc} (h : l[k]? = some x) : smallL m l (k + 1) = smallL m l k ++ [smallA m x] := by rw [smallL,List.take_add_one,h,List.map_append]; rfl
def smallD (n : Int) (l : List Arc) : Draft := ⟨n % 3,smallL (n % 3 + 1) l 12⟩
def arcs (l : List Arc) : List (List PV) := l.map Arc.c
@[go_sem] theorem arcs_length (l : List Arc) : (arcs l).length = l.length := List.length_map _
@[go_sem] theorem arcs_get (l : List Arc) (i : Nat) : (arcs l)[i]? = l[i]?.map fun x => [.int .u8 x.fr,.int .u8 x.act,.int .u8 x.to] := by simp [arcs]; rfl
theorem arcs_snoc (l : List Arc) (x : Arc) : arcs l ++ [[.int .u8 x.fr,.int .u8 x.act,.int .u8 x.to]] = arcs (l ++ [x]) := by simp [arcs,Arc.c]
set_option maxHeartbeats 4000000 in
theorem r184 (t : Nat) (n : Int) (l : List Arc) (hn : 0 ≤ n ∧ n ≤ 255) (_hl : l.length ≤ 2 ^ 63 - 1) (ho : ∀ x ∈ l,x.ok) : res A PrA 184 [.int .u8 n,.lst t (arcs l)] = some [.agg [.int .u8 (n % 3),.lst 0 (arcs (smallL (n % 3 + 1) l 12))]] := by
 refine res_of a184 rfl rfl ?_
 simp only [F184]; try delta sS tT zZ nN gG bB pZ
 have hm : n.tmod 3 = n % 3 := Int.tmod_eq_emod_of_nonneg hn.1
 have hb := Int.emod_nonneg n (by decide : (3 : Int) ≠ 0)
 have hc := Int.emod_lt_of_pos n (by decide : (0 : Int) < 3)
 simp (disch := omega) only [go_sem]
 generalize n % 3 = s at *
 refine W.upto 12 (fun k => ⟨[(1,.pv (.lst t (arcs l))),(4,.ptr 4 0),(5,.ptr 5 0),(6,.pv (.int .i64 k))],⟨[(4,[.pv (.int .u8 0),.tl []]),(5,[.pv (.int .u8 s),grV 0 (arcs (smallL (s + 1) l k))])],grA 3 (arcs (smallL (s + 1) l k)),[]⟩⟩) (fun k => k ≤ l.length) rfl (Nat.zero_le _) fun k hk hkl => ?_
 simp (disch := omega) only [go_sem]
 have hlen := smallL_len (m := s + 1) hkl
 have hal : (arcs (smallL (s + 1) l k)).length = k := by rw [arcs_length]; exact hlen
 refine Br.ofP (fun c1 => ?_) (fun c1 => ?_) <;> simp (disch := omega) only [go_sem,c1]
 ·refine Br.ofP (fun c2 => ?_) (fun c2 => ?_) <;> simp (disch := omega) only [go_sem,c2]
  ·obtain ⟨x,hx⟩ := get_at (l := l) (k := k) (by omega)
   obtain ⟨⟨o1,o2⟩,⟨o3,o4⟩,o5,o6⟩ := ho x (List.mem_of_getElem? hx)
   have e1 : x.fr.tmod (s + 1) = x.fr % (s + 1) := Int.tmod_eq_emod_of_nonneg o1
   have e2 : x.to.tmod (s + 1) = x.to % (s + 1) := Int.tmod_eq_emod_of_nonneg o5
   have e3 : x.act.tmod 4 = x.act % 4 := Int.tmod_eq_emod_of_nonneg o3
   have f1 := Int.emod_nonneg x.fr (by omega : s + 1 ≠ 0)
   have f2 := Int.emod_lt_of_pos x.fr (by omega : 0 < s + 1)
   have f3 := Int.emod_nonneg x.to (by omega : s + 1 ≠ 0)
   have f4 := Int.emod_lt_of_pos x.to (by omega : 0 < s + 1)
   have f5 := Int.emod_nonneg x.act (by decide : (4 : Int) ≠ 0)
   have f6 := Int.emod_lt_of_pos x.act (by decide : (0 : Int) < 4)
   have hss := smallL_succ (m := s + 1) hx
   simp (disch := omega) only [go_sem,hx]
   refine .of (by omega) ?_ (by omega)
   rw [hss,← arcs_snoc]
   rfl
  ·have h12 : k = 12 := by omega
   rw [h12]
 ·have hkl2 : k = l.length := by omega
  have : smallL (s + 1) l k = smallL (s + 1) l 12 := by
   unfold smallL
   rw [List.take_of_length_le (by omega),List.take_of_length_le (by omega)]
  rw [this]
structure PDr where
 n : Int
 la : List Arc
 l : List Arc
 mirror : Bool
 skip : Int
 cap : Int
def PDr.ok (d : PDr) : Prop := (0 ≤ d.n ∧ d.n ≤ 255) ∧ (0 ≤ d.skip ∧ d.skip ≤ 255) ∧ (0 ≤ d.cap ∧ d.cap ≤ 255) ∧ d.la.length ≤ 2 ^ 63 - 1 ∧ d.l.length ≤ 2 ^ 63 - 1 ∧ (∀ x ∈ d.la,x.ok) ∧ ∀ x ∈ d.l,x.ok
def PDr.sh (d : PDr) (k : Nat) : Int := d.skip.fdiv (2 ^ (min ((k : Int) % 8).toNat IntKind.u8.bits))
def PDr.bit (d : PDr) (k : Nat) : Int := IntKind.u8.wrap (BitVec.ofInt IntKind.u8.bits (d.sh k) &&& BitVec.ofInt IntKind.u8.bits 1).toNat
theorem PDr.shr_val (d : PDr) (k : Nat) : binV .shr (.pv (.int .u8 d.skip)) (.pv (.int .i64 ((k : Int) % 8))) = some (.pv (.int .u8 (d.sh k))) := by
 show (shiftBin .shr .u8 d.skip ((k : Int) % 8)).map V.pv = _
 unfold shiftBin
 rw [if_neg (by omega)]
 rfl
theorem PDr.and_val (d : PDr) (k : Nat) : binV .and (.pv (.int .u8 (d.sh k))) (.pv (.int .u8 1)) = some (.pv (.int .u8 (d.bit k))) := rfl
def PDr.out (d : PDr) (k : Nat) : Bool := decide (d.bit k = 0)
def PDr.fit (d : PDr) : Bool := decide (d.la.length ≤ 12) && decide (d.l.length ≤ 12)
theorem smallD_ok {n : Int} {l : List Arc} (_hn : 0 ≤ n ∧ n ≤ 255) (_ho : ∀ x ∈ l,x.ok) : (smallD n l).ok := by
 have hb := Int.emod_nonneg n (by decide : (3 : Int) ≠ 0)
 have hc := Int.emod_lt_of_pos n (by decide : (0 : Int) < 3)
 refine ⟨⟨hb,by show n % 3 ≤ 255; omega⟩,?_,fun x hx => ?_⟩
 ·show (smallL (n % 3 + 1) l 12).length ≤ _
  rw [smallL,List.length_map,List.length_take]
  omega
 ·obtain ⟨y,_,rfl⟩ := List.mem_map.1 hx
  generalize n % 3 = s at *
  have f1 := Int.emod_nonneg y.fr (by omega : s + 1 ≠ 0)
  have f2 := Int.emod_lt_of_pos y.fr (by omega : 0 < s + 1)
  have f3 := Int.emod_nonneg y.to (by omega : s + 1 ≠ 0)
  have f4 := Int.emod_lt_of_pos y.to (by omega : 0 < s + 1)
  have f5 := Int.emod_nonneg y.act (by decide : (4 : Int) ≠ 0)
  have f6 := Int.emod_lt_of_pos y.act (by decide : (0 : Int) < 4)
  exact ⟨⟨f1,by show y.fr % (s + 1) ≤ 255; omega⟩,⟨f5,by show y.act % 4 ≤ 255; omega⟩,f3,by show y.to % (s + 1) ≤ 255; omega⟩
theorem raw_from {st : Int} : ∀ (l : List Arc) (es : List Edge) (e : Edge),e ∈ l.foldl (fun es x => addE es (x.edge st)) es → e ∈ es ∨ ∃ x ∈ l,e = x.edge st
 | [],_,_,h => .inl h
 | x :: l,es,e,h => by
  rcases raw_from l (addE es (x.edge st)) e h with h | ⟨y,hy,rfl⟩
  ·rcases addE_mem h with h | rfl
   ·exact .inl h
   ·exact .inr ⟨x,List.mem_cons_self ..,rfl⟩
  ·exact .inr ⟨y,List.mem_cons_of_mem _ hy,rfl⟩
theorem smallD_edges {n : Int} {l : List Arc} (_hn : 0 ≤ n) : ∀ e ∈ (smallD n l).auto.edges,(0 ≤ e.fr ∧ e.fr ≤ 2) ∧ (0 ≤ e.to ∧ e.to ≤ 2) ∧ (1 ≤ e.label ∧ e.label ≤ 2) := by
 intro e he
 have he := (sortB_perm Edge.lt (smallD n l).raw).subset he
 have hb := Int.emod_nonneg n (by decide : (3 : Int) ≠ 0)
 have hc := Int.emod_lt_of_pos n (by decide : (0 : Int) < 3)
 have hst : (smallD n l).n = n % 3 := rfl
 rcases raw_from _ _ e he with h | ⟨x,hx,rfl⟩
 ·cases h
 ·have hx := List.mem_of_mem_take hx
  obtain ⟨y,_,rfl⟩ := List.mem_map.1 hx
  rw [hst]
  generalize n % 3 = s at *
  have hs4 : s % 4 = s := Int.emod_eq_of_lt hb (by omega)
  rw [hs4]
  have f1 := Int.emod_nonneg (smallA (s + 1) y).fr (by omega : 1 + s ≠ 0)
  have f2 := Int.emod_lt_of_pos (smallA (s + 1) y).fr (by omega : 0 < 1 + s)
  have f3 := Int.emod_nonneg (smallA (s + 1) y).to (by omega : 1 + s ≠ 0)
  have f4 := Int.emod_lt_of_pos (smallA (s + 1) y).to (by omega : 0 < 1 + s)
  have hl : (((smallA (s + 1) y).edge (1 + s)).label) = 1 + y.act % 4 / 2 % 3 := rfl
  refine ⟨⟨f1,?_⟩,⟨f3,?_⟩,?_⟩
  ·show (smallA (s + 1) y).fr % (1 + s) ≤ 2
   omega
  ·show (smallA (s + 1) y).to % (1 + s) ≤ 2
   omega
  ·rw [hl]
   omega
def mirA (e : Edge) : Arc := ⟨e.fr,if e.send = true then 2 * (e.label - 1) else 2 * (e.label - 1) + 1,e.to⟩
def mirL (out : Nat → Bool) (es : List Edge) : Nat → List Arc
 | 0 => []
 | k + 1 => match es[k]? with
  | none => mirL out es k
  | some e => if out k = true then mirL out es k ++ [mirA e] else mirL out es k
theorem mirL_len (out : Nat → Bool) (es : List Edge) (k : Nat) : (mirL out es k).length ≤ k := by
 induction k with
 | zero => exact Nat.le_refl _
 | succ k ih =>
  unfold mirL
  split
  ·omega
  ·split
   ·rw [List.length_append,List.length_singleton]
    omega
   ·omega
def PDr.mir (d : PDr) : List Arc := mirL d.out (smallD d.n d.la).auto.edges (smallD d.n d.la).auto.edges.length
def PDr.n2 (d : PDr) : Int := if d.mirror = true then d.n else IntKind.u8.wrap (d.n + d.skip)
def PDr.l2 (d : PDr) : List Arc := (if d.mirror = true then d.mir else []) ++ d.l
def PDr.A (d : PDr) : Auto := (smallD d.n d.la).auto
def PDr.B (d : PDr) : Auto := (smallD d.n2 d.l2).auto
theorem mirL_ok {out : Nat → Bool} {es : List Edge} (h : ∀ e ∈ es,(0 ≤ e.fr ∧ e.fr ≤ 2) ∧ (0 ≤ e.to ∧ e.to ≤ 2) ∧ (1 ≤ e.label ∧ e.label ≤ 2)) : ∀ k,∀ x ∈ mirL out es k,x.ok
 | 0,x,hx => by cases hx
 | k + 1,x,hx => by
  unfold mirL at hx
  split at hx
  ·exact mirL_ok h k x hx
  ·rename_i e he
   split at hx
   ·rcases List.mem_append.1 hx with hx | hx
    ·exact mirL_ok h k x hx
    ·rw [List.mem_singleton.1 hx]
     obtain ⟨f1,f2,f3⟩ := h e (List.mem_of_getElem? he)
     refine ⟨⟨f1.1,by show e.fr ≤ 255; omega⟩,?_,f2.1,by show e.to ≤ 255; omega⟩
     show 0 ≤ (if e.send = true then 2 * (e.label - 1) else 2 * (e.label - 1) + 1) ∧ (if e.send = true then 2 * (e.label - 1) else 2 * (e.label - 1) + 1) ≤ 255
     split <;> omega
   ·exact mirL_ok h k x hx
theorem app_nil0 (h : Heap) (rows : List (List PV)) (hr : ∀ r ∈ rows,r.length = 3) (hm : rows.length ≤ 2147483648) : appendV h 3 (.tl []) (.pv (.lst 0 rows)) = some (if rows.length = 0 then (.tl [],{}) else (.own h.ar.length 0 0 rows.length,{ push := [⟨0,3,.inl rows⟩],base := h.ar.length })) := by
 have hf : (rows.all fun x => x.length == 3) = true := by simpa using hr
 by_cases h0 : rows.length = 0
 ·simp [appendV,srcRows,rowsFit,rowsLen,h0,hf]
 ·simp [appendV,srcRows,rowsFit,rowsLen,h0,hf,mostRows,catRows,hm]
theorem app_own0 (h : Heap) (ver len : Nat) (R rows : List (List PV)) (ho : ownArr h 0 ver = some ⟨ver,3,.inl R⟩) (hl : len = R.length) (hr : ∀ r ∈ rows,r.length = 3) (hm : len + rows.length ≤ 2147483648) : appendV h 3 (.own 0 ver 0 len) (.pv (.lst 0 rows)) = some (if rows.length = 0 then (.own 0 ver 0 len,{ ra2 := some 0 }) else (.own 0 (ver + 1) 0 (len + rows.length),{ ar := some (0,⟨ver + 1,3,.inl (R ++ rows)⟩) })) := by
 have hf : (rows.all fun x => x.length == 3) = true := by simpa using hr
 subst hl
 by_cases h0 : rows.length = 0
 ·simp [appendV,srcRows,rowsFit,rowsLen,h0,hf,ho]
 ·simp [appendV,srcRows,rowsFit,rowsLen,h0,hf,ho,mostRows,catRows,cutRows,hm,Arr.size]
theorem arcs_rows (l : List Arc) : ∀ r ∈ arcs l,r.length = 3 := by
 intro r hr
 obtain ⟨x,_,rfl⟩ := List.mem_map.1 hr
 rfl
theorem wrap_u8_in (x : Int) : 0 ≤ IntKind.wrap .u8 x ∧ IntKind.wrap .u8 x ≤ 255 := by
 have h : IntKind.wrap .u8 x = x % 256 := rfl
 rw [h]
 omega
set_option maxHeartbeats 4000000 in
theorem r164 (d : PDr) (hd : d.ok) : res A PrA 164 [.agg [.int .u8 d.n,.lst 0 (arcs d.la),.lst 0 (arcs d.l),.bool d.mirror,.int .u8 d.skip,.int .u8 d.cap]] = some (if d.fit = true then [.agg [.int .i64 (1 + d.n % 3 % 4),.int .i64 0,.lst 0 (edgs d.A.edges),.int .i64 (1 + d.n2 % 3 % 4),.int .i64 0,.lst 0 (edgs d.B.edges),.int .i64 (1 + d.cap % 2)],.bool true] else [.agg [.int .i64 0,.int .i64 0,.lst 0 [],.int .i64 0,.int .i64 0,.lst 0 [],.int .i64 0],.bool false]) := by
 refine res_of a164 rfl rfl ?_
 simp only [F164]; try delta sS tT zZ nN gG bB pZ
 obtain ⟨h1,h2,h3,h4,h5,h6,h7⟩ := hd
 have e1 := r184 0 d.n d.la h1 h4 h6
 have e2 := r25 0 _ (smallD_ok h1 h6)
 have e3 : (smallD d.n d.la).arcs.map Arc.c = arcs (smallL (d.n % 3 + 1) d.la 12) := rfl
 have e4 : (smallD d.n d.la).n = d.n % 3 := rfl
 rw [e3,e4] at e2
 simp (disch := omega) only [go_sem]
 refine Br.ofP (fun c1 => ?_) (fun c1 => ?_) <;> simp (disch := omega) only [go_sem,c1]
 ·have hf : d.fit = false := by
   have : ¬ d.la.length ≤ 12 := by omega
   simp [PDr.fit,this]
  rw [hf,if_neg (by decide)]
 ·refine Br.ofP (fun c2 => ?_) (fun c2 => ?_) <;> simp (disch := omega) only [go_sem,c2,e1,e2]
  ·have hf : d.fit = false := by
    have : ¬ d.l.length ≤ 12 := by omega
    simp [PDr.fit,this]
   rw [hf,if_neg (by decide)]
  have hf : d.fit = true := by
   have g1 : d.la.length ≤ 12 := by omega
   have g2 : d.l.length ≤ 12 := by omega
   simp [PDr.fit,g1,g2]
  rw [hf,if_pos rfl]
  have hcm : d.cap.tmod 2 = d.cap % 2 := Int.tmod_eq_emod_of_nonneg h3.1
  have hc1 := Int.emod_nonneg d.cap (by decide : (2 : Int) ≠ 0)
  have hc2 := Int.emod_lt_of_pos d.cap (by decide : (0 : Int) < 2)
  have hll : (arcs d.l).length = d.l.length := arcs_length _
  have hn2 : 0 ≤ d.n2 ∧ d.n2 ≤ 255 := by
   unfold PDr.n2
   split
   ·exact h1
   ·exact wrap_u8_in _
  have hml0 := mirL_len d.out (smallD d.n d.la).auto.edges (smallD d.n d.la).auto.edges.length
  have hlen := Draft.len (smallD_ok h1 h6)
  have hl2 : ∀ x ∈ d.l2,x.ok := fun x hx => by
   rcases List.mem_append.1 hx with hx | hx
   ·split at hx
    ·exact mirL_ok (smallD_edges h1.1) _ x hx
    ·cases hx
   ·exact h7 x hx
  have hl2n : d.l2.length ≤ 1000 := by
   unfold PDr.l2
   rw [List.length_append]
   split
   ·unfold PDr.mir
    omega
   ·simp
    omega
  have e5 := fun t => r184 t d.n2 d.l2 hn2 (by omega) hl2
  have e6 := r25 0 _ (smallD_ok hn2 hl2)
  have e7 : (smallD d.n2 d.l2).arcs.map Arc.c = arcs (smallL (d.n2 % 3 + 1) d.l2 12) := rfl
  have e8 : (smallD d.n2 d.l2).n = d.n2 % 3 := rfl
  rw [e7,e8] at e6
  have eB : (smallD d.n2 d.l2).auto.edges = d.B.edges := rfl
  have eA : (smallD d.n d.la).auto.edges = d.A.edges := rfl
  rw [eB] at e6
  clear e7 eB
  generalize smallL (d.n2 % 3 + 1) d.l2 12 = SL at e5 e6
  refine Br.of (fun c3 => ?_) (fun c3 => ?_) <;> simp (disch := omega) only [go_sem,c3]
  ·have hgood := (Draft.good (smallD_ok h1 h6) (s := 0) (by have := (smallD d.n d.la).st; omega)).fit
   have hfit : ∀ e ∈ (smallD d.n d.la).auto.edges,(0 ≤ e.fr ∧ e.fr ≤ 2) ∧ (0 ≤ e.to ∧ e.to ≤ 2) ∧ (1 ≤ e.label ∧ e.label ≤ 2) := smallD_edges h1.1
   have hm2 : d.l2 = mirL d.out (smallD d.n d.la).auto.edges (smallD d.n d.la).auto.edges.length ++ d.l := by unfold PDr.l2; rw [if_pos c3]; rfl
   have hnn : d.n2 = d.n := if_pos c3
   rw [hm2,hnn] at e5
   rw [hnn] at e6
   rw [← eA]
   clear eA
   generalize (smallD d.n d.la).auto.edges = es at *
   refine W.upto es.length (fun k => ⟨[(1,.ptr 1 0),(2,.ptr 2 0),(4,.ptr 4 0),(6,.pv (.int .u8 d.n)),(7,grV 0 (arcs (mirL d.out es k))),(8,.pv (.int .i64 k))],⟨[(1,[.pv (.int .u8 d.n),.pv (.lst 0 (arcs d.la)),.pv (.lst 0 (arcs d.l)),.pv (.bool true),.pv (.int .u8 d.skip),.pv (.int .u8 d.cap)]),(2,[.pv (.int .i64 0),.pv (.int .i64 0),.tl [],.pv (.int .i64 0),.pv (.int .i64 0),.tl [],.pv (.int .i64 0)]),(4,[.pv (.int .i64 (1 + d.n % 3 % 4)),.pv (.int .i64 0),.pv (.lst 0 (edgs es))])],grA 3 (arcs (mirL d.out es k)),[]⟩⟩) (fun _ => True) rfl trivial fun k hk _ => ?_
   have hml := mirL_len d.out es k
   have hal : (arcs (mirL d.out es k)).length = (mirL d.out es k).length := arcs_length _
   simp (disch := omega) only [go_sem]
   refine Br.ofP (fun c4 => ?_) (fun c4 => ?_) <;> simp (disch := omega) only [go_sem,c4]
   ·obtain ⟨e,he⟩ := get_at (l := es) (k := k) (by omega)
    obtain ⟨⟨f1,f2⟩,⟨f3,f4⟩,f5,f6⟩ := hfit e (List.mem_of_getElem? he)
    have hmk : mirL d.out es (k + 1) = if d.out k = true then mirL d.out es k ++ [mirA e] else mirL d.out es k := by
     rw [mirL,he]
    obtain ⟨fr,send,label,to⟩ := e
    dsimp only at f1 f2 f3 f4 f5 f6
    cases send
    all_goals
     have hsv := d.shr_val k
     have hav := d.and_val k
     have hout : d.out k = decide (d.bit k = 0) := rfl
     simp (disch := omega) only [go_sem,he,hsv,hav]
     refine Br.ofP (fun c5 => ?_) (fun c5 => ?_)
     ·rw [hout,decide_eq_true c5,if_pos rfl] at hmk
      simp (disch := omega) only [go_sem]
      refine .of (by omega) ?_ trivial
      rw [hmk,← arcs_snoc]
      rfl
     ·rw [hout,decide_eq_false c5,if_neg (by decide)] at hmk
      simp (disch := omega) only [go_sem]
      refine .of (by omega) ?_ trivial
      rw [hmk]
      rfl
   ·have hkk : k = es.length := by omega
    subst hkk
    rw [hnn]
    generalize hmm : mirL d.out es es.length = mm at *
    cases mm with
    | nil =>
     have hg1 : grV 0 (arcs []) = .tl [] := rfl
     have hg2 : grA 3 (arcs []) = [] := rfl
     rw [hg1,hg2]
     have hcat : arcs ([] ++ d.l) = arcs d.l := rfl
     rw [hcat] at e5
     have happ := fun h => app_nil0 h (arcs d.l) (arcs_rows d.l) (by omega)
     by_cases hd0 : (arcs d.l).length = 0
     ·rw [List.eq_nil_of_length_eq_zero hd0] at e5 happ ⊢
      simp only [List.length_nil,if_true] at happ
      simp (disch := omega) only [go_sem,happ,e5,e6]
     ·simp only [if_neg hd0] at happ
      have htk : ∀ n,(arcs d.l).length ≤ n → (arcs d.l).take n = arcs d.l := fun n h => List.take_of_length_le h
      simp (disch := omega) only [go_sem,happ,htk,e5,e6]
    | cons x q =>
     have hg0 : (arcs (x :: q)).length = q.length + 1 := by rw [arcs_length,List.length_cons]
     have hg1 : grV 0 (arcs (x :: q)) = .own 0 q.length 0 (q.length + 1) := by
      show V.own 0 (arcs q).length 0 ((arcs q).length + 1) = _
      rw [arcs_length]
     have hg2 : grA 3 (arcs (x :: q)) = [⟨q.length,3,.inl (arcs (x :: q))⟩] := by
      show [(⟨(arcs q).length,3,.inl (arcs (x :: q))⟩ : Arr)] = _
      rw [arcs_length]
     rw [hg1,hg2]
     have hcat : arcs (x :: q ++ d.l) = arcs (x :: q) ++ arcs d.l := List.map_append
     rw [hcat] at e5
     have hql : q.length + 1 ≤ 12 := by
      have := mirL_len d.out es es.length
      rw [hmm,List.length_cons] at this
      omega
     have happ := fun h ho => app_own0 h q.length (q.length + 1) (arcs (x :: q)) (arcs d.l) ho hg0.symm (arcs_rows d.l) (by omega)
     by_cases hd0 : (arcs d.l).length = 0
     ·rw [List.eq_nil_of_length_eq_zero hd0,List.append_nil] at e5
      rw [List.eq_nil_of_length_eq_zero hd0] at happ ⊢
      simp only [List.length_nil,if_true] at happ
      generalize arcs (x :: q) = R at *
      rw [happ _ (by simp [ownArr])]
      have htk : ∀ n,R.length ≤ n → R.take n = R := fun n h => List.take_of_length_le h
      simp (disch := omega) only [go_sem,htk,e5,e6]
     ·simp only [if_neg hd0] at happ
      generalize arcs (x :: q) = R at *
      rw [happ _ (by simp [ownArr])]
      have htk : ∀ n,(R ++ arcs d.l).length ≤ n → (R ++ arcs d.l).take n = R ++ arcs d.l := fun n h => List.take_of_length_le h
      have hRl : (R ++ arcs d.l).length = R.length + (arcs d.l).length := List.length_append
      simp (disch := omega) only [go_sem,htk,e5,e6]
  ·have hm2 : d.l2 = d.l := by unfold PDr.l2; rw [if_neg (by simp [c3])]; rfl
   have hnn : d.n2 = IntKind.u8.wrap (d.n + d.skip) := if_neg (by simp [c3])
   rw [hm2,hnn] at e5
   rw [hnn] at e6 ⊢
   rw [← eA]
   have happ := fun h => app_nil0 h (arcs d.l) (arcs_rows d.l) (by omega)
   by_cases hd0 : (arcs d.l).length = 0
   ·rw [List.eq_nil_of_length_eq_zero hd0] at e5 happ ⊢
    simp only [List.length_nil,if_true] at happ
    simp (disch := omega) only [go_sem,happ,e5,e6]
   ·simp only [if_neg hd0] at happ
    have htk : ∀ n,(arcs d.l).length ≤ n → (arcs d.l).take n = arcs d.l := fun n h => List.take_of_length_le h
    simp (disch := omega) only [go_sem,happ,htk,e5,e6]
end Go.Pv
