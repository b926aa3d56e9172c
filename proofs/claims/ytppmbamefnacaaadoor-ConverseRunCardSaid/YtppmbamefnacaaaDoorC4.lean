/-
  What the functions of the law give.
-/
import Derived.Test.YtppmbamefnacaaaDoorC3
set_option linter.unusedSimpArgs false
set_option linter.unusedVariables false
namespace Go.Pv
def doneAt (a b : Auto) (cap : Int) (C : List Cfg) (i : Nat) : Bool := match C[i]? with
  | some c => doneB a b cap c.a c.b c.toA c.toB
  | none => false
def doneUp (p : Nat → Bool) (k : Nat) : List Int := ((List.range k).filter p).map fun (i : Nat) => (i : Int)
theorem doneUp_succ (p : Nat → Bool) (k : Nat) : doneUp p (k + 1) = if p k = true then doneUp p k ++ [(k : Int)] else doneUp p k := by
  unfold doneUp
  rw [List.range_succ,List.filter_append,List.map_append]
  by_cases h : p k = true <;> simp [h]
theorem doneUp_mem {p : Nat → Bool} {k : Nat} {x : Int} : x ∈ doneUp p k ↔ ∃ i : Nat,i < k ∧ p i = true ∧ x = (i : Int) := by
  simp only [doneUp,List.mem_map,List.mem_filter,List.mem_range]
  constructor
  · rintro ⟨i,⟨h1,h2⟩,rfl⟩
    exact ⟨i,h1,h2,rfl⟩
  · rintro ⟨i,h1,h2,rfl⟩
    exact ⟨i,⟨h1,h2⟩,rfl⟩
theorem doneUp_len (p : Nat → Bool) (k : Nat) : (doneUp p k).length ≤ k := by
  unfold doneUp
  rw [List.length_map]
  have := List.length_filter_le p (List.range k)
  rw [List.length_range] at this
  exact this
def dI (p : Nat → Bool) (n k : Nat) : List Int := (List.range n).map fun (j : Nat) => if j < k then (if p j = true then 0 else -1) else 0
theorem dI_len (p : Nat → Bool) (n k : Nat) : (dI p n k).length = n := by simp [dI]
theorem dI_zero (p : Nat → Bool) (n : Nat) : dI p n 0 = List.replicate n 0 := by
  apply List.ext_getElem?
  intro i
  rcases Nat.lt_or_ge i n with hi | hi
  · simp [dI,hi]
  · simp [dI,hi]
theorem dI_succ {p : Nat → Bool} {n k : Nat} {v : Int} (h : k < n) (hv : v = if p k = true then 0 else -1) : (dI p n k).set k v = dI p n (k + 1) := by
  apply List.ext_getElem?
  intro i
  rcases Nat.lt_or_ge i n with hi | hi
  · by_cases e : k = i
    · subst e
      rw [List.getElem?_set_self (by rw [dI_len]; exact h)]
      simp [dI,h,hv]
    · rw [List.getElem?_set_ne e]
      simp only [dI,List.getElem?_map,List.getElem?_range hi,Option.map_some]
      by_cases h1 : i < k
      · simp only [h1,if_true,show i < k + 1 by omega]
      · simp only [h1,if_false,show ¬ i < k + 1 by omega]
  · rw [List.getElem?_eq_none (by rw [List.length_set,dI_len]; exact hi),List.getElem?_eq_none (by rw [dI_len]; exact hi)]
def dN (p : Nat → Bool) (n k : Nat) : List Int := (List.range n).map fun (j : Nat) => if j < k ∧ p j = true then 0 else -1
theorem dN_succ {p : Nat → Bool} {n k : Nat} (h : k < n) : dN p n (k + 1) = if p k = true then (dN p n k).set k 0 else dN p n k := by
  apply List.ext_getElem?
  intro i
  rcases Nat.lt_or_ge i n with hi | hi
  · by_cases hp : p k = true
    · rw [if_pos hp]
      by_cases e : k = i
      · subst e
        rw [List.getElem?_set_self (by simp [dN,h])]
        simp [dN,h,hp]
      · rw [List.getElem?_set_ne e]
        simp only [dN,List.getElem?_map,List.getElem?_range hi,Option.map_some]
        by_cases h1 : i < k
        · simp only [h1,true_and,show i < k + 1 by omega]
        · simp only [h1,false_and,if_false,show ¬ i < k + 1 by omega]
    · rw [if_neg hp]
      simp only [dN,List.getElem?_map,List.getElem?_range hi,Option.map_some]
      by_cases e : i = k
      · subst e
        simp [hp]
      · by_cases h1 : i < k
        · simp only [h1,true_and,show i < k + 1 by omega]
        · simp only [h1,false_and,if_false,show ¬ i < k + 1 by omega]
  · rw [List.getElem?_eq_none (by simp [dN,hi]),List.getElem?_eq_none (by split <;> simp [dN,hi])]
theorem dI_all (p : Nat → Bool) (n : Nat) : dI p n n = dN p n n := by
  refine List.map_congr_left fun j hj => ?_
  rw [List.mem_range] at hj
  simp [hj]
theorem fold0 (p : Nat → Bool) (n : Nat) : ∀ k,k ≤ n → (doneUp p k).foldl (lvIn 0) (List.replicate n (-1),[]) = (dN p n k,doneUp p k)
  | 0,_ => by
    show (List.replicate n (-1 : Int),([] : List Int)) = _
    have : dN p n 0 = List.replicate n (-1) := by
      apply List.ext_getElem?
      intro i
      rcases Nat.lt_or_ge i n with hi | hi
      · simp [dN,hi]
      · simp [dN,hi]
    rw [this]
    rfl
  | k + 1,h => by
    rw [doneUp_succ,dN_succ (by omega)]
    by_cases hp : p k = true
    · rw [if_pos hp,if_pos hp,List.foldl_append,fold0 p n k (by omega)]
      have hg : (dN p n k).getD k (-1) = -1 := by
        have : k < n := by omega
        simp [dN,this]
      simp only [List.foldl_cons,List.foldl_nil,lvIn,Int.toNat_natCast,hg]
      rw [if_pos (by omega)]
    · rw [if_neg hp,if_neg hp]
      exact fold0 p n k (by omega)
theorem esT_len_le {rows : List (List Int)} {B : Nat} (hb : ∀ l ∈ rows,l.length ≤ B) : ∀ i,i ≤ rows.length → (esT rows i).length ≤ B * i
  | 0,_ => by simp [esT]
  | i + 1,h => by
    rw [esT_succ,List.length_append,List.length_map]
    have h1 := esT_len_le hb i (by omega)
    have h2 : (rows.getD i []).length ≤ B := by
      have : rows.getD i [] = rows[i] := by simp [show i < rows.length by omega]
      rw [this]
      exact hb _ (List.getElem_mem _)
    rw [Nat.mul_succ]
    omega
set_option maxHeartbeats 16000000 in
theorem r247 (t : Nat) (a b : Auto) (cap : Int) (C : List Cfg) (rows : List (List Int)) (M F Y : PV) (hC : C.length = rows.length) (hn : rows.length ≤ 5000) (hr : ∀ l ∈ rows,∀ x ∈ l,0 ≤ x ∧ x < (rows.length : Int)) (hlr : ∀ l ∈ rows,l.length ≤ 100000) (hcl : ∀ c ∈ C,c.toA.length ≤ 2000000000 ∧ c.toB.length ≤ 2000000000)
    (ha : a.edges.length ≤ 2 ^ 63 - 1) (hb : b.edges.length ≤ 2 ^ 63 - 1) : res A PrA 247 [.ro t [.int .i64 a.states,.int .i64 a.start,.lst 0 (a.edges.map Edge.c),.int .i64 b.states,.int .i64 b.start,.lst 0 (b.edges.map Edge.c),.int .i64 cap,.lst 0 (cfgs C),M,.lst 0 (lls rows),F,Y]] = some [.lst 0 (ints (ranksC rows (doneUp (doneAt a b cap C) rows.length)))] := by
  refine res_of a247 rfl rfl ?_
  simp only [F247]
  obtain ⟨n,hnn⟩ : ∃ n,rows.length = n := ⟨_,rfl⟩
  have hsl : ∀ i,i ≤ n → (esT rows i).length ≤ 100000 * 5000 := fun i hi => by
    have h1 := esT_len_le hlr i (by omega)
    have h2 : 100000 * i ≤ 100000 * 5000 := Nat.mul_le_mul_left _ (by omega)
    omega
  rw [hnn] at hr hC hn ⊢
  simp (disch := omega) only [go_sem,hnn,hC]
  refine W.loop (α := Nat × List V × List Arr) (fun x => ⟨[(0,.pv (.ro t [.int .i64 a.states,.int .i64 a.start,.lst 0 (a.edges.map Edge.c),.int .i64 b.states,.int .i64 b.start,.lst 0 (b.edges.map Edge.c),.int .i64 cap,.lst 0 (cfgs C),M,.lst 0 (lls rows),F,Y])),(3,.own 0 0 0 n),(24,.pv (.lst 0 (lls rows))),(25,.pv (.int .i64 n)),(26,.pv (.int .i64 x.1))],⟨[],⟨0,1,.inr (rowsV x.2.1)⟩ :: x.2.2,[]⟩⟩)
    (fun x => x.1 ≤ n ∧ Lists n (succA n (esT rows x.1)) x.2.1 x.2.2 ∧ V.pv (.lst 0 []) ∉ x.2.1) (fun x => n - x.1) (0,List.replicate n (.tl []),[]) rfl ⟨Nat.zero_le _,by show Lists n (succA n []) _ _; rw [succA_nil]; exact Lists.start n,fun hm => by cases List.eq_of_mem_replicate hm⟩ fun x hx => ?_
  obtain ⟨i,xs,ars⟩ := x
  obtain ⟨hi,hL,hno⟩ := hx
  dsimp only at hi hL hno
  simp (disch := omega) only [go_sem]
  refine Br.ofP (fun h => ?_) (fun h => ?_)
  · obtain ⟨l,hl⟩ := get_at (l := rows) (k := i) (by omega)
    have hll := hlr l (List.mem_of_getElem? hl)
    have hlx := hr l (List.mem_of_getElem? hl)
    have hgd : rows.getD i [] = l := by simp [hl]
    simp (disch := omega) only [go_sem,hl]
    refine W.loop (α := Nat × List V × List Arr) (fun x => ⟨[(0,.pv (.ro t [.int .i64 a.states,.int .i64 a.start,.lst 0 (a.edges.map Edge.c),.int .i64 b.states,.int .i64 b.start,.lst 0 (b.edges.map Edge.c),.int .i64 cap,.lst 0 (cfgs C),M,.lst 0 (lls rows),F,Y])),(3,.own 0 0 0 n),(4,.pv (.int .i64 i)),(24,.pv (.lst 0 (lls rows))),(25,.pv (.int .i64 n)),(26,.pv (.int .i64 i)),(31,.pv (.lst 0 (ints l))),(32,.pv (.int .i64 l.length)),(33,.pv (.int .i64 x.1))],⟨[],⟨0,1,.inr (rowsV x.2.1)⟩ :: x.2.2,[]⟩⟩)
      (fun x => x.1 ≤ l.length ∧ Lists n (succA n (esT rows i ++ (l.take x.1).map fun k => (k,(i : Int)))) x.2.1 x.2.2 ∧ V.pv (.lst 0 []) ∉ x.2.1) (fun x => l.length - x.1) (0,xs,ars) rfl ⟨Nat.zero_le _,by simpa using hL,hno⟩ fun x hx => ?_
    obtain ⟨k,xs,ars⟩ := x
    obtain ⟨hk,hL,hno⟩ := hx
    dsimp only at hk hL hno
    simp (disch := omega) only [go_sem]
    refine Br.ofP (fun h => ?_) (fun h => ?_)
    · obtain ⟨e,he⟩ := get_at (l := l) (k := k) (by omega)
      obtain ⟨g1,g2⟩ := hlx e (List.mem_of_getElem? he)
      have hv : e.toNat < n := by omega
      have hvi : ((e.toNat : Nat) : Int) = e := by omega
      obtain ⟨x,s,hx,hs,ho⟩ := hL.get hv
      rw [succA_get hv,hvi] at hs
      cases hs
      have hes : (esT rows i ++ (l.take k).map fun k => (k,(i : Int))).length ≤ 600000000 := by
        have := hsl i (by omega)
        rw [List.length_append,List.length_map,List.length_take]
        omega
      have hol := outP_len (esT rows i ++ (l.take k).map fun k => (k,(i : Int))) e
      have htk : esT rows i ++ (l.take (k + 1)).map (fun k => (k,(i : Int))) = (esT rows i ++ (l.take k).map fun k => (k,(i : Int))) ++ [(e,(i : Int))] := by
        rw [List.take_add_one,he]
        simp
      have hsucc := succA_snoc (n := n) (es := esT rows i ++ (l.take k).map fun k => (k,(i : Int))) (e := (e,(i : Int))) ⟨g1,g2⟩
      rw [← htk] at hsucc
      dsimp only at hsucc
      generalize esT rows i ++ (l.take k).map (fun k => (k,(i : Int))) = es at *
      have hxl := hL.xl
      rcases ho with ⟨h0,h1⟩ | ⟨id,ver,rfl,h1,h2⟩
      · rcases h0 with rfl | rfl
        · simp (disch := omega) only [go_sem,he,hx]
          refine ⟨(k + 1,_,_),⟨by dsimp only; omega,?_,not_set hno (by simp)⟩,by dsimp only; omega,rfl⟩
          dsimp only
          rw [← hsucc,h1]
          exact hL.first hv (by simp)
        · exact (hno (List.mem_of_getElem? hx)).elim
      · simp (disch := omega) only [go_sem,he,hx,h2]
        refine ⟨(k + 1,_,_),⟨by dsimp only; omega,?_,not_set hno (by simp)⟩,by dsimp only; omega,rfl⟩
        dsimp only
        rw [← hsucc]
        have := hL.same (ver' := ver + 1) (l := outP es e ++ [(i : Int)]) hv hx (by simp)
        simp only [List.length_append,List.length_cons,List.length_nil,Nat.zero_add] at this
        exact this
    · obtain rfl : k = l.length := by omega
      rw [List.take_length,← hgd,← esT_succ] at hL
      simp (disch := omega) only [go_sem]
      exact ⟨(i + 1,xs,ars),⟨by dsimp only; omega,hL,hno⟩,by dsimp only; omega,rfl⟩
  · obtain rfl : i = n := by omega
    clear h
    have catO : ∀ (O : Arr) (Q : List Arr),(ars ++ (O :: Q))[ars.length]? = some O := fun O Q => by simp
    have setO : ∀ (O O' : Arr) (Q : List Arr),(ars ++ (O :: Q)).set ars.length O' = ars ++ (O' :: Q) := fun O O' Q => by simp []
    have gr : ∀ bx mp (A0 O : Arr) (q : List Int) (z : Int),q.length ≤ 5000 → appendV ⟨bx,A0 :: (ars ++ (O :: grA 1 (ints q))),mp⟩ 1 (grV (ars.length + 2) (ints q)) (.tl [[.int .i64 z]]) = some (grV (ars.length + 2) (ints (q ++ [z])),grT (ars.length + 2) 1 (ints q) [.int .i64 z]) := fun bx mp A0 O q z hq => by
      have := grow bx mp (A0 :: (ars ++ [O])) 1 (ints q) [.int .i64 z] rfl (by rw [ints_length]; omega)
      rw [ints_snoc] at this
      simpa using this
    have ga : ∀ bx mp (A0 O : Arr) (q : List Int) (z : Int),(grT (ars.length + 2) 1 (ints q) [.int .i64 z]).apply ⟨bx,A0 :: (ars ++ (O :: grA 1 (ints q))),mp⟩ = ⟨bx,A0 :: (ars ++ (O :: grA 1 (ints (q ++ [z])))),mp⟩ := fun bx mp A0 O q z => by
      have := grT_apply bx mp (A0 :: (ars ++ [O])) 1 (ints q) [.int .i64 z]
      rw [ints_snoc] at this
      simpa using this
    have hpd : ∀ (k : Nat) (c : Cfg),C[k]? = some c → doneAt a b cap C k = doneB a b cap c.a c.b c.toA c.toB := fun k c h => by unfold doneAt; rw [h]
    generalize hp : doneAt a b cap C = P at *
    simp (disch := omega) only [go_sem,hC]
    refine W.upto i (fun k => ⟨[(0,.pv (.ro t [.int .i64 a.states,.int .i64 a.start,.lst 0 (a.edges.map Edge.c),.int .i64 b.states,.int .i64 b.start,.lst 0 (b.edges.map Edge.c),.int .i64 cap,.lst 0 (cfgs C),M,.lst 0 (lls rows),F,Y])),(3,.own 0 0 0 i),(8,.own (ars.length + 1) 0 0 i),(9,grV (ars.length + 2) (ints (doneUp P k))),(58,.pv (.lst 0 (cfgs C))),(59,.pv (.int .i64 i)),(60,.pv (.int .i64 k))],
      ⟨[],⟨0,1,.inr (rowsV xs)⟩ :: (ars ++ (⟨0,1,.inl (ints (dI P i k))⟩ :: grA 1 (ints (doneUp P k)))),[]⟩⟩) (fun _ => True) (by rw [dI_zero]; rfl) trivial fun k hk _ => ?_
    simp (disch := omega) only [go_sem]
    refine Br.ofP (fun h => ?_) (fun h => ?_)
    · obtain ⟨c,hc⟩ := get_at (l := C) (k := k) (by omega)
      obtain ⟨x5,x6⟩ := hcl c (List.mem_of_getElem? hc)
      have hcg : (cfgs C)[k]? = some [.int .i64 c.a,.int .i64 c.b,.lst 0 (ints c.toA),.lst 0 (ints c.toB)] := by rw [cfgs_get,hc]; rfl
      have h159 := r159 0 0 a b cap 0 0 c.a c.b c.toA c.toB (by omega) (by omega) (by omega) (by omega)
      rw [← hpd k c hc] at h159
      have hs0 := dI_succ (p := P) (n := i) (k := k) (v := 0) (by omega)
      have hs1 := dI_succ (p := P) (n := i) (k := k) (v := -1) (by omega)
      have hdl := dI_len P i k
      have hdl2 : ((dI P i k).set k (-1)).length = i := by rw [List.length_set,hdl]
      have hql := doneUp_len P k
      have hqs := doneUp_succ P k
      generalize hd : dI P i k = d at *
      generalize hq : doneUp P k = q at *
      cases hpk : P k with
      | true =>
        rw [hpk] at h159 hs0 hqs
        rw [if_pos rfl] at hqs
        simp (disch := omega) only [go_sem,hcg,h159,catO,setO,gr,ga]
        refine .of (by omega) ?_ trivial
        rw [List.set_set,hs0 rfl,hqs]
        rfl
      | false =>
        rw [hpk] at h159 hs1 hqs
        rw [if_neg (by decide)] at hqs
        simp (disch := omega) only [go_sem,hcg,h159,catO,setO]
        refine .of (by omega) ?_ trivial
        rw [hs1 rfl,hqs]
        rfl
    · obtain rfl : k = i := by omega
      clear hk h
      have hdn : ∀ x ∈ doneUp P k,0 ≤ x ∧ x < (k : Int) := fun x hx => by
        obtain ⟨j,h1,_,rfl⟩ := doneUp_mem.1 hx
        omega
      have hin : ∀ v x,x ∈ nxt (succA k (esT rows k)) v → 0 ≤ x ∧ x < (k : Int) := by
        have := nx_in (rows := rows) (by rw [hnn]; exact hr)
        rwa [hnn] at this
      have hf0 := fold0 P k k (Nat.le_refl _)
      have hL0 := (lv_fold (d := 0) (LvOk.start k) hdn ⟨by omega,by omega⟩).1
      have hrk : ranksC rows (doneUp P k) = (lvRun (nxt (succA k (esT rows k))) k 0 (dN P k k,doneUp P k)).1 := by
        unfold ranksC levels
        rw [hnn,hf0]
      rw [hf0] at hL0
      rw [hrk,dI_all]
      generalize dN P k k = d0 at *
      generalize doneUp P k = q0 at *
      have hxl := hL.xl
      simp (disch := omega) only [go_sem]
      refine W.loop (α := Nat × List Int × List Int) (fun x => ⟨[(3,.own 0 0 0 k),(8,.own (ars.length + 1) 0 0 k),(9,grV (ars.length + 2) (ints x.2.2)),(12,.pv (.int .i64 x.1))],⟨[],⟨0,1,.inr (rowsV xs)⟩ :: (ars ++ (⟨0,1,.inl (ints x.2.1)⟩ :: grA 1 (ints x.2.2))),[]⟩⟩)
        (fun x => LvOk k x.2 ∧ x.1 ≤ x.2.2.length ∧ (lvRun (nxt (succA k (esT rows k))) (k - x.1) x.1 x.2).1 = (lvRun (nxt (succA k (esT rows k))) k 0 (d0,q0)).1) (fun x => k - x.1) (0,d0,q0) rfl ⟨hL0,Nat.zero_le _,rfl⟩ fun x hx => ?_
      obtain ⟨i,d,q⟩ := x
      obtain ⟨hLv,h2,hb'⟩ := hx
      dsimp only at h2 hb'
      have hbo := hLv.bound
      have hle := hLv.len
      dsimp only at hbo hle
      simp (disch := omega) only [go_sem]
      refine Br.ofP (fun h => ?_) (fun h => ?_)
      · obtain ⟨v,hv⟩ := get_at (l := q) (k := i) (by omega)
        obtain ⟨v0,v1,v2⟩ := (hLv.mem v).1 (List.mem_of_getElem? hv)
        obtain ⟨xv,l,hxv,hsl',ho⟩ := hL.get (v := v.toNat) (by omega)
        have hnl : nxt (succA k (esT rows k)) v = l := by simp [nxt,hsl']
        have hlr' : ∀ x ∈ l,0 ≤ x ∧ x < (k : Int) := fun x hx => hin v x (by rw [hnl]; exact hx)
        have hlen : ∀ h,lenV h 0 xv = some (l.length,{}) := by
          rcases ho with ⟨rfl | rfl,rfl⟩ | ⟨_,_,rfl,_,_⟩ <;> intro h <;> rfl
        have hscr : scrub [] xv = xv := by rcases ho with ⟨rfl | rfl,rfl⟩ | ⟨_,_,rfl,_,_⟩ <;> rfl
        have hlb : l.length ≤ 600000000 := by
          rw [succA_get (by omega)] at hsl'
          cases hsl'
          have h1 := outP_len (esT rows k) ((v.toNat : Nat) : Int)
          have h2 := hsl k (Nat.le_refl _)
          omega
        obtain ⟨m,hm'⟩ : ∃ m,(ints q).length = m + 1 := ⟨q.length - 1,by rw [ints_len]; omega⟩
        have hgV := grV_own (i := ars.length + 2) hm'
        have hgA := grA_own (k := 1) hm'
        rw [ints_len] at hm'
        rw [hgV,hgA]
        have catQ : ∀ (O Qa : Arr),(ars ++ [O,Qa])[ars.length + 1]? = some Qa := fun O Qa => by simp
        have hd0 : d[v.toNat]? = some (d.getD v.toNat (-1)) := by
          have : v.toNat < d.length := by omega
          simp [this]
        have htop := hLv.top v.toNat
        dsimp only at htop v2
        simp (disch := omega) only [go_sem,hv,catQ,hxv,hlen,hscr]
        refine W.fold l (lvIn (d.getD v.toNat (-1) + 1)) (d,q) (fun j p => ⟨[(3,.own 0 0 0 k),(8,.own (ars.length + 1) 0 0 k),(9,grV (ars.length + 2) (ints p.2)),(12,.pv (.int .i64 i)),(94,xv),(95,.pv (.int .i64 l.length)),(96,.pv (.int .i64 j))],⟨[],⟨0,1,.inr (rowsV xs)⟩ :: (ars ++ (⟨0,1,.inl (ints p.1)⟩ :: grA 1 (ints p.2))),[]⟩⟩)
          (fun _ p => LvOk k p ∧ q <+: p.2 ∧ p.1.getD v.toNat (-1) = d.getD v.toNat (-1)) (by
            rw [hgV,hgA]
            rfl) ⟨hLv,List.prefix_refl _,rfl⟩ (fun j x p hx hj _ hi => ?_) (fun p hp hi => ?_)
        · obtain ⟨d',q'⟩ := p
          obtain ⟨hL',hpre,hv'⟩ := hi
          dsimp only at hpre hv'
          rcases ho with ⟨_,rfl⟩ | ⟨id,ver,rfl,_,hid⟩
          · simp at hx
          have catR : ∀ (O : Arr) (Q : List Arr),(ars ++ (O :: Q))[id]? = some ⟨ver,1,.inl (ints l)⟩ := fun O Q => by
            rw [List.getElem?_append_left (List.getElem?_eq_some_iff.1 hid).1]
            exact hid
          obtain ⟨x0,x1⟩ := hlr' x (List.mem_of_getElem? hx)
          have hbo' := hL'.bound
          have hle' := hL'.len
          dsimp only at hbo' hle'
          have hql' := hpre.length_le
          have hst := hL'.step (x := x) (d := d.getD v.toNat (-1) + 1) ⟨x0,x1⟩ ⟨by omega,by dsimp only; omega⟩
          have hg : d'[x.toNat]? = some (d'.getD x.toNat (-1)) := by
            have : x.toNat < d'.length := by omega
            simp [this]
          have hgv : d'[v.toNat]? = some (d.getD v.toNat (-1)) := by
            have : v.toNat < d'.length := by omega
            rw [← hv']
            simp [this]
          have hqv := get_pre hpre hv
          obtain ⟨m2,hm2⟩ : ∃ m2,(ints q').length = m2 + 1 := ⟨q'.length - 1,by rw [ints_len]; omega⟩
          have hgV2 := grV_own (i := ars.length + 2) hm2
          have hgA2 := grA_own (k := 1) hm2
          rw [ints_len] at hm2
          have setQ : ∀ (O Qa Qb : Arr),(ars ++ [O,Qa]).set (ars.length + 1) Qb = ars ++ [O,Qb] := fun O Qa Qb => by simp []
          dsimp only
          rw [hgV2,hgA2]
          simp (disch := omega) only [go_sem]
          refine Br.ofP (fun h => ?_) (fun h => (h (by omega)).elim)
          simp (disch := omega) only [go_sem,hx,catR,catO,hg]
          refine Br.ofP (fun g => ?_) (fun g => ?_)
          · have hin' : lvIn (d.getD v.toNat (-1) + 1) (d',q') x = (d'.set x.toNat (d.getD v.toNat (-1) + 1),q' ++ [x]) := if_pos g
            rw [hin'] at hst ⊢
            simp (disch := omega) only [go_sem,catQ,catO,setO,setQ,hqv,hgv]
            refine foldK.of ?_ ⟨hst,hpre.trans (List.prefix_append _ _),?_⟩
            · dsimp only
              have hm3 : (ints (q' ++ [x])).length = m2 + 1 + 1 := by rw [ints_len,List.length_append,hm2]; rfl
              rw [grV_own (i := ars.length + 2) hm3,grA_own (k := 1) hm3]
              rfl
            · dsimp only
              rw [getD_set' (by omega),if_neg (fun e => by rw [e] at g; omega)]
              exact hv'
          · have hin' : lvIn (d.getD v.toNat (-1) + 1) (d',q') x = (d',q') := if_neg g
            rw [hin'] at hst ⊢
            simp (disch := omega) only [go_sem]
            refine foldK.of ?_ ⟨hst,hpre,hv'⟩
            dsimp only
            rw [hgV2,hgA2]
            rfl
        · obtain ⟨d',q'⟩ := p
          obtain ⟨hL',hpre,hv'⟩ := hi
          dsimp only at hpre
          have hql' := hpre.length_le
          simp (disch := omega) only [go_sem]
          have hb3 : q.length ≤ k := hLv.bound
          have h3 : i < q.length := (List.getElem?_eq_some_iff.1 hv).1
          refine ⟨(i + 1,d',q'),⟨hL',by dsimp only; omega,?_⟩,by dsimp only; omega,rfl⟩
          dsimp only
          rw [← hb',show k - i = (k - (i + 1)) + 1 by omega,lvRun,hv]
          simp only
          rw [hnl,← hp]
      · have hlq : q.length ≤ i := by
          have h : ¬ ((i : Int) < (q.length : Int)) := h
          omega
        have hnone : (lvRun (nxt (succA k (esT rows k))) (k - i) i (d,q)) = (d,q) := by
          cases k - i with
          | zero => rfl
          | succ j =>
            rw [lvRun,List.getElem?_eq_none hlq]
        rw [hnone] at hb'
        have htk : (ints d).take k = ints d := List.take_of_length_le (by rw [ints_len,hle]; exact Nat.le_refl _)
        simp (disch := omega) only [go_sem,catO,htk]
        rw [← hb']
end Go.Pv
namespace Go.Pv
end Go.Pv
namespace Go.Pv
end Go.Pv
namespace Go.Pv
section
variable {α μ : Type}
inductive Run (mv : α → List (μ × α)) : α → List μ → α → Prop
  | nil (c : α) : Run mv c [] c
  | cons {c d e : α} {l : List μ} {m : μ} : (m,d) ∈ mv c → Run mv d l e → Run mv c (m :: l) e
theorem Run.snoc {mv : α → List (μ × α)} {c d e : α} {l : List μ} {m : μ} (h : Run mv c l d) (hm : (m,e) ∈ mv d) : Run mv c (l ++ [m]) e := by
  induction h with
  | nil => exact .cons hm (.nil _)
  | cons h1 _ ih => exact .cons h1 (ih hm)
theorem Stp.run {mv : α → List (μ × α)} {c e : α} {l : List μ} (h : Stp mv c l e) : Run mv c l e := by
  induction h with
  | nil => exact .nil _
  | snoc _ hm ih => exact ih.snoc hm
end
structure Spc (a b : Auto) (cap : Int) (s : Cfg) (p : Cfg → Prop) (out : List Nd) : Prop where
  fnd : Fnd (mvC a b cap) s out out.length
  all : ∀ x ∈ out,p x.c
def rowsN (a b : Auto) (cap : Int) (out : List Nd) : List (List Int) := out.map fun x => (sucC a b cap x.c).map (posZ out)
variable {a b : Auto} {cap : Int} {s : Cfg} {p : Cfg → Prop} {out : List Nd}
theorem posZ_at (hn : (out.map Nod.c).Nodup) {z : Nat} {y : Nd} (hy : out[z]? = some y) : posZ out y.c = (z : Int) := by
  unfold posZ
  rw [pos_at hn hy]
  rfl
theorem Spc.closed (h : Spc a b cap s p out) {i : Nat} {x : Nd} (hx : out[i]? = some x) {d : Cfg} (hd : d ∈ sucC a b cap x.c) : ∃ (j : Nat) (y : Nd),out[j]? = some y ∧ y.c = d ∧ posZ out d = (j : Int) := by
  obtain ⟨j,y,h1,h2,_⟩ := h.fnd.dn i x (List.getElem?_eq_some_iff.1 hx).1 hx d (by rw [mvC_suc]; exact hd)
  exact ⟨j,y,h1,h2,by rw [← h2]; exact posZ_at h.fnd.nd h1⟩
theorem rowsN_len : (rowsN a b cap out).length = out.length := by simp [rowsN]
theorem Spc.inR (h : Spc a b cap s p out) : ∀ l ∈ rowsN a b cap out,∀ z ∈ l,0 ≤ z ∧ z < ((rowsN a b cap out).length : Int) := fun l hl z hz => by
  rw [rowsN_len]
  obtain ⟨x,hx,rfl⟩ := List.mem_map.1 hl
  obtain ⟨d,hd,rfl⟩ := List.mem_map.1 hz
  obtain ⟨i,hi⟩ := mem_get hx
  obtain ⟨j,y,h1,h2,h3⟩ := h.closed hi hd
  have := (List.getElem?_eq_some_iff.1 h1).1
  omega
def doneC (a b : Auto) (cap : Int) (c : Cfg) : Bool := doneB a b cap c.a c.b c.toA c.toB
def dnN (a b : Auto) (cap : Int) (out : List Nd) : List Int := doneUp (doneAt a b cap (out.map Nod.c)) out.length
def rkN (a b : Auto) (cap : Int) (out : List Nd) : List Int := ranksC (rowsN a b cap out) (dnN a b cap out)
theorem dnN_mem {i : Nat} {x : Nd} (hx : out[i]? = some x) : (i : Int) ∈ dnN a b cap out ↔ doneC a b cap x.c = true := by
  have hi := (List.getElem?_eq_some_iff.1 hx).1
  have hc : (out.map Nod.c)[i]? = some x.c := by rw [List.getElem?_map,hx]; rfl
  unfold dnN
  rw [doneUp_mem]
  constructor
  · rintro ⟨j,_,h2,h3⟩
    obtain rfl : i = j := by omega
    unfold doneAt at h2
    rw [hc] at h2
    exact h2
  · intro h
    refine ⟨i,hi,?_,rfl⟩
    unfold doneAt
    rw [hc]
    exact h
theorem Spc.dist (h : Spc a b cap s p out) : Dist out.length (edR (rowsN a b cap out)) (dnN a b cap out) (rkN a b cap out) := by
  have := ranks_dist (dn := dnN a b cap out) h.inR (fun x hx => by
    obtain ⟨i,h1,_,rfl⟩ := doneUp_mem.1 hx
    rw [rowsN_len]
    omega)
  rwa [rowsN_len] at this
theorem Spc.ed (h : Spc a b cap s p out) {i j : Nat} {x y : Nd} (hx : out[i]? = some x) (hy : out[j]? = some y) (hd : y.c ∈ sucC a b cap x.c) : edR (rowsN a b cap out) (i : Int) (j : Int) := by
  refine ⟨by omega,?_⟩
  rw [Int.toNat_natCast]
  have : (rowsN a b cap out).getD i [] = (sucC a b cap x.c).map (posZ out) := by simp [rowsN,hx]
  rw [this,← posZ_at h.fnd.nd hy]
  exact List.mem_map.2 ⟨_,hd,rfl⟩
theorem Spc.ed_inv (h : Spc a b cap s p out) {i : Nat} {x : Nd} {u : Int} (hx : out[i]? = some x) (he : edR (rowsN a b cap out) (i : Int) u) : ∃ (j : Nat) (y : Nd) (m : Mov),u = (j : Int) ∧ out[j]? = some y ∧ (m,y.c) ∈ mvC a b cap x.c := by
  obtain ⟨_,h2⟩ := he
  rw [Int.toNat_natCast] at h2
  have : (rowsN a b cap out).getD i [] = (sucC a b cap x.c).map (posZ out) := by simp [rowsN,hx]
  rw [this] at h2
  obtain ⟨d,hd,rfl⟩ := List.mem_map.1 h2
  obtain ⟨j,y,h3,h4,h5⟩ := h.closed hx hd
  rw [← mvC_suc] at hd
  obtain ⟨w,hw,hwd⟩ := List.mem_map.1 hd
  exact ⟨j,y,w.1,h5,h3,by rw [h4,← hwd]; exact hw⟩
theorem Spc.rank_le (h : Spc a b cap s p out) {c d : Cfg} {l : List Mov} (hr : Run (mvC a b cap) c l d) (hd : doneC a b cap d = true) : ∀ {i : Nat} {x : Nd},out[i]? = some x → x.c = c → 0 ≤ (rkN a b cap out).getD i (-1) ∧ (rkN a b cap out).getD i (-1) ≤ l.length := by
  have hD := h.dist
  induction hr with
  | nil c =>
    intro i x hx hc
    have hi := (List.getElem?_eq_some_iff.1 hx).1
    have := (hD.zero (i : Int) (by omega) (by omega)).2 ((dnN_mem hx).2 (by rw [hc]; exact hd))
    rw [Int.toNat_natCast] at this
    rw [this]
    exact ⟨by omega,by simp⟩
  | @cons c e d l m hm _ ih =>
    intro i x hx hc
    have hi := (List.getElem?_eq_some_iff.1 hx).1
    subst hc
    have hs : e ∈ sucC a b cap x.c := by rw [← mvC_suc]; exact List.mem_map.2 ⟨_,hm,rfl⟩
    obtain ⟨j,y,h1,h2,h3⟩ := h.closed hx hs
    have hj := (List.getElem?_eq_some_iff.1 h1).1
    obtain ⟨g1,g2⟩ := ih hd h1 h2
    have := hD.step (i : Int) (j : Int) (h.ed hx h1 (by rw [h2]; exact hs)) ⟨by omega,by omega,by omega,by omega⟩ (by rw [Int.toNat_natCast]; exact g1)
    rw [Int.toNat_natCast,Int.toNat_natCast] at this
    refine ⟨this.1,?_⟩
    rw [List.length_cons]
    omega
theorem Spc.rank_run (h : Spc a b cap s p out) : ∀ (k : Nat) {i : Nat} {x : Nd},out[i]? = some x → (rkN a b cap out).getD i (-1) = (k : Int) → ∃ (l : List Mov) (d : Cfg),Run (mvC a b cap) x.c l d ∧ doneC a b cap d = true ∧ l.length = k
  | 0,i,x,hx,hk => by
    have hi := (List.getElem?_eq_some_iff.1 hx).1
    have := (h.dist.zero (i : Int) (by omega) (by omega)).1 (by rw [Int.toNat_natCast]; exact hk)
    exact ⟨[],x.c,.nil _,(dnN_mem hx).1 this,rfl⟩
  | k + 1,i,x,hx,hk => by
    have hi := (List.getElem?_eq_some_iff.1 hx).1
    obtain ⟨u,u1,u2,u3,u4⟩ := h.dist.back (i : Int) (by omega) (by omega) (by rw [Int.toNat_natCast]; omega)
    obtain ⟨j,y,m,rfl,hy,hm⟩ := h.ed_inv hx u1
    rw [Int.toNat_natCast,Int.toNat_natCast] at u4
    obtain ⟨l,d,h1,h2,h3⟩ := h.rank_run k hy (by omega)
    exact ⟨m :: l,d,.cons hm h1,h2,by rw [List.length_cons,h3]⟩
theorem Spc.rank_eq (h : Spc a b cap s p out) {s' : Cfg} {p' : Cfg → Prop} {out' : List Nd} (h' : Spc a b cap s' p' out') {i j : Nat} {x y : Nd} (hx : out[i]? = some x) (hy : out'[j]? = some y) (hc : x.c = y.c) : (rkN a b cap out).getD i (-1) = (rkN a b cap out').getD j (-1) := by
  have key : ∀ {s s' : Cfg} {p p' : Cfg → Prop} {out out' : List Nd},Spc a b cap s p out → Spc a b cap s' p' out' → ∀ {i j : Nat} {x y : Nd},out[i]? = some x → out'[j]? = some y → x.c = y.c → 0 ≤ (rkN a b cap out).getD i (-1) → 0 ≤ (rkN a b cap out').getD j (-1) ∧ (rkN a b cap out').getD j (-1) ≤ (rkN a b cap out).getD i (-1) := by
    intro s s' p p' out out' h h' i j x y hx hy hc h0
    obtain ⟨l,d,h1,h2,h3⟩ := h.rank_run ((rkN a b cap out).getD i (-1)).toNat hx (by omega)
    have := h'.rank_le h1 h2 hy hc.symm
    omega
  have hi := (List.getElem?_eq_some_iff.1 hx).1
  have hj := (List.getElem?_eq_some_iff.1 hy).1
  have l1 := h.dist.low i hi
  have l2 := h'.dist.low j hj
  by_cases h1 : 0 ≤ (rkN a b cap out).getD i (-1)
  · have k1 := key h h' hx hy hc h1
    have k2 := key h' h hy hx hc.symm k1.1
    omega
  · by_cases h2 : 0 ≤ (rkN a b cap out').getD j (-1)
    · have k2 := key h' h hy hx hc.symm h2
      omega
    · omega
end Go.Pv
namespace Go.Pv
structure Few (a b : Auto) (cap : Int) (p : Cfg → Prop) (U : List Cfg) : Prop where
  sp : Sp30 a b cap p
  len : U.length ≤ 5000
  all : ∀ c,p c → c ∈ U
theorem bfsL_len {α : Type} [DecidableEq α] {succ : α → List α} {lim : Nat} : ∀ {n : Nat} {o o' : List α} {i : Nat},o.length ≤ lim → bfsL succ lim n o i = some o' → o'.length ≤ lim
  | 0,_,_,_,_,h => by cases h
  | n + 1,o,o',i,hl,h => by
    unfold bfsL at h
    split at h
    · cases h
      exact hl
    · split at h
      · cases h
      · rename_i o2 ha
        exact bfsL_len ((addUs_some ha).2.2.2 hl) h
open Classical in
theorem Few.space {a b : Auto} {cap : Int} {p : Cfg → Prop} {U : List Cfg} (h : Few a b cap p U) {c : Cfg} (hc : p c) : ∃ out,nodL (mvC a b cap) 5000 5002 [nod0 c] 0 = some out ∧ Spc a b cap c p out ∧ out.length ≤ 5000 := by
  have hU : ∀ c,p c → c ∈ U.filter fun c => decide (p c) := fun c hc => List.mem_filter.2 ⟨h.all c hc,by simpa using hc⟩
  have hlen : (U.filter fun c => decide (p c)).length ≤ 5000 := by
    have h1 := List.length_filter_le (fun c => decide (p c)) U
    have h2 := h.len
    omega
  have hs : sucOf (mvC a b cap) = sucC a b cap := funext fun c => mvC_suc a b cap c
  obtain ⟨o,ho⟩ := bfsL_total (succ := sucC a b cap) (s := c) (lim := 5000) (n := 5002) hlen (fun c hc x hx => hU x (h.sp.nx c (by simpa using (List.mem_filter.1 hc).2) x hx)) (bfs0 _ _) (fun x hx => by
    rw [List.mem_singleton.1 hx]
    exact hU _ hc) (Nat.zero_le _) (by omega)
  have hall := (bfsL_spec h.sp.nx (bfs0 (sucC a b cap) c) (fun x hx => by
    rw [List.mem_singleton.1 hx]
    exact hc) ho).2.1
  have hl := bfsL_len (by simp) ho
  rw [← hs] at ho
  obtain ⟨out,h1,h2⟩ := nodL_some ho
  refine ⟨out,h1,⟨nodL_end h1,fun x hx => hall _ ?_⟩,?_⟩
  · rw [← h2]
    exact List.mem_map.2 ⟨x,hx,rfl⟩
  · rw [← h2,List.length_map] at hl
    exact hl
theorem few_sm {a b : Auto} {cap : Int} (hs : sysErr a b cap = 0) (hl : ∀ e ∈ a.edges ++ b.edges,e.label ≤ 2) (ha : a.states ≤ 3) (hb : b.states ≤ 3) (hc : cap ≤ 2) : Few a b cap (smC a b cap) cfgU := by
  have hr := smC_runs hs hl
  refine ⟨⟨hr.nx,hr.ok,fun c h => h.1⟩,?_,fun c h => ?_⟩
  · have h2 : cfgU.length = 441 := by decide +kernel
    omega
  · obtain ⟨h1,h2,h3⟩ := h
    obtain ⟨_,h4,h5,h6,h7⟩ := fitsB_iff.1 h1
    exact cfgU_mem (by omega) (by omega) (chans_mem h6 h2 hc) (chans_mem h7 h3 hc)
end Go.Pv
namespace Go.Pv
def afterG (a b : Auto) (cap : Int) (c : Cfg) (mv : Mov) : Cfg × Bool := afterC a b cap c.a c.b c.toA c.toB mv
def stepTo (a b : Auto) (cap : Int) (c : Cfg) (l : List Mov) : Cfg := l.foldl (fun c mv => (afterG a b cap c mv).1) c
def runBad (a b : Auto) (cap : Int) (c : Cfg) (l : List Mov) (i : Nat) : Bool := !(afterG a b cap (stepTo a b cap c (l.take i)) (l.getD i default)).2
def runN (a b : Auto) (cap : Int) (c : Cfg) (l : List Mov) : Nat := ((List.range l.length).find? (runBad a b cap c l)).getD l.length
theorem stepTo_len (a b : Auto) (cap : Int) : ∀ (l : List Mov) (c : Cfg),(stepTo a b cap c l).toA.length ≤ c.toA.length + l.length ∧ (stepTo a b cap c l).toB.length ≤ c.toB.length + l.length
  | [],c => ⟨Nat.le_refl _,Nat.le_refl _⟩
  | mv :: l,c => by
    have h := after_len a b cap c.a c.b c.toA c.toB mv
    obtain ⟨g1,g2⟩ := stepTo_len a b cap l (afterC a b cap c.a c.b c.toA c.toB mv).1
    have e : stepTo a b cap c (mv :: l) = stepTo a b cap (afterC a b cap c.a c.b c.toA c.toB mv).1 l := rfl
    rw [e,List.length_cons]
    omega
theorem stepTo_succ {a b : Auto} {cap : Int} {c : Cfg} {l : List Mov} {k : Nat} {mv : Mov} (h : l[k]? = some mv) : stepTo a b cap c (l.take (k + 1)) = (afterG a b cap (stepTo a b cap c (l.take k)) mv).1 := by
  unfold stepTo
  rw [List.take_add_one,h,List.foldl_append]
  rfl
set_option maxHeartbeats 4000000 in
theorem r161 (t : Nat) (a b : Auto) (cap : Int) (l : List Mov) (ha : a.edges.length ≤ 2 ^ 63 - 1) (hb : b.edges.length ≤ 2 ^ 63 - 1) (hl : l.length ≤ 1000000) : res A PrA 161 [.agg [.int .i64 a.states,.int .i64 a.start,.lst 0 (a.edges.map Edge.c),.int .i64 b.states,.int .i64 b.start,.lst 0 (b.edges.map Edge.c),.int .i64 cap],.lst t (mvs3 l)] = some (if sysErr a b cap = 0 then [cfgP (stepTo a b cap ⟨a.start,b.start,[],[]⟩ (l.take (runN a b cap ⟨a.start,b.start,[],[]⟩ l))),.int .i64 (runN a b cap ⟨a.start,b.start,[],[]⟩ l : Nat),.int .i64 0] else [cfgP cfg0,.int .i64 0,.int .i64 (sysErr a b cap)]) := by
  refine res_of a161 rfl rfl ?_
  simp only [F161]
  by_cases h1 : sysErr a b cap = 0
  rotate_left
  · have d1 : decide (sysErr a b cap = 0) = false := by simp [h1]
    rw [if_neg h1]
    simp (disch := omega) only [go_sem,d1]
    rfl
  have d1 : decide (sysErr a b cap = 0) = true := by simp [h1]
  rw [if_pos h1]
  generalize hc0 : (⟨a.start,b.start,[],[]⟩ : Cfg) = c0
  have hca : c0.toA.length = 0 ∧ c0.toB.length = 0 := by subst hc0; exact ⟨rfl,rfl⟩
  simp (disch := omega) only [go_sem,d1]
  have hs0 : stepTo a b cap c0 (l.take 0) = c0 := rfl
  refine W.find (List.range l.length) (runBad a b cap c0 l) (fun k => ⟨[(1,.pv (.lst t (mvs3 l))),(2,.ptr 2 0),(4,.ptr 4 0),(8,.ptr 8 0),(21,.pv (.lst t (mvs3 l))),(22,.pv (.int .i64 l.length)),(23,.pv (.int .i64 k))],⟨[(2,[.pv (.int .i64 a.states),.pv (.int .i64 a.start),.pv (.lst 0 (a.edges.map Edge.c)),.pv (.int .i64 b.states),.pv (.int .i64 b.start),.pv (.lst 0 (b.edges.map Edge.c)),.pv (.int .i64 cap)]),(4,[.pv (.int .i64 0),.pv (.int .i64 0),.tl [],.tl []]),(8,[.pv (.int .i64 (stepTo a b cap c0 (l.take k)).a),.pv (.int .i64 (stepTo a b cap c0 (l.take k)).b),.pv (.lst 0 (ints (stepTo a b cap c0 (l.take k)).toA)),.pv (.lst 0 (ints (stepTo a b cap c0 (l.take k)).toB))])],[],[]⟩⟩) ?_ (fun k y hy hk hfd => ?_) (fun hn => ?_)
  · rw [hs0,← hc0]
    rfl
  · rw [List.length_range] at hk
    rw [List.getElem?_range hk] at hy
    cases hy
    obtain ⟨mv,hmv⟩ := get_at (l := l) (k := k) hk
    have hlen := stepTo_len a b cap (l.take k) c0
    have htl : (l.take k).length ≤ k := by rw [List.length_take]; omega
    have hss := stepTo_succ (a := a) (b := b) (cap := cap) (c := c0) hmv
    have hbad : runBad a b cap c0 l k = !(afterG a b cap (stepTo a b cap c0 (l.take k)) mv).2 := by
      unfold runBad
      rw [List.getD_eq_getElem?_getD,hmv]
      rfl
    have hrn : runBad a b cap c0 l k = true → runN a b cap c0 l = k := fun h => by
      unfold runN
      rw [(hfd h).find]
      rfl
    rw [hbad] at hrn hfd
    generalize hcc : stepTo a b cap c0 (l.take k) = c at *
    have h182 := r182 a b cap c.a c.b c.toA c.toB mv ha hb (by omega) (by omega)
    have hG : afterC a b cap c.a c.b c.toA c.toB mv = afterG a b cap c mv := rfl
    rw [hG] at h182
    generalize afterG a b cap c mv = r at *
    obtain ⟨c',ok⟩ := r
    dsimp only at h182 hss hrn hfd
    simp (disch := omega) only [go_sem]
    refine Br.ofP (fun h => ?_) (fun h => (h (by omega)).elim)
    simp (disch := omega) only [go_sem,hmv,h182]
    cases ok with
    | true =>
      simp (disch := omega) only [go_sem]
      refine findK.of (by rw [hbad]; rfl) ?_
      rw [hss]
      rfl
    | false =>
      simp (disch := omega) only [go_sem]
      rw [hrn rfl,hcc]
  · have hrn : runN a b cap c0 l = l.length := by
      unfold runN
      rw [hn.find]
      rfl
    rw [hrn,List.length_range]
    simp (disch := omega) only [go_sem]
end Go.Pv
namespace Go.Pv
variable {a b : Auto} {cap : Int}
theorem mvC_after {c d : Cfg} {m : Mov} (h : (m,d) ∈ mvC a b cap c) : m ∈ movesC a b cap c.a c.b c.toA c.toB ∧ (afterG a b cap c m).1 = d ∧ (afterG a b cap c m).2 = true := by
  obtain ⟨m',hm,e⟩ := List.mem_map.1 h
  injection e with e1 e2
  subst e1
  exact ⟨hm,e2,(movesC_mem hm).1⟩
theorem run_spec {c e : Cfg} {l : List Mov} (h : Run (mvC a b cap) c l e) : stepTo a b cap c l = e ∧ ∀ i,i < l.length → runBad a b cap c l i = false := by
  induction h with
  | nil => exact ⟨rfl,fun i hi => by simp at hi⟩
  | @cons c d e l m hm _ ih =>
    obtain ⟨_,h1,h2⟩ := mvC_after hm
    refine ⟨?_,fun i hi => ?_⟩
    · show stepTo a b cap (afterG a b cap c m).1 l = e
      rw [h1]
      exact ih.1
    · cases i with
      | zero =>
        unfold runBad
        show (!(afterG a b cap c m).2) = false
        rw [h2]
        rfl
      | succ i =>
        have := ih.2 i (by simpa using hi)
        unfold runBad at this ⊢
        have e1 : stepTo a b cap c ((m :: l).take (i + 1)) = stepTo a b cap d (l.take i) := by
          show stepTo a b cap (afterG a b cap c m).1 (l.take i) = _
          rw [h1]
        rw [e1]
        exact this
theorem run_runN {c e : Cfg} {l : List Mov} (h : Run (mvC a b cap) c l e) : runN a b cap c l = l.length := by
  unfold runN
  have : (List.range l.length).find? (runBad a b cap c l) = none := by
    rw [List.find?_eq_none]
    intro i hi
    rw [List.mem_range] at hi
    rw [(run_spec h).2 i hi]
    decide
  rw [this]
  rfl
theorem Fnd.pre {mv : Cfg → List (Mov × Cfg)} {s : Cfg} {out : List Nd} {i0 : Nat} (hf : Fnd mv s out i0) : ∀ (n j : Nat) (x : Nd),j ≤ n → out[j]? = some x → ∀ i,i < x.path.length → ∃ (k : Nat) (w : Nd),k < j ∧ out[k]? = some w ∧ w.path = x.path.take i
  | n,j,x,hj,hx,i,hi => by
    rcases Nat.eq_zero_or_pos j with h0 | h0
    · subst h0
      rw [hf.first] at hx
      cases hx
      simp [nod0] at hi
    · obtain ⟨k,y,m,h1,_,h3,_,h5⟩ := hf.way j x hx h0
      have hp : x.path = y.path ++ [m] := by rw [h5]
      rw [hp] at hi ⊢
      rw [List.length_append] at hi
      rcases Nat.lt_or_ge i y.path.length with hlt | hge
      · match n with
        | 0 => omega
        | n + 1 =>
          obtain ⟨k2,w,g1,g2,g3⟩ := Fnd.pre hf n k y (by omega) h3 i hlt
          exact ⟨k2,w,by omega,g2,by rw [g3,List.take_append_of_le_length (by omega)]⟩
      · have : i = y.path.length := by simp at hi; omega
        subst this
        exact ⟨k,y,h1,h3,by rw [List.take_append_of_le_length (Nat.le_refl _),List.take_length]⟩
theorem atFrom_before {x : Int} : ∀ {l : List Int} {k j : Nat},atFrom x k l = ((k + j : Nat) : Int) → ∀ i,i < j → l[i]? ≠ some x
  | [],k,j,h,i,hi => by simp
  | y :: r,k,j,h,i,hi => by
    unfold atFrom at h
    split at h
    · omega
    · rename_i hne
      cases i with
      | zero => intro e; simp at e; exact hne e
      | succ i =>
        have := atFrom_before (l := r) (k := k + 1) (j := j - 1) (by rw [h]; congr 1; omega) i (by omega)
        simpa using this
theorem atL_before {x : Int} {l : List Int} {j : Nat} (h : atL x l = (j : Int)) : ∀ i,i < j → l[i]? ≠ some x := atFrom_before (k := 0) (by rw [Nat.zero_add]; exact h)
variable {s : Cfg} {p : Cfg → Prop} {out : List Nd}
theorem Spc.run (h : Spc a b cap s p out) {j : Nat} {x : Nd} (hx : out[j]? = some x) : Run (mvC a b cap) s x.path x.c := (h.fnd.stp j j x (Nat.le_refl _) hx).run
theorem Spc.stuck (h : Spc a b cap s p out) {j : Nat} (hj : atL (-1) (rkN a b cap out) = (j : Int)) : (∀ (k : Nat) (w : Nd),k < j → out[k]? = some w → 0 ≤ (rkN a b cap out).getD k (-1)) := fun k w hk hw => by
  have hkl := (List.getElem?_eq_some_iff.1 hw).1
  have hlo := h.dist.low k hkl
  have hlen := h.dist.len
  have hne := atL_before hj k hk
  have hkr : k < (rkN a b cap out).length := by omega
  have e : (rkN a b cap out).getD k (-1) = (rkN a b cap out)[k] := by simp [hkr]
  rw [List.getElem?_eq_getElem hkr] at hne
  rw [e] at hlo ⊢
  have : (rkN a b cap out)[k] ≠ -1 := fun e => hne (by rw [e])
  omega
end Go.Pv
namespace Go.Pv
def smallA (m : Int) (x : Arc) : Arc := ⟨x.fr % m,x.act % 4,x.to % m⟩
def smallL (m : Int) (l : List Arc) (k : Nat) : List Arc := (l.take k).map (smallA m)
theorem smallL_len {m : Int} {l : List Arc} {k : Nat} (h : k ≤ l.length) : (smallL m l k).length = k := by rw [smallL,List.length_map,List.length_take]; omega
theorem smallL_succ {m : Int} {l : List Arc} {k : Nat} {x : Arc} (h : l[k]? = some x) : smallL m l (k + 1) = smallL m l k ++ [smallA m x] := by rw [smallL,List.take_add_one,h,List.map_append]; rfl
def smallD (n : Int) (l : List Arc) : Draft := ⟨n % 3,smallL (n % 3 + 1) l 12⟩
def arcs (l : List Arc) : List (List PV) := l.map Arc.c
@[go_sem] theorem arcs_length (l : List Arc) : (arcs l).length = l.length := List.length_map _
@[go_sem] theorem arcs_get (l : List Arc) (i : Nat) : (arcs l)[i]? = l[i]?.map fun x => [.int .u8 x.fr,.int .u8 x.act,.int .u8 x.to] := by simp [arcs]; rfl
theorem arcs_snoc (l : List Arc) (x : Arc) : arcs l ++ [[.int .u8 x.fr,.int .u8 x.act,.int .u8 x.to]] = arcs (l ++ [x]) := by simp [arcs,Arc.c]
set_option maxHeartbeats 4000000 in
theorem r184 (t : Nat) (n : Int) (l : List Arc) (hn : 0 ≤ n ∧ n ≤ 255) (_hl : l.length ≤ 2 ^ 63 - 1) (ho : ∀ x ∈ l,x.ok) : res A PrA 184 [.int .u8 n,.lst t (arcs l)] = some [.agg [.int .u8 (n % 3),.lst 0 (arcs (smallL (n % 3 + 1) l 12))]] := by
  refine res_of a184 rfl rfl ?_
  simp only [F184]
  have hm : n.tmod 3 = n % 3 := Int.tmod_eq_emod_of_nonneg hn.1
  have hb := Int.emod_nonneg n (by decide : (3 : Int) ≠ 0)
  have hc := Int.emod_lt_of_pos n (by decide : (0 : Int) < 3)
  simp (disch := omega) only [go_sem]
  generalize n % 3 = s at *
  refine W.upto 12 (fun k => ⟨[(1,.pv (.lst t (arcs l))),(4,.ptr 4 0),(5,.ptr 5 0),(6,.pv (.int .i64 k))],⟨[(4,[.pv (.int .u8 0),.tl []]),(5,[.pv (.int .u8 s),grV 0 (arcs (smallL (s + 1) l k))])],grA 3 (arcs (smallL (s + 1) l k)),[]⟩⟩) (fun k => k ≤ l.length) rfl (Nat.zero_le _) fun k hk hkl => ?_
  simp (disch := omega) only [go_sem]
  have hlen := smallL_len (m := s + 1) hkl
  have hal : (arcs (smallL (s + 1) l k)).length = k := by rw [arcs_length]; exact hlen
  refine Br.ofP (fun c1 => ?_) (fun c1 => ?_) <;> simp (disch := omega) only [go_sem,c1]
  · refine Br.ofP (fun c2 => ?_) (fun c2 => ?_) <;> simp (disch := omega) only [go_sem,c2]
    · obtain ⟨x,hx⟩ := get_at (l := l) (k := k) (by omega)
      obtain ⟨⟨o1,o2⟩,⟨o3,o4⟩,o5,o6⟩ := ho x (List.mem_of_getElem? hx)
      have e1 : x.fr.tmod (s + 1) = x.fr % (s + 1) := Int.tmod_eq_emod_of_nonneg o1
      have e2 : x.to.tmod (s + 1) = x.to % (s + 1) := Int.tmod_eq_emod_of_nonneg o5
      have e3 : x.act.tmod 4 = x.act % 4 := Int.tmod_eq_emod_of_nonneg o3
      have f1 := Int.emod_nonneg x.fr (by omega : s + 1 ≠ 0)
      have f2 := Int.emod_lt_of_pos x.fr (by omega : 0 < s + 1)
      have f3 := Int.emod_nonneg x.to (by omega : s + 1 ≠ 0)
      have f4 := Int.emod_lt_of_pos x.to (by omega : 0 < s + 1)
      have f5 := Int.emod_nonneg x.act (by decide : (4 : Int) ≠ 0)
      have f6 := Int.emod_lt_of_pos x.act (by decide : (0 : Int) < 4)
      have hss := smallL_succ (m := s + 1) hx
      simp (disch := omega) only [go_sem,hx]
      refine .of (by omega) ?_ (by omega)
      rw [hss,← arcs_snoc]
      rfl
    · have h12 : k = 12 := by omega
      rw [h12]
  · have hkl2 : k = l.length := by omega
    have : smallL (s + 1) l k = smallL (s + 1) l 12 := by
      unfold smallL
      rw [List.take_of_length_le (by omega),List.take_of_length_le (by omega)]
    rw [this]
structure PDr where
  n : Int
  la : List Arc
  l : List Arc
  mirror : Bool
  skip : Int
  cap : Int
def PDr.ok (d : PDr) : Prop := (0 ≤ d.n ∧ d.n ≤ 255) ∧ (0 ≤ d.skip ∧ d.skip ≤ 255) ∧ (0 ≤ d.cap ∧ d.cap ≤ 255) ∧ d.la.length ≤ 2 ^ 63 - 1 ∧ d.l.length ≤ 2 ^ 63 - 1 ∧ (∀ x ∈ d.la,x.ok) ∧ ∀ x ∈ d.l,x.ok
def PDr.sh (d : PDr) (k : Nat) : Int := d.skip.fdiv (2 ^ (min ((k : Int) % 8).toNat IntKind.u8.bits))
def PDr.bit (d : PDr) (k : Nat) : Int := IntKind.u8.wrap (BitVec.ofInt IntKind.u8.bits (d.sh k) &&& BitVec.ofInt IntKind.u8.bits 1).toNat
theorem PDr.shr_val (d : PDr) (k : Nat) : binV .shr (.pv (.int .u8 d.skip)) (.pv (.int .i64 ((k : Int) % 8))) = some (.pv (.int .u8 (d.sh k))) := by
  show (shiftBin .shr .u8 d.skip ((k : Int) % 8)).map V.pv = _
  unfold shiftBin
  rw [if_neg (by omega)]
  rfl
theorem PDr.and_val (d : PDr) (k : Nat) : binV .and (.pv (.int .u8 (d.sh k))) (.pv (.int .u8 1)) = some (.pv (.int .u8 (d.bit k))) := rfl
def PDr.out (d : PDr) (k : Nat) : Bool := decide (d.bit k = 0)
def PDr.fit (d : PDr) : Bool := decide (d.la.length ≤ 12) && decide (d.l.length ≤ 12)
theorem smallD_ok {n : Int} {l : List Arc} (_hn : 0 ≤ n ∧ n ≤ 255) (_ho : ∀ x ∈ l,x.ok) : (smallD n l).ok := by
  have hb := Int.emod_nonneg n (by decide : (3 : Int) ≠ 0)
  have hc := Int.emod_lt_of_pos n (by decide : (0 : Int) < 3)
  refine ⟨⟨hb,by show n % 3 ≤ 255; omega⟩,?_,fun x hx => ?_⟩
  · show (smallL (n % 3 + 1) l 12).length ≤ _
    rw [smallL,List.length_map,List.length_take]
    omega
  · obtain ⟨y,_,rfl⟩ := List.mem_map.1 hx
    generalize n % 3 = s at *
    have f1 := Int.emod_nonneg y.fr (by omega : s + 1 ≠ 0)
    have f2 := Int.emod_lt_of_pos y.fr (by omega : 0 < s + 1)
    have f3 := Int.emod_nonneg y.to (by omega : s + 1 ≠ 0)
    have f4 := Int.emod_lt_of_pos y.to (by omega : 0 < s + 1)
    have f5 := Int.emod_nonneg y.act (by decide : (4 : Int) ≠ 0)
    have f6 := Int.emod_lt_of_pos y.act (by decide : (0 : Int) < 4)
    exact ⟨⟨f1,by show y.fr % (s + 1) ≤ 255; omega⟩,⟨f5,by show y.act % 4 ≤ 255; omega⟩,f3,by show y.to % (s + 1) ≤ 255; omega⟩
theorem raw_from {st : Int} : ∀ (l : List Arc) (es : List Edge) (e : Edge),e ∈ l.foldl (fun es x => addE es (x.edge st)) es → e ∈ es ∨ ∃ x ∈ l,e = x.edge st
  | [],_,_,h => .inl h
  | x :: l,es,e,h => by
    rcases raw_from l (addE es (x.edge st)) e h with h | ⟨y,hy,rfl⟩
    · rcases addE_mem h with h | rfl
      · exact .inl h
      · exact .inr ⟨x,List.mem_cons_self ..,rfl⟩
    · exact .inr ⟨y,List.mem_cons_of_mem _ hy,rfl⟩
theorem smallD_edges {n : Int} {l : List Arc} (_hn : 0 ≤ n) : ∀ e ∈ (smallD n l).auto.edges,(0 ≤ e.fr ∧ e.fr ≤ 2) ∧ (0 ≤ e.to ∧ e.to ≤ 2) ∧ (1 ≤ e.label ∧ e.label ≤ 2) := by
  intro e he
  have he := (sortB_perm Edge.lt (smallD n l).raw).subset he
  have hb := Int.emod_nonneg n (by decide : (3 : Int) ≠ 0)
  have hc := Int.emod_lt_of_pos n (by decide : (0 : Int) < 3)
  have hst : (smallD n l).n = n % 3 := rfl
  rcases raw_from _ _ e he with h | ⟨x,hx,rfl⟩
  · cases h
  · have hx := List.mem_of_mem_take hx
    obtain ⟨y,_,rfl⟩ := List.mem_map.1 hx
    rw [hst]
    generalize n % 3 = s at *
    have hs4 : s % 4 = s := Int.emod_eq_of_lt hb (by omega)
    rw [hs4]
    have f1 := Int.emod_nonneg (smallA (s + 1) y).fr (by omega : 1 + s ≠ 0)
    have f2 := Int.emod_lt_of_pos (smallA (s + 1) y).fr (by omega : 0 < 1 + s)
    have f3 := Int.emod_nonneg (smallA (s + 1) y).to (by omega : 1 + s ≠ 0)
    have f4 := Int.emod_lt_of_pos (smallA (s + 1) y).to (by omega : 0 < 1 + s)
    have hl : (((smallA (s + 1) y).edge (1 + s)).label) = 1 + y.act % 4 / 2 % 3 := rfl
    refine ⟨⟨f1,?_⟩,⟨f3,?_⟩,?_⟩
    · show (smallA (s + 1) y).fr % (1 + s) ≤ 2
      omega
    · show (smallA (s + 1) y).to % (1 + s) ≤ 2
      omega
    · rw [hl]
      omega
def mirA (e : Edge) : Arc := ⟨e.fr,if e.send = true then 2 * (e.label - 1) else 2 * (e.label - 1) + 1,e.to⟩
def mirL (out : Nat → Bool) (es : List Edge) : Nat → List Arc
  | 0 => []
  | k + 1 => match es[k]? with
    | none => mirL out es k
    | some e => if out k = true then mirL out es k ++ [mirA e] else mirL out es k
theorem mirL_len (out : Nat → Bool) (es : List Edge) (k : Nat) : (mirL out es k).length ≤ k := by
  induction k with
  | zero => exact Nat.le_refl _
  | succ k ih =>
    unfold mirL
    split
    · omega
    · split
      · rw [List.length_append,List.length_singleton]
        omega
      · omega
def PDr.mir (d : PDr) : List Arc := mirL d.out (smallD d.n d.la).auto.edges (smallD d.n d.la).auto.edges.length
def PDr.n2 (d : PDr) : Int := if d.mirror = true then d.n else IntKind.u8.wrap (d.n + d.skip)
def PDr.l2 (d : PDr) : List Arc := (if d.mirror = true then d.mir else []) ++ d.l
def PDr.A (d : PDr) : Auto := (smallD d.n d.la).auto
def PDr.B (d : PDr) : Auto := (smallD d.n2 d.l2).auto
theorem mirL_ok {out : Nat → Bool} {es : List Edge} (h : ∀ e ∈ es,(0 ≤ e.fr ∧ e.fr ≤ 2) ∧ (0 ≤ e.to ∧ e.to ≤ 2) ∧ (1 ≤ e.label ∧ e.label ≤ 2)) : ∀ k,∀ x ∈ mirL out es k,x.ok
  | 0,x,hx => by cases hx
  | k + 1,x,hx => by
    unfold mirL at hx
    split at hx
    · exact mirL_ok h k x hx
    · rename_i e he
      split at hx
      · rcases List.mem_append.1 hx with hx | hx
        · exact mirL_ok h k x hx
        · rw [List.mem_singleton.1 hx]
          obtain ⟨f1,f2,f3⟩ := h e (List.mem_of_getElem? he)
          refine ⟨⟨f1.1,by show e.fr ≤ 255; omega⟩,?_,f2.1,by show e.to ≤ 255; omega⟩
          show 0 ≤ (if e.send = true then 2 * (e.label - 1) else 2 * (e.label - 1) + 1) ∧ (if e.send = true then 2 * (e.label - 1) else 2 * (e.label - 1) + 1) ≤ 255
          split <;> omega
      · exact mirL_ok h k x hx
theorem app_nil0 (h : Heap) (rows : List (List PV)) (hr : ∀ r ∈ rows,r.length = 3) (hm : rows.length ≤ 2147483648) : appendV h 3 (.tl []) (.pv (.lst 0 rows)) = some (if rows.length = 0 then (.tl [],{}) else (.own h.ar.length 0 0 rows.length,{ push := [⟨0,3,.inl rows⟩],base := h.ar.length })) := by
  have hf : (rows.all fun x => x.length == 3) = true := by simpa using hr
  by_cases h0 : rows.length = 0
  · simp [appendV,srcRows,rowsFit,rowsLen,h0,hf]
  · simp [appendV,srcRows,rowsFit,rowsLen,h0,hf,mostRows,catRows,hm]
theorem app_own0 (h : Heap) (ver len : Nat) (R rows : List (List PV)) (ho : ownArr h 0 ver = some ⟨ver,3,.inl R⟩) (hl : len = R.length) (hr : ∀ r ∈ rows,r.length = 3) (hm : len + rows.length ≤ 2147483648) : appendV h 3 (.own 0 ver 0 len) (.pv (.lst 0 rows)) = some (if rows.length = 0 then (.own 0 ver 0 len,{ ra2 := some 0 }) else (.own 0 (ver + 1) 0 (len + rows.length),{ ar := some (0,⟨ver + 1,3,.inl (R ++ rows)⟩) })) := by
  have hf : (rows.all fun x => x.length == 3) = true := by simpa using hr
  subst hl
  by_cases h0 : rows.length = 0
  · simp [appendV,srcRows,rowsFit,rowsLen,h0,hf,ho]
  · simp [appendV,srcRows,rowsFit,rowsLen,h0,hf,ho,mostRows,catRows,cutRows,hm,Arr.size]
theorem arcs_rows (l : List Arc) : ∀ r ∈ arcs l,r.length = 3 := by
  intro r hr
  obtain ⟨x,_,rfl⟩ := List.mem_map.1 hr
  rfl
theorem wrap_u8_in (x : Int) : 0 ≤ IntKind.wrap .u8 x ∧ IntKind.wrap .u8 x ≤ 255 := by
  have h : IntKind.wrap .u8 x = x % 256 := rfl
  rw [h]
  omega
set_option maxHeartbeats 4000000 in
theorem r164 (d : PDr) (hd : d.ok) : res A PrA 164 [.agg [.int .u8 d.n,.lst 0 (arcs d.la),.lst 0 (arcs d.l),.bool d.mirror,.int .u8 d.skip,.int .u8 d.cap]] = some (if d.fit = true then [.agg [.int .i64 (1 + d.n % 3 % 4),.int .i64 0,.lst 0 (edgs d.A.edges),.int .i64 (1 + d.n2 % 3 % 4),.int .i64 0,.lst 0 (edgs d.B.edges),.int .i64 (1 + d.cap % 2)],.bool true] else [.agg [.int .i64 0,.int .i64 0,.lst 0 [],.int .i64 0,.int .i64 0,.lst 0 [],.int .i64 0],.bool false]) := by
  refine res_of a164 rfl rfl ?_
  simp only [F164]
  obtain ⟨h1,h2,h3,h4,h5,h6,h7⟩ := hd
  have e1 := r184 0 d.n d.la h1 h4 h6
  have e2 := r25 0 _ (smallD_ok h1 h6)
  have e3 : (smallD d.n d.la).arcs.map Arc.c = arcs (smallL (d.n % 3 + 1) d.la 12) := rfl
  have e4 : (smallD d.n d.la).n = d.n % 3 := rfl
  rw [e3,e4] at e2
  simp (disch := omega) only [go_sem]
  refine Br.ofP (fun c1 => ?_) (fun c1 => ?_) <;> simp (disch := omega) only [go_sem,c1]
  · have hf : d.fit = false := by
      have : ¬ d.la.length ≤ 12 := by omega
      simp [PDr.fit,this]
    rw [hf,if_neg (by decide)]
  · refine Br.ofP (fun c2 => ?_) (fun c2 => ?_) <;> simp (disch := omega) only [go_sem,c2,e1,e2]
    · have hf : d.fit = false := by
        have : ¬ d.l.length ≤ 12 := by omega
        simp [PDr.fit,this]
      rw [hf,if_neg (by decide)]
    have hf : d.fit = true := by
      have g1 : d.la.length ≤ 12 := by omega
      have g2 : d.l.length ≤ 12 := by omega
      simp [PDr.fit,g1,g2]
    rw [hf,if_pos rfl]
    have hcm : d.cap.tmod 2 = d.cap % 2 := Int.tmod_eq_emod_of_nonneg h3.1
    have hc1 := Int.emod_nonneg d.cap (by decide : (2 : Int) ≠ 0)
    have hc2 := Int.emod_lt_of_pos d.cap (by decide : (0 : Int) < 2)
    have hll : (arcs d.l).length = d.l.length := arcs_length _
    have hn2 : 0 ≤ d.n2 ∧ d.n2 ≤ 255 := by
      unfold PDr.n2
      split
      · exact h1
      · exact wrap_u8_in _
    have hml0 := mirL_len d.out (smallD d.n d.la).auto.edges (smallD d.n d.la).auto.edges.length
    have hlen := Draft.len (smallD_ok h1 h6)
    have hl2 : ∀ x ∈ d.l2,x.ok := fun x hx => by
      rcases List.mem_append.1 hx with hx | hx
      · split at hx
        · exact mirL_ok (smallD_edges h1.1) _ x hx
        · cases hx
      · exact h7 x hx
    have hl2n : d.l2.length ≤ 1000 := by
      unfold PDr.l2
      rw [List.length_append]
      split
      · unfold PDr.mir
        omega
      · simp
        omega
    have e5 := fun t => r184 t d.n2 d.l2 hn2 (by omega) hl2
    have e6 := r25 0 _ (smallD_ok hn2 hl2)
    have e7 : (smallD d.n2 d.l2).arcs.map Arc.c = arcs (smallL (d.n2 % 3 + 1) d.l2 12) := rfl
    have e8 : (smallD d.n2 d.l2).n = d.n2 % 3 := rfl
    rw [e7,e8] at e6
    have eB : (smallD d.n2 d.l2).auto.edges = d.B.edges := rfl
    have eA : (smallD d.n d.la).auto.edges = d.A.edges := rfl
    rw [eB] at e6
    clear e7 eB
    generalize smallL (d.n2 % 3 + 1) d.l2 12 = SL at e5 e6
    refine Br.of (fun c3 => ?_) (fun c3 => ?_) <;> simp (disch := omega) only [go_sem,c3]
    · have hgood := (Draft.good (smallD_ok h1 h6) (s := 0) (by have := (smallD d.n d.la).st; omega)).fit
      have hfit : ∀ e ∈ (smallD d.n d.la).auto.edges,(0 ≤ e.fr ∧ e.fr ≤ 2) ∧ (0 ≤ e.to ∧ e.to ≤ 2) ∧ (1 ≤ e.label ∧ e.label ≤ 2) := smallD_edges h1.1
      have hm2 : d.l2 = mirL d.out (smallD d.n d.la).auto.edges (smallD d.n d.la).auto.edges.length ++ d.l := by unfold PDr.l2; rw [if_pos c3]; rfl
      have hnn : d.n2 = d.n := if_pos c3
      rw [hm2,hnn] at e5
      rw [hnn] at e6
      rw [← eA]
      clear eA
      generalize (smallD d.n d.la).auto.edges = es at *
      refine W.upto es.length (fun k => ⟨[(1,.ptr 1 0),(2,.ptr 2 0),(4,.ptr 4 0),(6,.pv (.int .u8 d.n)),(7,grV 0 (arcs (mirL d.out es k))),(8,.pv (.int .i64 k))],⟨[(1,[.pv (.int .u8 d.n),.pv (.lst 0 (arcs d.la)),.pv (.lst 0 (arcs d.l)),.pv (.bool true),.pv (.int .u8 d.skip),.pv (.int .u8 d.cap)]),(2,[.pv (.int .i64 0),.pv (.int .i64 0),.tl [],.pv (.int .i64 0),.pv (.int .i64 0),.tl [],.pv (.int .i64 0)]),(4,[.pv (.int .i64 (1 + d.n % 3 % 4)),.pv (.int .i64 0),.pv (.lst 0 (edgs es))])],grA 3 (arcs (mirL d.out es k)),[]⟩⟩) (fun _ => True) rfl trivial fun k hk _ => ?_
      have hml := mirL_len d.out es k
      have hal : (arcs (mirL d.out es k)).length = (mirL d.out es k).length := arcs_length _
      simp (disch := omega) only [go_sem]
      refine Br.ofP (fun c4 => ?_) (fun c4 => ?_) <;> simp (disch := omega) only [go_sem,c4]
      · obtain ⟨e,he⟩ := get_at (l := es) (k := k) (by omega)
        obtain ⟨⟨f1,f2⟩,⟨f3,f4⟩,f5,f6⟩ := hfit e (List.mem_of_getElem? he)
        have hmk : mirL d.out es (k + 1) = if d.out k = true then mirL d.out es k ++ [mirA e] else mirL d.out es k := by
          rw [mirL,he]
        obtain ⟨fr,send,label,to⟩ := e
        dsimp only at f1 f2 f3 f4 f5 f6
        cases send
        all_goals
          have hsv := d.shr_val k
          have hav := d.and_val k
          have hout : d.out k = decide (d.bit k = 0) := rfl
          simp (disch := omega) only [go_sem,he,hsv,hav]
          refine Br.ofP (fun c5 => ?_) (fun c5 => ?_)
          · rw [hout,decide_eq_true c5,if_pos rfl] at hmk
            simp (disch := omega) only [go_sem]
            refine .of (by omega) ?_ trivial
            rw [hmk,← arcs_snoc]
            rfl
          · rw [hout,decide_eq_false c5,if_neg (by decide)] at hmk
            simp (disch := omega) only [go_sem]
            refine .of (by omega) ?_ trivial
            rw [hmk]
            rfl
      · have hkk : k = es.length := by omega
        subst hkk
        rw [hnn]
        generalize hmm : mirL d.out es es.length = mm at *
        cases mm with
        | nil =>
          have hg1 : grV 0 (arcs []) = .tl [] := rfl
          have hg2 : grA 3 (arcs []) = [] := rfl
          rw [hg1,hg2]
          have hcat : arcs ([] ++ d.l) = arcs d.l := rfl
          rw [hcat] at e5
          have happ := fun h => app_nil0 h (arcs d.l) (arcs_rows d.l) (by omega)
          by_cases hd0 : (arcs d.l).length = 0
          · rw [List.eq_nil_of_length_eq_zero hd0] at e5 happ ⊢
            simp only [List.length_nil,if_true] at happ
            simp (disch := omega) only [go_sem,happ,e5,e6]
          · simp only [if_neg hd0] at happ
            have htk : ∀ n,(arcs d.l).length ≤ n → (arcs d.l).take n = arcs d.l := fun n h => List.take_of_length_le h
            simp (disch := omega) only [go_sem,happ,htk,e5,e6]
        | cons x q =>
          have hg0 : (arcs (x :: q)).length = q.length + 1 := by rw [arcs_length,List.length_cons]
          have hg1 : grV 0 (arcs (x :: q)) = .own 0 q.length 0 (q.length + 1) := by
            show V.own 0 (arcs q).length 0 ((arcs q).length + 1) = _
            rw [arcs_length]
          have hg2 : grA 3 (arcs (x :: q)) = [⟨q.length,3,.inl (arcs (x :: q))⟩] := by
            show [(⟨(arcs q).length,3,.inl (arcs (x :: q))⟩ : Arr)] = _
            rw [arcs_length]
          rw [hg1,hg2]
          have hcat : arcs (x :: q ++ d.l) = arcs (x :: q) ++ arcs d.l := List.map_append
          rw [hcat] at e5
          have hql : q.length + 1 ≤ 12 := by
            have := mirL_len d.out es es.length
            rw [hmm,List.length_cons] at this
            omega
          have happ := fun h ho => app_own0 h q.length (q.length + 1) (arcs (x :: q)) (arcs d.l) ho hg0.symm (arcs_rows d.l) (by omega)
          by_cases hd0 : (arcs d.l).length = 0
          · rw [List.eq_nil_of_length_eq_zero hd0,List.append_nil] at e5
            rw [List.eq_nil_of_length_eq_zero hd0] at happ ⊢
            simp only [List.length_nil,if_true] at happ
            generalize arcs (x :: q) = R at *
            rw [happ _ (by simp [ownArr])]
            have htk : ∀ n,R.length ≤ n → R.take n = R := fun n h => List.take_of_length_le h
            simp (disch := omega) only [go_sem,htk,e5,e6]
          · simp only [if_neg hd0] at happ
            generalize arcs (x :: q) = R at *
            rw [happ _ (by simp [ownArr])]
            have htk : ∀ n,(R ++ arcs d.l).length ≤ n → (R ++ arcs d.l).take n = R ++ arcs d.l := fun n h => List.take_of_length_le h
            have hRl : (R ++ arcs d.l).length = R.length + (arcs d.l).length := List.length_append
            simp (disch := omega) only [go_sem,htk,e5,e6]
    · have hm2 : d.l2 = d.l := by unfold PDr.l2; rw [if_neg (by simp [c3])]; rfl
      have hnn : d.n2 = IntKind.u8.wrap (d.n + d.skip) := if_neg (by simp [c3])
      rw [hm2,hnn] at e5
      rw [hnn] at e6 ⊢
      rw [← eA]
      have happ := fun h => app_nil0 h (arcs d.l) (arcs_rows d.l) (by omega)
      by_cases hd0 : (arcs d.l).length = 0
      · rw [List.eq_nil_of_length_eq_zero hd0] at e5 happ ⊢
        simp only [List.length_nil,if_true] at happ
        simp (disch := omega) only [go_sem,happ,e5,e6]
      · simp only [if_neg hd0] at happ
        have htk : ∀ n,(arcs d.l).length ≤ n → (arcs d.l).take n = arcs d.l := fun n h => List.take_of_length_le h
        simp (disch := omega) only [go_sem,happ,htk,e5,e6]
end Go.Pv
namespace Go.Pv
def PDr.c2 (d : PDr) : Int := 1 + d.cap % 2
theorem PDr.l2_ok {d : PDr} (hd : d.ok) : ∀ x ∈ d.l2,x.ok := fun x hx => by
  obtain ⟨h1,h2,h3,h4,h5,h6,h7⟩ := hd
  rcases List.mem_append.1 hx with hx | hx
  · split at hx
    · exact mirL_ok (smallD_edges h1.1) _ x hx
    · cases hx
  · exact h7 x hx
theorem PDr.n2_in {d : PDr} (hd : d.ok) : 0 ≤ d.n2 ∧ d.n2 ≤ 255 := by
  unfold PDr.n2
  split
  · exact hd.1
  · exact wrap_u8_in _
theorem PDr.sys {d : PDr} (hd : d.ok) : sysErr d.A d.B d.c2 = 0 ∧ (∀ e ∈ d.A.edges ++ d.B.edges,e.label ≤ 2) ∧ d.A.states ≤ 3 ∧ d.B.states ≤ 3 ∧ d.c2 ≤ 2 ∧ d.A.edges.length ≤ 12 ∧ d.B.edges.length ≤ 12 := by
  have hA := smallD_ok hd.1 hd.2.2.2.2.2.1
  have hB := smallD_ok (PDr.n2_in hd) (PDr.l2_ok hd)
  have gA : d.A.Good := Draft.good hA (s := 0) (by have := (smallD d.n d.la).st; omega)
  have gB : d.B.Good := Draft.good hB (s := 0) (by have := (smallD d.n2 d.l2).st; omega)
  have hb := Int.emod_nonneg d.cap (by decide : (2 : Int) ≠ 0)
  have hc := Int.emod_lt_of_pos d.cap (by decide : (0 : Int) < 2)
  refine ⟨?_,fun e he => ?_,?_,?_,by unfold PDr.c2; omega,Draft.len hA,Draft.len hB⟩
  · unfold sysErr
    have e1 : d.A.err = 0 := Auto.good_iff.2 gA
    have e2 : d.B.err = 0 := Auto.good_iff.2 gB
    rw [if_neg (by simp [e1]),if_neg (by simp [e2]),if_neg (by unfold PDr.c2; omega)]
  · rcases List.mem_append.1 he with he | he
    · exact (smallD_edges hd.1.1 e he).2.2.2
    · exact (smallD_edges (PDr.n2_in hd).1 e he).2.2.2
  · show 1 + d.n % 3 % 4 ≤ 3
    omega
  · show 1 + d.n2 % 3 % 4 ≤ 3
    omega
end Go.Pv
namespace Go.Pv
def sendsB (st : Int) (es : List Edge) : Bool := es.any fun e => decide (e.fr = st) && e.send
def blockB (a : Auto) (st : Int) (ch : List Int) : Bool := match ch with
  | [] => false
  | x :: _ => (nextE st false x a.edges).isNone && !sendsB st a.edges
def kindB (a b : Auto) (x y : Int) (l m : List Int) (n : Nat) : Int := if (isEnd x a.edges && isEnd y b.edges) = true then 2 else if (blockB a x l || blockB b y m) = true then 1 else if n = 0 then 3 else 4
theorem r258 (t : Nat) (e : Edge) (s : Int) : res A PrA 258 [.agg [.int .i64 e.fr,.bool e.send,.int .i64 e.label,.int .i64 e.to],.ro t [.int .i64 s]] = some [.bool (decide (e.fr = s) && e.send)] := by
  refine res_of a258 rfl rfl ?_
  simp only [F258]
  by_cases h : e.fr = s
  · simp (disch := omega) only [go_sem,h]
  · simp (disch := omega) only [go_sem,h]
theorem r180s (t u : Nat) (l : List Edge) (s : Int) (hl : l.length ≤ 2 ^ 63 - 1) : res A PrA 180 [.lst t (l.map Edge.c),.func 258 [.ro u [.int .i64 s]]] = some [.bool (sendsB s l)] := by
  refine res_of a180 rfl rfl ?_
  simp only [F180]
  have h77 := r77 258 t u [.int .i64 s] l (fun e => decide (e.fr = s) && e.send) hl (by kernel_rfl) (by kernel_rfl) (by kernel_rfl) (fun e _ => r258 u e s)
  have e1 : edgs l = l.map Edge.c := rfl
  rw [e1] at h77
  simp (disch := omega) only [go_sem,h77]
  rw [idxP_pos]
  rfl
theorem r255 (t u : Nat) (a : Auto) (s : Int) (l : List Int) (hl : a.edges.length ≤ 2 ^ 63 - 1) : res A PrA 255 [.agg [.int .i64 a.states,.int .i64 a.start,.lst t (a.edges.map Edge.c)],.int .i64 s,.lst u (ints l)] = some [.bool (blockB a s l)] := by
  refine res_of a255 rfl rfl ?_
  simp only [F255]
  have h180 := fun t u => r180s t u a.edges s hl
  cases l with
  | nil =>
    simp (disch := omega) only [go_sem,ints_nil]
    refine Br.ofP (fun _ => ?_) (fun h => (h rfl).elim)
    simp (disch := omega) only [go_sem]
    rfl
  | cons x l =>
    have h45 := r45 t a s false x hl
    obtain ⟨L,hL⟩ : ∃ L,L = x :: l := ⟨_,rfl⟩
    have hx : L[0]? = some x := by rw [hL]; rfl
    have hl1 : 0 < L.length := by rw [hL]; simp
    rw [← hL]
    simp (disch := omega) only [go_sem]
    refine Br.ofP (fun h => by omega) (fun h => ?_)
    cases hn : nextE s false x a.edges with
    | none =>
      rw [hn] at h45
      simp only [Option.isSome_none,Option.getD_none] at h45
      have hB : blockB a s L = !sendsB s a.edges := by rw [hL]; simp [blockB,hn]
      rw [hB]
      simp (disch := omega) only [go_sem,idxR_int,hx,h45,h180]
    | some y =>
      rw [hn] at h45
      simp only [Option.isSome_some,Option.getD_some] at h45
      have hB : blockB a s L = false := by rw [hL]; simp [blockB,hn]
      rw [hB]
      simp (disch := omega) only [go_sem,idxR_int,hx,h45]
theorem endsTo_mem (es : List Edge) (x : Int) : ∀ k,x ∈ endsTo es k ↔ (0 ≤ x ∧ x < (k : Int)) ∧ isEnd x es = true
  | 0 => by
    simp only [endsTo,List.not_mem_nil,false_iff]
    omega
  | k + 1 => by
    unfold endsTo
    have ih := endsTo_mem es x k
    by_cases h : isEnd (k : Int) es = true
    · rw [if_pos h,List.mem_append,ih,List.mem_singleton]
      constructor
      · rintro (⟨h1,h2⟩ | rfl)
        · exact ⟨by omega,h2⟩
        · exact ⟨by omega,h⟩
      · rintro ⟨h1,h2⟩
        by_cases e : x = (k : Int)
        · exact .inr e
        · exact .inl ⟨by omega,h2⟩
    · rw [if_neg h,ih]
      constructor
      · rintro ⟨h1,h2⟩
        exact ⟨by omega,h2⟩
      · rintro ⟨h1,h2⟩
        by_cases e : x = (k : Int)
        · rw [e] at h2
          exact (h h2).elim
        · exact ⟨by omega,h2⟩
theorem ends_in {a : Auto} {x : Int} (hs : a.states ≤ 12) (hx : 0 ≤ x ∧ x < a.states) : decide (x ∈ a.ends) = isEnd x a.edges := by
  unfold Auto.ends
  rw [if_pos hs]
  have := endsTo_mem a.edges x a.states.toNat
  cases h : isEnd x a.edges with
  | true => exact decide_eq_true (this.2 ⟨by omega,h⟩)
  | false =>
    refine decide_eq_false fun hm => ?_
    have := (this.1 hm).2
    rw [h] at this
    cases this
set_option maxHeartbeats 2000000 in
theorem r250 (t1 t2 t3 t4 t5 : Nat) (a b : Auto) (cap : Int) (x y : Int) (l m : List Int) (ms : List (List PV)) (hsa : a.states ≤ 12) (hsb : b.states ≤ 12) (hx : 0 ≤ x ∧ x < a.states) (hy : 0 ≤ y ∧ y < b.states) (ha : a.edges.length ≤ 2 ^ 63 - 1) (hb : b.edges.length ≤ 2 ^ 63 - 1) : res A PrA 250 [.agg [.int .i64 a.states,.int .i64 a.start,.lst t1 (a.edges.map Edge.c),.int .i64 b.states,.int .i64 b.start,.lst t2 (b.edges.map Edge.c),.int .i64 cap],.agg [.int .i64 x,.int .i64 y,.lst t3 (ints l),.lst t4 (ints m)],.lst t5 ms] = some [.int .i64 (kindB a b x y l m ms.length)] := by
  refine res_of a250 rfl rfl ?_
  simp only [F250]
  have ea := ends_len a
  have eb := ends_len b
  have i1 := ends_in hsa hx
  have i2 := ends_in hsb hy
  have h255a := r255 t1 t3 a x l ha
  have h255b := r255 t2 t4 b y m hb
  simp (disch := omega) only [go_sem,i1]
  have key : ∀ v : Int,v = kindB a b x y l m ms.length → some [PV.int .i64 v] = some [PV.int .i64 (kindB a b x y l m ms.length)] := fun v hv => by rw [hv]
  cases h1 : isEnd x a.edges <;> cases h2 : isEnd y b.edges <;> cases h3 : blockB a x l <;> cases h4 : blockB b y m <;> simp (disch := omega) only [go_sem,h255a,h255b,i2,h2,h3,h4]
  all_goals first
    | (refine key _ ?_; simp [kindB,h1,h2,h3,h4]; done)
    | (refine Br.ofP (fun hz => ?_) (fun hz => ?_)
       · have hz2 : ms.length = 0 := by omega
         simp (disch := omega) only [go_sem]
         refine key _ ?_
         simp [kindB,h1,h2,h3,h4,hz2]
       · have hz2 : ms.length ≠ 0 := by omega
         simp (disch := omega) only [go_sem]
         refine key _ ?_
         simp [kindB,h1,h2,h3,h4,hz2])
end Go.Pv
namespace Go.Pv
def revK (l : List Mov) (k : Nat) : List Mov := (List.range l.length).map fun p => if p < k ∨ l.length ≤ p + k then l.getD (l.length - 1 - p) default else l.getD p default
theorem revK_len (l : List Mov) (k : Nat) : (revK l k).length = l.length := by simp [revK]
theorem revK_get {l : List Mov} {k p : Nat} (h : p < l.length) : (revK l k)[p]? = some (if p < k ∨ l.length ≤ p + k then l.getD (l.length - 1 - p) default else l.getD p default) := by simp [revK,h]
theorem revK_zero (l : List Mov) : revK l 0 = l := by
  apply List.ext_getElem?
  intro p
  rcases Nat.lt_or_ge p l.length with h | h
  · rw [revK_get h,if_neg (by omega),List.getElem?_eq_getElem h]
    simp [h]
  · rw [List.getElem?_eq_none (by rw [revK_len]; exact h),List.getElem?_eq_none h]
theorem revK_succ {l : List Mov} {k : Nat} (h : k + k + 1 < l.length) : ((revK l k).set k (l.getD (l.length - 1 - k) default)).set (l.length - 1 - k) (l.getD k default) = revK l (k + 1) := by
  apply List.ext_getElem?
  intro p
  rcases Nat.lt_or_ge p l.length with hp | hp
  · rw [revK_get hp]
    by_cases e1 : l.length - 1 - k = p
    · subst e1
      rw [List.getElem?_set_self (by rw [List.length_set,revK_len]; exact hp),if_pos (by omega)]
      congr 2
      omega
    · rw [List.getElem?_set_ne e1]
      by_cases e2 : k = p
      · subst e2
        rw [List.getElem?_set_self (by rw [revK_len]; exact hp),if_pos (by omega)]
      · rw [List.getElem?_set_ne e2,revK_get hp]
        by_cases c : p < k ∨ l.length ≤ p + k
        · rw [if_pos c,if_pos (by omega)]
        · rw [if_neg c,if_neg (by omega)]
  · rw [List.getElem?_eq_none (by simp [revK_len,hp]),List.getElem?_eq_none (by rw [revK_len]; exact hp)]
theorem revK_end {l : List Mov} {k : Nat} (h : l.length ≤ k + k + 1) : revK l k = l.reverse := by
  apply List.ext_getElem?
  intro p
  rcases Nat.lt_or_ge p l.length with hp | hp
  · rw [revK_get hp,List.getElem?_reverse hp]
    have hq : l.length - 1 - p < l.length := by omega
    have e : l.getD (l.length - 1 - p) default = l[l.length - 1 - p] := by simp [hq]
    rw [List.getElem?_eq_getElem hq,← e]
    by_cases c : p < k ∨ l.length ≤ p + k
    · rw [if_pos c]
    · rw [if_neg c]
      congr 2
      omega
  · rw [List.getElem?_eq_none (by rw [revK_len]; exact hp),List.getElem?_eq_none (by rw [List.length_reverse]; exact hp)]
theorem mvs3_set (l : List Mov) (i : Nat) (a : Int) (b : Bool) (c : Int) : (mvs3 l).set i [.int .i64 a,.bool b,.int .i64 c] = mvs3 (l.set i ⟨a,b,c⟩) := by simp [mvs3,Mov.c,List.map_set]
theorem storeRow_mvs {id row ver : Nat} {a c : Int} {b : Bool} {r : List Mov} (h : row < r.length) : storeRow id row 0 [.pv (.int .i64 a),.pv (.bool b),.pv (.int .i64 c)] ⟨ver,3,.inl (mvs3 r)⟩ = some { ar := some (id,⟨ver,3,.inl (mvs3 (r.set row ⟨a,b,c⟩))⟩) } := by
  have h1 : row < (⟨ver,3,.inl (mvs3 r)⟩ : Arr).size := by simpa [Arr.size,mvs3] using h
  have h2 : (mvs3 r).getD row [] = (r[row]).c := by simp [mvs3,h]
  have h3 : (r[row]).c.drop 3 = [] := rfl
  simp [storeRow,h1,setBody,mapO,V.purec,PV.perm,V.calm,← mvs3_set]
  simp [mvs3,h,Mov.c]
set_option maxHeartbeats 4000000 in
theorem rev_run (v m : Nat) (l : List Mov) (hl : l.length = m + 1) (hm : m < 1000000) (Q : Ex → St → Prop) (hQ : ∀ env,Q .normal ⟨env,⟨[],[⟨v,3,.inl (mvs3 l.reverse)⟩],[]⟩⟩) : W A PrA F254.body ⟨[(0,.own 0 v 0 (m + 1))],⟨[],[⟨v,3,.inl (mvs3 l)⟩],[]⟩⟩ Q := by
  simp only [F254]
  simp (disch := omega) only [go_sem]
  refine W.upto (m + 1) (fun k => ⟨[(0,.own 0 v 0 (m + 1)),(2,.pv (.int .i64 k)),(3,.pv (.int .i64 ((m : Int) - k)))],⟨[],[⟨v,3,.inl (mvs3 (revK l k))⟩],[]⟩⟩) (fun _ => True) (by rw [revK_zero,show (((m + 1 : Nat) : Int) - 1) = (m : Int) - ((0 : Nat) : Int) by omega]; rfl) trivial fun k hk _ => ?_
  simp (disch := omega) only [go_sem]
  refine Br.ofP (fun c => ?_) (fun c => ?_)
  · have hkl : k < l.length := by omega
    have hjl : m - k < l.length := by omega
    have h1 : (revK l k)[k]? = some (l.getD k default) := by rw [revK_get hkl,if_neg (by omega)]
    have h2 : (revK l k)[m - k]? = some (l.getD (m - k) default) := by rw [revK_get hjl,if_neg (by omega)]
    have hs := revK_succ (l := l) (k := k) (by omega)
    rw [show l.length - 1 - k = m - k by omega] at hs
    have hrl : (revK l k).length = m + 1 := by rw [revK_len,hl]
    have hti : ((m : Int) - (k : Int)).toNat = m - k := by omega
    generalize revK l k = r at *
    generalize l.getD k default = x at *
    generalize l.getD (m - k) default = y at *
    have hrl2 : (r.set k ⟨y.party,y.send,y.label⟩).length = m + 1 := by rw [List.length_set,hrl]
    simp (disch := omega) only [go_sem,h1,h2,hti,storeRow_mvs]
    refine .of (by omega) ?_ trivial
    rw [← hs,show ((m : Int) - (k : Int) - 1) = (m : Int) - ((k + 1 : Nat) : Int) by omega]
    rfl
  · have := revK_end (l := l) (k := k) (by omega)
    rw [this]
    simp (disch := omega) only [go_sem]
    exact hQ _
theorem call254 {v : V} {bx : List (Nat × List V)} {ar : List Arr} {mp : List (List (PV × PV))} {K : V → Tn → Prop} (hv : v = .tl [] ∨ ∃ a b c d,v = .own a b c d) (h : W A PrA F254.body ⟨[(0,v)],⟨[],ar,mp⟩⟩ (inlK [] [] K)) : IW A PrA 254 [v] ⟨bx,ar,mp⟩ K := by
  rw [IW_eq a254]
  rcases hv with rfl | ⟨_,_,_,_,rfl⟩ <;> exact ⟨rfl,_,rfl,_,rfl,h⟩
set_option maxHeartbeats 4000000 in
theorem r249 (t : Nat) (s0 s1 s2 s3 s4 s5 s6 C M N : PV) (mvf : Cfg → List (Mov × Cfg)) (s : Cfg) (nodes : List Nd) (i0 : Nat) (hf : Fnd mvf s nodes i0) (hn : nodes.length ≤ 100000) (k : Nat) (x : Nd) (hx : nodes[k]? = some x) : res A PrA 249 [.ro t [s0,s1,s2,s3,s4,s5,s6,C,M,N,.lst 0 (ints (nodes.map Nod.bef)),.lst 0 (mvs3 (nodes.map Nd.mv))],.int .i64 k] = some [.lst 0 (mvs3 x.path)] := by
  refine res_of a249 rfl rfl ?_
  simp only [F249]
  have hk := (List.getElem?_eq_some_iff.1 hx).1
  simp (disch := omega) only [go_sem]
  refine W.loop (α := Nat × Nd × List Mov) (fun q => ⟨[(0,.pv (.ro t [s0,s1,s2,s3,s4,s5,s6,C,M,N,.lst 0 (ints (nodes.map Nod.bef)),.lst 0 (mvs3 (nodes.map Nd.mv))])),(1,.pv (.int .i64 q.1)),(5,grV 0 (mvs3 q.2.2))],⟨[],grA 3 (mvs3 q.2.2),[]⟩⟩)
    (fun q => nodes[q.1]? = some q.2.1 ∧ x.path = q.2.1.path ++ q.2.2.reverse ∧ q.2.2.length + q.1 ≤ k) (fun q => q.1) (k,x,[]) rfl ⟨hx,by simp,by simp⟩ fun q hq => ?_
  obtain ⟨j,y,acc⟩ := q
  obtain ⟨h1,h2,h3⟩ := hq
  dsimp only at h1 h2 h3
  have hb : (nodes.map Nod.bef)[j]? = some y.bef := by rw [List.getElem?_map,h1]; rfl
  have hm : (nodes.map Nd.mv)[j]? = some (Nd.mv y) := by rw [List.getElem?_map,h1]; rfl
  have hjl := (List.getElem?_eq_some_iff.1 h1).1
  have hbl : (nodes.map Nod.bef).length = nodes.length := List.length_map _
  have hml : (nodes.map Nd.mv).length = nodes.length := List.length_map _
  rcases Nat.eq_zero_or_pos j with h0 | h0
  · subst h0
    rw [hf.first] at h1
    cases h1
    simp only [nod0,List.nil_append] at h2 hb hm
    have hge : decide ((-1 : Int) ≥ 0) = false := rfl
    cases acc with
    | nil =>
      simp (disch := omega) only [go_sem,hb]
      refine call254 (.inl rfl) ?_
      simp only [F254]
      simp (disch := omega) only [go_sem]
      refine W.loop (α := Unit) (fun _ => ⟨[(0,.tl []),(2,.pv (.int .i64 0)),(3,.pv (.int .i64 (-1)))],⟨[],[],[]⟩⟩) (fun _ => True) (fun _ => 0) () rfl trivial fun _ _ => ?_
      have ho : outBx (toOut []) [] outer [] = some [] := rfl
      simp (disch := omega) only [go_sem,ho]
      rw [h2]
      rfl
    | cons m0 acc =>
      simp (disch := omega) only [go_sem,hb]
      rw [grV_own (n := acc.length) (by rw [mvs3_length]; rfl),grA_own (n := acc.length) (by rw [mvs3_length]; rfl)]
      refine call254 (.inr ⟨_,_,_,_,rfl⟩) (rev_run acc.length acc.length (m0 :: acc) rfl (by simp at h3; omega) _ fun env => ?_)
      have ho : outBx (toOut []) [] outer [] = some [] := rfl
      have htk : (mvs3 (m0 :: acc).reverse).take (acc.length + 1) = mvs3 (m0 :: acc).reverse := List.take_of_length_le (by rw [mvs3_length,List.length_reverse]; exact Nat.le_refl _)
      simp (disch := omega) only [go_sem,ho,htk]
      rw [h2]
  · obtain ⟨k2,y2,m,e1,e2,e3,e4,e5⟩ := hf.way j y h1 h0
    have hyb : y.bef = (k2 : Int) := by rw [e5]
    have hym : Nd.mv y = m := by rw [e5]; rfl
    have hyp : y.path = y2.path ++ [m] := by rw [e5]
    rw [hyb] at hb
    rw [hym] at hm
    have hal : (mvs3 acc).length ≤ 200000 := by rw [mvs3_length]; omega
    simp (disch := omega) only [go_sem,hb]
    refine Br.ofP (fun _ => ?_) (fun h => (h (by omega)).elim)
    simp (disch := omega) only [go_sem,hb,hm]
    refine ⟨(k2,y2,acc ++ [m]),⟨e3,?_,?_⟩,by dsimp only; omega,rfl⟩
    · dsimp only
      rw [h2,hyp,List.reverse_append]
      simp
    · dsimp only
      rw [List.length_append]
      simp
      omega
end Go.Pv
namespace Go.Pv
@[go_sem] theorem takev_ro (n t : Nat) (cs : List PV) : takev n (.ro t cs) = (.pv (.ro t cs),[]) := rfl
@[go_sem] theorem takev_nilp (n : Nat) : takev n .nilp = (.pv .nilp,[]) := rfl
theorem r246e (t1 t2 : Nat) (a b : Auto) (cap : Int) (ha : a.edges.length ≤ 2 ^ 63 - 1) (hb : b.edges.length ≤ 2 ^ 63 - 1) (hs : sysErr a b cap ≠ 0) : res A PrA 246 [.agg [.int .i64 a.states,.int .i64 a.start,.lst t1 (a.edges.map Edge.c),.int .i64 b.states,.int .i64 b.start,.lst t2 (b.edges.map Edge.c),.int .i64 cap]] = some [.nilp,.int .i64 (sysErr a b cap)] := by
  refine res_of a246 rfl rfl ?_
  simp only [F246]
  simp (disch := omega) only [go_sem]
  refine Br.ofP (fun h => (hs h).elim) (fun h => ?_)
  simp (disch := omega) only [go_sem]
theorem r248e (t1 t2 t3 t4 : Nat) (a b : Auto) (cap x y : Int) (l m : List Int) (ha : a.edges.length ≤ 2 ^ 63 - 1) (hb : b.edges.length ≤ 2 ^ 63 - 1) (hs : sysErr a b cap ≠ 0) : res A PrA 248 [.agg [.int .i64 a.states,.int .i64 a.start,.lst t1 (a.edges.map Edge.c),.int .i64 b.states,.int .i64 b.start,.lst t2 (b.edges.map Edge.c),.int .i64 cap],.agg [.int .i64 x,.int .i64 y,.lst t3 (ints l),.lst t4 (ints m)]] = some [.nilp,.int .i64 (sysErr a b cap)] := by
  refine res_of a248 rfl rfl ?_
  simp only [F248]
  simp (disch := omega) only [go_sem]
  refine Br.ofP (fun h => (hs h).elim) (fun h => ?_)
  simp (disch := omega) only [go_sem]
theorem spc_perm (a b : Auto) (cap : Int) (out : List Nd) : (spc a b cap out).all PV.perm = true := rfl
variable {a b : Auto} {cap : Int} {s : Cfg} {p : Cfg → Prop} {out : List Nd}
theorem r246 (hp : Sp30 a b cap p) (h0 : p (cfgStart a b)) (ha : a.edges.length ≤ 1000000) (hb : b.edges.length ≤ 1000000) (hs : sysErr a b cap = 0) (hn : nodL (mvC a b cap) 5000 5002 [nod0 (cfgStart a b)] 0 = some out) : res A PrA 246 [.agg [.int .i64 a.states,.int .i64 a.start,.lst 0 (a.edges.map Edge.c),.int .i64 b.states,.int .i64 b.start,.lst 0 (b.edges.map Edge.c),.int .i64 cap]] = some [.ro 0 (spc a b cap out),.int .i64 0] := by
  refine res_of a246 rfl rfl ?_
  simp only [F246]
  have h253 := r253 a b cap (cfgStart a b) hp h0 ha hb hs
  rw [hn] at h253
  simp only [cfgStart,ints_nil] at h253
  have hd : decide (sysErr a b cap = 0) = true := decide_eq_true hs
  simp (disch := omega) only [go_sem,hd,h253,spc_perm]
theorem r248 (hp : Sp30 a b cap p) (h0 : p s) (ha : a.edges.length ≤ 1000000) (hb : b.edges.length ≤ 1000000) (hs : sysErr a b cap = 0) (hn : nodL (mvC a b cap) 5000 5002 [nod0 s] 0 = some out) : res A PrA 248 [.agg [.int .i64 a.states,.int .i64 a.start,.lst 0 (a.edges.map Edge.c),.int .i64 b.states,.int .i64 b.start,.lst 0 (b.edges.map Edge.c),.int .i64 cap],.agg [.int .i64 s.a,.int .i64 s.b,.lst 0 (ints s.toA),.lst 0 (ints s.toB)]] = some [.ro 0 (spc a b cap out),.int .i64 0] := by
  refine res_of a248 rfl rfl ?_
  simp only [F248]
  have h253 := r253 a b cap s hp h0 ha hb hs
  rw [hn] at h253
  have hd : decide (sysErr a b cap = 0) = true := decide_eq_true hs
  have hf := hp.fit s h0
  have hok := hp.ok s h0
  have h1 := hok.2.2.2.2.1
  have h2 := hok.2.2.2.2.2
  have h157 := r157 0 0 a b cap 0 0 s.a s.b s.toA s.toB (by omega) (by omega) (by omega) (by omega)
  rw [hf] at h157
  simp (disch := omega) only [go_sem,hd,h253,h157,spc_perm]
structure SpcR (a b : Auto) (cap : Int) (s : Cfg) (p : Cfg → Prop) (out : List Nd) : Prop extends Spc a b cap s p out where
  sp : Sp30 a b cap p
  len : out.length ≤ 5000
  ea : a.edges.length ≤ 10000
  eb : b.edges.length ≤ 10000
theorem SpcR.rk (h : SpcR a b cap s p out) (t : Nat) : res A PrA 247 [.ro t [.int .i64 a.states,.int .i64 a.start,.lst 0 (a.edges.map Edge.c),.int .i64 b.states,.int .i64 b.start,.lst 0 (b.edges.map Edge.c),.int .i64 cap,.lst 0 (cfgs (out.map Nod.c)),.lst 0 (mvRows (out.map fun x => movesC a b cap x.c.a x.c.b x.c.toA x.c.toB)),.lst 0 (lls (out.map fun x => (sucC a b cap x.c).map (posZ out))),.lst 0 (ints (out.map Nod.bef)),.lst 0 (mvs3 (out.map Nd.mv))]] = some [.lst 0 (ints (rkN a b cap out))] := by
  have hea := h.ea
  have heb := h.eb
  have := r247 t a b cap (out.map Nod.c) (rowsN a b cap out) (.lst 0 (mvRows (out.map fun x => movesC a b cap x.c.a x.c.b x.c.toA x.c.toB))) (.lst 0 (ints (out.map Nod.bef))) (.lst 0 (mvs3 (out.map Nd.mv))) (by rw [rowsN_len,List.length_map]) (by rw [rowsN_len]; exact h.len) h.inR (fun l hl => by
    obtain ⟨x,_,rfl⟩ := List.mem_map.1 hl
    have h1 := mvsOf_len a b cap x.c.a x.c.b x.c.toA x.c.toB 0 x.c.a a.edges
    have h2 := mvsOf_len a b cap x.c.a x.c.b x.c.toA x.c.toB 1 x.c.b b.edges
    rw [List.length_map,sucC,List.length_map,movesC,List.length_append]
    omega) (fun c hc => by
    obtain ⟨x,hx,rfl⟩ := List.mem_map.1 hc
    have := h.sp.ok _ (h.all x hx)
    have h1 := this.2.2.2.2.1
    have h2 := this.2.2.2.2.2
    omega) (by omega) (by omega)
  rw [rowsN_len] at this
  exact this
theorem rkN_len (h : Spc a b cap s p out) : (rkN a b cap out).length = out.length := h.dist.len
theorem r242e (t1 t2 : Nat) (ha : a.edges.length ≤ 2 ^ 63 - 1) (hb : b.edges.length ≤ 2 ^ 63 - 1) (hs : sysErr a b cap ≠ 0) : res A PrA 242 [.agg [.int .i64 a.states,.int .i64 a.start,.lst t1 (a.edges.map Edge.c),.int .i64 b.states,.int .i64 b.start,.lst t2 (b.edges.map Edge.c),.int .i64 cap]] = some [.bool false,.int .i64 (sysErr a b cap)] := by
  refine res_of a242 rfl rfl ?_
  simp only [F242]
  have h246 := r246e t1 t2 a b cap ha hb hs
  have hd : decide (sysErr a b cap = 0) = false := decide_eq_false hs
  simp (disch := omega) only [go_sem,h246,hd]
def stuckR (a b : Auto) (cap : Int) (out : List Nd) : List PV := match out[(atL (-1) (rkN a b cap out)).toNat]? with
  | some x => if atL (-1) (rkN a b cap out) < 0 then [.lst 0 [],cfgP cfg0,.int .i64 0,.int .i64 15] else [.lst 0 (mvs3 x.path),cfgP x.c,.int .i64 (kindB a b x.c.a x.c.b x.c.toA x.c.toB (movesC a b cap x.c.a x.c.b x.c.toA x.c.toB).length),.int .i64 0]
  | none => []
theorem r240e (t1 t2 : Nat) (ha : a.edges.length ≤ 2 ^ 63 - 1) (hb : b.edges.length ≤ 2 ^ 63 - 1) (hs : sysErr a b cap ≠ 0) : res A PrA 240 [.agg [.int .i64 a.states,.int .i64 a.start,.lst t1 (a.edges.map Edge.c),.int .i64 b.states,.int .i64 b.start,.lst t2 (b.edges.map Edge.c),.int .i64 cap]] = some [.lst 0 [],cfgP cfg0,.int .i64 0,.int .i64 (sysErr a b cap)] := by
  refine res_of a240 rfl rfl ?_
  simp only [F240]
  have h246 := r246e t1 t2 a b cap ha hb hs
  have hd : decide (sysErr a b cap = 0) = false := decide_eq_false hs
  simp (disch := omega) only [go_sem,h246,hd]
  rfl
theorem r240 (h : SpcR a b cap (cfgStart a b) p out) (h0 : p (cfgStart a b)) (hs : sysErr a b cap = 0) (hsa : a.states ≤ 12) (hsb : b.states ≤ 12) (hn : nodL (mvC a b cap) 5000 5002 [nod0 (cfgStart a b)] 0 = some out) : res A PrA 240 [.agg [.int .i64 a.states,.int .i64 a.start,.lst 0 (a.edges.map Edge.c),.int .i64 b.states,.int .i64 b.start,.lst 0 (b.edges.map Edge.c),.int .i64 cap]] = some (stuckR a b cap out) := by
  refine res_of a240 rfl rfl ?_
  simp only [F240]
  have hea := h.ea
  have heb := h.eb
  have h246 := r246 h.sp h0 (by omega) (by omega) hs hn
  have h247 := h.rk 0
  have hl := rkN_len h.toSpc
  have hle := h.len
  simp only [spc] at h246
  simp (disch := omega) only [go_sem,h246,h247]
  by_cases hi : atL (-1) (rkN a b cap out) < 0
  · have hz : (atL (-1) (rkN a b cap out)).toNat = 0 := by omega
    have hR : stuckR a b cap out = [.lst 0 [],cfgP cfg0,.int .i64 0,.int .i64 15] := by
      unfold stuckR
      rw [hz,h.fnd.first]
      simp only
      rw [if_pos hi]
    rw [hR]
    refine Br.ofP (fun _ => ?_) (fun hh => (hh hi).elim)
    simp (disch := omega) only [go_sem]
    rfl
  · obtain ⟨j,hj,hjg⟩ := atL_get (atL_pos.1 (Int.not_lt.1 hi))
    have hjl : j < out.length := by rw [← hl]; exact (List.getElem?_eq_some_iff.1 hjg).1
    obtain ⟨x,hx⟩ := get_at (l := out) (k := j) hjl
    have hR : stuckR a b cap out = [.lst 0 (mvs3 x.path),cfgP x.c,.int .i64 (kindB a b x.c.a x.c.b x.c.toA x.c.toB (movesC a b cap x.c.a x.c.b x.c.toA x.c.toB).length),.int .i64 0] := by
      unfold stuckR
      rw [hj,Int.toNat_natCast,hx]
      simp only
      rw [if_neg (by omega)]
    rw [hR]
    refine Br.ofP (fun hh => (hi hh).elim) (fun _ => ?_)
    have h249 := fun t => r249 t (.int .i64 a.states) (.int .i64 a.start) (.lst 0 (a.edges.map Edge.c)) (.int .i64 b.states) (.int .i64 b.start) (.lst 0 (b.edges.map Edge.c)) (.int .i64 cap) (.lst 0 (cfgs (out.map Nod.c))) (.lst 0 (mvRows (out.map fun x => movesC a b cap x.c.a x.c.b x.c.toA x.c.toB))) (.lst 0 (lls (out.map fun x => (sucC a b cap x.c).map (posZ out)))) (mvC a b cap) (cfgStart a b) out out.length h.fnd (by omega) j x hx
    have hcg : (cfgs (out.map Nod.c))[j]? = some [.int .i64 x.c.a,.int .i64 x.c.b,.lst 0 (ints x.c.toA),.lst 0 (ints x.c.toB)] := by rw [cfgs_get,List.getElem?_map,hx]; rfl
    have hmg : (mvRows (out.map fun x => movesC a b cap x.c.a x.c.b x.c.toA x.c.toB))[j]? = some [.lst 0 (mvs3 (movesC a b cap x.c.a x.c.b x.c.toA x.c.toB))] := by simp [mvRows,hx]
    have hmr : (mvRows (out.map fun x => movesC a b cap x.c.a x.c.b x.c.toA x.c.toB)).length = out.length := by simp [mvRows]
    have hcr : (out.map Nod.c).length = out.length := List.length_map _
    obtain ⟨_,f1,f2,_⟩ := fitsB_iff.1 (h.sp.fit _ (h.all x (List.mem_of_getElem? hx)))
    have h250 := r250 0 0 0 0 0 a b cap x.c.a x.c.b x.c.toA x.c.toB (mvs3 (movesC a b cap x.c.a x.c.b x.c.toA x.c.toB)) hsa hsb f1 f2 (by omega) (by omega)
    rw [mvs3_length] at h250
    rw [hj]
    simp (disch := omega) only [go_sem,h249,hcg,hmg,h250]
end Go.Pv
