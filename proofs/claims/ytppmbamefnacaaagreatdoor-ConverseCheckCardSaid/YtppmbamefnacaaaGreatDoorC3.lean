/-
 What the functions of the law give.
-/
import Derived.Test.YtppmbamefnacaaaGreatDoorC2
namespace Go.Pv
variable {a b : Auto} {cap : Int} {L : List (Cfg × Int)}
theorem fidx_take {k : Nat} {w : Cfg × Int} (hw : L[k]? = some w) : fidx L w.1 = some k ↔ fidx (L.take k) w.1 = none := by
 have hk := (List.getElem?_eq_some_iff.1 hw).1
 have hg := (List.getElem?_eq_some_iff.1 hw).2
 unfold fidx
 rw [List.findIdx?_eq_some_iff_getElem,List.findIdx?_eq_none_iff]
 constructor
 ·rintro ⟨_,_,h⟩ v hv
  obtain ⟨i,hi⟩ := List.getElem?_of_mem hv
  have hik : i < k := by
   have := (List.getElem?_eq_some_iff.1 hi).1
   rw [List.length_take] at this
   omega
  rw [List.getElem?_take,if_pos hik] at hi
  have h1 := h i hik
  rw [(List.getElem?_eq_some_iff.1 hi).2] at h1
  simpa using h1
 ·intro h
  refine ⟨hk,by rw [hg]; exact decide_eq_true rfl,fun j hj => ?_⟩
  have hjl : j < L.length := by omega
  have hm : L[j] ∈ L.take k := by
   refine List.mem_of_getElem? (i := j) ?_
   rw [List.getElem?_take,if_pos hj]
   exact List.getElem?_eq_getElem hjl
  have := h _ hm
  simpa using this
theorem fidx_lt {c : Cfg} {z : Nat} (h : fidx L c = some z) : ∃ w,L[z]? = some w ∧ w.1 = c := by
 unfold fidx at h
 rw [List.findIdx?_eq_some_iff_getElem] at h
 obtain ⟨h1,h2,_⟩ := h
 exact ⟨L[z],List.getElem?_eq_getElem h1,by simpa using h2⟩
set_option maxHeartbeats 8000000 in
theorem r533g (hL : L.length ≤ 500) (hok : ∀ w ∈ L,w.1.ok) (ha : a.edges.length ≤ 1000000) (hb : b.edges.length ≤ 1000000) (hst : wideI a.start = true ∧ wideI b.start = true) : res A PrA 533 [.agg [.int .i64 a.states,.int .i64 a.start,.lst 0 (a.edges.map Edge.c),.int .i64 b.states,.int .i64 b.start,.lst 0 (b.edges.map Edge.c),.int .i64 cap],.lst 0 (ckR L)] = some [.bool (ckB a b cap L)] := by
 refine res_of a533 rfl rfl ?_
 simp only [F533]; try delta sS tT zZ nN gG bB pZ
 have h540 : ∀ c : Cfg,c.ok → res A PrA 540 [.lst 0 (ckR L),.agg [.int .i64 c.a,.int .i64 c.b,.lst 0 (ints c.toA),.lst 0 (ints c.toB)]] = some [.int .i64 (match fidx L c with | some j => (j : Int) | none => -1)] := fun c hc => r540 0 0 0 L c (by omega) hok hc
 by_cases hs : sysErr a b cap = 0
 ·have hd : decide (sysErr a b cap = 0) = true := decide_eq_true hs
  have h5400 := h540 ⟨a.start,b.start,[],[]⟩ ⟨hst.1,hst.2,rfl,rfl,by simp,by simp⟩
  simp only [ints_nil] at h5400
  have e0 : fidx L ⟨a.start,b.start,[],[]⟩ = fidx L (cfgStart a b) := rfl
  rw [e0] at h5400
  cases hn0 : fidx L (cfgStart a b) with
  | none =>
   rw [hn0] at h5400
   have hz : decide ((-1 : Int) < 0) = true := rfl
   simp (disch := omega) only [go_sem,hd,h5400]
   rw [ckB_no fun h => by
    have := h.2.2.1
    rw [hn0] at this
    cases this]
  | some j0 =>
   rw [hn0] at h5400
   have hz : decide ((j0 : Int) < 0) = false := decide_eq_false (by omega)
   simp (disch := omega) only [go_sem,hd,h5400,hz]
   refine W.upto L.length (fun k => ⟨[(1,.pv (.lst 0 (ckR L))),(2,.ptr 2 0),(5,.pv (.int .i64 k))],⟨[(2,[.pv (.int .i64 a.states),.pv (.int .i64 a.start),.pv (.lst 0 (a.edges.map Edge.c)),.pv (.int .i64 b.states),.pv (.int .i64 b.start),.pv (.lst 0 (b.edges.map Edge.c)),.pv (.int .i64 cap)])],[],[]⟩⟩) (fun k => ∀ i w,i < k → L[i]? = some w → (fitsB a b cap w.1.a w.1.b w.1.toA w.1.toB = true ∧ fidx (L.take i) w.1 = none) ∧ goodW a b cap L w) rfl (fun i w hi => absurd hi (by omega)) fun k hk hi => ?_
   simp (disch := omega) only [go_sem]
   refine Br.ofP (fun c2 => ?_) (fun c2 => ?_)
   ·obtain ⟨w,hw⟩ := get_at (l := L) (k := k) (by omega)
    have hwk := hok w (List.mem_of_getElem? hw)
    have h540k := h540 w.1 hwk
    obtain ⟨_,_,_,_,hxa,hxb⟩ := hwk
    have h158 := r158 0 0 a b cap 0 0 w.1.a w.1.b w.1.toA w.1.toB (by omega) (by omega) (by omega) (by omega)
    have hno : ¬ (fitsB a b cap w.1.a w.1.b w.1.toA w.1.toB = true ∧ fidx (L.take k) w.1 = none) → ckB a b cap L = false := fun h => ckB_no fun h2 => h (h2.2.1 k w hw)
    cases hft : fitsB a b cap w.1.a w.1.b w.1.toA w.1.toB with
    | false =>
     rw [hft] at h158
     simp (disch := omega) only [go_sem,hw,Option.map_some,h158]
     rw [hno fun h => by rw [hft] at h; cases h.1]
    | true =>
     rw [hft] at h158
     by_cases hfk : fidx L w.1 = some k
     ·rw [hfk] at h540k
      have hn := (fidx_take hw).1 hfk
      have hchk := fits_chk hft
      have h173 := r173 a b cap w.1.a w.1.b w.1.toA w.1.toB (by omega) (by omega) (by omega) (by omega)
      have h183 := fun mv => r183 a b cap w.1.a w.1.b w.1.toA w.1.toB mv (by omega) (by omega) (by omega) (by omega)
      have h160 := r160 0 0 a b cap 0 0 w.1.a w.1.b w.1.toA w.1.toB (by omega) (by omega) (by omega) (by omega)
      have hml := moves_len (a := a) (b := b) (cap := cap) w.1
      have hgd : goodW a b cap L w → (∀ m ∈ movesC a b cap w.1.a w.1.b w.1.toA w.1.toB,(fidx L (afterC a b cap w.1.a w.1.b w.1.toA w.1.toB m).1).isSome = true) := fun h => h.1
      have hgd2 : ∀ Q : Bool,(movesC a b cap w.1.a w.1.b w.1.toA w.1.toB).any (fun m => decide (rkC L (afterC a b cap w.1.a w.1.b w.1.toA w.1.toB m).1 < w.2)) = Q → (∀ m ∈ movesC a b cap w.1.a w.1.b w.1.toA w.1.toB,(fidx L (afterC a b cap w.1.a w.1.b w.1.toA w.1.toB m).1).isSome = true) → (goodW a b cap L w ↔ ((w.2 = 0 ∧ doneB a b cap w.1.a w.1.b w.1.toA w.1.toB = true) ∨ (0 < w.2 ∧ Q = true))) := fun Q hQ h => by
       unfold goodW
       rw [hQ]
       exact ⟨fun h => h.2,fun h2 => ⟨h,h2⟩⟩
      have hmvs : ∀ mv ∈ movesC a b cap w.1.a w.1.b w.1.toA w.1.toB,(afterC a b cap w.1.a w.1.b w.1.toA w.1.toB mv).2 = true ∧ (afterC a b cap w.1.a w.1.b w.1.toA w.1.toB mv).1.ok := fun mv hmv => ⟨(movesC_mem hmv).1,fits_okX (fits_after hft (movesC_mem hmv).1)⟩
      obtain ⟨g,hg0⟩ : ∃ g : Mov → Bool,g = fun m => decide (rkC L (afterC a b cap w.1.a w.1.b w.1.toA w.1.toB m).1 < w.2) := ⟨_,rfl⟩
      rw [← hg0] at hgd2
      generalize hms : movesC a b cap w.1.a w.1.b w.1.toA w.1.toB = ms at *
      have hkk : decide ((k : Int) = (k : Int)) = true := decide_eq_true rfl
      simp (disch := omega) only [go_sem,hw,Option.map_some,h158,h540k,h173]
      refine W.upto ms.length (fun j => ⟨[(1,.pv (.lst 0 (ckR L))),(2,.ptr 2 0),(5,.pv (.int .i64 k)),(6,.pv (.lst 0 (mvs3 ms))),(7,.pv (.bool ((ms.take j).any g))),(8,.pv (.int .i64 j))],⟨[(2,[.pv (.int .i64 a.states),.pv (.int .i64 a.start),.pv (.lst 0 (a.edges.map Edge.c)),.pv (.int .i64 b.states),.pv (.int .i64 b.start),.pv (.lst 0 (b.edges.map Edge.c)),.pv (.int .i64 cap)])],[],[]⟩⟩) (fun j => ∀ i m,i < j → ms[i]? = some m → (fidx L (afterC a b cap w.1.a w.1.b w.1.toA w.1.toB m).1).isSome = true) rfl (fun i m hi => absurd hi (by omega)) fun j hj hm => ?_
      simp (disch := omega) only [go_sem]
      refine Br.ofP (fun c3 => ?_) (fun c3 => ?_)
      ·obtain ⟨mv,hmv⟩ := get_at (l := ms) (k := j) (by omega)
       obtain ⟨z3,z4⟩ := hmvs mv (List.mem_of_getElem? hmv)
       have h183 := h183 mv
       rw [z3] at h183
       have hgm : g mv = decide (rkC L (afterC a b cap w.1.a w.1.b w.1.toA w.1.toB mv).1 < w.2) := by rw [hg0]
       have htk : (ms.take (j + 1)).any g = ((ms.take j).any g || g mv) := by rw [List.take_add_one,hmv]; simp
       have hnom : (fidx L (afterC a b cap w.1.a w.1.b w.1.toA w.1.toB mv).1) = none → ¬ goodW a b cap L w := fun h1 h2 => by
        have := hgd h2 mv (List.mem_of_getElem? hmv)
        rw [h1] at this
        cases this
       have h540z := h540 _ z4
       have hrk : rkC L (afterC a b cap w.1.a w.1.b w.1.toA w.1.toB mv).1 = rkL L ((fidx L (afterC a b cap w.1.a w.1.b w.1.toA w.1.toB mv).1).getD 0) := rfl
       generalize hy : (afterC a b cap w.1.a w.1.b w.1.toA w.1.toB mv).1 = y at *
       cases hfy : fidx L y with
       | none =>
        rw [hfy] at h540z
        have hz : decide ((-1 : Int) < 0) = true := rfl
        simp (disch := omega) only [go_sem,hw,Option.map_some,hmv,h183,h540z]
        rw [ckB_no fun h => hnom hfy (h.2.2.2 k w hw)]
       | some z =>
        rw [hfy] at h540z hrk
        obtain ⟨v,hv,_⟩ := fidx_lt hfy
        have hzl := (List.getElem?_eq_some_iff.1 hv).1
        have hzn : decide ((z : Int) < 0) = false := decide_eq_false (by omega)
        have hrv : rkL L z = v.2 := by unfold rkL; rw [hv]; rfl
        rw [show rkC L y = v.2 from hrk.trans hrv] at hgm
        cases hB : (ms.take j).any g with
        | true =>
         rw [hB,Bool.true_or] at htk
         simp (disch := omega) only [go_sem,hw,Option.map_some,hmv,h183,h540z,hzn]
         refine .of (by omega) ?_ (pre_take hmv hm (by rw [hy,hfy]; rfl))
         rw [htk]
         rfl
        | false =>
         rw [hB,Bool.false_or,hgm] at htk
         simp (disch := omega) only [go_sem,hw,hv,Option.map_some,hmv,h183,h540z,hzn]
         refine .of (by omega) ?_ (pre_take hmv hm (by rw [hy,hfy]; rfl))
         rw [htk]
         rfl
      ·have hjm : j = ms.length := by omega
       subst hjm
       rw [List.take_length]
       have hma : ∀ m ∈ ms,(fidx L (afterC a b cap w.1.a w.1.b w.1.toA w.1.toB m).1).isSome = true := fun m hmm => by
        obtain ⟨i,hii⟩ := List.getElem?_of_mem hmm
        exact pre_all (Nat.le_refl _) hm i m hii
       have hgi := hgd2 _ rfl hma
       have hno2 : ¬ goodW a b cap L w → ckB a b cap L = false := fun h => ckB_no fun h2 => h (h2.2.2.2 k w hw)
       by_cases hz : w.2 = 0
       ·have e1 : decide (w.2 = 0) = true := decide_eq_true hz
        have e2 : decide (w.2 ≤ 0) = true := decide_eq_true (by omega)
        cases hdn : doneB a b cap w.1.a w.1.b w.1.toA w.1.toB with
        | true =>
         rw [hdn] at h160
         simp (disch := omega) only [go_sem,hw,Option.map_some,e1,h160]
         exact .of (by omega) rfl (pre_take hw hi ⟨⟨hft,hn⟩,hgi.2 (.inl ⟨hz,hdn⟩)⟩)
        | false =>
         rw [hdn] at h160
         simp (disch := omega) only [go_sem,hw,Option.map_some,e1,e2,h160]
         rw [hno2 fun h => by
          rcases hgi.1 h with h | h
          ·rw [hdn] at h
           cases h.2
          ·omega]
       ·have e1 : decide (w.2 = 0) = false := decide_eq_false hz
        rcases Int.lt_or_le 0 w.2 with h0 | h0
        ·have e2 : decide (w.2 ≤ 0) = false := decide_eq_false (by omega)
         cases hany : ms.any g with
         | true =>
          simp (disch := omega) only [go_sem,hw,Option.map_some,e1,e2]
          exact .of (by omega) rfl (pre_take hw hi ⟨⟨hft,hn⟩,hgi.2 (.inr ⟨h0,hany⟩)⟩)
         | false =>
          simp (disch := omega) only [go_sem,hw,Option.map_some,e1,e2]
          rw [hno2 fun h => by
           rcases hgi.1 h with h | h
           ·exact hz h.1
           ·rw [hany] at h
            cases h.2]
        ·have e2 : decide (w.2 ≤ 0) = true := decide_eq_true h0
         simp (disch := omega) only [go_sem,hw,Option.map_some,e1,e2]
         rw [hno2 fun h => by
          rcases hgi.1 h with h | h
          ·exact hz h.1
          ·omega]
     ·have hne : ∀ j : Int,(match fidx L w.1 with | some j => (j : Int) | none => -1) = j → decide (j = (k : Int)) = false := fun j hj => by
       refine decide_eq_false fun e => hfk ?_
       subst e
       cases hfw : fidx L w.1 with
       | none =>
        rw [hfw] at hj
        dsimp only at hj
        omega
       | some z =>
        rw [hfw] at hj
        dsimp only at hj
        congr 1
        omega
      generalize (match fidx L w.1 with | some j => (j : Int) | none => -1) = jj at h540k hne
      have hne := hne _ rfl
      simp (disch := omega) only [go_sem,hw,Option.map_some,h158,h540k,hne]
      rw [hno fun h => hfk ((fidx_take hw).2 h.2)]
   ·simp (disch := omega) only [go_sem]
    have hall := pre_all (k := k) (by omega) hi
    rw [ckB_yes ⟨hs,fun i w h => (hall i w h).1,by rw [hn0]; rfl,fun i w h => (hall i w h).2⟩]
 ·have hd : decide (sysErr a b cap = 0) = false := decide_eq_false hs
  simp (disch := omega) only [go_sem,hd]
  rw [ckB_no fun h => hs h.1]
end Go.Pv
namespace Go.Pv
variable {P : Program}
theorem slice_dec {α : Type} {c : α → List PV} {ok : α → Prop} {n : Nat} {t el : TypeId} {cs : List PV} (hu : P.underlying t = some (.slice el)) (he : ∀ cs,typed P n el cs → ∃ x,cs = c x ∧ ok x) (h : typed P (n + 1) t cs) : ∃ l : List α,cs = [.lst 0 (l.map c)] ∧ l.length ≤ 2 ^ 63 - 1 ∧ ∀ x ∈ l,ok x := by
 obtain ⟨rows,rfl,hl,hr⟩ := typed_slice hu h
 obtain ⟨l,rfl⟩ := rows_map (c := fun x : {x : α // ok x} => c x.1) (rows := rows) (fun r hr' => by
  obtain ⟨x,rfl,hx⟩ := he r (hr r hr')
  exact ⟨⟨x,hx⟩,rfl⟩)
 refine ⟨l.map (·.1),by simp [],by simpa [maxLen] using hl,fun x hx => ?_⟩
 obtain ⟨y,_,rfl⟩ := List.mem_map.1 hx
 exact y.2
theorem u8_min : IntKind.min .u8 = 0 := by decide
theorem u8_max : IntKind.max .u8 = 255 := by decide
structure DraftT (P : Program) (td tl ta tu : TypeId) : Prop where
 d : ∃ fs,P.underlying td = some (.struct fs) ∧ fs.toList.map (·.type) = [tu,tl]
 l : P.underlying tl = some (.slice ta)
 a : ∃ fs,P.underlying ta = some (.struct fs) ∧ fs.toList.map (·.type) = [tu,tu,tu]
 u : P.underlying tu = some (.int .u8)
theorem arc_typed {td tl ta tu : TypeId} (T : DraftT P td tl ta tu) {n : Nat} (cs : List PV) (h : typed P (n + 2) ta cs) : ∃ x : Arc,cs = x.c ∧ x.ok := by
 obtain ⟨fs,hu,hts⟩ := T.a
 obtain ⟨r0,q0,rfl,h0,r1,q1,rfl,h1,r2,q2,rfl,h2,rfl⟩ := typed_struct hu hts h
 obtain ⟨x,rfl,hx⟩ := typed_int T.u h0
 obtain ⟨y,rfl,hy⟩ := typed_int T.u h1
 obtain ⟨z,rfl,hz⟩ := typed_int T.u h2
 rw [u8_min,u8_max] at hx hy hz
 exact ⟨⟨x,y,z⟩,rfl,hx,hy,hz⟩
theorem draft_typed {td tl ta tu : TypeId} (T : DraftT P td tl ta tu) {n : Nat} (cs : List PV) (h : typed P (n + 4) td cs) : ∃ d : Draft,cs = [.int .u8 d.n,.lst 0 (d.arcs.map Arc.c)] ∧ d.ok := by
 obtain ⟨fs,hu,hts⟩ := T.d
 obtain ⟨r0,q0,rfl,h0,r1,q1,rfl,h1,rfl⟩ := typed_struct hu hts h
 obtain ⟨x,rfl,hx⟩ := typed_int T.u h0
 rw [u8_min,u8_max] at hx
 obtain ⟨l,rfl,hl,hok⟩ := slice_dec T.l (arc_typed T (n := n)) h1
 exact ⟨⟨x,l⟩,rfl,hx,hl,hok⟩
end Go.Pv
namespace Go.Pv
variable {P : Program}
structure SysT (P : Program) (ts tc tl tm ta te le li ti tb : TypeId) : Prop where
 s : ∃ fs,P.underlying ts = some (.struct fs) ∧ fs.toList.map (·.type) = [ta,ta,ti]
 c : ∃ fs,P.underlying tc = some (.struct fs) ∧ fs.toList.map (·.type) = [ti,ti,li,li]
 l : P.underlying tl = some (.slice tm)
 m : ∃ fs,P.underlying tm = some (.struct fs) ∧ fs.toList.map (·.type) = [ti,tb,ti]
 a : ∃ fs,P.underlying ta = some (.struct fs) ∧ fs.toList.map (·.type) = [ti,ti,le]
 le : P.underlying le = some (.slice te)
 e : ∃ fs,P.underlying te = some (.struct fs) ∧ fs.toList.map (·.type) = [ti,tb,ti,ti]
 li : P.underlying li = some (.slice ti)
 i : P.underlying ti = some (.int .i64)
 b : P.underlying tb = some .bool
variable {ts tc tl tm ta te le li ti tb : TypeId}
theorem sedge_typed (T : SysT P ts tc tl tm ta te le li ti tb) {n : Nat} (cs : List PV) (h : typed P (n + 2) te cs) : ∃ x : Edge,cs = x.c ∧ True := by
 obtain ⟨fs,hu,hts⟩ := T.e
 obtain ⟨r0,q0,rfl,h0,r1,q1,rfl,h1,r2,q2,rfl,h2,r3,q3,rfl,h3,rfl⟩ := typed_struct hu hts h
 obtain ⟨x,rfl,_⟩ := typed_int T.i h0
 obtain ⟨y,rfl⟩ := typed_bool T.b h1
 obtain ⟨z,rfl,_⟩ := typed_int T.i h2
 obtain ⟨u,rfl,_⟩ := typed_int T.i h3
 exact ⟨⟨x,y,z,u⟩,rfl,trivial⟩
theorem mov_typed (T : SysT P ts tc tl tm ta te le li ti tb) {n : Nat} (cs : List PV) (h : typed P (n + 2) tm cs) : ∃ x : Mov,cs = x.c ∧ True := by
 obtain ⟨fs,hu,hts⟩ := T.m
 obtain ⟨r0,q0,rfl,h0,r1,q1,rfl,h1,r2,q2,rfl,h2,rfl⟩ := typed_struct hu hts h
 obtain ⟨x,rfl,_⟩ := typed_int T.i h0
 obtain ⟨y,rfl⟩ := typed_bool T.b h1
 obtain ⟨z,rfl,_⟩ := typed_int T.i h2
 exact ⟨⟨x,y,z⟩,rfl,trivial⟩
theorem aut_typed (T : SysT P ts tc tl tm ta te le li ti tb) {n : Nat} (cs : List PV) (h : typed P (n + 4) ta cs) : ∃ a : Auto,cs = [.int .i64 a.states,.int .i64 a.start,.lst 0 (a.edges.map Edge.c)] ∧ a.edges.length ≤ 2 ^ 63 - 1 := by
 obtain ⟨fs,hu,hts⟩ := T.a
 obtain ⟨r0,q0,rfl,h0,r1,q1,rfl,h1,r2,q2,rfl,h2,rfl⟩ := typed_struct hu hts h
 obtain ⟨x,rfl,_⟩ := typed_int T.i h0
 obtain ⟨y,rfl,_⟩ := typed_int T.i h1
 obtain ⟨l,rfl,hl,_⟩ := slice_dec T.le (sedge_typed T (n := n)) h2
 exact ⟨⟨x,y,l⟩,rfl,hl⟩
theorem ints_typed (T : SysT P ts tc tl tm ta te le li ti tb) {n : Nat} (cs : List PV) (h : typed P (n + 2) li cs) : ∃ l : List Int,cs = [.lst 0 (ints l)] ∧ l.length ≤ 2 ^ 63 - 1 := by
 obtain ⟨l,rfl,hl,_⟩ := slice_dec (c := fun x => [PV.int .i64 x]) (ok := fun _ => True) T.li (fun cs hc => by
  obtain ⟨x,rfl,_⟩ := typed_int (n := n) T.i hc
  exact ⟨x,rfl,trivial⟩) h
 exact ⟨l,rfl,hl⟩
def sysArg (T : SysT P ts tc tl tm ta te le li ti tb) : Arg P ts (Auto × Auto × Int) where
 pv x := .agg [.int .i64 x.1.states,.int .i64 x.1.start,.lst 0 (x.1.edges.map Edge.c),.int .i64 x.2.1.states,.int .i64 x.2.1.start,.lst 0 (x.2.1.edges.map Edge.c),.int .i64 x.2.2]
 ok x := x.1.edges.length ≤ 2 ^ 63 - 1 ∧ x.2.1.edges.length ≤ 2 ^ 63 - 1
 dec cs h := by
  obtain ⟨fs,hu,hts⟩ := T.s
  obtain ⟨r0,q0,rfl,h0,r1,q1,rfl,h1,r2,q2,rfl,h2,rfl⟩ := typed_struct (n := 11) hu hts h
  obtain ⟨a,rfl,ha⟩ := aut_typed T (n := 7) _ h0
  obtain ⟨b,rfl,hb⟩ := aut_typed T (n := 7) _ h1
  obtain ⟨c,rfl,_⟩ := typed_int (n := 10) T.i h2
  exact ⟨⟨a,b,c⟩,⟨ha,hb⟩,by simp only [argPV,isAgg_struct hu,if_true]; rfl⟩
def cfgArg (T : SysT P ts tc tl tm ta te le li ti tb) : Arg P tc Cfg where
 pv x := .agg [.int .i64 x.a,.int .i64 x.b,.lst 0 (ints x.toA),.lst 0 (ints x.toB)]
 ok x := x.toA.length ≤ 2 ^ 63 - 1 ∧ x.toB.length ≤ 2 ^ 63 - 1
 dec cs h := by
  obtain ⟨fs,hu,hts⟩ := T.c
  obtain ⟨r0,q0,rfl,h0,r1,q1,rfl,h1,r2,q2,rfl,h2,r3,q3,rfl,h3,rfl⟩ := typed_struct (n := 11) hu hts h
  obtain ⟨a,rfl,_⟩ := typed_int (n := 10) T.i h0
  obtain ⟨b,rfl,_⟩ := typed_int (n := 10) T.i h1
  obtain ⟨l,rfl,hl⟩ := ints_typed T (n := 9) _ h2
  obtain ⟨m,rfl,hm⟩ := ints_typed T (n := 9) _ h3
  exact ⟨⟨a,b,l,m⟩,⟨hl,hm⟩,by simp only [argPV,isAgg_struct hu,if_true]; rfl⟩
def movArg (T : SysT P ts tc tl tm ta te le li ti tb) : Arg P tm Mov where
 pv x := .agg [.int .i64 x.party,.bool x.send,.int .i64 x.label]
 ok _ := True
 dec cs h := by
  obtain ⟨x,rfl,_⟩ := mov_typed T (n := 10) _ h
  obtain ⟨fs,hu,_⟩ := T.m
  exact ⟨x,trivial,by simp only [argPV,isAgg_struct hu,if_true]; rfl⟩
def mvsArg (T : SysT P ts tc tl tm ta te le li ti tb) : Arg P tl (List Mov) where
 pv l := .lst 0 (l.map Mov.c)
 ok l := l.length ≤ 2 ^ 63 - 1
 dec cs h := by
  obtain ⟨l,rfl,hl,_⟩ := slice_dec T.l (mov_typed T (n := 9)) h
  have : isAggT P tl = some false := by simp [isAggT,T.l]
  exact ⟨l,hl,by simp [argPV,this]⟩
end Go.Pv
namespace Go.Pv
variable {P : Program}
structure PDrT (P : Program) (tp td tl ta tu tb : TypeId) : Prop where
 d : DraftT P td tl ta tu
 p : ∃ fs,P.underlying tp = some (.struct fs) ∧ fs.toList.map (·.type) = [td,tl,tb,tu,tu]
 b : P.underlying tb = some .bool
def pdrArg {tp td tl ta tu tb : TypeId} (T : PDrT P tp td tl ta tu tb) : Arg P tp PDr where
 pv d := .agg [.int .u8 d.n,.lst 0 (arcs d.la),.lst 0 (arcs d.l),.bool d.mirror,.int .u8 d.skip,.int .u8 d.cap]
 ok := PDr.ok
 dec cs h := by
  obtain ⟨fs,hu,hts⟩ := T.p
  obtain ⟨r0,q0,rfl,h0,r1,q1,rfl,h1,r2,q2,rfl,h2,r3,q3,rfl,h3,r4,q4,rfl,h4,rfl⟩ := typed_struct (n := 11) hu hts h
  obtain ⟨a,rfl,ha⟩ := draft_typed (n := 7) T.d _ h0
  obtain ⟨l,rfl,hl,hok⟩ := slice_dec T.d.l (arc_typed T.d (n := 8)) h1
  obtain ⟨m,rfl⟩ := typed_bool (n := 10) T.b h2
  obtain ⟨s,rfl,hs⟩ := typed_int (n := 10) T.d.u h3
  obtain ⟨c,rfl,hc⟩ := typed_int (n := 10) T.d.u h4
  rw [u8_min,u8_max] at hs hc
  exact ⟨⟨a.n,a.arcs,l,m,s,c⟩,⟨ha.1,hs,hc,ha.2.1,hl,ha.2.2,hok⟩,by simp only [argPV,isAgg_struct hu,if_true]; rfl⟩
end Go.Pv
namespace Go.Pv
variable {P : Program}
theorem typed_up : ∀ {n : Nat} {t : TypeId} {cs : List PV},typed P n t cs → typed P (n + 1) t cs
 | 0,_,_,h => h.elim
 | n + 1,t,cs,h => by
  unfold typed at h ⊢
  cases hu : P.underlying t with
  | none => simp only [hu] at h
  | some d =>
   cases d <;> simp only [hu] at h ⊢ <;> first | exact h | skip
   ·obtain ⟨parts,h1,h2,h3⟩ := h
    exact ⟨parts,h1,h2,fun r hr => typed_up (h3 r hr)⟩
   ·obtain ⟨rows,h1,h2,h3⟩ := h
    exact ⟨rows,h1,h2,fun r hr => typed_up (h3 r hr)⟩
   ·obtain ⟨parts,h1,h2,h3⟩ := h
    exact ⟨parts,h1,h2,fun i f r hf hr => typed_up (h3 i f r hf hr)⟩
theorem typed_ups {n : Nat} {t : TypeId} {cs : List PV} (h : typed P n t cs) : ∀ k,typed P (n + k) t cs
 | 0 => h
 | k + 1 => typed_up (typed_ups h k)
theorem pdr_typed {tp td tl ta tu tb : TypeId} (T : PDrT P tp td tl ta tu tb) {n : Nat} {cs : List PV} (h : typed P (n + 12) tp cs) : ∃ d : PDr,d.ok ∧ argPV P tp cs = .agg [.int .u8 d.n,.lst 0 (arcs d.la),.lst 0 (arcs d.l),.bool d.mirror,.int .u8 d.skip,.int .u8 d.cap] := by
 obtain ⟨fs,hu,hts⟩ := T.p
 obtain ⟨r0,q0,rfl,h0,r1,q1,rfl,h1,r2,q2,rfl,h2,r3,q3,rfl,h3,r4,q4,rfl,h4,rfl⟩ := typed_struct (n := n + 11) hu hts h
 obtain ⟨a,rfl,ha⟩ := draft_typed (n := n + 7) T.d _ h0
 obtain ⟨l,rfl,hl,hok⟩ := slice_dec T.d.l (arc_typed T.d (n := n + 8)) h1
 obtain ⟨m,rfl⟩ := typed_bool (n := n + 10) T.b h2
 obtain ⟨s,rfl,hs⟩ := typed_int (n := n + 10) T.d.u h3
 obtain ⟨c,rfl,hc⟩ := typed_int (n := n + 10) T.d.u h4
 rw [u8_min,u8_max] at hs hc
 exact ⟨⟨a.n,a.arcs,l,m,s,c⟩,⟨ha.1,hs,hc,ha.2.1,hl,ha.2.2,hok⟩,by simp only [argPV,isAgg_struct hu,if_true]; rfl⟩
variable {ts tc tl tm ta te le li ti tb : TypeId}
structure RkdT (P : Program) (tq tr tc ti : TypeId) : Prop where
 r : ∃ fs,P.underlying tr = some (.struct fs) ∧ fs.toList.map (·.type) = [tc,ti]
 q : P.underlying tq = some (.slice tr)
theorem typed_wide {n : Nat} {cs : List PV} (hu : P.underlying ti = some (.int .i64)) (h : typed P (n + 1) ti cs) : ∃ x,cs = [.int .i64 x] ∧ wideI x = true := by
 obtain ⟨x,rfl,hx⟩ := typed_int hu h
 rw [i64_min,i64_max] at hx
 exact ⟨x,rfl,wideI_iff.2 hx⟩
theorem ints_typedW (T : SysT P ts tc tl tm ta te le li ti tb) {n : Nat} {cs : List PV} (h : typed P (n + 2) li cs) : ∃ l : List Int,cs = [.lst 0 (ints l)] ∧ l.length ≤ 2 ^ 63 - 1 ∧ l.all wideI = true := by
 obtain ⟨l,rfl,hl,hw⟩ := slice_dec (c := fun x => [PV.int .i64 x]) (ok := fun x => wideI x = true) T.li (fun cs hc => typed_wide (n := n) T.i hc) h
 exact ⟨l,rfl,hl,List.all_eq_true.2 hw⟩
def Cfg.okA (c : Cfg) : Prop := wideI c.a = true ∧ wideI c.b = true ∧ c.toA.all wideI = true ∧ c.toB.all wideI = true ∧ c.toA.length ≤ 2 ^ 63 - 1 ∧ c.toB.length ≤ 2 ^ 63 - 1
theorem cfg_typedW (T : SysT P ts tc tl tm ta te le li ti tb) {n : Nat} {cs : List PV} (h : typed P (n + 3) tc cs) : ∃ c : Cfg,cs = [.int .i64 c.a,.int .i64 c.b,.lst 0 (ints c.toA),.lst 0 (ints c.toB)] ∧ c.okA := by
 obtain ⟨fs,hu,hts⟩ := T.c
 obtain ⟨r0,q0,rfl,h0,r1,q1,rfl,h1,r2,q2,rfl,h2,r3,q3,rfl,h3,rfl⟩ := typed_struct (n := n + 2) hu hts h
 obtain ⟨a,rfl,ha⟩ := typed_wide (n := n + 1) T.i h0
 obtain ⟨b,rfl,hb⟩ := typed_wide (n := n + 1) T.i h1
 obtain ⟨l,rfl,hl,hlw⟩ := ints_typedW T (n := n) h2
 obtain ⟨m,rfl,hm,hmw⟩ := ints_typedW T (n := n) h3
 exact ⟨⟨a,b,l,m⟩,rfl,ha,hb,hlw,hmw,hl,hm⟩
theorem rkds_typed {tq tr : TypeId} (T : SysT P ts tc tl tm ta te le li ti tb) (R : RkdT P tq tr tc ti) {n : Nat} {cs : List PV} (h : typed P (n + 5) tq cs) : ∃ L : List (Cfg × Int),cs = [.lst 0 (ckR L)] ∧ L.length ≤ 2 ^ 63 - 1 ∧ ∀ w ∈ L,w.1.okA := by
 obtain ⟨fs,hu,hts⟩ := R.r
 obtain ⟨L,rfl,hL,hw⟩ := slice_dec (c := fun w : Cfg × Int => [PV.int .i64 w.1.a,.int .i64 w.1.b,.lst 0 (ints w.1.toA),.lst 0 (ints w.1.toB),.int .i64 w.2]) (ok := fun w => w.1.okA) R.q (fun cs hc => by
  obtain ⟨r0,q0,rfl,h0,r1,q1,rfl,h1,rfl⟩ := typed_struct (n := n + 3) hu hts hc
  obtain ⟨c,rfl,hok⟩ := cfg_typedW T (n := n) h0
  obtain ⟨x,rfl,_⟩ := typed_int (n := n + 2) T.i h1
  exact ⟨(c,x),rfl,hok⟩) h
 exact ⟨L,rfl,hL,hw⟩
def rkdArg {tq tr : TypeId} (T : SysT P ts tc tl tm ta te le li ti tb) (R : RkdT P tq tr tc ti) : Arg P tq (List (Cfg × Int)) where
 pv L := .lst 0 (ckR L)
 ok L := L.length ≤ 2 ^ 63 - 1 ∧ ∀ w ∈ L,w.1.okA
 dec cs h := by
  obtain ⟨L,rfl,hL,hw⟩ := rkds_typed T R (n := 7) h
  have : isAggT P tq = some false := by simp [isAggT,R.q]
  exact ⟨L,⟨hL,hw⟩,by simp [argPV,this]⟩
theorem aut_typedW (T : SysT P ts tc tl tm ta te le li ti tb) {n : Nat} {cs : List PV} (h : typed P (n + 4) ta cs) : ∃ a : Auto,cs = [.int .i64 a.states,.int .i64 a.start,.lst 0 (a.edges.map Edge.c)] ∧ a.edges.length ≤ 2 ^ 63 - 1 ∧ wideI a.start = true := by
 obtain ⟨fs,hu,hts⟩ := T.a
 obtain ⟨r0,q0,rfl,h0,r1,q1,rfl,h1,r2,q2,rfl,h2,rfl⟩ := typed_struct hu hts h
 obtain ⟨x,rfl,_⟩ := typed_int T.i h0
 obtain ⟨y,rfl,hy⟩ := typed_wide T.i h1
 obtain ⟨l,rfl,hl,_⟩ := slice_dec T.le (sedge_typed T (n := n)) h2
 exact ⟨⟨x,y,l⟩,rfl,hl,hy⟩
def sysArgW (T : SysT P ts tc tl tm ta te le li ti tb) : Arg P ts (Auto × Auto × Int) where
 pv x := .agg [.int .i64 x.1.states,.int .i64 x.1.start,.lst 0 (x.1.edges.map Edge.c),.int .i64 x.2.1.states,.int .i64 x.2.1.start,.lst 0 (x.2.1.edges.map Edge.c),.int .i64 x.2.2]
 ok x := (x.1.edges.length ≤ 2 ^ 63 - 1 ∧ wideI x.1.start = true) ∧ x.2.1.edges.length ≤ 2 ^ 63 - 1 ∧ wideI x.2.1.start = true
 dec cs h := by
  obtain ⟨fs,hu,hts⟩ := T.s
  obtain ⟨r0,q0,rfl,h0,r1,q1,rfl,h1,r2,q2,rfl,h2,rfl⟩ := typed_struct (n := 11) hu hts h
  obtain ⟨a,rfl,ha⟩ := aut_typedW T (n := 7) h0
  obtain ⟨b,rfl,hb⟩ := aut_typedW T (n := 7) h1
  obtain ⟨c,rfl,_⟩ := typed_int (n := 10) T.i h2
  exact ⟨⟨a,b,c⟩,⟨ha,hb⟩,by simp only [argPV,isAgg_struct hu,if_true]; rfl⟩
theorem lst_smallR {M t : Nat} {rows : List (List PV)} (h : Small M (.lst t rows)) : rows.length ≤ M ∧ ∀ r ∈ rows,∀ c ∈ r,Small M c := by
 cases h with
 | lst _ _ h1 h2 => exact ⟨h1,h2⟩
theorem rkds_small {L : List (Cfg × Int)} (h : ∀ c ∈ [PV.lst 0 (ckR L)],Small 1048576 c) (hw : ∀ w ∈ L,w.1.okA) : ∀ w ∈ L,w.1.ok := fun w hm => by
 obtain ⟨_,h2⟩ := lst_smallR (h _ (List.mem_singleton.2 rfl))
 obtain ⟨g1,g2,g3,g4,_,_⟩ := hw w hm
 have hr := h2 _ (List.mem_map.2 ⟨w,hm,rfl⟩)
 have k1 := (lst_smallR (hr (.lst 0 (ints w.1.toA)) (by simp))).1
 have k2 := (lst_smallR (hr (.lst 0 (ints w.1.toB)) (by simp))).1
 rw [ints_length] at k1 k2
 exact ⟨g1,g2,g3,g4,by omega,by omega⟩
end Go.Pv
namespace Go.Pv
variable {a b : Auto} {cap : Int} {s : Cfg} {p : Cfg → Prop} {out : List Nd} {U : List Cfg}
end Go.Pv
namespace Go.Pv
variable {a b : Auto} {cap : Int} {p : Cfg → Prop} {out : List Nd} {L : List (Cfg × Int)}
set_option maxHeartbeats 4000000 in
theorem r527 (r235 : res A PrA 235 [] = some [.bool true]) (a b : Auto) (cap : Int) (L : List (Cfg × Int)) (hL : L.length ≤ 2 ^ 63 - 1) (hok : ∀ w ∈ L,w.1.okA) (ha : a.edges.length ≤ 2 ^ 63 - 1) (hb : b.edges.length ≤ 2 ^ 63 - 1) (hst : wideI a.start = true ∧ wideI b.start = true) : res A PrA 527 [.agg [.int .i64 a.states,.int .i64 a.start,.lst 0 (a.edges.map Edge.c),.int .i64 b.states,.int .i64 b.start,.lst 0 (b.edges.map Edge.c),.int .i64 cap],.lst 0 (ckR L)] = some [.bool true] := by
 refine res_of a527 rfl rfl ?_
 simp only [F527]; try delta sS tT zZ nN gG bB pZ
 have q1 : (a.edges.map Edge.c).length = a.edges.length := List.length_map _
 have q2 : (b.edges.map Edge.c).length = b.edges.length := List.length_map _
 by_cases c1 : L.length ≤ 500
 ·by_cases c2 : a.states ≤ 3
  ·by_cases c3 : b.states ≤ 3
   ·by_cases c4 : a.edges.length ≤ 20
    ·by_cases c5 : b.edges.length ≤ 20
     ·have d1 : decide ((500 : Int) < L.length) = false := decide_eq_false (by omega)
      have d2 : decide (3 < a.states) = false := decide_eq_false (by omega)
      have d3 : decide (3 < b.states) = false := decide_eq_false (by omega)
      have d4 : decide ((20 : Int) < a.edges.length) = false := decide_eq_false (by omega)
      have d5 : decide ((20 : Int) < b.edges.length) = false := decide_eq_false (by omega)
      simp (disch := omega) only [go_sem,r235,d1,d2,d3,d4,d5]
      refine W.upto L.length (fun k => ⟨[(1,.pv (.lst 0 (ckR L))),(2,.ptr 2 0),(41,.pv (.lst 0 (ckR L))),(42,.pv (.int .i64 L.length)),(43,.pv (.int .i64 k))],⟨[(2,[.pv (.int .i64 a.states),.pv (.int .i64 a.start),.pv (.lst 0 (a.edges.map Edge.c)),.pv (.int .i64 b.states),.pv (.int .i64 b.start),.pv (.lst 0 (b.edges.map Edge.c)),.pv (.int .i64 cap)])],[],[]⟩⟩) (fun k => ∀ i w,i < k → L[i]? = some w → w.1.toA.length ≤ 4 ∧ w.1.toB.length ≤ 4) rfl (fun i w hi => absurd hi (by omega)) fun k hk hi => ?_
      simp (disch := omega) only [go_sem]
      refine Br.ofP (fun c6 => ?_) (fun c6 => ?_)
      ·obtain ⟨w,hw⟩ := get_at (l := L) (k := k) (by omega)
       have hwk := hok w (List.mem_of_getElem? hw)
       by_cases c7 : w.1.toA.length ≤ 4
       ·have d7 : decide ((4 : Int) < w.1.toA.length) = false := decide_eq_false (by omega)
        by_cases c8 : w.1.toB.length ≤ 4
        ·have d8 : decide ((4 : Int) < w.1.toB.length) = false := decide_eq_false (by omega)
         simp (disch := omega) only [go_sem,hw,Option.map_some,d7,d8]
         exact .of (by omega) rfl (pre_take hw hi ⟨c7,c8⟩)
        ·have d8 : decide ((4 : Int) < w.1.toB.length) = true := decide_eq_true (by omega)
         simp (disch := omega) only [go_sem,hw,Option.map_some,d7,d8]
       ·have d7 : decide ((4 : Int) < w.1.toA.length) = true := decide_eq_true (by omega)
        simp (disch := omega) only [go_sem,hw,Option.map_some,d7]
      ·have hall := pre_all (k := k) (by omega) hi
       have hokk : ∀ w ∈ L,w.1.ok := fun w hw => by
        obtain ⟨i,hii⟩ := List.getElem?_of_mem hw
        obtain ⟨g1,g2,g3,g4,_,_⟩ := hok w hw
        have := hall i w hii
        exact ⟨g1,g2,g3,g4,by omega,by omega⟩
       have h243 := r243g (cap := cap) c1 hokk (a := a) (b := b) (by omega) (by omega) hst
       have h533 := r533g (cap := cap) c1 hokk (a := a) (b := b) (by omega) (by omega) hst
       simp (disch := omega) only [go_sem,h243,h533]
     ·have d1 : decide ((500 : Int) < L.length) = false := decide_eq_false (by omega)
      have d2 : decide (3 < a.states) = false := decide_eq_false (by omega)
      have d3 : decide (3 < b.states) = false := decide_eq_false (by omega)
      have d4 : decide ((20 : Int) < a.edges.length) = false := decide_eq_false (by omega)
      have d5 : decide ((20 : Int) < b.edges.length) = true := decide_eq_true (by omega)
      simp (disch := omega) only [go_sem,r235,d1,d2,d3,d4,d5]
    ·have d1 : decide ((500 : Int) < L.length) = false := decide_eq_false (by omega)
     have d2 : decide (3 < a.states) = false := decide_eq_false (by omega)
     have d3 : decide (3 < b.states) = false := decide_eq_false (by omega)
     have d4 : decide ((20 : Int) < a.edges.length) = true := decide_eq_true (by omega)
     simp (disch := omega) only [go_sem,r235,d1,d2,d3,d4]
   ·have d1 : decide ((500 : Int) < L.length) = false := decide_eq_false (by omega)
    have d2 : decide (3 < a.states) = false := decide_eq_false (by omega)
    have d3 : decide (3 < b.states) = true := decide_eq_true (by omega)
    simp (disch := omega) only [go_sem,r235,d1,d2,d3]
  ·have d1 : decide ((500 : Int) < L.length) = false := decide_eq_false (by omega)
   have d2 : decide (3 < a.states) = true := decide_eq_true (by omega)
   simp (disch := omega) only [go_sem,r235,d1,d2]
 ·have d1 : decide ((500 : Int) < L.length) = true := decide_eq_true (by omega)
  simp (disch := omega) only [go_sem,r235,d1]
end Go.Pv
namespace Go.Pv
theorem r235 : res A PrA 235 [] = some [.bool true] := res_some.2 ⟨3000,by kernel_rfl⟩
end Go.Pv
