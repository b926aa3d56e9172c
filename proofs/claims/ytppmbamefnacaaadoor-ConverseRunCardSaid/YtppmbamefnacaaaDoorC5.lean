/-
  What the functions of the law give.
-/
import Derived.Test.YtppmbamefnacaaaDoorC4
set_option linter.unusedSimpArgs false
set_option linter.unusedVariables false
namespace Go.Pv
variable {a b : Auto} {cap : Int} {s : Cfg} {p : Cfg → Prop} {out : List Nd}
theorem r236e (t1 t2 : Nat) (ha : a.edges.length ≤ 2 ^ 63 - 1) (hb : b.edges.length ≤ 2 ^ 63 - 1) (hs : sysErr a b cap ≠ 0) : res A PrA 236 [.agg [.int .i64 a.states,.int .i64 a.start,.lst t1 (a.edges.map Edge.c),.int .i64 b.states,.int .i64 b.start,.lst t2 (b.edges.map Edge.c),.int .i64 cap]] = some [.lst 0 [],.int .i64 (sysErr a b cap)] := by
  refine res_of a236 rfl rfl ?_
  simp only [F236]
  have h246 := r246e t1 t2 a b cap ha hb hs
  have hd : decide (sysErr a b cap = 0) = false := decide_eq_false hs
  simp (disch := omega) only [go_sem,h246,hd]
theorem r237e (t1 t2 t3 t4 : Nat) (x y : Int) (l m : List Int) (ha : a.edges.length ≤ 2 ^ 63 - 1) (hb : b.edges.length ≤ 2 ^ 63 - 1) (hs : sysErr a b cap ≠ 0) : res A PrA 237 [.agg [.int .i64 a.states,.int .i64 a.start,.lst t1 (a.edges.map Edge.c),.int .i64 b.states,.int .i64 b.start,.lst t2 (b.edges.map Edge.c),.int .i64 cap],.agg [.int .i64 x,.int .i64 y,.lst t3 (ints l),.lst t4 (ints m)]] = some [.lst 0 [],.int .i64 (sysErr a b cap)] := by
  refine res_of a237 rfl rfl ?_
  simp only [F237]
  have h248 := r248e t1 t2 t3 t4 a b cap x y l m ha hb hs
  have hd : decide (sysErr a b cap = 0) = false := decide_eq_false hs
  simp (disch := omega) only [go_sem,h248,hd]
theorem r241e (t1 t2 t3 t4 : Nat) (x y : Int) (l m : List Int) (ha : a.edges.length ≤ 2 ^ 63 - 1) (hb : b.edges.length ≤ 2 ^ 63 - 1) (hs : sysErr a b cap ≠ 0) : res A PrA 241 [.agg [.int .i64 a.states,.int .i64 a.start,.lst t1 (a.edges.map Edge.c),.int .i64 b.states,.int .i64 b.start,.lst t2 (b.edges.map Edge.c),.int .i64 cap],.agg [.int .i64 x,.int .i64 y,.lst t3 (ints l),.lst t4 (ints m)]] = some [.int .i64 0,.int .i64 (sysErr a b cap)] := by
  refine res_of a241 rfl rfl ?_
  simp only [F241]
  have h248 := r248e t1 t2 t3 t4 a b cap x y l m ha hb hs
  have hd : decide (sysErr a b cap = 0) = false := decide_eq_false hs
  simp (disch := omega) only [go_sem,h248,hd]
theorem r243e (t1 t2 : Nat) (ha : a.edges.length ≤ 2 ^ 63 - 1) (hb : b.edges.length ≤ 2 ^ 63 - 1) (hs : sysErr a b cap ≠ 0) (t : Nat) (rows : List (List PV)) : res A PrA 243 [.agg [.int .i64 a.states,.int .i64 a.start,.lst t1 (a.edges.map Edge.c),.int .i64 b.states,.int .i64 b.start,.lst t2 (b.edges.map Edge.c),.int .i64 cap],.lst t rows] = some [.bool false] := by
  refine res_of a243 rfl rfl ?_
  simp only [F243]
  have hd : decide (sysErr a b cap = 0) = false := decide_eq_false hs
  simp (disch := omega) only [go_sem,hd]
def complR (a b : Auto) (cap : Int) (out : List Nd) : List PV := match out[(atL 0 (rkN a b cap out)).toNat]? with
  | some x => if atL 0 (rkN a b cap out) < 0 then [.lst 0 [],.int .i64 18] else [.lst 0 (mvs3 x.path),.int .i64 0]
  | none => []
theorem r237 (h : SpcR a b cap s p out) (h0 : p s) (hs : sysErr a b cap = 0) (hn : nodL (mvC a b cap) 5000 5002 [nod0 s] 0 = some out) : res A PrA 237 [.agg [.int .i64 a.states,.int .i64 a.start,.lst 0 (a.edges.map Edge.c),.int .i64 b.states,.int .i64 b.start,.lst 0 (b.edges.map Edge.c),.int .i64 cap],.agg [.int .i64 s.a,.int .i64 s.b,.lst 0 (ints s.toA),.lst 0 (ints s.toB)]] = some (complR a b cap out) := by
  refine res_of a237 rfl rfl ?_
  simp only [F237]
  have hea := h.ea
  have heb := h.eb
  have h248 := r248 h.sp h0 (by omega) (by omega) hs hn
  have h247 := h.rk 0
  have hl := rkN_len h.toSpc
  have hle := h.len
  simp only [spc] at h248
  simp (disch := omega) only [go_sem,h248,h247]
  by_cases hi : atL 0 (rkN a b cap out) < 0
  · have hz : (atL 0 (rkN a b cap out)).toNat = 0 := by omega
    have hR : complR a b cap out = [.lst 0 [],.int .i64 18] := by
      unfold complR
      rw [hz,h.fnd.first]
      simp only
      rw [if_pos hi]
    rw [hR]
    refine Br.ofP (fun _ => ?_) (fun hh => (hh hi).elim)
    simp (disch := omega) only [go_sem]
  · obtain ⟨j,hj,hjg⟩ := atL_get (atL_pos.1 (Int.not_lt.1 hi))
    have hjl : j < out.length := by rw [← hl]; exact (List.getElem?_eq_some_iff.1 hjg).1
    obtain ⟨x,hx⟩ := get_at (l := out) (k := j) hjl
    have hR : complR a b cap out = [.lst 0 (mvs3 x.path),.int .i64 0] := by
      unfold complR
      rw [hj,Int.toNat_natCast,hx]
      simp only
      rw [if_neg (by omega)]
    rw [hR]
    refine Br.ofP (fun hh => (hi hh).elim) (fun _ => ?_)
    have h249 := fun t => r249 t (.int .i64 a.states) (.int .i64 a.start) (.lst 0 (a.edges.map Edge.c)) (.int .i64 b.states) (.int .i64 b.start) (.lst 0 (b.edges.map Edge.c)) (.int .i64 cap) (.lst 0 (cfgs (out.map Nod.c))) (.lst 0 (mvRows (out.map fun x => movesC a b cap x.c.a x.c.b x.c.toA x.c.toB))) (.lst 0 (lls (out.map fun x => (sucC a b cap x.c).map (posZ out)))) (mvC a b cap) s out out.length h.fnd (by omega) j x hx
    rw [hj]
    simp (disch := omega) only [go_sem,h249]
def kindR (a b : Auto) (cap : Int) (s : Cfg) (out : List Nd) : List PV := if 0 ≤ (rkN a b cap out).getD 0 (-1) then [.int .i64 0,.int .i64 15] else [.int .i64 (kindB a b s.a s.b s.toA s.toB (movesC a b cap s.a s.b s.toA s.toB).length),.int .i64 0]
theorem r241 (h : SpcR a b cap s p out) (h0 : p s) (hs : sysErr a b cap = 0) (hsa : a.states ≤ 12) (hsb : b.states ≤ 12) (hn : nodL (mvC a b cap) 5000 5002 [nod0 s] 0 = some out) : res A PrA 241 [.agg [.int .i64 a.states,.int .i64 a.start,.lst 0 (a.edges.map Edge.c),.int .i64 b.states,.int .i64 b.start,.lst 0 (b.edges.map Edge.c),.int .i64 cap],.agg [.int .i64 s.a,.int .i64 s.b,.lst 0 (ints s.toA),.lst 0 (ints s.toB)]] = some (kindR a b cap s out) := by
  refine res_of a241 rfl rfl ?_
  simp only [F241]
  have hea := h.ea
  have heb := h.eb
  have h248 := r248 h.sp h0 (by omega) (by omega) hs hn
  have h247 := h.rk 0
  have hl := rkN_len h.toSpc
  have hle := h.len
  have h1 : 1 ≤ out.length := by have := (List.getElem?_eq_some_iff.1 h.fnd.first).1; omega
  have hg0 : (rkN a b cap out)[0]? = some ((rkN a b cap out).getD 0 (-1)) := by
    have : 0 < (rkN a b cap out).length := by omega
    simp [this]
  simp only [spc] at h248
  obtain ⟨_,f1,f2,_⟩ := fitsB_iff.1 (h.sp.fit _ h0)
  have h250 := r250 0 0 0 0 0 a b cap s.a s.b s.toA s.toB (mvs3 (movesC a b cap s.a s.b s.toA s.toB)) hsa hsb f1 f2 (by omega) (by omega)
  rw [mvs3_length] at h250
  have hmg : (mvRows (out.map fun x => movesC a b cap x.c.a x.c.b x.c.toA x.c.toB))[0]? = some [.lst 0 (mvs3 (movesC a b cap s.a s.b s.toA s.toB))] := by simp [mvRows,h.fnd.first,nod0]
  have hmr : (mvRows (out.map fun x => movesC a b cap x.c.a x.c.b x.c.toA x.c.toB)).length = out.length := by simp [mvRows]
  simp (disch := omega) only [go_sem,h248,h247,idxR_int,hg0]
  unfold kindR
  refine Br.ofP (fun hh => ?_) (fun hh => ?_)
  · rw [if_pos hh]
    simp (disch := omega) only [go_sem]
  · rw [if_neg hh]
    have hix : idxR 1 0 (mvRows (out.map fun x => movesC a b cap x.c.a x.c.b x.c.toA x.c.toB)) (some 0) = some (.pv (.ro 0 [.lst 0 (mvs3 (movesC a b cap s.a s.b s.toA s.toB))])) := by
      unfold idxR inRange
      simp only
      rw [if_pos ⟨by omega,by rw [hmr]; omega⟩]
      simp only [Int.toNat_zero,hmg]
      rfl
    simp (disch := omega) only [go_sem,hix,h250]
set_option maxHeartbeats 4000000 in
set_option maxRecDepth 20000 in
theorem r234 (r235 : res A PrA 235 [] = some [.bool true]) (a b : Auto) (cap x y : Int) (l m : List Int) (ha : a.edges.length ≤ 2 ^ 63 - 1) (hb : b.edges.length ≤ 2 ^ 63 - 1) (_hl : l.length ≤ 2 ^ 63 - 1) (_hm : m.length ≤ 2 ^ 63 - 1) : res A PrA 234 [.agg [.int .i64 a.states,.int .i64 a.start,.lst 0 (a.edges.map Edge.c),.int .i64 b.states,.int .i64 b.start,.lst 0 (b.edges.map Edge.c),.int .i64 cap],.agg [.int .i64 x,.int .i64 y,.lst 0 (ints l),.lst 0 (ints m)]] = some [.bool true] := by
  refine res_of a234 rfl rfl ?_
  simp only [F234]
  by_cases hs : sysErr a b cap = 0
  · have hd : decide (sysErr a b cap = 0) = true := decide_eq_true hs
    simp (disch := omega) only [go_sem,r235,hd]
  · have hd : decide (sysErr a b cap = 0) = false := decide_eq_false hs
    have h242 := fun t1 t2 => r242e (a := a) (b := b) (cap := cap) t1 t2 ha hb hs
    have h240 := fun t1 t2 => r240e (a := a) (b := b) (cap := cap) t1 t2 ha hb hs
    have h236 := fun t1 t2 => r236e (a := a) (b := b) (cap := cap) t1 t2 ha hb hs
    have h237 := fun t1 t2 t3 t4 => r237e (a := a) (b := b) (cap := cap) t1 t2 t3 t4 x y l m ha hb hs
    have h241 := fun t1 t2 t3 t4 => r241e (a := a) (b := b) (cap := cap) t1 t2 t3 t4 x y l m ha hb hs
    have h243 := fun t1 t2 t rows => r243e (a := a) (b := b) (cap := cap) t1 t2 ha hb hs t rows
    have hw : binV .add (.pv (.int .i64 (l.length : Int))) (.pv (.int .i64 (m.length : Int))) = some (.pv (.int .i64 (IntKind.i64.wrap ((l.length : Int) + (m.length : Int))))) := rfl
    generalize IntKind.i64.wrap ((l.length : Int) + (m.length : Int)) = w at hw
    cases e1 : decide (110 < (a.edges.length : Int)) <;> cases e2 : decide (110 < (b.edges.length : Int)) <;> cases e3 : decide (20 < w) <;> simp (config := { maxSteps := 10000000 }) (disch := omega) only [go_sem,r235,hd,e1,e2,e3,hw,h242,h240,h236,h237,h241]
    refine Br.ofP (fun _ => ?_) (fun h => (h (by decide)).elim)
    have h154 := r154 0 0 0 0 0 0 0 0 [] [] [] [] (by decide) (by decide) (by decide) (by decide)
    rw [decide_eq_true rfl] at h154
    simp only [ints_nil] at h154
    simp (config := { maxSteps := 10000000 }) (disch := omega) only [go_sem,cfg0,ints_nil,h154]
    refine Br.ofP (fun _ => ?_) (fun h => (h (by decide)).elim)
    simp (config := { maxSteps := 10000000 }) (disch := omega) only [go_sem,h243]
end Go.Pv
namespace Go.Pv
variable {a b : Auto} {cap : Int} {s : Cfg} {p : Cfg → Prop} {out : List Nd}
theorem run_res (t : Nat) {l : List Mov} {e : Cfg} (h : Run (mvC a b cap) (cfgStart a b) l e) (ha : a.edges.length ≤ 2 ^ 63 - 1) (hb : b.edges.length ≤ 2 ^ 63 - 1) (hl : l.length ≤ 1000000) (hs : sysErr a b cap = 0) : res A PrA 161 [.agg [.int .i64 a.states,.int .i64 a.start,.lst 0 (a.edges.map Edge.c),.int .i64 b.states,.int .i64 b.start,.lst 0 (b.edges.map Edge.c),.int .i64 cap],.lst t (mvs3 l)] = some [cfgP e,.int .i64 l.length,.int .i64 0] := by
  have h1 := r161 t a b cap l ha hb hl
  rw [if_pos hs] at h1
  have h2 : runN a b cap ⟨a.start,b.start,[],[]⟩ l = l.length := run_runN h
  have h3 : stepTo a b cap ⟨a.start,b.start,[],[]⟩ l = e := (run_spec h).1
  rw [h2,List.take_length,h3] at h1
  exact h1
theorem Fnd.plen {mv : Cfg → List (Mov × Cfg)} {i0 : Nat} (hf : Fnd mv s out i0) : ∀ (n j : Nat) (x : Nd),j ≤ n → out[j]? = some x → x.path.length ≤ j
  | n,j,x,hj,hx => by
    rcases Nat.eq_zero_or_pos j with h0 | h0
    · subst h0
      rw [hf.first] at hx
      cases hx
      simp [nod0]
    · obtain ⟨k,y,m,h1,_,h3,_,h5⟩ := hf.way j x hx h0
      match n with
      | 0 => omega
      | n + 1 =>
        have := Fnd.plen hf n k y (by omega) h3
        rw [h5]
        simp
        omega
theorem Spc.compl_none (h : Spc a b cap s p out) {j : Nat} {x : Nd} (hx : out[j]? = some x) (hr : (rkN a b cap out).getD j (-1) < 0) {p' : Cfg → Prop} {out' : List Nd} (h' : Spc a b cap x.c p' out') : complR a b cap out' = [.lst 0 [],.int .i64 18] := by
  have hn : atL 0 (rkN a b cap out') < 0 := by
    rw [atL_neg]
    intro hm
    obtain ⟨k,hk⟩ := List.getElem?_of_mem hm
    have hkl : k < out'.length := by rw [← h'.dist.len]; exact (List.getElem?_eq_some_iff.1 hk).1
    obtain ⟨y,hy⟩ := get_at (l := out') (k := k) hkl
    have hz : (rkN a b cap out').getD k (-1) = 0 := by rw [List.getD_eq_getElem?_getD,hk]; rfl
    have hd := (dnN_mem hy).1 ((h'.dist.zero (k : Int) (by omega) (by omega)).1 (by rw [Int.toNat_natCast]; exact hz))
    have := h.rank_le (h'.run hy) hd hx rfl
    omega
  have hz : (atL 0 (rkN a b cap out')).toNat = 0 := by omega
  unfold complR
  rw [hz,h'.fnd.first]
  simp only
  rw [if_pos hn]
theorem Spc.kind_none (h : Spc a b cap s p out) {k : Nat} {w : Nd} (hw : out[k]? = some w) (hr : 0 ≤ (rkN a b cap out).getD k (-1)) {p' : Cfg → Prop} {out' : List Nd} (h' : Spc a b cap w.c p' out') : kindR a b cap w.c out' = [.int .i64 0,.int .i64 15] := by
  unfold kindR
  rw [if_pos]
  have : (rkN a b cap out).getD k (-1) = (rkN a b cap out').getD 0 (-1) := h.rank_eq h' hw h'.fnd.first rfl
  omega
set_option maxHeartbeats 4000000 in
theorem r233 (r235 : res A PrA 235 [] = some [.bool true]) (d : PDr) (hd : d.ok) : res A PrA 233 [.agg [.int .u8 d.n,.lst 0 (arcs d.la),.lst 0 (arcs d.l),.bool d.mirror,.int .u8 d.skip,.int .u8 d.cap]] = some [.bool true] := by
  refine res_of a233 rfl rfl ?_
  simp only [F233]
  have h164 := r164 d hd
  obtain ⟨s1,s2,s3,s4,s5,s6,s7⟩ := PDr.sys hd
  have hF := few_sm s1 s2 s3 s4 s5
  have hst : smC d.A d.B d.c2 (cfgStart d.A d.B) := (smC_runs s1 s2).st
  obtain ⟨out,ho,hS,hlo⟩ := hF.space hst
  have hR : SpcR d.A d.B d.c2 (cfgStart d.A d.B) (smC d.A d.B d.c2) out := ⟨hS,hF.sp,hlo,by omega,by omega⟩
  have h240 := r240 hR hst s1 (by omega) (by omega) ho
  cases hf : d.fit with
  | false =>
    rw [hf,if_neg (by decide)] at h164
    simp (disch := omega) only [go_sem,h164,r235]
  | true =>
    rw [hf,if_pos rfl] at h164
    have q1 : 1 + d.n % 3 % 4 = d.A.states := rfl
    have q2 : 1 + d.n2 % 3 % 4 = d.B.states := rfl
    have q3 : 1 + d.cap % 2 = d.c2 := rfl
    have q4 : d.A.start = 0 := rfl
    have q5 : d.B.start = 0 := rfl
    have q6 : d.A.edges.map Edge.c = edgs d.A.edges := rfl
    have q7 : d.B.edges.map Edge.c = edgs d.B.edges := rfl
    rw [q1,q2,q3] at h164
    by_cases hi : atL (-1) (rkN d.A d.B d.c2 out) < 0
    · have hz : (atL (-1) (rkN d.A d.B d.c2 out)).toNat = 0 := by omega
      have hQ : stuckR d.A d.B d.c2 out = [.lst 0 [],cfgP cfg0,.int .i64 0,.int .i64 15] := by
        unfold stuckR
        rw [hz,hS.fnd.first]
        simp only
        rw [if_pos hi]
      rw [hQ] at h240
      simp only [q4,q5,q6,q7] at h240
      simp (disch := omega) only [go_sem,h164,r235,h240]
    · obtain ⟨j,hj,hjg⟩ := atL_get (atL_pos.1 (Int.not_lt.1 hi))
      have hjl : j < out.length := by rw [← rkN_len hS]; exact (List.getElem?_eq_some_iff.1 hjg).1
      obtain ⟨x,hx⟩ := get_at (l := out) (k := j) hjl
      have hQ : stuckR d.A d.B d.c2 out = [.lst 0 (mvs3 x.path),cfgP x.c,.int .i64 (kindB d.A d.B x.c.a x.c.b x.c.toA x.c.toB (movesC d.A d.B d.c2 x.c.a x.c.b x.c.toA x.c.toB).length),.int .i64 0] := by
        unfold stuckR
        rw [hj,Int.toNat_natCast,hx]
        simp only
        rw [if_neg (by omega)]
      rw [hQ] at h240
      generalize kindB d.A d.B x.c.a x.c.b x.c.toA x.c.toB (movesC d.A d.B d.c2 x.c.a x.c.b x.c.toA x.c.toB).length = kd at h240
      have hrk : (rkN d.A d.B d.c2 out).getD j (-1) = -1 := by rw [List.getD_eq_getElem?_getD,hjg]; rfl
      have hpl := hS.fnd.plen j j x (Nat.le_refl _) hx
      have hpx := hS.all x (List.mem_of_getElem? hx)
      obtain ⟨o2,ho2,hS2,hlo2⟩ := hF.space hpx
      have hR2 : SpcR d.A d.B d.c2 x.c (smC d.A d.B d.c2) o2 := ⟨hS2,hF.sp,hlo2,by omega,by omega⟩
      have h237 := r237 hR2 hpx s1 ho2
      rw [hS.compl_none hx (by omega) hS2] at h237
      have h161 := run_res 0 (hS.run hx) (by omega) (by omega) (by omega) s1
      obtain ⟨_,_,_,_,hxa,hxb⟩ := hF.sp.ok _ hpx
      have h154 := r154 0 0 0 0 x.c.a x.c.b x.c.a x.c.b x.c.toA x.c.toB x.c.toA x.c.toB (by omega) (by omega) (by omega) (by omega)
      rw [decide_eq_true rfl] at h154
      simp only [q4,q5,q6,q7] at h240 h237 h161
      simp (disch := omega) only [go_sem,h164,r235,h240,h161,h237,h154]
      refine W.upto x.path.length (fun k => ⟨[(3,.ptr 3 0),(5,.pv (.lst 0 (mvs3 x.path))),(75,.pv (.int .i64 x.path.length)),(76,.pv (.int .i64 k))],⟨[(3,[.pv (.int .i64 d.A.states),.pv (.int .i64 0),.pv (.lst 0 (edgs d.A.edges)),.pv (.int .i64 d.B.states),.pv (.int .i64 0),.pv (.lst 0 (edgs d.B.edges)),.pv (.int .i64 d.c2)])],[],[]⟩⟩) (fun _ => True) rfl trivial fun k hk _ => ?_
      simp (disch := omega) only [go_sem]
      refine Br.ofP (fun g => ?_) (fun g => ?_)
      · obtain ⟨i,w,g1,g2,g3⟩ := hS.fnd.pre j j x (Nat.le_refl _) hx k (by omega)
        have hpw := hS.all w (List.mem_of_getElem? g2)
        have hw0 := hS.stuck hj i w g1 g2
        obtain ⟨o3,ho3,hS3,hlo3⟩ := hF.space hpw
        have hR3 : SpcR d.A d.B d.c2 w.c (smC d.A d.B d.c2) o3 := ⟨hS3,hF.sp,hlo3,by omega,by omega⟩
        have h241 := r241 hR3 hpw s1 (by omega) (by omega) ho3
        rw [hS.kind_none g2 hw0 hS3] at h241
        have hwl := hS.fnd.plen i i w (Nat.le_refl _) g2
        have h161w := run_res 0 (hS.run g2) (by omega) (by omega) (by omega) s1
        simp only [q4,q5,q6,q7] at h241 h161w
        have htk : (mvs3 x.path).take k = mvs3 w.path := by rw [g3]; unfold mvs3; rw [List.map_take]
        have hfit : rowsFit 3 (.inl (mvs3 x.path)) = true := rowsFit_rows fun r hr => by
          obtain ⟨m,_,rfl⟩ := List.mem_map.1 hr
          rfl
        simp (disch := omega) only [go_sem,htk,hfit,h161w,h241]
        exact .of (by omega) rfl trivial
      · simp (disch := omega) only [go_sem]
end Go.Pv
namespace Go.Pv
theorem r235 : res A PrA 235 [] = some [.bool true] := res_some.2 ⟨3000,by kernel_rfl⟩
end Go.Pv
namespace Go.Pv
variable {P : Program}
theorem slice_dec {α : Type} {c : α → List PV} {ok : α → Prop} {n : Nat} {t el : TypeId} {cs : List PV} (hu : P.underlying t = some (.slice el)) (he : ∀ cs,typed P n el cs → ∃ x,cs = c x ∧ ok x) (h : typed P (n + 1) t cs) : ∃ l : List α,cs = [.lst 0 (l.map c)] ∧ l.length ≤ 2 ^ 63 - 1 ∧ ∀ x ∈ l,ok x := by
  obtain ⟨rows,rfl,hl,hr⟩ := typed_slice hu h
  obtain ⟨l,rfl⟩ := rows_map (c := fun x : {x : α // ok x} => c x.1) (rows := rows) (fun r hr' => by
    obtain ⟨x,rfl,hx⟩ := he r (hr r hr')
    exact ⟨⟨x,hx⟩,rfl⟩)
  refine ⟨l.map (·.1),by simp [],by simpa [maxLen] using hl,fun x hx => ?_⟩
  obtain ⟨y,_,rfl⟩ := List.mem_map.1 hx
  exact y.2
theorem u8_min : IntKind.min .u8 = 0 := by decide
theorem u8_max : IntKind.max .u8 = 255 := by decide
structure DraftT (P : Program) (td tl ta tu : TypeId) : Prop where
  d : ∃ fs,P.underlying td = some (.struct fs) ∧ fs.toList.map (·.type) = [tu,tl]
  l : P.underlying tl = some (.slice ta)
  a : ∃ fs,P.underlying ta = some (.struct fs) ∧ fs.toList.map (·.type) = [tu,tu,tu]
  u : P.underlying tu = some (.int .u8)
theorem arc_typed {td tl ta tu : TypeId} (T : DraftT P td tl ta tu) {n : Nat} (cs : List PV) (h : typed P (n + 2) ta cs) : ∃ x : Arc,cs = x.c ∧ x.ok := by
  obtain ⟨fs,hu,hts⟩ := T.a
  obtain ⟨r0,q0,rfl,h0,r1,q1,rfl,h1,r2,q2,rfl,h2,rfl⟩ := typed_struct hu hts h
  obtain ⟨x,rfl,hx⟩ := typed_int T.u h0
  obtain ⟨y,rfl,hy⟩ := typed_int T.u h1
  obtain ⟨z,rfl,hz⟩ := typed_int T.u h2
  rw [u8_min,u8_max] at hx hy hz
  exact ⟨⟨x,y,z⟩,rfl,hx,hy,hz⟩
theorem draft_typed {td tl ta tu : TypeId} (T : DraftT P td tl ta tu) {n : Nat} (cs : List PV) (h : typed P (n + 4) td cs) : ∃ d : Draft,cs = [.int .u8 d.n,.lst 0 (d.arcs.map Arc.c)] ∧ d.ok := by
  obtain ⟨fs,hu,hts⟩ := T.d
  obtain ⟨r0,q0,rfl,h0,r1,q1,rfl,h1,rfl⟩ := typed_struct hu hts h
  obtain ⟨x,rfl,hx⟩ := typed_int T.u h0
  rw [u8_min,u8_max] at hx
  obtain ⟨l,rfl,hl,hok⟩ := slice_dec T.l (arc_typed T (n := n)) h1
  exact ⟨⟨x,l⟩,rfl,hx,hl,hok⟩
end Go.Pv
namespace Go.Pv
variable {P : Program}
structure SysT (P : Program) (ts tc tl tm ta te le li ti tb : TypeId) : Prop where
  s : ∃ fs,P.underlying ts = some (.struct fs) ∧ fs.toList.map (·.type) = [ta,ta,ti]
  c : ∃ fs,P.underlying tc = some (.struct fs) ∧ fs.toList.map (·.type) = [ti,ti,li,li]
  l : P.underlying tl = some (.slice tm)
  m : ∃ fs,P.underlying tm = some (.struct fs) ∧ fs.toList.map (·.type) = [ti,tb,ti]
  a : ∃ fs,P.underlying ta = some (.struct fs) ∧ fs.toList.map (·.type) = [ti,ti,le]
  le : P.underlying le = some (.slice te)
  e : ∃ fs,P.underlying te = some (.struct fs) ∧ fs.toList.map (·.type) = [ti,tb,ti,ti]
  li : P.underlying li = some (.slice ti)
  i : P.underlying ti = some (.int .i64)
  b : P.underlying tb = some .bool
variable {ts tc tl tm ta te le li ti tb : TypeId}
theorem sedge_typed (T : SysT P ts tc tl tm ta te le li ti tb) {n : Nat} (cs : List PV) (h : typed P (n + 2) te cs) : ∃ x : Edge,cs = x.c ∧ True := by
  obtain ⟨fs,hu,hts⟩ := T.e
  obtain ⟨r0,q0,rfl,h0,r1,q1,rfl,h1,r2,q2,rfl,h2,r3,q3,rfl,h3,rfl⟩ := typed_struct hu hts h
  obtain ⟨x,rfl,_⟩ := typed_int T.i h0
  obtain ⟨y,rfl⟩ := typed_bool T.b h1
  obtain ⟨z,rfl,_⟩ := typed_int T.i h2
  obtain ⟨u,rfl,_⟩ := typed_int T.i h3
  exact ⟨⟨x,y,z,u⟩,rfl,trivial⟩
theorem mov_typed (T : SysT P ts tc tl tm ta te le li ti tb) {n : Nat} (cs : List PV) (h : typed P (n + 2) tm cs) : ∃ x : Mov,cs = x.c ∧ True := by
  obtain ⟨fs,hu,hts⟩ := T.m
  obtain ⟨r0,q0,rfl,h0,r1,q1,rfl,h1,r2,q2,rfl,h2,rfl⟩ := typed_struct hu hts h
  obtain ⟨x,rfl,_⟩ := typed_int T.i h0
  obtain ⟨y,rfl⟩ := typed_bool T.b h1
  obtain ⟨z,rfl,_⟩ := typed_int T.i h2
  exact ⟨⟨x,y,z⟩,rfl,trivial⟩
theorem aut_typed (T : SysT P ts tc tl tm ta te le li ti tb) {n : Nat} (cs : List PV) (h : typed P (n + 4) ta cs) : ∃ a : Auto,cs = [.int .i64 a.states,.int .i64 a.start,.lst 0 (a.edges.map Edge.c)] ∧ a.edges.length ≤ 2 ^ 63 - 1 := by
  obtain ⟨fs,hu,hts⟩ := T.a
  obtain ⟨r0,q0,rfl,h0,r1,q1,rfl,h1,r2,q2,rfl,h2,rfl⟩ := typed_struct hu hts h
  obtain ⟨x,rfl,_⟩ := typed_int T.i h0
  obtain ⟨y,rfl,_⟩ := typed_int T.i h1
  obtain ⟨l,rfl,hl,_⟩ := slice_dec T.le (sedge_typed T (n := n)) h2
  exact ⟨⟨x,y,l⟩,rfl,hl⟩
theorem ints_typed (T : SysT P ts tc tl tm ta te le li ti tb) {n : Nat} (cs : List PV) (h : typed P (n + 2) li cs) : ∃ l : List Int,cs = [.lst 0 (ints l)] ∧ l.length ≤ 2 ^ 63 - 1 := by
  obtain ⟨l,rfl,hl,_⟩ := slice_dec (c := fun x => [PV.int .i64 x]) (ok := fun _ => True) T.li (fun cs hc => by
    obtain ⟨x,rfl,_⟩ := typed_int (n := n) T.i hc
    exact ⟨x,rfl,trivial⟩) h
  exact ⟨l,rfl,hl⟩
def sysArg (T : SysT P ts tc tl tm ta te le li ti tb) : Arg P ts (Auto × Auto × Int) where
  pv x := .agg [.int .i64 x.1.states,.int .i64 x.1.start,.lst 0 (x.1.edges.map Edge.c),.int .i64 x.2.1.states,.int .i64 x.2.1.start,.lst 0 (x.2.1.edges.map Edge.c),.int .i64 x.2.2]
  ok x := x.1.edges.length ≤ 2 ^ 63 - 1 ∧ x.2.1.edges.length ≤ 2 ^ 63 - 1
  dec cs h := by
    obtain ⟨fs,hu,hts⟩ := T.s
    obtain ⟨r0,q0,rfl,h0,r1,q1,rfl,h1,r2,q2,rfl,h2,rfl⟩ := typed_struct (n := 11) hu hts h
    obtain ⟨a,rfl,ha⟩ := aut_typed T (n := 7) _ h0
    obtain ⟨b,rfl,hb⟩ := aut_typed T (n := 7) _ h1
    obtain ⟨c,rfl,_⟩ := typed_int (n := 10) T.i h2
    exact ⟨⟨a,b,c⟩,⟨ha,hb⟩,by simp only [argPV,isAgg_struct hu,if_true]; rfl⟩
def cfgArg (T : SysT P ts tc tl tm ta te le li ti tb) : Arg P tc Cfg where
  pv x := .agg [.int .i64 x.a,.int .i64 x.b,.lst 0 (ints x.toA),.lst 0 (ints x.toB)]
  ok x := x.toA.length ≤ 2 ^ 63 - 1 ∧ x.toB.length ≤ 2 ^ 63 - 1
  dec cs h := by
    obtain ⟨fs,hu,hts⟩ := T.c
    obtain ⟨r0,q0,rfl,h0,r1,q1,rfl,h1,r2,q2,rfl,h2,r3,q3,rfl,h3,rfl⟩ := typed_struct (n := 11) hu hts h
    obtain ⟨a,rfl,_⟩ := typed_int (n := 10) T.i h0
    obtain ⟨b,rfl,_⟩ := typed_int (n := 10) T.i h1
    obtain ⟨l,rfl,hl⟩ := ints_typed T (n := 9) _ h2
    obtain ⟨m,rfl,hm⟩ := ints_typed T (n := 9) _ h3
    exact ⟨⟨a,b,l,m⟩,⟨hl,hm⟩,by simp only [argPV,isAgg_struct hu,if_true]; rfl⟩
def movArg (T : SysT P ts tc tl tm ta te le li ti tb) : Arg P tm Mov where
  pv x := .agg [.int .i64 x.party,.bool x.send,.int .i64 x.label]
  ok _ := True
  dec cs h := by
    obtain ⟨x,rfl,_⟩ := mov_typed T (n := 10) _ h
    obtain ⟨fs,hu,_⟩ := T.m
    exact ⟨x,trivial,by simp only [argPV,isAgg_struct hu,if_true]; rfl⟩
def mvsArg (T : SysT P ts tc tl tm ta te le li ti tb) : Arg P tl (List Mov) where
  pv l := .lst 0 (l.map Mov.c)
  ok l := l.length ≤ 2 ^ 63 - 1
  dec cs h := by
    obtain ⟨l,rfl,hl,_⟩ := slice_dec T.l (mov_typed T (n := 9)) h
    have : isAggT P tl = some false := by simp [isAggT,T.l]
    exact ⟨l,hl,by simp [argPV,this]⟩
end Go.Pv
namespace Go.Pv
variable {P : Program}
structure PDrT (P : Program) (tp td tl ta tu tb : TypeId) : Prop where
  d : DraftT P td tl ta tu
  p : ∃ fs,P.underlying tp = some (.struct fs) ∧ fs.toList.map (·.type) = [td,tl,tb,tu,tu]
  b : P.underlying tb = some .bool
def pdrArg {tp td tl ta tu tb : TypeId} (T : PDrT P tp td tl ta tu tb) : Arg P tp PDr where
  pv d := .agg [.int .u8 d.n,.lst 0 (arcs d.la),.lst 0 (arcs d.l),.bool d.mirror,.int .u8 d.skip,.int .u8 d.cap]
  ok := PDr.ok
  dec cs h := by
    obtain ⟨fs,hu,hts⟩ := T.p
    obtain ⟨r0,q0,rfl,h0,r1,q1,rfl,h1,r2,q2,rfl,h2,r3,q3,rfl,h3,r4,q4,rfl,h4,rfl⟩ := typed_struct (n := 11) hu hts h
    obtain ⟨a,rfl,ha⟩ := draft_typed (n := 7) T.d _ h0
    obtain ⟨l,rfl,hl,hok⟩ := slice_dec T.d.l (arc_typed T.d (n := 8)) h1
    obtain ⟨m,rfl⟩ := typed_bool (n := 10) T.b h2
    obtain ⟨s,rfl,hs⟩ := typed_int (n := 10) T.d.u h3
    obtain ⟨c,rfl,hc⟩ := typed_int (n := 10) T.d.u h4
    rw [u8_min,u8_max] at hs hc
    exact ⟨⟨a.n,a.arcs,l,m,s,c⟩,⟨ha.1,hs,hc,ha.2.1,hl,ha.2.2,hok⟩,by simp only [argPV,isAgg_struct hu,if_true]; rfl⟩
end Go.Pv
