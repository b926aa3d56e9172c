/-
  The interpreter over plain values, and that it is sound.
-/
import Derived.Test.YthpgcipmnblhpaaDoorA2
import Derived.ProofKit
import Derived.Carry
import Derived.JoinedCond
import Derived.Handed
import Derived.LaidLaws
import Derived.Attr
/-
  Code: what the interpreter says of it, the machine does.
-/
namespace Go.Pv
variable {P : Program} {N M : Nat → Nat} {W : Nat → Prop} {L L' : Lx} {e e' : Emb} {h : Heap} {w w' : World} {Φ : Nat → List PV → Option (List PV)} {Pr : Prims} {Tk : Nat → Bool}

def Emb.cut (e : Emb) (kb : List Nat) : Emb := { e with sl := fun s => e.sl s ∧ (s ∈ kb ∨ isPin s = true) }

theorem look1_pins (s : Nat) : ∀ bx : List (Nat × List V), look1 s (pins bx) = if isPin s = true then look1 s bx else none
  | [] => by simp [pins, look1]
  | (t, cs) :: r => by
    have ih := look1_pins s r
    simp only [pins]
    by_cases ht : isPin t = true
    · rw [if_pos ht]
      simp only [look1]
      by_cases hs : t = s
      · subst hs; simp [ht]
      · rw [if_neg hs, if_neg hs]; exact ih
    · rw [if_neg ht, ih]
      by_cases hs : isPin s = true
      · have : t ≠ s := fun h => ht (h ▸ hs)
        simp [hs, look1, this]
      · simp [hs]

theorem look1_mask (kb : List Nat) (bx : List (Nat × List V)) (s : Nat) : look1 s (maskBx kb bx) = if s ∈ kb ∨ isPin s = true then look1 s bx else none := by
  induction kb with
  | nil =>
    have := look1_pins s bx
    simp only [maskBx]
    rw [this]
    simp
  | cons k r ih =>
    simp only [maskBx]
    cases hk : look1 k bx with
    | none =>
      simp only
      rw [ih]
      by_cases hs : s = k
      · subst hs; simp [hk]
      · simp [hs]
    | some cs =>
      simp only [look1]
      by_cases hs : k = s
      · subst hs; simp [hk]
      · rw [if_neg hs, ih]
        simp [Ne.symm hs]

theorem get_mask (kt kb : List Nat) (env : List (Nat × V)) (t : Nat) : get (maskEnv kt kb env) t = if t ∈ kt then scrub kb (get env t) else .any := by
  induction kt with
  | nil => simp [maskEnv, get, look1]
  | cons k r ih =>
    have : maskEnv (k :: r) kb env = (k, scrub kb (get env k)) :: maskEnv r kb env := rfl
    rw [this]
    simp only [get, look1]
    by_cases hk : k = t
    · subst hk; simp []
    · rw [if_neg hk]
      have := ih
      simp only [get] at this
      rw [this]
      simp [Ne.symm hk]

theorem VR.cut {x : V} {v : Value} (hv : VR N L e w x v) {kb : List Nat} (hk : okc kb x = true) : VR N L (e.cut kb) w x v := by
  cases hv with
  | pv p v hp => exact .pv p v hp
  | tl rows a hp hs => exact .tl rows a hp hs
  | own id ver off len a cap h0 h1 h2 h3 => exact .own id ver off len a cap h0 h1 h2 h3
  | ptr s off hs => exact .ptr (e := e.cut kb) s off ⟨hs, by simpa [okc] using hk⟩
  | aptr id ver row col a h1 h2 h3 => exact .aptr id ver row col a h1 h2 h3
  | func f cap arr hs hv =>
    have : cap = [] := by simpa [okc] using hk
    subst this
    exact .func f [] arr hs (fun j c hj => by simp at hj)
  | map id hi => exact .map (e := e.cut kb) id hi
  | nilm => exact .nilm
  | agg => simp [okc] at hk
  | tup => simp [okc] at hk
  | any v => exact .any v

theorem VR.scrub {x : V} {v : Value} (hv : VR N L e w x v) (kb : List Nat) : VR N L (e.cut kb) w (Pv.scrub kb x) v := by
  cases x with
  | ptr s o =>
    simp only [Pv.scrub]
    split
    · rename_i hk; exact hv.cut (by simpa [okc] using hk)
    · exact .any v
  | func f cap =>
    simp only [Pv.scrub]
    split
    · rename_i hk
      cases hv with
      | func _ _ arr hs hvv => exact .func f cap arr hs (fun j c hj => (hvv j c hj).cut (List.all_eq_true.1 hk c (List.mem_of_getElem? hj)))
    · exact .any v
  | agg cs =>
    simp only [Pv.scrub]
    split
    · rename_i hk
      cases hv with
      | agg _ arr hs hvv => exact .agg cs arr hs (fun j c hj => (hvv j c hj).cut (List.all_eq_true.1 hk c (List.mem_of_getElem? hj)))
    · exact .any v
  | tup vs => exact .any v
  | pv p => exact hv.cut rfl
  | tl r => exact hv.cut rfl
  | own => exact hv.cut rfl
  | aptr => exact hv.cut rfl
  | map => exact hv.cut rfl
  | nilm => exact hv.cut rfl
  | any => exact hv.cut rfl

theorem calm_okc {x : V} (hc : x.calm = true) (kb : List Nat) : okc kb x = true := by
  cases x with
  | pv p => rfl
  | tl r => rfl
  | own => rfl
  | func f cap => simpa [V.calm, okc] using hc
  | _ => simp [V.calm] at hc

theorem calmB_okc {x : V} (hc : x.calmB = true) (kb : List Nat) : okc kb x = true := by
  cases x with
  | ptr s o =>
    have : isPin s = true := hc
    simp [okc, this]
  | map => rfl
  | nilm => rfl
  | pv p => rfl
  | tl r => rfl
  | own => rfl
  | aptr => rfl
  | func f cap => exact calm_okc (x := .func f cap) hc kb
  | agg cs => simp [V.calmB, V.calm] at hc
  | tup cs => simp [V.calmB, V.calm] at hc
  | any => rfl

theorem CellsAt.cut {b off : Nat} {cs : List V} (hc : CellsAt N L e w b off cs) (kb : List Nat) : CellsAt N L (e.cut kb) w b off cs := by
  intro j c hj
  obtain ⟨h1, v, h2, h3⟩ := hc j c hj
  exact ⟨h1, v, h2, h3.cut (calm_okc h1 kb)⟩

theorem BoxAt.cut {b : Nat} {cs : List V} (hc : BoxAt N L e w b cs) (kb : List Nat) : BoxAt N L (e.cut kb) w b cs := by
  intro j c hj
  obtain ⟨h1, v, h2, h3⟩ := hc j c hj
  exact ⟨h1, v, h2, h3.cut (calmB_okc h1 kb)⟩

theorem HR.cut (hr : HR N L e W h w) (kb : List Nat) : HR N L (e.cut kb) W { h with bx := maskBx kb h.bx } w := by
  refine ⟨fun s => ?_, fun s cs hs => ?_, hr.na, hr.ver, fun id a ha hk => ?_, hr.nm, hr.mp, fun s hs => hr.wbx s hs.1, hr.war, hr.wmp, fun s s' hs hs' => hr.dbx s s' hs.1 hs'.1, fun s id hs => hr.dba s id hs.1, hr.daa, hr.dmm, hr.lsz, hr.wide⟩
  · simp only [Emb.cut, look1_mask]
    by_cases hk : s ∈ kb ∨ isPin s = true
    · simp only [hk, and_true, if_true, hr.sl s]
    · simp [hk]
  · simp only [look1_mask] at hs
    by_cases hk : s ∈ kb ∨ isPin s = true
    · simp only [hk, if_true] at hs
      obtain ⟨h1, h2⟩ := hr.bx s cs hs
      exact ⟨h1, h2.cut kb⟩
    · simp [hk] at hs
  · obtain ⟨h1, h2, h3, h4, h5⟩ := hr.ar id a ha hk
    exact ⟨h1, h2, h3, fun i r hi => (h4 i r hi).cut kb, h5⟩

theorem SR.mask {nt : Nat} {s : St} {a : Act} (hs : SR N W L e nt s a w) (kt kb : List Nat) : SR N W L (e.cut kb) nt (s.mask kt kb) a w := by
  refine ⟨hs.hr.cut kb, fun t => ?_, hs.size, hs.defers⟩
  simp only [St.mask, get_mask]
  split
  · exact (hs.env t).scrub kb
  · exact .any _

structure XExt (L : Lx) (e : Emb) (w : World) (L' : Lx) (e' : Emb) (w' : World) : Prop where
  sub : ∀ t b, L t b → L' t b
  kept : ∀ t b, L t b → w'.heap[b]? = w.heap[b]?
  sl : ∀ s, isPin s = true → e.sl s → e'.sl s ∧ e'.bx s = e.bx s
  na : e.na ≤ e'.na
  av : ∀ id, id < e.na → e.av id ≤ e'.av id ∧ (e'.av id = e.av id → e'.ar id = e.ar id ∧ e'.ad id = e.ad id ∧ e'.cap id = e.cap id ∧ e'.ak id = e.ak id ∧ e'.an id = e.an id)
  nm : e.nm ≤ e'.nm
  mp : ∀ id, id < e.nm → e'.mp id = e.mp id

theorem Ext.x (h : Ext L e w L' e' w') : XExt L e w L' e' w' := ⟨h.sub, h.kept, fun s _ hs => h.sl s hs, h.na, h.av, h.nm, h.mp⟩
theorem XExt.ext (h : XExt L e w L' e' w') {e1 e2 : Emb} (h1 : e1 = { e with sl := e1.sl, bx := e1.bx }) (h2 : e2 = { e' with sl := e2.sl, bx := e2.bx }) (hs : ∀ s, e1.sl s → e2.sl s ∧ e2.bx s = e1.bx s) : Ext L e1 w L' e2 w' := by
  have g1 : e1.na = e.na ∧ e1.av = e.av ∧ e1.ar = e.ar ∧ e1.ad = e.ad ∧ e1.cap = e.cap ∧ e1.ak = e.ak ∧ e1.an = e.an ∧ e1.nm = e.nm ∧ e1.mp = e.mp := by rw [h1]; exact ⟨rfl, rfl, rfl, rfl, rfl, rfl, rfl, rfl, rfl⟩
  have g2 : e2.na = e'.na ∧ e2.av = e'.av ∧ e2.ar = e'.ar ∧ e2.ad = e'.ad ∧ e2.cap = e'.cap ∧ e2.ak = e'.ak ∧ e2.an = e'.an ∧ e2.nm = e'.nm ∧ e2.mp = e'.mp := by rw [h2]; exact ⟨rfl, rfl, rfl, rfl, rfl, rfl, rfl, rfl, rfl⟩
  obtain ⟨a1, a2, a3, a4, a5, a6, a7, a8, a9⟩ := g1
  obtain ⟨b1, b2, b3, b4, b5, b6, b7, b8, b9⟩ := g2
  refine ⟨h.sub, h.kept, hs, by rw [a1, b1]; exact h.na, ?_, by rw [a8, b8]; exact h.nm, ?_⟩
  · rw [a1, a2, a3, a4, a5, a6, a7, b2, b3, b4, b5, b6, b7]; exact h.av
  · rw [a8, a9, b9]; exact h.mp
theorem XExt.trans {L'' : Lx} {e'' : Emb} {w'' : World} (h : XExt L e w L' e' w') (k : XExt L' e' w' L'' e'' w'') : XExt L e w L'' e'' w'' := by
  refine ⟨fun t b hb => k.sub _ _ (h.sub _ _ hb), fun t b hb => (k.kept _ _ (h.sub _ _ hb)).trans (h.kept _ _ hb), fun s hp hs => ?_, Nat.le_trans h.na k.na, fun id hid => ?_, Nat.le_trans h.nm k.nm, fun id hid => ?_⟩
  · obtain ⟨h1, h2⟩ := h.sl s hp hs
    obtain ⟨h3, h4⟩ := k.sl s hp h1
    exact ⟨h3, h4.trans h2⟩
  · obtain ⟨h1, h2⟩ := h.av id hid
    obtain ⟨h3, h4⟩ := k.av id (Nat.lt_of_lt_of_le hid h.na)
    refine ⟨Nat.le_trans h1 h3, fun he => ?_⟩
    have e1 : e'.av id = e.av id := by omega
    have e2 : e''.av id = e'.av id := by omega
    obtain ⟨a1, a2, a3, a4, a5⟩ := h2 e1
    obtain ⟨b1, b2, b3, b4, b5⟩ := h4 e2
    exact ⟨b1.trans a1, b2.trans a2, b3.trans a3, b4.trans a4, b5.trans a5⟩
  · exact (k.mp id (Nat.lt_of_lt_of_le hid h.nm)).trans (h.mp id hid)
theorem XExt.cut (h : XExt L e w L' e' w') (kb : List Nat) : XExt L e w L' (e'.cut kb) w' :=
  ⟨h.sub, h.kept, fun s hp hs => ⟨⟨(h.sl s hp hs).1, .inr hp⟩, (h.sl s hp hs).2⟩, h.na, h.av, h.nm, h.mp⟩

def FrS (N : Nat → Nat) (W : Nat → Prop) (nt : Nat) (L0 : Lx) (e0 : Emb) (w0 : World) (s : St) (a : Act) (w : World) : Prop :=
  ∃ L e, SR N W L e nt s a w ∧ Fr W w0 w ∧ (∀ t b, L0 t b → L t b) ∧ (∀ t b, L t b → L0 t b ∨ (t = 0 ∧ W b)) ∧ XExt L0 e0 w0 L e w

theorem FrS.mask {nt : Nat} {L0 : Lx} {e0 : Emb} {w0 : World} {s : St} {a : Act} (hs : FrS N W nt L0 e0 w0 s a w) (kt kb : List Nat) : FrS N W nt L0 e0 w0 (s.mask kt kb) a w := by
  obtain ⟨L, e, h1, h2, h3, h4, h5⟩ := hs
  exact ⟨L, _, h1.mask kt kb, h2, h3, h4, h5.cut kb⟩

theorem FrS.step {nt : Nat} {L0 : Lx} {e0 : Emb} {w0 : World} {s' : St} {a' : Act} (hf : Fr W w0 w) (h1 : ∀ t b, L0 t b → L t b) (h2 : ∀ t b, L t b → L0 t b ∨ (t = 0 ∧ W b)) (hx : XExt L0 e0 w0 L e w) (hn : Nx N W L e w L' e' s'.h w') (hs : SR N W L' e' nt s' a' w') : FrS N W nt L0 e0 w0 s' a' w' := by
  refine ⟨L', e', hs, hf.trans hn.fr, fun t b hb => hn.ext.sub _ _ (h1 t b hb), fun t b hb => ?_, hx.trans hn.ext.x⟩
  rcases hn.new t b hb with hb | hb
  · exact h2 t b hb
  · exact .inr hb

def exitOf : Ex → Exit
  | .normal => .normal
  | .exit id => .exit id
  | .ret => .ret

def QQ (N : Nat → Nat) (W : Nat → Prop) (nt : Nat) (L0 : Lx) (e0 : Emb) (w0 : World) (ex : Ex) (s' : St) : Exit → Act → World → Prop := fun x a w => x = exitOf ex ∧ FrS N W nt L0 e0 w0 s' a w

def CodeOk (P : Program) (N M : Nat → Nat) (A : Nat → Option AFunc) (Pr : Prims) (n : Nat) : Prop :=
  ∀ (nt : Nat) (code : Code) (an : Ann) (ac : AC) (an' : Ann), trCode P N M nt code an = some (ac, an') → ∀ (W : Nat → Prop) (L0 : Lx) (e0 : Emb) (w0 : World) (s : St) (ex : Ex) (s' : St) (a : Act) (w : World),
    exec A Pr n ac s = some (ex, s') → FrS N W nt L0 e0 w0 s a w → code.wp P (QQ N W nt L0 e0 w0 ex s') a w

def FnsOk (P : Program) (N : Nat → Nat) (A : Nat → Option AFunc) (Pr : Prims) (n : Nat) : Prop := ∀ f ps rs, callBy A (exec A Pr n) f ps = some rs → FnR P N f ps rs

theorem loop_rounds {A : Nat → Option AFunc} {nt : Nat} {code : Code} {an an' : Ann} {x : AC} {kt kb : List Nat} (htr : trCode P N M nt code an = some (x, an')) {W : Nat → Prop} {L0 : Lx} {e0 : Emb} {w0 : World} : ∀ (k : Nat), (∀ j, j < k → CodeOk P N M A Pr j) → ∀ (s : St) (ex : Ex) (s' : St) (a : Act) (w : World),
    exec A Pr k (.loop (.mask kt kb x)) s = some (ex, s') → FrS N W nt L0 e0 w0 s a w → Code.rounds P code (QQ N W nt L0 e0 w0 ex s') k a w := by
  intro k
  induction k with
  | zero => intro _ s ex s' a w he _; simp [exec] at he
  | succ k ih =>
    intro hall s ex s' a w he hs
    have he' : layer A Pr (exec A Pr k) (.loop (.mask kt kb x)) s = some (ex, s') := he
    simp only [layer] at he'
    rw [rounds_succ]
    cases k with
    | zero => simp [exec] at he'
    | succ j =>
      have hmask : exec A Pr (j + 1) (.mask kt kb x) s = exec A Pr j x (s.mask kt kb) := rfl
      rw [hmask] at he'
      cases hx : exec A Pr j x (s.mask kt kb) with
      | none => simp [hx] at he'
      | some r =>
        obtain ⟨ex1, s1⟩ := r
        have hwp := hall j (by omega) nt code an x an' htr W L0 e0 w0 _ ex1 s1 a w hx (hs.mask kt kb)
        refine wp_mono hwp fun xx a1 w1 hq => ?_
        obtain ⟨rfl, hs1⟩ := hq
        cases ex1 with
        | normal =>
          simp only [hx] at he'
          exact ih (fun i hi => hall i (by omega)) s1 ex s' a1 w1 he' hs1
        | exit id =>
          simp only [hx] at he'
          injection he' with he'; injection he' with e1 e2; subst e1; subst e2
          exact ⟨rfl, hs1⟩
        | ret =>
          simp only [hx] at he'
          injection he' with he'; injection he' with e1 e2; subst e1; subst e2
          exact ⟨rfl, hs1⟩

theorem code_step (hm : P.follows .mixedOrders = true) {A : Nat → Option AFunc} (n : Nat) (hPL : PrimLaw (withInl A (exec A Pr n) Pr)) (hPr : PrimOk P N (withInl A (exec A Pr n) Pr)) (hall : ∀ j, j ≤ n → CodeOk P N M A Pr j) (hfn : FnsOk P N A Pr n) : CodeOk P N M A Pr (n + 1) := by
  intro nt code an ac an' htr W L0 e0 w0 s ex s' a w he hs
  have he' : layer A Pr (exec A Pr n) ac s = some (ex, s') := he
  cases code with
  | skip =>
    simp only [trCode] at htr
    injection htr with htr; injection htr with e1 e2; subst e1
    simp only [layer] at he'
    injection he' with he'; injection he' with e1 e2; subst e1; subst e2
    exact wp_skip ⟨rfl, hs⟩
  | exit id =>
    simp only [trCode] at htr
    injection htr with htr; injection htr with e1 e2; subst e1
    simp only [layer] at he'
    injection he' with he'; injection he' with e1 e2; subst e1; subst e2
    exact wp_exit ⟨rfl, hs⟩
  | ret =>
    simp only [trCode] at htr
    injection htr with htr; injection htr with e1 e2; subst e1
    simp only [layer] at he'
    injection he' with he'; injection he' with e1 e2; subst e1; subst e2
    exact wp_ret ⟨rfl, hs⟩
  | seq x y =>
    simp only [trCode] at htr
    split at htr <;> first | (cases htr; done) | skip
    rename_i x' an1 hx
    split at htr <;> first | (cases htr; done) | skip
    rename_i y' an2 hy
    injection htr with htr; injection htr with e1 e2; subst e1
    simp only [layer] at he'
    refine wp_seq ?_
    cases hex : exec A Pr n x' s with
    | none => simp [hex] at he'
    | some r =>
      obtain ⟨ex1, s1⟩ := r
      refine wp_mono (hall n (Nat.le_refl _) nt x an x' an1 hx W L0 e0 w0 s ex1 s1 a w hex hs) fun xx a1 w1 hq => ?_
      obtain ⟨rfl, hs1⟩ := hq
      cases ex1 with
      | normal =>
        simp only [hex] at he'
        exact hall n (Nat.le_refl _) nt y an1 y' an2 hy W L0 e0 w0 s1 ex s' a1 w1 he' hs1
      | exit id =>
        simp only [hex] at he'
        injection he' with he'; injection he' with e1 e2; subst e1; subst e2
        exact ⟨rfl, hs1⟩
      | ret =>
        simp only [hex] at he'
        injection he' with he'; injection he' with e1 e2; subst e1; subst e2
        exact ⟨rfl, hs1⟩
  | cond c x y =>
    simp only [trCode] at htr
    split at htr <;> first | (cases htr; done) | skip
    rename_i c' x' an1 hc hx
    split at htr <;> first | (cases htr; done) | skip
    rename_i y' an2 hy
    injection htr with htr; injection htr with e1 e2; subst e1
    simp only [layer] at he'
    obtain ⟨L, e, hsr, hrest⟩ := hs
    have hv := (hsr.or (M := M)) c c' hc
    have hs : FrS N W nt L0 e0 w0 s a w := ⟨L, e, hsr, hrest⟩
    split at he' <;> first | (cases he'; done) | skip
    · rename_i hg
      rw [hg] at hv
      exact wp_cond_true hv.bool (hall n (Nat.le_refl _) nt x an x' an1 hx W L0 e0 w0 s ex s' a w he' hs)
    · rename_i hg
      rw [hg] at hv
      exact wp_cond_false hv.bool (hall n (Nat.le_refl _) nt y an1 y' an2 hy W L0 e0 w0 s ex s' a w he' hs)
  | block id x =>
    simp only [trCode] at htr
    split at htr <;> first | (cases htr; done) | skip
    rename_i x' an1 hx
    injection htr with htr; injection htr with e1 e2; subst e1
    simp only [layer] at he'
    refine wp_block ?_
    cases hex : exec A Pr n x' s with
    | none => simp [hex] at he'
    | some r =>
      obtain ⟨ex1, s1⟩ := r
      refine wp_mono (hall n (Nat.le_refl _) nt x an x' an1 hx W L0 e0 w0 s ex1 s1 a w hex hs) fun xx a1 w1 hq => ?_
      obtain ⟨rfl, hs1⟩ := hq
      cases ex1 with
      | normal =>
        simp only [hex] at he'
        injection he' with he'; injection he' with e1 e2; subst e1; subst e2
        exact ⟨rfl, hs1⟩
      | exit j =>
        simp only [hex] at he'
        simp only [exitOf, Exit.inBlock]
        split at he'
        · rename_i hj
          injection he' with he'; injection he' with e1 e2; subst e1; subst e2
          rw [if_pos hj]
          exact ⟨rfl, hs1⟩
        · rename_i hj
          injection he' with he'; injection he' with e1 e2; subst e1; subst e2
          rw [if_neg hj]
          exact ⟨rfl, hs1⟩
      | ret =>
        simp only [hex] at he'
        injection he' with he'; injection he' with e1 e2; subst e1; subst e2
        exact ⟨rfl, hs1⟩
  | loop x =>
    simp only [trCode] at htr
    split at htr <;> first | (cases htr; done) | skip
    rename_i kt kb r
    split at htr <;> first | (cases htr; done) | skip
    rename_i x' an1 hx
    injection htr with htr; injection htr with e1 e2; subst e1
    exact wp_loop_rounds (n + 1) (loop_rounds hx (n + 1) (fun j hj => hall j (by omega)) s ex s' a w he hs)
  | region id ops draw =>
    simp only [trCode] at htr
    split at htr <;> first | (cases htr; done) | skip
    rename_i kt kb r
    split at htr
    · injection htr with htr; injection htr with e1 e2; subst e1
      have hno : layer A Pr (exec A Pr n) stuckAC s = none := rfl
      rw [hno] at he'
      cases he'
    split at htr <;> first | (cases htr; done) | skip
    rename_i l hl
    obtain ⟨L, e, hsr, hf, h1, h2, hx⟩ := hs
    split at htr
    · rename_i hdraw
      subst hdraw
      split at htr <;> first | (cases htr; done) | skip
      rename_i hok
      split at htr
      · injection htr with htr; injection htr with e1 e2; subst e1
        simp only [layer] at he'
        split at he' <;> first | (cases he'; done) | skip
        rename_i s1 hex
        injection he' with he'; injection he' with e1 e2; subst e1; subst e2
        exact draw_wpR (M := M) hm hPL hfn hPr hl hok hsr (wdNum_get l 0).1 (wdNum_get l 0).2 hex fun a' w' L' e' hn hs' => ⟨rfl, (FrS.step hf h1 h2 hx hn hs').mask kt (unpin kb)⟩
      split at htr
      · injection htr with htr; injection htr with e1 e2; subst e1
        simp only [layer] at he'
        split at he' <;> first | (cases he'; done) | skip
        rename_i s1 hex
        injection he' with he'; injection he' with e1 e2; subst e1; subst e2
        exact draw_wpR (M := M) hm hPL hfn hPr hl hok hsr (mkNum_get l 0).1 (mkNum_get l 0).2 hex fun a' w' L' e' hn hs' => ⟨rfl, (FrS.step hf h1 h2 hx hn hs').mask kt (unpin kb)⟩
      injection htr with htr; injection htr with e1 e2; subst e1
      simp only [layer] at he'
      split at he' <;> first | (cases he'; done) | skip
      rename_i s1 hex
      injection he' with he'; injection he' with e1 e2; subst e1; subst e2
      exact draw_wp1 (M := M) hm hPL hfn hPr hl hok hsr hex fun a' w' L' e' hn hs' => ⟨rfl, (FrS.step hf h1 h2 hx hn hs').mask kt (unpin kb)⟩
    · rename_i hdraw
      have hdraw' : draw = false := by simpa using hdraw
      subst hdraw'
      injection htr with htr; injection htr with e1 e2; subst e1
      simp only [layer] at he'
      split at he' <;> first | (cases he'; done) | skip
      rename_i s1 hex
      injection he' with he'; injection he' with e1 e2; subst e1; subst e2
      exact region_wp (M := M) hfn hPr hl hsr hex fun a' w' L' e' hn hs' => ⟨rfl, (FrS.step hf h1 h2 hx hn hs').mask kt (unpin kb)⟩
  | _ => simp [trCode] at htr

end Go.Pv

/-
  Functions: what the interpreter says of a call, the machine does.
-/
namespace Go.Pv
variable {P : Program} {N M : Nat → Nat} {W : Nat → Prop} {L L' : Lx} {e e' : Emb} {h : Heap} {w w' : World} {Pr : Prims}

def Emb.empty : Emb := ⟨fun _ => False, fun _ => 0, 0, fun _ => 0, fun _ => 0, fun _ => 0, fun _ => 0, fun _ => 0, fun _ => 0, 0, fun _ => 0⟩

theorem HR.start (hl : ∀ t b, L t b → b < w.heap.size) (hw : ∀ b, w.heap.size ≤ b → W b) : HR N L .empty W Heap.empty w := by
  refine ⟨fun s => ?_, fun s cs hs => ?_, rfl, fun id a ha => ?_, fun id a ha => ?_, rfl, fun id m hm => ?_, fun s hs => hs.elim, fun id hi => absurd hi (Nat.not_lt_zero _), fun id hi => absurd hi (Nat.not_lt_zero _),
    fun s _ hs => hs.elim, fun s _ hs => hs.elim, fun i _ hi => absurd hi (Nat.not_lt_zero _), fun i _ hi => absurd hi (Nat.not_lt_zero _), hl, hw⟩
  · simp [Emb.empty, Heap.empty, look1]
  · simp [Heap.empty, look1] at hs
  · simp [Heap.empty] at ha
  · simp [Heap.empty] at ha
  · simp [Heap.empty] at hm

theorem get_entry : ∀ (ps : List PV) (n t : Nat), get (entry n ps) t = if n ≤ t then (match ps[t - n]? with | some p => V.ofArg p | none => .any) else .any
  | [], n, t => by simp [entry, get, look1]
  | p :: r, n, t => by
    have ih := get_entry r (n + 1) t
    simp only [entry, get, look1] at ih ⊢
    by_cases hn : n = t
    · subst hn; simp
    · rw [if_neg hn, ih]
      by_cases hlt : n ≤ t
      · rw [if_pos (show n + 1 ≤ t by omega), if_pos hlt, show t - n = (t - (n + 1)) + 1 by omega]
        simp
      · rw [if_neg (by omega), if_neg hlt]

theorem ofArg_rel {p : PV} {v : Value} (hp : PVR N L w p v) : VR N L e w (V.ofArg p) v := by
  cases p with
  | agg cs =>
    cases hp with
    | agg _ arr hs hv _ =>
      refine .agg _ arr (by simpa using hs) (fun j c hj => ?_)
      obtain ⟨q, hq, rfl⟩ := map_pv_get hj
      exact .pv _ _ (hv j q hq)
  | fr k rows => cases hp
  | _ => exact .pv _ _ hp

theorem not_fr {k : Nat} {rows : List (List PV)} {v : Value} (hp : PVR N L w (.fr k rows) v) : False := by cases hp

theorem entry_rel {T : Option Nat} {ps : List PV} {args : Array Value} (hl : ∀ t b, L t b → b < w.heap.size) (ha : ArgsR N L w T ps args.toList) :
    ∃ e, HR N L e (Wc w T) (entryHeap ps) w ∧ ∀ (j : Nat) (p : PV), ps[j]? = some p → ∃ v, args.toList[j]? = some v ∧ VR N L e w (V.ofArg p) v := by
  generalize hargs : args.toList = al at ha
  cases ha with
  | plain _ _ hlen hv =>
    have h0 : entryHeap ps = Heap.empty := by
      cases ps with
      | nil => rfl
      | cons p r =>
        cases p with
        | fr k rows =>
          obtain ⟨v, _, h2⟩ := hv 0 _ rfl
          exact (not_fr h2).elim
        | _ => rfl
    rw [h0]
    refine ⟨.empty, HR.start hl (fun b hb => .inl hb), fun j p hj => ?_⟩
    obtain ⟨v, h1, h2⟩ := hv j p hj
    exact ⟨v, h1, ofArg_rel h2⟩
  | take b k rows v qs vs hf hlen hv =>
    have hst : HR N L .empty (Wc w (some b)) Heap.empty w := HR.start hl (fun b hb => .inl hb)
    obtain ⟨e, h1, h2, h3⟩ := hf.own hst (.inr rfl) (fun ho => by
      rcases ho with ⟨s, hs, _⟩ | ⟨id, hi, _⟩
      · exact hs
      · exact absurd hi (Nat.not_lt_zero _))
    refine ⟨e, h1.hr, fun j p hj => ?_⟩
    match j, hj with
    | 0, hj => simp at hj; subst hj; exact ⟨v, rfl, h2⟩
    | j + 1, hj =>
      obtain ⟨u, k1, k2⟩ := hv j p (by simpa using hj)
      exact ⟨u, by simpa using k1, ofArg_rel k2⟩

theorem loadVar_of {t : TypeId} {n : Nat} {ag : Bool} (hl : loadT P t = some (n, ag)) (hr : HR N L e W h w) {x : V} {xv : Value} (hx : VR N L e w x xv) {cs : List V} {tn : Tn} (hla : loadAt h n x = some (cs, tn)) {v : V} (hc : cellsV ag cs = some v) :
    ∃ a v', xv = .pointer (some a) ∧ (loadVar t a).run P w = .ok v' w ∧ VR N L e w v v' := by
  obtain ⟨a1, a2, b, off, a3, a4⟩ := loadAt_spec hr hx hla
  obtain ⟨v', r1, r2⟩ := load_run (P := P) hl a2 a4 hc
  exact ⟨_, v', a3, r1, r2⟩

theorem results_list {nt : Nat} {s : St} {a : Act} (hs : SR N W L e nt s a w) : ∀ (rs : List ResultVar) (rv : List RVar) (vs : List V), mapO (trRes P) rs = some rv → mapO (resultOf s) rv = some vs →
    ∃ vals : List Value, (rs.mapM (fun r => (match r with | .tmp t => pure (a.tmps.getD t undef) | .cell x t => do loadVar t (← asAddr (a.tmps.getD x undef)) : Sem Value))).run P w = .ok vals w ∧ vals.length = vs.length ∧
      ∀ (j : Nat) (v : V), vs[j]? = some v → ∃ u, vals[j]? = some u ∧ VR N L e w v u
  | [], rv, vs, h1, h2 => by
    simp [mapO] at h1
    subst h1
    simp [mapO] at h2
    subst h2
    exact ⟨[], by simp, rfl, fun j v hj => by simp at hj⟩
  | r :: rs, rv, vs, h1, h2 => by
    simp only [mapO] at h1
    split at h1 <;> first | (cases h1; done) | skip
    rename_i q qs hq hqs
    injection h1 with h1
    subst h1
    simp only [mapO] at h2
    split at h2 <;> first | (cases h2; done) | skip
    rename_i v vr hv hvr
    injection h2 with h2
    subst h2
    obtain ⟨vals, g1, g2, g3⟩ := results_list hs rs qs vr hqs hvr
    have hone : ∃ u, (match r with | .tmp t => pure (a.tmps.getD t undef) | .cell x t => do loadVar t (← asAddr (a.tmps.getD x undef)) : Sem Value).run P w = .ok u w ∧ VR N L e w v u := by
      cases r with
      | tmp t =>
        simp [trRes] at hq
        subst hq
        simp [resultOf] at hv
        subst hv
        exact ⟨_, by simp, hs.env t⟩
      | cell x t =>
        simp only [trRes] at hq
        split at hq <;> first | (cases hq; done) | skip
        rename_i n b hl
        injection hq with hq
        subst hq
        simp only [resultOf] at hv
        split at hv <;> first | (cases hv; done) | skip
        rename_i cs tn hla
        obtain ⟨ad, u, k1, k2, k3⟩ := loadVar_of hl hs.hr (hs.env x) hla hv
        refine ⟨u, ?_, k3⟩
        simp only [Sem.run_bind]
        rw [k1]
        simpa [asAddr] using k2
    obtain ⟨u, k1, k2⟩ := hone
    refine ⟨u :: vals, ?_, by simp [g2], fun j x hj => ?_⟩
    · rw [List.mapM_cons]
      simp only [Sem.run_bind, k1, Result.andThen_ok, g1, Sem.run_pure]
    · match j, hj with
      | 0, hj => simp at hj; subst hj; exact ⟨u, rfl, k2⟩
      | j + 1, hj => simpa using g3 j x (by simpa using hj)

theorem tuple_eq (vs : Array Value) : (if h : vs.size = 1 then vs[0] else .tuple vs) = tupleV vs.toList := by
  obtain ⟨l⟩ := vs
  match l with
  | [] => rfl
  | [v] => rfl
  | _ :: _ :: _ => rfl

theorem results_run {nt : Nat} {s : St} {a : Act} (hs : SR N W L e nt s a w) {go : Func} {rv : List RVar} (hrv : mapO (trRes P) go.results.toList = some rv) {vs : List V} (hv : mapO (resultOf s) rv = some vs) :
    ∃ vals : List Value, (results go a.tmps).run P w = .ok (tupleV vals) w ∧ vals.length = vs.length ∧ ∀ (j : Nat) (v : V), vs[j]? = some v → ∃ u, vals[j]? = some u ∧ VR N L e w v u := by
  obtain ⟨vals, h1, h2, h3⟩ := results_list hs go.results.toList rv vs hrv hv
  refine ⟨vals, ?_, h2, h3⟩
  unfold results
  rw [Array.mapM_eq_mapM_toList]
  have h1' : ((go.results.toList.mapM (fun r => (match r with | .tmp t => pure (a.tmps.getD t undef) | .cell x t => do loadVar t (← asAddr (a.tmps.getD x undef)) : Sem Value))).run P w) = .ok vals w := h1
  simp only [Sem.run_bind, map_eq_pure_bind]
  have : ∀ (f : ResultVar → Sem Value), (∀ r, f r = (match r with | .tmp t => pure (a.tmps.getD t undef) | .cell x t => do loadVar t (← asAddr (a.tmps.getD x undef)) : Sem Value)) → (go.results.toList.mapM f).run P w = .ok vals w := by
    intro f hf
    have : f = _ := funext hf
    rw [this]
    exact h1'
  rw [this _ (fun r => by cases r <;> rfl)]
  simp only [Result.andThen_ok, Sem.run_pure]
  rw [tuple_eq]


theorem keepc_cell (hr : HR N L e W h w) (hL : ∀ b, L 0 b → L' 0 b) (hown : ∀ id, id < e.na → e.ak id ≠ 0 → L' 0 (e.ar id)) {x : V} {p : PV} {v : Value} (hk : keepc h 4 x = some p) (hv : VR N L e w x v) : CR N L' w p v [] := by
  obtain ⟨h1, h2⟩ := keepc_sound hr hL 4 x p v hk hv (fun _ => hown)
  exact .keep p v h2 h1

def blocksOf (e : Emb) (cs : List V) : List Nat := (cs.filterMap ownId).map e.ar

theorem freshc_cell (hr : HR N L e W h w) (hL : ∀ b, L 0 b → L' 0 b) {x : V} (hno : ∀ b ∈ blocksOf e [x], ∀ t, ¬ L' t b) {p : PV} {v : Value} (hk : freshc h x = some p) (hv : VR N L e w x v) : CR N L' w p v (blocksOf e [x]) ∧ ∀ id, ownId x = some id → id < e.na ∧ e.ak id ≠ 0 := by
  unfold freshc at hk
  split at hk
  · rename_i id ver len
    cases ho : ownArr h id ver with
    | none => simp [ho] at hk
    | some a =>
      simp only [ho] at hk
      split at hk <;> first | (cases hk; done) | skip
      rename_i rows hb
      split at hk <;> first | (cases hk; done) | skip
      rename_i hk0
      injection hk with hk
      subst hk
      obtain ⟨ho1, ho2⟩ := ownArr_spec ho
      obtain ⟨v1, v2, v3, v4⟩ := hr.ver id a ho1
      obtain ⟨g1, g2, g3, g4, g5⟩ := hr.ar id a ho1 hk0
      have hid : id < e.na := by rw [hr.na]; exact (List.getElem?_eq_some_iff.1 ho1).1
      refine ⟨?_, fun j hj => by simp [ownId] at hj; subst hj; exact ⟨hid, by rw [v2]; exact hk0⟩⟩
      have hbl : blocksOf e [.own id ver 0 len] = [e.ar id] := rfl
      rw [hbl] at hno ⊢
      refine .fresh a.k (rows.take len) (e.ar id) v ?_
      obtain ⟨A, cap, rfl⟩ := own_len hv
      cases hv with
      | own _ _ _ _ _ _ h0 h1 h2 h3 =>
        obtain ⟨q1, q2, q3, q4⟩ := h3 (by omega)
        have hsz : a.size = rows.length := by simp [Arr.size, hb]
        simp only [Nat.zero_mul, Nat.add_zero, Nat.zero_add] at q1 q3 q4
        have hlen : (rows.take len).length = len := by simp; omega
        have hrows : a.rows = rows.map (·.map V.pv) := by simp [Arr.rows, hb]
        refine ⟨A, cap, e.ad id, e.cap id, by rw [hlen], hk0, by omega, q3, q4, g2, fun r hr' => ?_, hno (e.ar id) (by simp), fun i j c hcc => ?_⟩
        · have := g3 (r.map V.pv) (by rw [hrows]; exact List.mem_map.2 ⟨r, List.mem_of_mem_take hr', rfl⟩)
          simpa using this
        · unfold at2 at hcc
          cases hi : (rows.take len)[i]? with
          | none => simp [hi] at hcc
          | some r =>
            simp [hi] at hcc
            have hi' : rows[i]? = some r := by
              rw [List.getElem?_take] at hi
              split at hi
              · exact hi
              · cases hi
            obtain ⟨_, u, k1, k2⟩ := g4 i (r.map V.pv) (by rw [hrows]; exact map_pv_row hi') j (.pv c) (by simp [hcc])
            have hperm : c.perm = true := by
              rw [hb] at g5
              exact g5 r (List.mem_of_getElem? hi') c (List.mem_of_getElem? hcc)
            refine ⟨hperm, u, by rw [← Nat.add_assoc]; exact k1, ?_⟩
            cases k2 with
            | pv _ _ hq => exact hq.perm0 hperm (fun b hb => ⟨hL b hb, rfl⟩)
  · cases hk
  · rename_i hn1 hn2
    have hnone : ownId x = none := by
      cases x with
      | own id ver off len =>
        cases off with
        | zero => exact absurd rfl (hn1 id ver len)
        | succ off => exact absurd rfl (hn2 id ver (off + 1) len)
      | _ => rfl
    have hb0 : blocksOf e [x] = [] := by simp [blocksOf, hnone]
    rw [hb0]
    obtain ⟨k1, k2⟩ := keepc_sound hr hL 4 x p v hk hv (fun hne => absurd hnone hne)
    exact ⟨.keep p v k2 k1, fun id hid => by rw [hnone] at hid; cases hid⟩

theorem blocks_cons (e : Emb) (x : V) (cs : List V) : blocksOf e (x :: cs) = blocksOf e [x] ++ blocksOf e cs := by
  cases hx : ownId x <;> simp [blocksOf, hx]

theorem fresh_cells (hr : HR N L e W h w) (hL : ∀ b, L 0 b → L' 0 b) : ∀ (cs : List V) (ps : List PV) (vs : List Value), (∀ b ∈ blocksOf e cs, ∀ t, ¬ L' t b) → mapO (freshc h) cs = some ps → vs.length = cs.length → (∀ (j : Nat) (x : V), cs[j]? = some x → ∃ u, vs[j]? = some u ∧ VR N L e w x u) →
    CRs N L' w ps vs (blocksOf e cs) ∧ ∀ id ∈ cs.filterMap ownId, id < e.na ∧ e.ak id ≠ 0
  | [], ps, vs, _, hm, hl, _ => by
    simp [mapO] at hm
    subst hm
    have : vs = [] := List.eq_nil_of_length_eq_zero (by simpa using hl)
    subst this
    exact ⟨.nil, by simp⟩
  | x :: cs, ps, vs, hno, hm, hl, hv => by
    simp only [mapO] at hm
    split at hm <;> first | (cases hm; done) | skip
    rename_i p pr hp hpr
    injection hm with hm
    subst hm
    match vs, hl with
    | v :: vs, hl =>
      obtain ⟨u, h1, h2⟩ := hv 0 x rfl
      simp at h1
      subst h1
      rw [blocks_cons] at hno ⊢
      obtain ⟨c1, c2⟩ := freshc_cell hr hL (fun b hb => hno b (List.mem_append_left _ hb)) hp h2
      obtain ⟨d1, d2⟩ := fresh_cells hr hL cs pr vs (fun b hb => hno b (List.mem_append_right _ hb)) hpr (by simpa using hl) (fun j y hj => by simpa using hv (j + 1) y (by simpa using hj))
      refine ⟨.cons _ _ _ _ _ _ c1 d1, fun id hid => ?_⟩
      obtain ⟨y, hy1, hy2⟩ := List.mem_filterMap.1 hid
      rcases List.mem_cons.1 hy1 with rfl | hy1
      · exact c2 id hy2
      · exact d2 id (List.mem_filterMap.2 ⟨y, hy1, hy2⟩)

theorem keep_cells (hr : HR N L e W h w) (hL : ∀ b, L 0 b → L' 0 b) (hown : ∀ id, id < e.na → e.ak id ≠ 0 → L' 0 (e.ar id)) : ∀ (cs : List V) (ps : List PV) (vs : List Value), mapO (keepc h 4) cs = some ps → vs.length = cs.length → (∀ (j : Nat) (x : V), cs[j]? = some x → ∃ u, vs[j]? = some u ∧ VR N L e w x u) → CRs N L' w ps vs []
  | [], ps, vs, hm, hl, _ => by
    simp [mapO] at hm
    subst hm
    have : vs = [] := List.eq_nil_of_length_eq_zero (by simpa using hl)
    subst this
    exact .nil
  | x :: cs, ps, vs, hm, hl, hv => by
    simp only [mapO] at hm
    split at hm <;> first | (cases hm; done) | skip
    rename_i p pr hp hpr
    injection hm with hm
    subst hm
    match vs, hl with
    | v :: vs, hl =>
      obtain ⟨u, h1, h2⟩ := hv 0 x rfl
      simp at h1
      subst h1
      exact CRs.cons _ _ [] _ _ [] (keepc_cell hr hL hown hp h2) (keep_cells hr hL hown cs pr vs hpr (by simpa using hl) (fun j y hj => by simpa using hv (j + 1) y (by simpa using hj)))

end Go.Pv

/-
  Functions whose bodies run among the caller's arrays.
-/
namespace Go.Pv
variable {P : Program} {N M : Nat → Nat} {W : Nat → Prop} {L L' : Lx} {e e' : Emb} {h : Heap} {w w' : World} {Pr : Prims}

theorem addSlots_nodup : ∀ (r l : List Nat), l.Nodup → (addSlots l r).Nodup
  | [], _, h => h
  | s :: r, l, h => by
    simp only [addSlots]
    split
    · exact addSlots_nodup r l h
    · rename_i hc
      refine addSlots_nodup r _ (List.nodup_append.2 ⟨h, by simp, fun a ha b hb => ?_⟩)
      have hb : b = s := by simpa using hb
      subst hb
      rintro rfl
      exact hc (by simpa using ha)
theorem comeAt_nodup (bx : List (Nat × List V)) : ∀ (n : Nat) (l : List Nat), l.Nodup → (comeAt bx n l).Nodup
  | 0, _, h => h
  | n + 1, l, h => comeAt_nodup bx n _ (addSlots_nodup _ l h)

def Emb.on (e : Emb) (sl : Nat → Prop) (bx : Nat → Nat) : Emb := { e with sl := sl, bx := bx }

theorem calm_renC {c : V} (hc : c.calm = true) (f : Nat → Option Nat) : renC f c = some c := by
  cases c with
  | func k cap =>
    have : cap.isEmpty = true := hc
    simp [renC, this]
  | ptr => simp [V.calm] at hc
  | agg => simp [V.calm] at hc
  | tup => simp [V.calm] at hc
  | _ => rfl

theorem VR.renC {f : Nat → Option Nat} {c c' : V} {v : Value} {sl : Nat → Prop} {bx : Nat → Nat} (hh : Pv.renC f c = some c') (hv : VR N L e w c v) (hf : ∀ s t, f s = some t → e.sl s → sl t ∧ bx t = e.bx s) : VR N L (e.on sl bx) w c' v := by
  cases c with
  | ptr s o =>
    simp only [Pv.renC] at hh
    split at hh <;> first | (cases hh; done) | skip
    rename_i t ht
    cases hh
    cases hv with
    | ptr _ _ hs =>
      obtain ⟨h1, h2⟩ := hf s t ht hs
      rw [← h2]
      exact .ptr (e := e.on sl bx) t o h1
  | func k cap =>
    simp only [Pv.renC] at hh
    split at hh <;> first | (cases hh; done) | skip
    rename_i hc
    cases hh
    cases hv with
    | func _ _ arr hs _ =>
      refine .func k cap arr hs (fun j c hj => ?_)
      rw [List.isEmpty_iff.1 hc] at hj
      simp at hj
  | agg cs => cases hh
  | tup cs => cases hh
  | pv p => cases hh; cases hv with | pv _ _ hp => exact .pv p v hp
  | tl rows => cases hh; cases hv with | tl _ a hp hs => exact .tl rows a hp hs
  | own id ver off len => cases hh; cases hv with | own _ _ _ _ a cap h0 h1 h2 h3 => exact .own (e := e.on sl bx) id ver off len a cap h0 h1 h2 h3
  | aptr id ver row col => cases hh; cases hv with | aptr _ _ _ _ a h1 h2 h3 => exact .aptr (e := e.on sl bx) id ver row col a h1 h2 h3
  | map id => cases hh; cases hv with | map _ hi => exact .map (e := e.on sl bx) id hi
  | nilm => cases hh; cases hv; exact .nilm
  | any => cases hh; exact .any v

theorem VR.renV {f : Nat → Option Nat} {c c' : V} {v : Value} {sl : Nat → Prop} {bx : Nat → Nat} (hh : Pv.renV f c = some c') (hv : VR N L e w c v) (hf : ∀ s t, f s = some t → e.sl s → sl t ∧ bx t = e.bx s) : VR N L (e.on sl bx) w c' v := by
  cases c with
  | func k cap =>
    simp only [Pv.renV] at hh
    split at hh <;> first | (cases hh; done) | skip
    rename_i l hm
    cases hh
    cases hv with
    | func _ _ arr hs hvv =>
      refine .func k l arr (by rw [hs, mapO_len hm]) (fun j c hj => ?_)
      obtain ⟨x, h1, h2⟩ := mapO_get hm j c hj
      exact (hvv j x h1).renC h2 hf
  | agg cs =>
    simp only [Pv.renV] at hh
    split at hh <;> first | (cases hh; done) | skip
    rename_i l hm
    cases hh
    cases hv with
    | agg _ arr hs hvv =>
      refine .agg l arr (by rw [hs, mapO_len hm]) (fun j c hj => ?_)
      obtain ⟨x, h1, h2⟩ := mapO_get hm j c hj
      exact (hvv j x h1).renC h2 hf
  | pv p => exact VR.renC (c := .pv p) hh hv hf
  | tl rows => exact VR.renC (c := .tl rows) hh hv hf
  | own id ver off len => exact VR.renC (c := .own id ver off len) hh hv hf
  | ptr s o => exact VR.renC (c := .ptr s o) hh hv hf
  | aptr id ver row col => exact VR.renC (c := .aptr id ver row col) hh hv hf
  | map id => exact VR.renC (c := .map id) hh hv hf
  | nilm => exact VR.renC (c := .nilm) hh hv hf
  | tup cs => exact VR.renC (c := .tup cs) hh hv hf
  | any => exact VR.renC (c := .any) hh hv hf

theorem renC_calmB {f : Nat → Option Nat} {c c' : V} (hh : renC f c = some c') (hc : c.calmB = true) (hf : ∀ s t, f s = some t → isPin t = true) : c'.calmB = true := by
  cases c with
  | ptr s o =>
    simp only [renC] at hh
    split at hh <;> first | (cases hh; done) | skip
    rename_i t ht
    cases hh
    exact hf s t ht
  | func k cap =>
    simp only [renC] at hh
    split at hh <;> first | (cases hh; done) | skip
    cases hh
    exact hc
  | agg cs => cases hh
  | tup cs => cases hh
  | _ => cases hh; exact hc

theorem CellsAt.on {b off : Nat} {cs : List V} (hc : CellsAt N L e w b off cs) (sl : Nat → Prop) (bx : Nat → Nat) : CellsAt N L (e.on sl bx) w b off cs := by
  intro j c hj
  obtain ⟨h1, v, h2, h3⟩ := hc j c hj
  exact ⟨h1, v, h2, h3.renC (calm_renC h1 fun _ => none) (fun s t ht => by cases ht)⟩

theorem inBx_look {f : Nat → Option Nat} {bx : List (Nat × List V)} : ∀ (ss : List Nat) (n : Nat) (b : List (Nat × List V)), inBx f bx n ss = some b →
    (∀ i s, ss[i]? = some s → ∃ cs l, look1 s bx = some cs ∧ mapO (renC f) cs = some l ∧ look1 (n + i) b = some l) ∧ ∀ t, (t < n ∨ n + ss.length ≤ t) → look1 t b = none
  | [], n, b, hh => by
    cases hh
    exact ⟨fun i s hi => by simp at hi, fun t _ => rfl⟩
  | s :: r, n, b, hh => by
    simp only [inBx] at hh
    split at hh <;> first | (cases hh; done) | skip
    rename_i cs hcs
    split at hh <;> first | (cases hh; done) | skip
    rename_i l b' hl hb'
    cases hh
    obtain ⟨i1, i2⟩ := inBx_look r (n + 1) b' hb'
    refine ⟨fun i s' hi => ?_, fun t ht => ?_⟩
    · cases i with
      | zero =>
        cases hi
        exact ⟨cs, l, hcs, hl, by simp [look1]⟩
      | succ i =>
        obtain ⟨cs', l', g1, g2, g3⟩ := i1 i s' (by simpa using hi)
        refine ⟨cs', l', g1, g2, ?_⟩
        simp only [look1]
        rw [if_neg (by omega), show n + (i + 1) = n + 1 + i by omega]
        exact g3
    · simp only [look1, List.length_cons] at ht ⊢
      rw [if_neg (by omega)]
      exact i2 t (by omega)

theorem outBx_look {f : Nat → Option Nat} {bx : List (Nat × List V)} : ∀ (ss : List Nat) (n : Nat) (bs : List (Nat × List V)), outBx f bx n ss = some bs → ss.Nodup → ∀ b0 : List (Nat × List V),
    (∀ i s, ss[i]? = some s → ∃ cs l, look1 (n + i) bx = some cs ∧ mapO (renC f) cs = some l ∧ l.all V.calmB = true ∧ look1 s (bxSets bs b0) = some l) ∧ ∀ t, t ∉ ss → look1 t (bxSets bs b0) = look1 t b0
  | [], n, bs, hh, _, b0 => by
    cases hh
    exact ⟨fun i s hi => by simp at hi, fun t _ => rfl⟩
  | s :: r, n, bs, hh, hn, b0 => by
    simp only [outBx] at hh
    split at hh <;> first | (cases hh; done) | skip
    rename_i cs hcs
    split at hh <;> first | (cases hh; done) | skip
    rename_i l b' hl hb'
    split at hh <;> first | (cases hh; done) | skip
    rename_i hcalm
    cases hh
    obtain ⟨h1, h2⟩ := List.nodup_cons.1 hn
    obtain ⟨i1, i2⟩ := outBx_look r (n + 1) b' hb' h2 (bxSet s l b0)
    have hset : ∀ t, look1 t (bxSet s l b0) = if s = t then some l else look1 t b0 := fun t => look1_set (α := Unit) s t l b0
    refine ⟨fun i s' hi => ?_, fun t ht => ?_⟩
    · cases i with
      | zero =>
        cases hi
        refine ⟨cs, l, hcs, hl, hcalm, ?_⟩
        show look1 s (bxSets b' (bxSet s l b0)) = some l
        rw [i2 s h1, hset, if_pos rfl]
      | succ i =>
        obtain ⟨cs', l', g1, g2, g3, g4⟩ := i1 i s' (by simpa using hi)
        exact ⟨cs', l', by rw [show n + (i + 1) = n + 1 + i by omega]; exact g1, g2, g3, g4⟩
    · show look1 t (bxSets b' (bxSet s l b0)) = look1 t b0
      simp only [List.mem_cons, not_or] at ht
      rw [i2 t ht.2, hset, if_neg (fun he => ht.1 he.symm)]

theorem toIn_some {ss : List Nat} {s t : Nat} (hh : toIn ss s = some t) : ∃ i, ss[i]? = some s ∧ t = outer + i := by
  unfold toIn at hh
  obtain ⟨i, h1, rfl⟩ := Option.map_eq_some_iff.1 hh
  rw [List.findIdx?_eq_some_iff_getElem] at h1
  obtain ⟨h2, h3, _⟩ := h1
  refine ⟨i, ?_, rfl⟩
  rw [List.getElem?_eq_getElem h2]
  simpa using h3
theorem toOut_some {ss : List Nat} {s t : Nat} (hh : toOut ss t = some s) : ∃ i, ss[i]? = some s ∧ t = outer + i := by
  unfold toOut at hh
  split at hh
  · exact ⟨t - outer, hh, by omega⟩
  · cases hh
theorem pin_outer (i : Nat) : isPin (outer + i) = true := by
  unfold isPin outer
  rw [Nat.ble_eq]
  omega

def Win (e : Emb) (W : Nat → Prop) (ss : List Nat) (b : Nat) : Prop := W b ∧ ∀ s, e.sl s → s ∉ ss → e.bx s ≠ b
def inSl (ss : List Nat) (t : Nat) : Prop := ∃ i s, ss[i]? = some s ∧ t = outer + i
def inB (e : Emb) (ss : List Nat) (t : Nat) : Nat := e.bx (ss.getD (t - outer) 0)
theorem inB_at (e : Emb) {ss : List Nat} {i s : Nat} (h : ss[i]? = some s) : inB e ss (outer + i) = e.bx s := by
  unfold inB
  rw [Nat.add_sub_cancel_left]
  simp [h]

theorem HR.box_ne_map (hr : HR N L e W h w) {s id : Nat} (hs : e.sl s) (hi : id < e.nm) : e.bx s ≠ e.mp id := by
  obtain ⟨m, hm⟩ := hr.get_mp hi
  obtain ⟨es, cl, k1, _⟩ := hr.mp id m hm
  have hl := (hr.sl s).1 hs
  cases hc : look1 s h.bx with
  | none => simp [hc] at hl
  | some cs =>
    obtain ⟨⟨arr, ty, k2, _⟩, _⟩ := hr.bx s cs hc
    exact (map_not_row k1 k2).symm

theorem HR.inn (hr : HR N L e W h w) {ss : List Nat} (hnd : ss.Nodup) {b : List (Nat × List V)} (hb : inBx (toIn ss) h.bx outer ss = some b) :
    HR N L (e.on (inSl ss) (inB e ss)) (Win e W ss) ⟨b, h.ar, h.mp⟩ w ∧ ∀ s ∈ ss, e.sl s := by
  obtain ⟨b1, b2⟩ := inBx_look ss outer b hb
  have hsl : ∀ s ∈ ss, e.sl s := fun s hs => by
    obtain ⟨i, hi⟩ := List.mem_iff_getElem?.1 hs
    obtain ⟨cs, l, g1, _⟩ := b1 i s hi
    exact (hr.sl s).2 (by rw [g1]; rfl)
  have hf : ∀ s t, toIn ss s = some t → e.sl s → inSl ss t ∧ inB e ss t = e.bx s := fun s t ht _ => by
    obtain ⟨i, h1, rfl⟩ := toIn_some ht
    exact ⟨⟨i, s, h1, rfl⟩, inB_at e h1⟩
  have hlook : ∀ t, (look1 t b).isSome = true → ∃ i s, ss[i]? = some s ∧ t = outer + i := fun t ht => by
    rcases Nat.lt_or_ge t outer with h1 | h1
    · rw [b2 t (.inl h1)] at ht; cases ht
    · rcases Nat.lt_or_ge t (outer + ss.length) with h2 | h2
      · exact ⟨t - outer, ss[t - outer]'(by omega), List.getElem?_eq_getElem (by omega), by omega⟩
      · rw [b2 t (.inr h2)] at ht; cases ht
  refine ⟨⟨fun t => ⟨?_, hlook t⟩, fun t cs ht => ?_, hr.na, hr.ver, fun id a ha hk => ?_, hr.nm, hr.mp, ?_, fun id hi hk => ?_, fun id hi => ?_, ?_, ?_, hr.daa, hr.dmm, hr.lsz, fun g hg => ?_⟩, hsl⟩
  · rintro ⟨i, s, h1, rfl⟩
    obtain ⟨cs, l, _, _, g3⟩ := b1 i s h1
    show (look1 (outer + i) b).isSome = true
    rw [g3]
    rfl
  · obtain ⟨i, s, h1, rfl⟩ := hlook t (by rw [ht]; rfl)
    obtain ⟨cs0, l, g1, g2, g3⟩ := b1 i s h1
    rw [show look1 (outer + i) (⟨b, h.ar, h.mp⟩ : Heap).bx = look1 (outer + i) b from rfl, g3] at ht
    cases ht
    obtain ⟨k1, k2⟩ := hr.bx s cs0 g1
    show Block w (inB e ss (outer + i)) _ ∧ BoxAt N L _ w (inB e ss (outer + i)) _
    rw [inB_at e h1]
    refine ⟨by rw [mapO_len g2]; exact k1, fun j c hj => ?_⟩
    obtain ⟨x, p1, p2⟩ := mapO_get g2 j c hj
    obtain ⟨q1, v, q2, q3⟩ := k2 j x p1
    refine ⟨renC_calmB p2 q1 (fun s t ht => ?_), v, q2, q3.renC p2 hf⟩
    obtain ⟨i', _, rfl⟩ := toIn_some ht
    exact pin_outer i'
  · obtain ⟨g1, g2, g3, g4, g5⟩ := hr.ar id a ha hk
    exact ⟨g1, g2, g3, fun i r hi => (g4 i r hi).on _ _, g5⟩
  · rintro t ⟨i, s, h1, rfl⟩
    show Win e W ss (inB e ss (outer + i)) ∧ ∀ t, ¬ L t (inB e ss (outer + i))
    rw [inB_at e h1]
    have hs := List.mem_of_getElem? h1
    refine ⟨⟨(hr.wbx s (hsl s hs)).1, fun s' hs' hn he => ?_⟩, (hr.wbx s (hsl s hs)).2⟩
    exact hn (hr.dbx s' s hs' (hsl s hs) he ▸ hs)
  · exact ⟨⟨(hr.war id hi hk).1, fun s' hs' _ => hr.dba s' id hs' hi hk⟩, (hr.war id hi hk).2⟩
  · exact ⟨⟨(hr.wmp id hi).1, fun s' hs' _ => hr.box_ne_map hs' hi⟩, (hr.wmp id hi).2⟩
  · rintro t t' ⟨i, s, h1, rfl⟩ ⟨i', s', h2, rfl⟩ he
    change inB e ss (outer + i) = inB e ss (outer + i') at he
    rw [inB_at e h1, inB_at e h2] at he
    have := hr.dbx s s' (hsl s (List.mem_of_getElem? h1)) (hsl s' (List.mem_of_getElem? h2)) he
    subst this
    have := (List.getElem?_inj (List.getElem?_eq_some_iff.1 h1).1 hnd).1 (h1.trans h2.symm)
    rw [this]
  · rintro t id ⟨i, s, h1, rfl⟩ hi hk
    show inB e ss (outer + i) ≠ _
    rw [inB_at e h1]
    exact hr.dba s id (hsl s (List.mem_of_getElem? h1)) hi hk
  · exact ⟨hr.wide g hg, fun s' hs' _ he => by have := hr.lt_bx hs'; omega⟩

theorem Nx.out (hr : HR N L e W h w) {ss : List Nat} (hnd : ss.Nodup) (hsl : ∀ s ∈ ss, e.sl s) {h1 : Heap} (hr1 : HR N L' e' (Win e W ss) h1 w') (hx : XExt L (e.on (inSl ss) (inB e ss)) w L' e' w')
    (hf : Fr (Win e W ss) w w') (hnew : ∀ t b, L' t b → L t b ∨ (t = 0 ∧ Win e W ss b)) {bs : List (Nat × List V)} (ho : outBx (toOut ss) h1.bx outer ss = some bs) :
    Nx N W L e w L' (e'.on e.sl e.bx) ⟨bxSets bs h.bx, h1.ar, h1.mp⟩ w' := by
  obtain ⟨o1, o2⟩ := outBx_look ss outer bs ho hnd h.bx
  have hat : ∀ i s, ss[i]? = some s → e'.sl (outer + i) ∧ e'.bx (outer + i) = e.bx s := fun i s hi => by
    obtain ⟨g1, g2⟩ := hx.sl (outer + i) (pin_outer i) ⟨i, s, hi, rfl⟩
    exact ⟨g1, g2.trans (inB_at e hi)⟩
  have hext : Ext L e w L' (e'.on e.sl e.bx) w' := hx.ext rfl rfl (fun s hs => ⟨hs, rfl⟩)
  have hfo : ∀ t u, toOut ss t = some u → e'.sl t → e.sl u ∧ e.bx u = e'.bx t := fun t u ht _ => by
    obtain ⟨i, g1, rfl⟩ := toOut_some ht
    exact ⟨hsl u (List.mem_of_getElem? g1), (hat i u g1).2.symm⟩
  have hframe : ∀ s, e.sl s → s ∉ ss → ¬ Win e W ss (e.bx s) := fun s hs hn hw => hw.2 s hs hn rfl
  refine ⟨⟨fun s => ?_, fun s cs hs => ?_, hr1.na, hr1.ver, fun id a ha hk => ?_, hr1.nm, hr1.mp, fun s hs => ?_, fun id hi hk => ?_, fun id hi => ?_, hr.dbx, fun s id hs hi hk => ?_, hr1.daa, hr1.dmm, hr1.lsz, fun g hg => ?_⟩, hext, ?_, fun t b hb => ?_⟩
  · show e.sl s ↔ (look1 s (bxSets bs h.bx)).isSome = true
    by_cases hm : s ∈ ss
    · obtain ⟨i, hi⟩ := List.mem_iff_getElem?.1 hm
      obtain ⟨cs, l, _, _, _, g4⟩ := o1 i s hi
      rw [g4]
      exact ⟨fun _ => rfl, fun _ => hsl s hm⟩
    · rw [o2 s hm]
      exact hr.sl s
  · change look1 s (bxSets bs h.bx) = some cs at hs
    show Block w' (e.bx s) cs.length ∧ BoxAt N L' (e'.on e.sl e.bx) w' (e.bx s) cs
    by_cases hm : s ∈ ss
    · obtain ⟨i, hi⟩ := List.mem_iff_getElem?.1 hm
      obtain ⟨cs0, l, g1, g2, g3, g4⟩ := o1 i s hi
      rw [g4] at hs
      cases hs
      obtain ⟨k1, k2⟩ := hr1.bx (outer + i) cs0 g1
      rw [(hat i s hi).2] at k1 k2
      refine ⟨by rw [mapO_len g2]; exact k1, fun j c hj => ?_⟩
      obtain ⟨x, p1, p2⟩ := mapO_get g2 j c hj
      obtain ⟨_, v, q2, q3⟩ := k2 j x p1
      exact ⟨List.all_eq_true.1 g3 c (List.mem_of_getElem? hj), v, q2, q3.renC p2 hfo⟩
    · rw [o2 s hm] at hs
      obtain ⟨k1, k2⟩ := hr.bx s cs hs
      have hse := (hr.sl s).2 (by rw [hs]; rfl)
      have hsame := hf.kept (e.bx s) k1.lt (hframe s hse hm)
      exact ⟨k1.same hsame, k2.mono hext hsame⟩
  · obtain ⟨g1, g2, g3, g4, g5⟩ := hr1.ar id a ha hk
    exact ⟨g1, g2, g3, fun i r hi => (g4 i r hi).on _ _, g5⟩
  · refine ⟨(hr.wbx s hs).1, fun t ht => ?_⟩
    by_cases hm : s ∈ ss
    · obtain ⟨i, hi⟩ := List.mem_iff_getElem?.1 hm
      obtain ⟨g1, g2⟩ := hat i s hi
      exact (hr1.wbx (outer + i) g1).2 t (by rw [g2]; exact ht)
    · rcases hnew t _ ht with h2 | ⟨_, h2⟩
      · exact (hr.wbx s hs).2 t h2
      · exact hframe s hs hm h2
  · exact ⟨(hr1.war id hi hk).1.1, (hr1.war id hi hk).2⟩
  · exact ⟨(hr1.wmp id hi).1.1, (hr1.wmp id hi).2⟩
  · show e.bx s ≠ e'.ar id
    by_cases hm : s ∈ ss
    · obtain ⟨i, hi'⟩ := List.mem_iff_getElem?.1 hm
      obtain ⟨g1, g2⟩ := hat i s hi'
      rw [← g2]
      exact hr1.dba (outer + i) id g1 hi hk
    · exact (hr1.war id hi hk).1.2 s hs hm
  · exact hr.wide g (Nat.le_trans hf.size hg)
  · exact ⟨hf.os, hf.tape, hf.output, hf.size, fun b hb hw => hf.kept b hb (fun hc => hw hc.1), hf.drawn⟩
  · rcases hnew t b hb with h2 | ⟨h2, h3⟩
    · exact .inl h2
    · exact .inr ⟨h2, h3.1⟩

theorem get_entryV : ∀ (vs : List V) (n t : Nat), get (entryV n vs) t = if n ≤ t then (vs[t - n]?).getD .any else .any
  | [], n, t => by simp [entryV, get, look1]
  | p :: r, n, t => by
    have ih := get_entryV r (n + 1) t
    simp only [entryV, get, look1] at ih ⊢
    by_cases hn : n = t
    · subst hn; simp
    · rw [if_neg hn, ih]
      by_cases hlt : n ≤ t
      · rw [if_pos (show n + 1 ≤ t by omega), if_pos hlt, show t - n = (t - (n + 1)) + 1 by omega]
        simp
      · rw [if_neg (by omega), if_neg hlt]

theorem endInl_spec {fn : AFunc} {ss : List Nat} {s : St} {v : V} {tn : Tn} (hh : endInl fn ss s = some (v, tn)) : ∃ rs ws bs, mapO (resultOf s) fn.results = some rs ∧ mapO (renV (toOut ss)) rs = some ws ∧ outBx (toOut ss) s.h.bx outer ss = some bs ∧ v = tuple1 ws ∧ tn = { all := some (bs, s.h.ar, s.h.mp) } := by
  unfold endInl at hh
  split at hh <;> first | (cases hh; done) | skip
  rename_i rs h1
  split at hh <;> first | (cases hh; done) | skip
  rename_i ws bs h2 h3
  cases hh
  exact ⟨rs, ws, bs, h1, h2, h3, rfl, rfl⟩

theorem runInl_spec {E : AC → St → Option (Ex × St)} {fn : AFunc} {vs : List V} {h : Heap} {r : V × Tn} (hh : runInl E fn vs h = some r) : ∃ ss us bx ex s, ss = comeAt h.bx 2 (addSlots [] (vs.flatMap slotsOf)) ∧ ss.Nodup ∧ vs.length = fn.nargs ∧ mapO (renV (toIn ss)) vs = some us ∧ inBx (toIn ss) h.bx outer ss = some bx ∧
    E fn.body ⟨entryV 0 us, ⟨bx, h.ar, h.mp⟩⟩ = some (ex, s) ∧ (ex = .normal ∨ ex = .ret) ∧ endInl fn ss s = some r := by
  unfold runInl at hh
  split at hh <;> first | (cases hh; done) | skip
  rename_i hn
  split at hh <;> first | (cases hh; done) | skip
  rename_i us bx h1 h2
  have hnd := comeAt_nodup h.bx 2 (addSlots [] (vs.flatMap slotsOf)) (addSlots_nodup _ [] List.nodup_nil)
  split at hh <;> first | (cases hh; done) | skip
  · rename_i s h3
    exact ⟨_, us, bx, .normal, s, rfl, hnd, hn, h1, h2, h3, .inl rfl, hh⟩
  · rename_i s h3
    exact ⟨_, us, bx, .ret, s, rfl, hnd, hn, h1, h2, h3, .inr rfl, hh⟩

theorem inl_sound {A : Nat → Option AFunc} {n : Nat} (hcode : CodeOk P N M A Pr n) {f : Nat} {fn : AFunc} {an : Ann} (hfn : FnOk P N M (N f) an fn) {vs : List V} {args : Array Value} {v : V} {tn : Tn} (hh : runInl (exec A Pr n) fn vs h = some (v, tn)) (hr : HR N L e W h w)
    (hs : args.size = vs.length) (hv : ∀ (j : Nat) (x : V), vs[j]? = some x → VR N L e w x (args.getD j undef)) :
    CallGood P (N f) args w fun v' w' => ∃ L' e', Nx N W L e w L' e' (tn.apply h) w' ∧ VR N L' e' w' v v' := by
  obtain ⟨ss, us, bx, ex, s', _, hnd, hn, hus, hbx, hex, hex2, hend⟩ := runInl_spec hh
  obtain ⟨rs, ws, bs, hrs, hws, hbs, rfl, rfl⟩ := endInl_spec hend
  obtain ⟨go, code, f1, f2, f3, f4, f5, f6⟩ := hfn
  refine .inr ⟨by simp only [beq_eq_false_iff_ne, ne_eq] at f3; simp [callFunc, f1, f2, f3], ?_⟩
  refine calls_of_wp f1 f2 ?_
  obtain ⟨hri, hsl⟩ := hr.inn hnd hbx
  have hfi : ∀ s t, toIn ss s = some t → e.sl s → inSl ss t ∧ inB e ss t = e.bx s := fun s t ht _ => by
    obtain ⟨i, h1, rfl⟩ := toIn_some ht
    exact ⟨⟨i, s, h1, rfl⟩, inB_at e h1⟩
  have hlen : us.length = vs.length := mapO_len hus
  have hst : FrS N (Win e W ss) go.ntmps L (e.on (inSl ss) (inB e ss)) w ⟨entryV 0 us, ⟨bx, h.ar, h.mp⟩⟩ { tmps := args ++ Array.replicate (go.ntmps - args.size) undef, defers := [] } w := by
    refine ⟨L, _, ⟨hri, fun t => ?_, ?_, rfl⟩, Fr.refl _ _, fun _ _ hb => hb, fun _ _ hb => .inl hb, (Ext.refl _ _ _).x⟩
    · rw [get_entryV]
      simp only [Nat.zero_le, if_true, Nat.sub_zero]
      cases hp : us[t]? with
      | none => exact .any _
      | some u =>
        obtain ⟨x, h1, h2⟩ := mapO_get hus t u hp
        have hlt : t < args.size := by rw [hs]; exact (List.getElem?_eq_some_iff.1 h1).1
        have : (args ++ Array.replicate (go.ntmps - args.size) undef).getD t undef = args.getD t undef := by
          apply arr_getD_toList
          rw [Array.toList_append, List.getElem?_append_left (by simpa using hlt), Array.getElem?_toList]
          exact getD_of_getElem? hlt
        rw [this]
        exact (hv t x h1).renV h2 hfi
    · simp
      omega
  have key : ∀ a1 w1, FrS N (Win e W ss) go.ntmps L (e.on (inSl ss) (inB e ss)) w s' a1 w1 → a1.defers = [] ∧ ∃ v', (results go a1.tmps).run P w1 = .ok v' w1 ∧ ∃ L' e', Nx N W L e w L' e' (Tn.apply { all := some (bs, s'.h.ar, s'.h.mp) } h) w1 ∧ VR N L' e' w1 (tuple1 ws) v' := by
    rintro a1 w1 ⟨L1, e1, hsr, hf, _, hnew, hx⟩
    obtain ⟨vals, r1, r2, r3⟩ := results_run hsr f6 hrs
    refine ⟨hsr.defers, _, r1, L1, e1.on e.sl e.bx, Nx.out hr hnd hsl hsr.hr hx hf hnew hbs, ?_⟩
    refine tuple_rel (by rw [r2, mapO_len hws]) (fun j x hj => ?_)
    obtain ⟨y, h1, h2⟩ := mapO_get hws j x hj
    obtain ⟨u, h3, h4⟩ := r3 j y h1
    refine ⟨u, h3, h4.renV h2 fun t q ht _ => ?_⟩
    obtain ⟨i, g1, rfl⟩ := toOut_some ht
    obtain ⟨_, k2⟩ := hx.sl (outer + i) (pin_outer i) ⟨i, q, g1, rfl⟩
    exact ⟨hsl q (List.mem_of_getElem? g1), (k2.trans (inB_at e g1)).symm⟩
  refine wp_mono (hcode go.ntmps code an fn.body [] f5 _ L _ w _ ex s' _ w hex hst) fun xx a1 w1 hq => ?_
  obtain ⟨rfl, hs1⟩ := hq
  obtain ⟨k1, v', k2, k3⟩ := key a1 w1 hs1
  rcases hex2 with rfl | rfl
  · exact ⟨k1, v', k2, k3⟩
  · exact ⟨k1, v', k2, k3⟩


theorem inBx_heq {f : Nat → Option Nat} {b1 b2 : List (Nat × List V)} (hb : ∀ s, look1 s b1 = look1 s b2) : ∀ (ss : List Nat) (n : Nat), inBx f b1 n ss = inBx f b2 n ss
  | [], _ => rfl
  | s :: r, n => by simp only [inBx, hb s, inBx_heq hb r (n + 1)]
theorem comeAt_heq {b1 b2 : List (Nat × List V)} (hb : ∀ s, look1 s b1 = look1 s b2) : ∀ (n : Nat) (l : List Nat), comeAt b1 n l = comeAt b2 n l
  | 0, _ => rfl
  | n + 1, l => by
    have : slotsIn b1 = slotsIn b2 := funext fun s => by simp only [slotsIn, hb s]
    simp only [comeAt, this]
    exact comeAt_heq hb n _
theorem runInl_heq {E : AC → St → Option (Ex × St)} {fn : AFunc} {vs : List V} {h1 h2 : Heap} (k : Heq h1 h2) : runInl E fn vs h1 = runInl E fn vs h2 := by
  unfold runInl
  rw [comeAt_heq k.bx, inBx_heq k.bx, k.ar, k.mp]
theorem runInl_all {E : AC → St → Option (Ex × St)} {fn : AFunc} {vs : List V} {h : Heap} {v : V} {t : Tn} (hh : runInl E fn vs h = some (v, t)) : ∃ x, t = { all := some x } := by
  obtain ⟨ss, us, bx, ex, s', _, _, _, _, _, _, _, hend⟩ := runInl_spec hh
  obtain ⟨rs, ws, bs, _, _, _, _, rfl⟩ := endInl_spec hend
  exact ⟨_, rfl⟩

theorem withInl_law (A : Nat → Option AFunc) (E : AC → St → Option (Ex × St)) (hPL : PrimLaw Pr) : PrimLaw (withInl A E Pr) := by
  have two : ∀ fn pr, withInl A E Pr fn = some pr → Pr fn = some pr ∨ ∃ g, pr = runInl E g := by
    intro fn pr hf
    unfold withInl at hf
    split at hf
    · split at hf
      · cases hf
        exact .inr ⟨_, rfl⟩
      · exact .inl hf
    · exact .inl hf
  refine ⟨fun fn pr hf vs h1 h2 v t he ha => ?_, fun fn pr hf vs h v t he => ?_, fun fn pr hf vs h v t he => ?_⟩
  · rcases two fn pr hf with h | ⟨g, rfl⟩
    · exact hPL.loc fn pr h vs h1 h2 v t he ha
    · obtain ⟨x, rfl⟩ := runInl_all he
      rw [← runInl_heq (ha.whole rfl)]
      exact he
  · rcases two fn pr hf with h' | ⟨g, rfl⟩
    · exact hPL.fit fn pr h' vs h v t he
    · obtain ⟨x, rfl⟩ := runInl_all he
      exact ⟨fun hp => absurd rfl hp, fun i a hia => by cases hia⟩
  · rcases two fn pr hf with h' | ⟨g, rfl⟩
    · exact hPL.old fn pr h' vs h v t he
    · obtain ⟨x, rfl⟩ := runInl_all he
      rfl

theorem withInl_ok {A : Nat → Option AFunc} {n : Nat} (hPr : PrimOk P N Pr) (hcode : CodeOk P N M A Pr n) (hA : ∀ f fn, A f = some fn → ∃ an, FnOk P N M (N f) an fn) : PrimOk P N (withInl A (exec A Pr n) Pr) := by
  intro f pr hf L e W h w vs args v tn he hr hs hv
  unfold withInl at hf
  split at hf
  · rename_i fn hfn
    split at hf
    · cases hf
      obtain ⟨an, hok⟩ := hA f fn hfn
      exact inl_sound hcode hok he hr hs hv
    · exact hPr f pr hf L e W h w vs args v tn he hr hs hv
  · exact hPr f pr hf L e W h w vs args v tn he hr hs hv

end Go.Pv

/-
  The interpreter is sound: whatever it says of a function, the program's function does.
-/
namespace Go.Pv
variable {P : Program} {N M : Nat → Nat} {W : Nat → Prop} {L L' : Lx} {e e' : Emb} {h : Heap} {w w' : World} {Pr : Prims}

theorem agg_cells {cs : List V} {v : Value} (hv : VR N L e w (.agg cs) v) : ∃ arr : Array Value, v = .agg arr ∧ arr.toList.length = cs.length ∧ ∀ (j : Nat) (x : V), cs[j]? = some x → ∃ u, arr.toList[j]? = some u ∧ VR N L e w x u := by
  cases hv with
  | agg _ arr hs hvv =>
    refine ⟨arr, rfl, by simpa using hs, fun j x hj => ?_⟩
    have hlt : j < arr.size := by rw [hs]; exact (List.getElem?_eq_some_iff.1 hj).1
    exact ⟨arr.getD j undef, by rw [Array.getElem?_toList]; exact getD_of_getElem? hlt, hvv j x hj⟩

theorem keep_ptr (hr : HR N L e W h w) (hL : ∀ b, L 0 b → L' 0 b) (hown : ∀ id, id < e.na → e.ak id ≠ 0 → L' 0 (e.ar id)) (hbox : ∀ s, e.sl s → L' 0 (e.bx s)) {slot off : Nat} {cs : List V} {l : List PV} (hs : look1 slot h.bx = some cs) (hm : mapO (keepc h 4) (cs.drop off) = some l) {v : Value} (hv : VR N L e w (.ptr slot off) v) : CR N L' w (.ro 0 l) v [] := by
  cases hv with
  | ptr _ _ hsl =>
    have hcell : ∀ (j : Nat) (c : PV), l[j]? = some c → c.perm = true ∧ ∃ v, w.cell? ⟨e.bx slot, off + j, none⟩ = some v ∧ PVR N L' w c v := by
      intro j c hj
      obtain ⟨x, k1, k2⟩ := mapO_get hm j c hj
      rw [List.getElem?_drop] at k1
      obtain ⟨_, v, k3, k4⟩ := (hr.bx slot cs hs).2 (off + j) x k1
      obtain ⟨i1, i2⟩ := keepc_sound hr hL 4 x c v k2 k4 (fun _ => hown)
      exact ⟨i2, v, k3, i1⟩
    refine .ro l _ (fun c hc => ?_) (.ro 0 l (e.bx slot) off (fun j => (w.cell? ⟨e.bx slot, off + j, none⟩).getD undef) (fun _ => .inl (hbox slot hsl)) (fun j c hj => ?_) (fun j c hj => ?_) (fun c hc => ?_))
    · obtain ⟨j, hj⟩ := List.mem_iff_getElem?.1 hc
      exact (hcell j c hj).1
    · obtain ⟨_, v, k1, _⟩ := hcell j c hj
      simp [k1]
    · obtain ⟨_, v, k1, k2⟩ := hcell j c hj
      simp only [k1, Option.getD_some]
      exact k2
    · obtain ⟨j, hj⟩ := List.mem_iff_getElem?.1 hc
      exact PV.perm_one (hcell j c hj).1

theorem fresh_val (hr : HR N L e W h w) (hL : ∀ b, L 0 b → L' 0 b) {x : V} {p : PV} {v : Value} (hno : ∀ b ∈ blocksOf e x.cells, ∀ t, ¬ L' t b) (hk : keep h true x = some p) (hv : VR N L e w x v) :
    RR N L' w p v (blocksOf e x.cells) ∧ ∀ id ∈ x.cells.filterMap ownId, id < e.na ∧ e.ak id ≠ 0 := by
  cases x with
  | agg cs =>
    simp only [keep, if_true] at hk
    cases hm : mapO (freshc h) cs with
    | none => simp [hm] at hk
    | some l =>
      simp [hm] at hk
      subst hk
      obtain ⟨arr, rfl, h1, h2⟩ := agg_cells hv
      obtain ⟨k1, k2⟩ := fresh_cells hr hL cs l arr.toList hno hm h1 h2
      exact ⟨.agg l arr _ k1, k2⟩
  | pv q =>
    cases q with
    | ro t cs =>
      simp only [keep] at hk
      rw [if_neg (fun hh => by cases hh.1)] at hk
      cases hk
    | _ =>
      simp only [keep, if_true] at hk
      obtain ⟨k1, k2⟩ := freshc_cell hr hL hno hk hv
      refine ⟨.cell _ _ _ k1, fun id hid => ?_⟩
      obtain ⟨y, hy1, hy2⟩ := List.mem_filterMap.1 hid
      simp [V.cells] at hy1
      subst hy1
      exact k2 id hy2
  | _ =>
    simp only [keep, if_true] at hk
    obtain ⟨k1, k2⟩ := freshc_cell hr hL hno hk hv
    refine ⟨.cell _ _ _ k1, fun id hid => ?_⟩
    obtain ⟨y, hy1, hy2⟩ := List.mem_filterMap.1 hid
    simp [V.cells] at hy1
    subst hy1
    exact k2 id hy2

theorem keep_val (hr : HR N L e W h w) (hL : ∀ b, L 0 b → L' 0 b) (hown : ∀ id, id < e.na → e.ak id ≠ 0 → L' 0 (e.ar id)) (hbox : ∀ s, e.sl s → L' 0 (e.bx s)) {x : V} {p : PV} {v : Value} (hk : keep h false x = some p) (hv : VR N L e w x v) : RR N L' w p v [] := by
  cases x with
  | agg cs =>
    simp only [keep, Bool.false_eq_true, if_false] at hk
    cases hm : mapO (keepc h 4) cs with
    | none => simp [hm] at hk
    | some l =>
      simp [hm] at hk
      subst hk
      obtain ⟨arr, rfl, h1, h2⟩ := agg_cells hv
      exact .agg l arr _ (keep_cells hr hL hown cs l arr.toList hm h1 h2)
  | ptr slot off =>
    simp only [keep, Bool.false_eq_true, if_false] at hk
    cases hs : look1 slot h.bx with
    | none => simp [hs] at hk
    | some cs =>
      simp only [hs] at hk
      cases hm : mapO (keepc h 4) (cs.drop off) with
      | none => simp [hm] at hk
      | some l =>
        simp only [hm] at hk
        cases hk
        exact .cell _ _ _ (keep_ptr hr hL hown hbox hs hm hv)
  | pv q =>
    cases q with
    | ro t cs =>
      simp only [keep] at hk
      split at hk <;> first | (cases hk; done) | skip
      rename_i hc
      obtain ⟨_, rfl, hp⟩ := hc
      cases hk
      have hp : ∀ c ∈ cs, c.perm = true := fun c hc => List.all_eq_true.1 hp c hc
      cases hv with
      | pv _ _ hq => exact .cell _ _ _ (.ro cs _ hp (PVR.ro0 hp hq fun b hb => ⟨hL b hb, rfl⟩))
    | _ =>
      simp only [keep, Bool.false_eq_true, if_false] at hk
      exact .cell _ _ _ (keepc_cell hr hL hown hk hv)
  | _ =>
    simp only [keep, Bool.false_eq_true, if_false] at hk
    exact .cell _ _ _ (keepc_cell hr hL hown hk hv)

theorem fresh_vals (hr : HR N L e W h w) (hL : ∀ b, L 0 b → L' 0 b) : ∀ (xs : List V) (rs : List PV) (vals : List Value), (∀ b ∈ (ownIds xs).map e.ar, ∀ t, ¬ L' t b) → mapO (keep h true) xs = some rs → vals.length = xs.length → (∀ (j : Nat) (x : V), xs[j]? = some x → ∃ u, vals[j]? = some u ∧ VR N L e w x u) →
    RRs N L' w rs vals ((ownIds xs).map e.ar) ∧ ∀ id ∈ ownIds xs, id < e.na ∧ e.ak id ≠ 0
  | [], rs, vals, _, hm, hl, _ => by
    simp [mapO] at hm
    subst hm
    have : vals = [] := List.eq_nil_of_length_eq_zero (by simpa using hl)
    subst this
    exact ⟨.nil, by simp [ownIds]⟩
  | x :: xs, rs, vals, hno, hm, hl, hv => by
    simp only [mapO] at hm
    split at hm <;> first | (cases hm; done) | skip
    rename_i p pr hp hpr
    injection hm with hm
    subst hm
    match vals, hl with
    | v :: vals, hl =>
      obtain ⟨u, h1, h2⟩ := hv 0 x rfl
      simp at h1
      subst h1
      have hsplit : (ownIds (x :: xs)).map e.ar = blocksOf e x.cells ++ (ownIds xs).map e.ar := by simp [ownIds, blocksOf]
      rw [hsplit] at hno ⊢
      obtain ⟨c1, c2⟩ := fresh_val hr hL (fun b hb => hno b (List.mem_append_left _ hb)) hp h2
      obtain ⟨d1, d2⟩ := fresh_vals hr hL xs pr vals (fun b hb => hno b (List.mem_append_right _ hb)) hpr (by simpa using hl) (fun j y hj => by simpa using hv (j + 1) y (by simpa using hj))
      refine ⟨.cons _ _ _ _ _ _ c1 d1, fun id hid => ?_⟩
      simp only [ownIds, List.mem_append] at hid
      rcases hid with hid | hid
      · exact c2 id hid
      · exact d2 id hid

theorem keep_vals (hr : HR N L e W h w) (hL : ∀ b, L 0 b → L' 0 b) (hown : ∀ id, id < e.na → e.ak id ≠ 0 → L' 0 (e.ar id)) (hbox : ∀ s, e.sl s → L' 0 (e.bx s)) : ∀ (xs : List V) (rs : List PV) (vals : List Value), mapO (keep h false) xs = some rs → vals.length = xs.length → (∀ (j : Nat) (x : V), xs[j]? = some x → ∃ u, vals[j]? = some u ∧ VR N L e w x u) → RRs N L' w rs vals []
  | [], rs, vals, hm, hl, _ => by
    simp [mapO] at hm
    subst hm
    have : vals = [] := List.eq_nil_of_length_eq_zero (by simpa using hl)
    subst this
    exact .nil
  | x :: xs, rs, vals, hm, hl, hv => by
    simp only [mapO] at hm
    split at hm <;> first | (cases hm; done) | skip
    rename_i p pr hp hpr
    injection hm with hm
    subst hm
    match vals, hl with
    | v :: vals, hl =>
      obtain ⟨u, h1, h2⟩ := hv 0 x rfl
      simp at h1
      subst h1
      exact RRs.cons _ _ [] _ _ [] (keep_val hr hL hown hbox hp h2) (keep_vals hr hL hown hbox xs pr vals hpr (by simpa using hl) (fun j y hj => by simpa using hv (j + 1) y (by simpa using hj)))

theorem distinct_nodup : ∀ {l : List Nat}, distinct l = true → l.Nodup
  | [], _ => List.nodup_nil
  | x :: r, hd => by
    simp only [distinct, Bool.and_eq_true, Bool.not_eq_true'] at hd
    refine List.nodup_cons.2 ⟨fun hx => ?_, distinct_nodup hd.2⟩
    have := List.contains_iff_mem.2 hx
    rw [hd.1] at this
    cases this

theorem nodup_map {f : Nat → Nat} : ∀ {l : List Nat}, l.Nodup → (∀ a ∈ l, ∀ b ∈ l, f a = f b → a = b) → (l.map f).Nodup
  | [], _, _ => List.nodup_nil
  | x :: r, hn, hf => by
    obtain ⟨h1, h2⟩ := List.nodup_cons.1 hn
    rw [List.map_cons]
    refine List.nodup_cons.2 ⟨fun hx => ?_, nodup_map h2 (fun a ha b hb => hf a (by simp [ha]) b (by simp [hb]))⟩
    obtain ⟨y, hy1, hy2⟩ := List.mem_map.1 hx
    have := hf y (by simp [hy1]) x (by simp) hy2
    subst this
    exact h1 hy1

theorem own_ids (hr : HR N L e W h w) : ∀ {xs : List V} {rs : List PV}, mapO (keep h true) xs = some rs → ∀ id ∈ ownIds xs, id < e.na ∧ e.ak id ≠ 0 := by
  have hc : ∀ {x : V} {p : PV}, freshc h x = some p → ∀ id, ownId x = some id → id < e.na ∧ e.ak id ≠ 0 := by
    intro x p hk id hid
    cases x with
    | own id' ver off len =>
      simp [ownId] at hid
      subst hid
      cases off with
      | succ off => simp [freshc] at hk
      | zero =>
        simp only [freshc] at hk
        cases ho : ownArr h id' ver with
        | none => simp [ho] at hk
        | some a =>
          simp only [ho] at hk
          split at hk <;> first | (cases hk; done) | skip
          split at hk <;> first | (cases hk; done) | skip
          rename_i hk0
          obtain ⟨ho1, _⟩ := ownArr_spec ho
          exact ⟨by rw [hr.na]; exact (List.getElem?_eq_some_iff.1 ho1).1, by rw [(hr.ver id' a ho1).2.1]; exact hk0⟩
    | _ => simp [ownId] at hid
  intro xs
  induction xs with
  | nil => intro rs _ id hid; simp [ownIds] at hid
  | cons x xs ih =>
    intro rs hm id hid
    simp only [mapO] at hm
    split at hm <;> first | (cases hm; done) | skip
    rename_i p pr hp hpr
    simp only [ownIds, List.mem_append] at hid
    rcases hid with hid | hid
    · obtain ⟨y, hy1, hy2⟩ := List.mem_filterMap.1 hid
      cases x with
      | agg cs =>
        simp only [keep, if_true] at hp
        cases hmm : mapO (freshc h) cs with
        | none => simp [hmm] at hp
        | some l =>
          obtain ⟨j, hj⟩ := List.mem_iff_getElem?.1 (show y ∈ cs from hy1)
          obtain ⟨q, _, hq⟩ := mapO_fwd hmm j y hj
          exact hc hq id hy2
      | ptr s o => simp [keep] at hp
      | pv q =>
        simp [V.cells] at hy1
        subst hy1
        simp [ownId] at hy2
      | _ =>
        simp only [keep, if_true] at hp
        simp [V.cells] at hy1
        subst hy1
        exact hc hp id hy2
    · exact ih hpr id hid

theorem leave_sound {T : Option Nat} {nt : Nat} {L0 : Lx} {e0 : Emb} {w0 : World} {s : St} {a : Act} {fn : AFunc} {go : Func} (hs : FrS N (Wc w0 T) nt L0 e0 w0 s a w) (hrv : mapO (trRes P) go.results.toList = some fn.results) {rs : List PV} (hl : leave fn s = some rs) :
    ∃ v, (results go a.tmps).run P w = .ok v w ∧ After N L0 w0 T rs v w := by
  obtain ⟨L, e, hsr, hf, h1, h2, _⟩ := hs
  unfold leave at hl
  split at hl <;> first | (cases hl; done) | skip
  rename_i xs hxs
  split at hl <;> first | (cases hl; done) | skip
  rename_i hcond
  obtain ⟨vals, r1, r2, r3⟩ := results_run hsr hrv hxs
  refine ⟨tupleV vals, r1, ?_⟩
  have hr := hsr.hr
  cases hfr : fn.fresh with
  | false =>
    rw [hfr] at hl
    let L1 : Lx := fun t b => L t b ∨ (t = 0 ∧ Wc w0 T b ∧ b < w.heap.size)
    refine ⟨L1, [], vals, hf, fun t b hb => .inl (h1 t b hb), fun t b hb => ?_, fun t b hb => ?_, ?_, List.nodup_nil, by simp, rfl⟩
    · rcases hb with hb | ⟨h3, h4, _⟩
      · exact h2 t b hb
      · exact .inr ⟨h3, h4⟩
    · rcases hb with hb | ⟨_, _, h5⟩
      · exact hr.lsz t b hb
      · exact h5
    · exact keep_vals (L' := L1) hr (fun b hb => .inl hb) (fun id hi hk => .inr ⟨rfl, (hr.war id hi hk).1, hr.lt_ar hi hk⟩) (fun s hs => .inr ⟨rfl, (hr.wbx s hs).1, hr.lt_bx hs⟩) xs rs vals hl r2 r3
  | true =>
    rw [hfr] at hl hcond
    simp only [Bool.not_true, Bool.false_or] at hcond
    let bs : List Nat := (ownIds xs).map e.ar
    let L1 : Lx := fun t b => (L t b ∨ (t = 0 ∧ Wc w0 T b ∧ b < w.heap.size)) ∧ b ∉ bs
    -- the blocks of what is given away are no one's
    have hids : ∀ id ∈ ownIds xs, id < e.na ∧ e.ak id ≠ 0 := own_ids hr hl
    have hfree : ∀ b ∈ bs, Wc w0 T b ∧ ∀ t, ¬ L t b := fun b hb => by
      obtain ⟨id, hid, rfl⟩ := List.mem_map.1 hb
      exact ⟨(hr.war id (hids id hid).1 (hids id hid).2).1, (hr.war id (hids id hid).1 (hids id hid).2).2⟩
    refine ⟨L1, bs, vals, hf, fun t b hb => ⟨.inl (h1 t b hb), fun hbb => (hfree b hbb).2 t (h1 t b hb)⟩, fun t b hb => ?_, fun t b hb => ?_, ?_, ?_, fun b hb => (hfree b hb).1, rfl⟩
    · rcases hb.1 with hb | ⟨h3, h4, _⟩
      · exact h2 t b hb
      · exact .inr ⟨h3, h4⟩
    · rcases hb.1 with hb | ⟨_, _, h5⟩
      · exact hr.lsz t b hb
      · exact h5
    · exact (fresh_vals (L' := L1) hr (fun b hb => ⟨.inl hb, fun hbb => (hfree b hbb).2 0 hb⟩) xs rs vals (fun b hb t ht => ht.2 hb) hl r2 r3).1
    · exact nodup_map (distinct_nodup hcond) (fun i hi j hj heq => hr.daa i j (hids i hi).1 (hids j hj).1 (hids i hi).2 (hids j hj).2 heq)

theorem fn_sound {A : Nat → Option AFunc} {n : Nat} (hcode : CodeOk P N M A Pr n) (hA : ∀ f fn, A f = some fn → ∃ an, FnOk P N M (N f) an fn) : FnsOk P N A Pr n := by
  intro f ps rs hcall
  unfold callBy at hcall
  split at hcall <;> first | (cases hcall; done) | skip
  rename_i fn hfn
  obtain ⟨an, go, code, f1, f2, f3, f4, f5, f6⟩ := hA f fn hfn
  unfold runFn at hcall
  split at hcall <;> first | (cases hcall; done) | skip
  rename_i hargs
  intro L w T args hlsz har
  refine .inr ⟨by simp only [beq_eq_false_iff_ne, ne_eq] at f3; simp [callFunc, f1, f2, f3], ?_⟩
  refine calls_of_wp f1 f2 ?_
  obtain ⟨e, e1, e2⟩ := entry_rel hlsz har
  have hlen : args.size = ps.length := by
    have : args.toList.length = ps.length := by
      generalize args.toList = al at har
      cases har with
      | plain _ _ hl _ => exact hl
      | take _ _ _ _ _ _ _ hl _ => simp [hl]
    simpa using this
  have hst : FrS N (Wc w T) go.ntmps L e w ⟨entry 0 ps, entryHeap ps⟩ { tmps := args ++ Array.replicate (go.ntmps - args.size) undef, defers := [] } w := by
    refine ⟨L, e, ⟨e1, fun t => ?_, ?_, rfl⟩, Fr.refl _ _, fun _ _ hb => hb, fun _ _ hb => .inl hb, (Ext.refl _ _ _).x⟩
    · rw [get_entry]
      simp only [Nat.zero_le, if_true, Nat.sub_zero]
      cases hp : ps[t]? with
      | none => exact .any _
      | some p =>
        obtain ⟨v, h1, h2⟩ := e2 t p hp
        have hlt : t < args.size := by rw [hlen]; exact (List.getElem?_eq_some_iff.1 hp).1
        have : (args ++ Array.replicate (go.ntmps - args.size) undef).getD t undef = v := by
          apply arr_getD_toList
          rw [Array.toList_append, List.getElem?_append_left (by simpa using hlt)]
          exact h1
        show VR N L e w (V.ofArg p) _
        rw [this]
        exact h2
    · simp
      omega
  split at hcall <;> first | (cases hcall; done) | skip
  · rename_i s' hex
    refine wp_mono (hcode go.ntmps code an fn.body [] f5 (Wc w T) L e w _ _ s' _ w hex hst) fun xx a1 w1 hq => ?_
    obtain ⟨rfl, hs1⟩ := hq
    obtain ⟨v, r1, r2⟩ := leave_sound hs1 f6 hcall
    exact ⟨hs1.choose_spec.choose_spec.1.defers, v, r1, r2⟩
  · rename_i s' hex
    refine wp_mono (hcode go.ntmps code an fn.body [] f5 (Wc w T) L e w _ _ s' _ w hex hst) fun xx a1 w1 hq => ?_
    obtain ⟨rfl, hs1⟩ := hq
    obtain ⟨v, r1, r2⟩ := leave_sound hs1 f6 hcall
    exact ⟨hs1.choose_spec.choose_spec.1.defers, v, r1, r2⟩

theorem sound (hm : P.follows .mixedOrders = true) (hPL : PrimLaw Pr) (hPr : PrimOk P N Pr) {A : Nat → Option AFunc} (hA : ∀ f fn, A f = some fn → ∃ an, FnOk P N M (N f) an fn) : ∀ n, (∀ j, j ≤ n → CodeOk P N M A Pr j) ∧ FnsOk P N A Pr n := by
  have zero : CodeOk P N M A Pr 0 := fun nt code an ac an' _ W L0 e0 w0 s ex s' a w he _ => by simp [exec] at he
  intro n
  induction n with
  | zero =>
    have hall : ∀ j, j ≤ 0 → CodeOk P N M A Pr j := fun j hj => by
      obtain rfl : j = 0 := by omega
      exact zero
    exact ⟨hall, fn_sound zero hA⟩
  | succ n ih =>
    have hstep := code_step hm n (withInl_law A _ hPL) (withInl_ok hPr (ih.1 n (Nat.le_refl _)) hA) ih.1 ih.2
    refine ⟨fun j hj => ?_, fn_sound hstep hA⟩
    rcases Nat.lt_or_ge j (n + 1) with h1 | h1
    · exact ih.1 j (by omega)
    · obtain rfl : j = n + 1 := by omega
      exact hstep

end Go.Pv

/-
  Runs of whatever length: more fuel changes nothing; rules for each kind of code.
-/
namespace Go.Pv
variable {A : Nat → Option AFunc} {Pr : Prims}

def FLe (Φ Φ' : Nat → List PV → Option (List PV)) : Prop := ∀ f ps rs, Φ f ps = some rs → Φ' f ps = some rs
def PLe (Pr Pr' : Prims) : Prop := ∀ f, match Pr f with
  | some pr => ∃ pr', Pr' f = some pr' ∧ ∀ vs h r, pr vs h = some r → pr' vs h = some r
  | none => Pr' f = none
theorem PLe.refl (Pr : Prims) : PLe Pr Pr := fun f => by
  cases h : Pr f with
  | none => rfl
  | some pr => exact ⟨pr, rfl, fun _ _ _ hh => hh⟩

theorem eval_le {Φ Φ' : Nat → List PV → Option (List PV)} {Pr' : Prims} (hle : FLe Φ Φ') (hp : PLe Pr Pr') {Tk : Nat → Bool} {g : Opd → V} {h : Heap} {q : AOp} {r : V × Tn} (he : evalOp Φ Pr Tk g h q = some r) : evalOp Φ' Pr' Tk g h q = some r := by
  cases q with
  | call f args =>
    simp only [evalOp] at he ⊢
    split at he <;> first | (cases he; done) | skip
    rename_i fn cap _
    have hf := hp fn
    split at he
    · rename_i pr hpr
      rw [hpr] at hf
      obtain ⟨pr', h1, h2⟩ := hf
      rw [h1]
      exact h2 _ _ _ he
    · rename_i hpr
      rw [hpr] at hf
      rw [hf]
      split at he <;> first | (cases he; done) | skip
      split at he <;> first | (cases he; done) | skip
      rename_i rs hrs
      rw [hle _ _ _ hrs]
      exact he
  | _ => exact he

theorem step_le {Φ Φ' : Nat → List PV → Option (List PV)} {Pr' : Prims} (hle : FLe Φ Φ') (hp : PLe Pr Pr') {Tk : Nat → Bool} {o : AOper} {s : St} {r : St × Tn} (he : stepOp Φ Pr Tk o s = some r) : stepOp Φ' Pr' Tk o s = some r := by
  unfold stepOp at he ⊢
  split at he
  · cases he
  · exact he
  · split at he <;> first | (cases he; done) | skip
    rename_i v t hev
    rw [eval_le hle hp hev]
    exact he

theorem ops_le {Φ Φ' : Nat → List PV → Option (List PV)} {Pr' : Prims} (hle : FLe Φ Φ') (hp : PLe Pr Pr') {Tk : Nat → Bool} : ∀ {l : List AOper} {s s' : St}, execOps Φ Pr Tk l s = some s' → execOps Φ' Pr' Tk l s = some s'
  | [], s, s', he => he
  | o :: r, s, s', he => by
    simp only [execOps] at he ⊢
    split at he <;> first | (cases he; done) | skip
    rename_i hst
    rw [step_le hle hp hst]
    exact ops_le hle hp he

theorem draw_le {Φ Φ' : Nat → List PV → Option (List PV)} {Pr' : Prims} (hle : FLe Φ Φ') (hp : PLe Pr Pr') {Tk : Nat → Bool} : ∀ {l : List (AOper × List Nat)} {done : List Tn} {s s' : St}, execDraw Φ Pr Tk l done s = some s' → execDraw Φ' Pr' Tk l done s = some s'
  | [], _, s, s', he => he
  | (o, un) :: r, done, s, s', he => by
    simp only [execDraw] at he ⊢
    split at he <;> first | (cases he; done) | skip
    rename_i hst
    rw [step_le hle hp hst]
    simp only
    split at he <;> first | (cases he; done) | skip
    rename_i hh
    rw [if_pos hh]
    exact draw_le hle hp he

def ELe (E E' : AC → St → Option (Ex × St)) : Prop := ∀ c s r, E c s = some r → E' c s = some r

theorem inl_le {E E' : AC → St → Option (Ex × St)} (hle : ELe E E') : PLe (withInl A E Pr) (withInl A E' Pr) := by
  intro f
  unfold withInl
  cases hf : A f with
  | none => exact PLe.refl Pr f
  | some fn =>
    simp only
    by_cases hi : fn.inl = true
    · rw [if_pos hi, if_pos hi]
      refine ⟨_, rfl, fun vs h r he => ?_⟩
      unfold runInl at he ⊢
      split at he <;> first | (cases he; done) | skip
      rename_i hn
      rw [if_pos hn]
      split at he <;> first | (cases he; done) | skip
      split at he <;> first | (cases he; done) | skip
      all_goals
        rename_i hex
        rw [hle _ _ _ hex]
        exact he
    · rw [if_neg hi, if_neg hi]
      exact PLe.refl Pr f

theorem call_le {E E' : AC → St → Option (Ex × St)} (hle : ELe E E') : FLe (callBy A E) (callBy A E') := by
  intro f ps rs he
  unfold callBy at he ⊢
  split at he <;> first | (cases he; done) | skip
  rename_i fn hfn
  unfold runFn at he ⊢
  split at he <;> first | (cases he; done) | skip
  rename_i hc
  rw [if_pos hc]
  split at he <;> first | (cases he; done) | skip
  all_goals
    rename_i hex
    rw [hle _ _ _ hex]
    exact he

theorem layer_le {E E' : AC → St → Option (Ex × St)} (hle : ELe E E') : ELe (layer A Pr E) (layer A Pr E') := by
  intro c s r he
  cases c with
  | skip => exact he
  | exit id => exact he
  | ret => exact he
  | mask kt kb a => exact hle _ _ _ he
  | region ops kt kb =>
    simp only [layer] at he ⊢
    split at he <;> first | (cases he; done) | skip
    rename_i hex
    rw [ops_le (call_le hle) (inl_le hle) hex]
    exact he
  | draw ops kt kb =>
    simp only [layer] at he ⊢
    split at he <;> first | (cases he; done) | skip
    rename_i hex
    rw [draw_le (call_le hle) (inl_le hle) hex]
    exact he
  | drawR n ops kt kb =>
    simp only [layer] at he ⊢
    split at he <;> first | (cases he; done) | skip
    rename_i hex
    rw [draw_le (call_le hle) (inl_le hle) hex]
    exact he
  | cond x a b =>
    simp only [layer] at he ⊢
    split at he <;> first | (cases he; done) | exact hle _ _ _ he
  | seq a b =>
    simp only [layer] at he ⊢
    cases ha : E a s with
    | none => simp [ha] at he
    | some q =>
      obtain ⟨ex, s1⟩ := q
      rw [hle _ _ _ ha]
      rw [ha] at he
      cases ex with
      | normal => exact hle _ _ _ he
      | exit id => exact he
      | ret => exact he
  | block id a =>
    simp only [layer] at he ⊢
    cases ha : E a s with
    | none => simp [ha] at he
    | some q =>
      rw [hle _ _ _ ha]
      rw [ha] at he
      exact he
  | loop a =>
    simp only [layer] at he ⊢
    cases ha : E a s with
    | none => simp [ha] at he
    | some q =>
      obtain ⟨ex, s1⟩ := q
      rw [hle _ _ _ ha]
      rw [ha] at he
      cases ex with
      | normal => exact hle _ _ _ he
      | exit id => exact he
      | ret => exact he

theorem exec_succ (n : Nat) : ELe (exec A Pr n) (exec A Pr (n + 1)) := by
  induction n with
  | zero => intro c s r he; simp [exec] at he
  | succ n ih => exact layer_le ih

theorem exec_le {m n : Nat} (hmn : m ≤ n) : ELe (exec A Pr m) (exec A Pr n) := by
  induction hmn with
  | refl => exact fun _ _ _ h => h
  | step _ ih => exact fun c s r h => exec_succ _ c s r (ih c s r h)

def Runs (A : Nat → Option AFunc) (Pr : Prims) (c : AC) (s : St) (ex : Ex) (s' : St) : Prop := ∃ n, exec A Pr n c s = some (ex, s')

def Gives (A : Nat → Option AFunc) (Pr : Prims) (f : Nat) (ps rs : List PV) : Prop := ∃ n, callBy A (exec A Pr n) f ps = some rs

def RunsOps (A : Nat → Option AFunc) (Pr : Prims) (ops : List AOper) (s s' : St) : Prop := ∃ n, execOps (callBy A (exec A Pr n)) (withInl A (exec A Pr n) Pr) (takes A) ops s = some s'

def RunsDraw (A : Nat → Option AFunc) (Pr : Prims) (ops : List (AOper × List Nat)) (done : List Tn) (s s' : St) : Prop := ∃ n, execDraw (callBy A (exec A Pr n)) (withInl A (exec A Pr n) Pr) (takes A) ops done s = some s'

theorem Runs.skip (s : St) : Runs A Pr .skip s .normal s := ⟨1, rfl⟩
theorem Runs.exit (id : Nat) (s : St) : Runs A Pr (.exit id) s (.exit id) s := ⟨1, rfl⟩
theorem Runs.ret (s : St) : Runs A Pr .ret s .ret s := ⟨1, rfl⟩
theorem Runs.mask {kt kb : List Nat} {a : AC} {s s' : St} {ex : Ex} (h : Runs A Pr a (s.mask kt kb) ex s') : Runs A Pr (.mask kt kb a) s ex s' := by
  obtain ⟨n, hn⟩ := h
  exact ⟨n + 1, hn⟩

theorem Runs.seq {a b : AC} {s s1 s' : St} {ex : Ex} (h1 : Runs A Pr a s .normal s1) (h2 : Runs A Pr b s1 ex s') : Runs A Pr (.seq a b) s ex s' := by
  obtain ⟨n, hn⟩ := h1
  obtain ⟨m, hm⟩ := h2
  refine ⟨max n m + 1, ?_⟩
  show layer A Pr (exec A Pr (max n m)) (.seq a b) s = _
  simp only [layer, exec_le (Nat.le_max_left n m) _ _ _ hn, exec_le (Nat.le_max_right n m) _ _ _ hm]

theorem Runs.seq_out {a b : AC} {s s1 : St} {ex : Ex} (h1 : Runs A Pr a s ex s1) (hx : ex ≠ .normal) : Runs A Pr (.seq a b) s ex s1 := by
  obtain ⟨n, hn⟩ := h1
  refine ⟨n + 1, ?_⟩
  show layer A Pr (exec A Pr n) (.seq a b) s = _
  cases ex <;> simp_all [layer]

theorem Runs.cond {c : Opd} {a b : AC} {s s' : St} {ex : Ex} {t : Bool} (hc : geto s.env c = .pv (.bool t)) (h : Runs A Pr (if t then a else b) s ex s') : Runs A Pr (.cond c a b) s ex s' := by
  obtain ⟨n, hn⟩ := h
  refine ⟨n + 1, ?_⟩
  show layer A Pr (exec A Pr n) (.cond c a b) s = _
  cases t <;> simpa [layer, hc] using hn

theorem Runs.block {id : Nat} {a : AC} {s s' : St} {ex : Ex} (h : Runs A Pr a s ex s') : Runs A Pr (.block id a) s (match ex with | .exit j => if j = id then .normal else .exit j | e => e) s' := by
  obtain ⟨n, hn⟩ := h
  refine ⟨n + 1, ?_⟩
  show layer A Pr (exec A Pr n) (.block id a) s = _
  cases ex with
  | exit j =>
    simp only [layer, hn]
    by_cases hj : j = id <;> simp [hj]
  | _ => simp [layer, hn]

theorem Runs.loop_step {a : AC} {s s1 s' : St} {ex : Ex} (h1 : Runs A Pr a s .normal s1) (h2 : Runs A Pr (.loop a) s1 ex s') : Runs A Pr (.loop a) s ex s' := by
  obtain ⟨n, hn⟩ := h1
  obtain ⟨m, hm⟩ := h2
  refine ⟨max n m + 1, ?_⟩
  show layer A Pr (exec A Pr (max n m)) (.loop a) s = _
  simp only [layer, exec_le (Nat.le_max_left n m) _ _ _ hn, exec_le (Nat.le_max_right n m) _ _ _ hm]

theorem Runs.loop_out {a : AC} {s s' : St} {ex : Ex} (h : Runs A Pr a s ex s') (hx : ex ≠ .normal) : Runs A Pr (.loop a) s ex s' := by
  obtain ⟨n, hn⟩ := h
  refine ⟨n + 1, ?_⟩
  show layer A Pr (exec A Pr n) (.loop a) s = _
  cases ex <;> simp_all [layer]

theorem Runs.rounds {a : AC} (S : Nat → St) {m : Nat} {s' : St} {ex : Ex} (hx : ex ≠ .normal) (hlast : Runs A Pr a (S m) ex s') : ∀ k, k ≤ m → (∀ i, m - k ≤ i → i < m → Runs A Pr a (S i) .normal (S (i + 1))) → Runs A Pr (.loop a) (S (m - k)) ex s'
  | 0, _, _ => by simpa using Runs.loop_out hlast hx
  | k + 1, hk, hr => by
    refine Runs.loop_step (hr (m - (k + 1)) (Nat.le_refl _) (by omega)) ?_
    rw [show m - (k + 1) + 1 = m - k by omega]
    exact Runs.rounds S hx hlast k (by omega) (fun i h1 h2 => hr i (by omega) h2)

theorem Runs.region {ops : List AOper} {kt kb : List Nat} {s s' : St} (h : RunsOps A Pr ops s s') : Runs A Pr (.region ops kt kb) s .normal (s'.mask kt kb) := by
  obtain ⟨n, hn⟩ := h
  exact ⟨n + 1, by show layer A Pr (exec A Pr n) _ _ = _; simp only [layer, hn]⟩

theorem Runs.draw {ops : List (AOper × List Nat)} {kt kb : List Nat} {s s' : St} (h : RunsDraw A Pr ops [] s s') : Runs A Pr (.draw ops kt kb) s .normal (s'.mask kt kb) := by
  obtain ⟨n, hn⟩ := h
  exact ⟨n + 1, by show layer A Pr (exec A Pr n) _ _ = _; simp only [layer, hn]⟩

theorem Gives.of {f : Nat} {fn : AFunc} {ps rs : List PV} {ex : Ex} {s' : St} (hf : A f = some fn) (hl : ps.length = fn.nargs) (ha : argsOk fn.take ps = true) (hr : Runs A Pr fn.body ⟨entry 0 ps, entryHeap ps⟩ ex s') (hx : ex = .normal ∨ ex = .ret) (hv : leave fn s' = some rs) : Gives A Pr f ps rs := by
  obtain ⟨n, hn⟩ := hr
  refine ⟨n, ?_⟩
  simp only [callBy, hf, runFn, hl, ha, and_self, if_true, hn]
  rcases hx with rfl | rfl <;> exact hv

theorem Gives.sound {P : Program} {N M : Nat → Nat} (hm : P.follows .mixedOrders = true) (hPL : PrimLaw Pr) (hPr : PrimOk P N Pr) (hA : ∀ f fn, A f = some fn → ∃ an, FnOk P N M (N f) an fn) {f : Nat} {ps rs : List PV} (h : Gives A Pr f ps rs) : FnR P N f ps rs := by
  obtain ⟨n, hn⟩ := h
  exact (Pv.sound hm hPL hPr hA n).2 f ps rs hn

theorem Runs.drawR {k : Nat} {ops : List (AOper × List Nat)} {kt kb : List Nat} {s s' : St} (h : RunsDraw A Pr (mkAts s.h.ar.length ops) [] ⟨s.env, s.h.room k⟩ s') : Runs A Pr (.drawR k ops kt kb) s .normal (s'.mask kt kb) := by
  obtain ⟨n, hn⟩ := h
  exact ⟨n + 1, by show layer A Pr (exec A Pr n) _ _ = _; simp only [layer, hn]⟩


theorem RunsOps.nil (s : St) : RunsOps A Pr [] s s := ⟨0, rfl⟩

theorem RunsOps.cons {o : AOper} {r : List AOper} {s s1 s' : St} {t : Tn} {n : Nat} (h1 : stepOp (callBy A (exec A Pr n)) (withInl A (exec A Pr n) Pr) (takes A) o s = some (s1, t)) (h2 : RunsOps A Pr r s1 s') : RunsOps A Pr (o :: r) s s' := by
  obtain ⟨m, hm⟩ := h2
  refine ⟨max n m, ?_⟩
  simp only [execOps, step_le (call_le (exec_le (Nat.le_max_left n m))) (inl_le (exec_le (Nat.le_max_left n m))) h1]
  exact ops_le (call_le (exec_le (Nat.le_max_right n m))) (inl_le (exec_le (Nat.le_max_right n m))) hm

theorem RunsDraw.nil (done : List Tn) (s : St) : RunsDraw A Pr [] done s s := ⟨0, rfl⟩

theorem RunsDraw.cons {o : AOper} {un : List Nat} {r : List (AOper × List Nat)} {done : List Tn} {s s1 s' : St} {t : Tn} {n : Nat} (h1 : stepOp (callBy A (exec A Pr n)) (withInl A (exec A Pr n) Pr) (takes A) o s = some (s1, t)) (hh : holdAgainst un t done = true) (h2 : RunsDraw A Pr r (done ++ [t]) s1 s') : RunsDraw A Pr ((o, un) :: r) done s s' := by
  obtain ⟨m, hm⟩ := h2
  refine ⟨max n m, ?_⟩
  simp only [execDraw, step_le (call_le (exec_le (Nat.le_max_left n m))) (inl_le (exec_le (Nat.le_max_left n m))) h1, hh, if_true]
  exact draw_le (call_le (exec_le (Nat.le_max_right n m))) (inl_le (exec_le (Nat.le_max_right n m))) hm

end Go.Pv

/-
  Plain data that a call is given, as the interpreter's values.
-/
namespace Go.Pv
variable {P : Program} {N : Nat → Nat} {w : World}

def froz (w : World) : Lx := fun t b => t = 0 ∧ b < w.heap.size

def plainData (P : Program) : Nat → TypeId → Bool
  | 0, _ => false
  | n + 1, t => match P.underlying t with
    | some .bool => true
    | some (.int _) => true
    | some .string => true
    | some (.slice e) => plainData P n e && decide (0 < P.cellsOf e)
    | some (.struct fs) => offsOk P 0 fs.toList && (fs.toList.all fun f => plainData P n f.type && (sizeT P f.type).isSome) && ((fs.toList.map fun f => P.cellsOf f.type).sum == P.cellsOf t)
    | some (.array m e) => plainData P n e && m * P.cellsOf e == P.cellsOf t
    | _ => false

def typed (P : Program) : Nat → TypeId → List PV → Prop
  | 0, _, _ => False
  | n + 1, t, cs => match P.underlying t with
    | some .bool => ∃ b, cs = [.bool b]
    | some (.int k) => ∃ x, cs = [.int k x] ∧ k.min ≤ x ∧ x ≤ k.max
    | some .string => ∃ s, cs = [.str s] ∧ s.size ≤ maxLen
    | some (.slice e) => ∃ rows, cs = [.lst 0 rows] ∧ rows.length ≤ maxLen ∧ ∀ r ∈ rows, typed P n e r
    | some (.struct fs) => ∃ parts : List (List PV), parts.length = fs.size ∧ cs = parts.flatten ∧ ∀ (i : Nat) (f : Field) (r : List PV), fs[i]? = some f → parts[i]? = some r → typed P n f.type r
    | some (.array m e) => ∃ parts : List (List PV), parts.length = m ∧ cs = parts.flatten ∧ ∀ r ∈ parts, typed P n e r
    | _ => False

def Rel2 (N : Nat → Nat) (w : World) (ps : List PV) (cs : List Value) : Prop := ps.length = cs.length ∧ ∀ (j : Nat) (c : PV) (v : Value), ps[j]? = some c → cs[j]? = some v → PVR N (froz w) w c v ∧ c.perm = true

theorem Rel2.nil : Rel2 N w [] [] := ⟨rfl, fun j c v hj => by simp at hj⟩

theorem Rel2.one {c : PV} {v : Value} (h : PVR N (froz w) w c v) (hp : c.perm = true) : Rel2 N w [c] [v] := by
  refine ⟨rfl, fun j c' v' hj hv => ?_⟩
  match j, hj with
  | 0, hj => simp at hj hv; subst hj; subst hv; exact ⟨h, hp⟩
  | j + 1, hj => simp at hj

theorem Rel2.append {p q : List PV} {a b : List Value} (h : Rel2 N w p a) (k : Rel2 N w q b) : Rel2 N w (p ++ q) (a ++ b) := by
  refine ⟨by simp [h.1, k.1], fun j c v hj hv => ?_⟩
  rcases Nat.lt_or_ge j p.length with h1 | h1
  · rw [List.getElem?_append_left h1] at hj
    rw [List.getElem?_append_left (by rw [← h.1]; exact h1)] at hv
    exact h.2 j c v hj hv
  · rw [List.getElem?_append_right h1] at hj
    rw [List.getElem?_append_right (by rw [← h.1]; exact h1)] at hv
    rw [← h.1] at hv
    exact k.2 _ c v hj hv

theorem size_cells {t : TypeId} (_hs : (sizeT P t).isSome = true) : (sizeT P t).getD 0 = P.cellsOf t := by
  unfold sizeT at _hs ⊢
  unfold Program.cellsOf
  rfl

theorem cells_get {base : Nat} {a : Addr} {n : Nat} {cs : List Value} (hc : w.cells? base a n = some cs) : cs.length = n ∧ ∀ (j : Nat) (v : Value), cs[j]? = some v → w.cell? (a.add j) = some v := by
  unfold World.cells? at hc
  split at hc <;> first | (cases hc; done) | skip
  have gen : ∀ (l : List Nat) (cs : List Value), l.mapM (fun i => w.cell? (a.add i)) = some cs → cs.length = l.length ∧ ∀ (j : Nat) (v : Value) (i : Nat), cs[j]? = some v → l[j]? = some i → w.cell? (a.add i) = some v := by
    intro l
    induction l with
    | nil => intro cs h; simp at h; subst h; exact ⟨rfl, fun j v i hj => by simp at hj⟩
    | cons x l ih =>
      intro cs h
      rw [List.mapM_cons] at h
      simp only [bind, Option.bind_eq_some_iff, pure, Option.some.injEq] at h
      obtain ⟨y, h1, ys, h2, rfl⟩ := h
      obtain ⟨k1, k2⟩ := ih ys h2
      refine ⟨by simp [k1], fun j v i hj hi => ?_⟩
      match j, hj, hi with
      | 0, hj, hi => simp at hj hi; subst hj; subst hi; exact h1
      | j + 1, hj, hi => exact k2 j v i (by simpa using hj) (by simpa using hi)
  obtain ⟨k1, k2⟩ := gen _ _ hc
  refine ⟨by simpa using k1, fun j v hj => k2 j v j hj ?_⟩
  have hlt : j < n := by have := (List.getElem?_eq_some_iff.1 hj).1; rw [k1] at this; simpa using this
  simp [hlt]

theorem add_add (a : Addr) (ha : a.spot = none) (n j : Nat) : (a.add n).add j = ⟨a.block, a.off + (n + j), none⟩ := by
  obtain ⟨b, o, s⟩ := a
  simp only at ha
  subst ha
  rw [addr_add, addr_add, Nat.add_assoc]

theorem mapM_all {α β : Type} {f : α → Option β} : ∀ {l : List α} {r : List β}, l.mapM f = some r → r.length = l.length ∧ ∀ (j : Nat) (x : α), l[j]? = some x → ∃ y, r[j]? = some y ∧ f x = some y
  | [], r, h => by simp at h; subst h; exact ⟨rfl, fun j x hj => by simp at hj⟩
  | a :: l, r, h => by
    rw [List.mapM_cons] at h
    simp only [bind, Option.bind_eq_some_iff, pure, Option.some.injEq] at h
    obtain ⟨y, h1, ys, h2, rfl⟩ := h
    obtain ⟨k1, k2⟩ := mapM_all h2
    refine ⟨by simp [k1], fun j x hj => ?_⟩
    match j, hj with
    | 0, hj => simp at hj; subst hj; exact ⟨y, rfl, h1⟩
    | j + 1, hj => simpa using k2 j x (by simpa using hj)

theorem choose_list {α β : Type} (Q : Nat → α → β → Prop) : ∀ (l : List α), (∀ (j : Nat) (x : α), l[j]? = some x → ∃ y, Q j x y) → ∃ r : List β, r.length = l.length ∧ ∀ (j : Nat) (x : α) (y : β), l[j]? = some x → r[j]? = some y → Q j x y
  | [], _ => ⟨[], rfl, fun j x y hj => by simp at hj⟩
  | a :: l, h => by
    obtain ⟨y, hy⟩ := h 0 a rfl
    obtain ⟨r, h1, h2⟩ := choose_list (fun j => Q (j + 1)) l (fun j x hj => h (j + 1) x (by simpa using hj))
    refine ⟨y :: r, by simp [h1], fun j x z hj hz => ?_⟩
    match j, hj, hz with
    | 0, hj, hz => simp at hj hz; subst hj; subst hz; exact hy
    | j + 1, hj, hz => exact h2 j x z (by simpa using hj) (by simpa using hz)

theorem rel_fields {cs : List Value} : ∀ (fs : List Field) (o : Nat) (parts : List (List PV)), offsOk P o fs = true → (∀ f ∈ fs, (sizeT P f.type).isSome = true) → parts.length = fs.length → o + (fs.map fun f => P.cellsOf f.type).sum = cs.length →
    (∀ (i : Nat) (f : Field) (r : List PV), fs[i]? = some f → parts[i]? = some r → Rel2 N w r ((cs.drop f.offset).take (P.cellsOf f.type))) → Rel2 N w parts.flatten (cs.drop o)
  | [], o, parts, _, _, hl, hsum, _ => by
    have : parts = [] := List.eq_nil_of_length_eq_zero (by simpa using hl)
    subst this
    simp only [List.map_nil, List.sum_nil, Nat.add_zero] at hsum
    rw [hsum, List.drop_length]
    exact Rel2.nil
  | f :: fs, o, parts, ho, hs, hl, hsum, hr => by
    match parts, hl with
    | p :: parts, hl =>
      simp only [offsOk, Bool.and_eq_true, beq_iff_eq] at ho
      obtain ⟨rfl, ho2⟩ := ho
      rw [size_cells (hs f (by simp))] at ho2
      simp only [List.map_cons, List.sum_cons] at hsum
      have h1 := hr 0 f p rfl rfl
      have h2 := rel_fields fs (f.offset + P.cellsOf f.type) parts ho2 (fun q hq => hs q (by simp [hq])) (by simpa using hl) (by omega) (fun i f' r hf hp => hr (i + 1) f' r (by simpa using hf) (by simpa using hp))
      have h3 := h1.append h2
      rw [← List.drop_drop, List.take_append_drop] at h3
      exact h3

theorem rel_items {cs : List Value} {k : Nat} : ∀ (m o : Nat) (parts : List (List PV)), parts.length = m → (o + m) * k = cs.length → (∀ (i : Nat) (r : List PV), parts[i]? = some r → Rel2 N w r ((cs.drop ((o + i) * k)).take k)) → Rel2 N w parts.flatten (cs.drop (o * k))
  | 0, o, parts, hl, hsum, _ => by
    have : parts = [] := List.eq_nil_of_length_eq_zero hl
    subst this
    rw [Nat.add_zero] at hsum
    rw [hsum, List.drop_length]
    exact Rel2.nil
  | m + 1, o, parts, hl, hsum, hr => by
    match parts, hl with
    | p :: parts, hl =>
      have h1 := hr 0 p rfl
      have h2 := rel_items (cs := cs) (k := k) m (o + 1) parts (by simpa using hl) (by rw [← hsum]; congr 1; omega) (fun i r hi => by
        have := hr (i + 1) r (by simpa using hi)
        rw [show o + 1 + i = o + (i + 1) by omega]
        exact this)
      rw [Nat.add_zero] at h1
      have h3 := h1.append h2
      rw [Nat.succ_mul, ← List.drop_drop, List.take_append_drop] at h3
      exact h3

theorem cell_there {a : Addr} {v : Value} (hc : w.cell? a = some v) : a.spot = none ∧ a.block < w.heap.size := by
  unfold World.cell? at hc
  split at hc <;> first | (cases hc; done) | skip
  rename_i c x y hh
  split at hc <;> first | (cases hc; done) | skip
  rename_i hs
  exact ⟨by simpa using hs, (Array.getElem?_eq_some_iff.1 hh).1⟩

theorem lst_pv {a : Addr} {len cap k base : Nat} (hk : 0 < k) (hlc : len ≤ cap) {Ty : List PV → Prop}
    (he : ∀ i, i < len → ∃ cs, w.cells? base (a.add (i * k)) k = some cs ∧ ∃ ps, Ty ps ∧ Rel2 N w ps cs) :
    ∃ rows : List (List PV), rows.length = len ∧ (∀ r ∈ rows, Ty r) ∧ PVR N (froz w) w (.lst 0 rows) (.slice (some a) rows.length cap) := by
  obtain ⟨rows, h1, h2⟩ := choose_list (fun i (_ : Nat) (ps : List PV) => ∃ cs, w.cells? base (a.add (i * k)) k = some cs ∧ Ty ps ∧ Rel2 N w ps cs) (List.range len) (fun j x hj => by
    have hjl : j < len := by have := (List.getElem?_eq_some_iff.1 hj).1; simpa using this
    obtain ⟨cs, k1, ps, k2, k3⟩ := he j hjl
    exact ⟨ps, cs, k1, k2, k3⟩)
  have hrl : rows.length = len := by simpa using h1
  have hrow : ∀ (i : Nat) (r : List PV), rows[i]? = some r → ∃ cs, w.cells? base (a.add (i * k)) k = some cs ∧ Ty r ∧ Rel2 N w r cs := fun i r hi => by
    have hlt : i < len := by rw [← hrl]; exact (List.getElem?_eq_some_iff.1 hi).1
    exact h2 i i r (by simp [hlt]) hi
  have hsp : 0 < rows.length → a.spot = none ∧ a.block < w.heap.size := fun hpos => by
    obtain ⟨cs, k1, _, _⟩ := hrow 0 rows[0] (List.getElem?_eq_getElem hpos)
    obtain ⟨c1, c2⟩ := cells_get k1
    have := c2 0 (cs[0]'(by omega)) (List.getElem?_eq_getElem (by omega))
    rw [Nat.zero_mul] at this
    have h0 : (a.add 0).add 0 = a := by simp [Addr.add]
    rw [h0] at this
    exact cell_there this
  have hcell : ∀ (i j : Nat) (c : PV), at2 rows i j = some c → ∃ v, w.cell? ⟨a.block, a.off + (i * k + j), none⟩ = some v ∧ PVR N (froz w) w c v ∧ c.perm = true := by
    intro i j c hc
    unfold at2 at hc
    cases hi : rows[i]? with
    | none => simp [hi] at hc
    | some r =>
      simp [hi] at hc
      obtain ⟨cs, k1, _, k3⟩ := hrow i r hi
      obtain ⟨c1, c2⟩ := cells_get k1
      have hjl : j < cs.length := by rw [← k3.1]; exact (List.getElem?_eq_some_iff.1 hc).1
      have hv := c2 j cs[j] (List.getElem?_eq_getElem hjl)
      rw [add_add a (hsp (by have := (List.getElem?_eq_some_iff.1 hi).1; omega)).1] at hv
      obtain ⟨q1, q2⟩ := k3.2 j c cs[j] hc (List.getElem?_eq_getElem hjl)
      exact ⟨_, hv, q1, q2⟩
  refine ⟨rows, hrl, fun r hr => ?_, .lst 0 rows (some a) a cap k (fun i j => (w.cell? ⟨a.block, a.off + (i * k + j), none⟩).getD undef) (fun r hr => ?_) (by omega) (fun hpos => ⟨rfl, (hsp hpos).1, .inl ⟨rfl, (hsp hpos).2⟩⟩) (fun i j c hc => ?_) (fun i j c hc => ?_) (fun _ i j c hc => ?_) (fun i j c hc => ?_)⟩
  · obtain ⟨i, hi⟩ := List.mem_iff_getElem?.1 hr
    exact (hrow i r hi).choose_spec.2.1
  · obtain ⟨i, hi⟩ := List.mem_iff_getElem?.1 hr
    obtain ⟨cs, k1, _, k3⟩ := hrow i r hi
    rw [k3.1]; exact (cells_get k1).1
  · obtain ⟨v, q1, _⟩ := hcell i j c hc
    simp [q1]
  · obtain ⟨v, q1, q2, _⟩ := hcell i j c hc
    simp only [q1, Option.getD_some]; exact q2
  · exact (hcell i j c hc).choose_spec.2.2
  · exact perm_calm' (hcell i j c hc).choose_spec.2.2

theorem trod_pv {H : Type} {enc : TypeId × Value → H} {base : Nat} {spare : Nat → Bool} {held : Bool} : ∀ (n : Nat) (t : TypeId), plainData P n t = true → ∀ (fuel : Nat) (cs : List Value) (r : DataW H × List MemPlace), DataW.trod enc P w base spare held fuel t cs = some r →
    ∃ ps, typed P n t ps ∧ Rel2 N w ps cs
  | 0, t, hp, _, _, _, _ => by simp [plainData] at hp
  | n + 1, t, hp, fuel, cs, r, ht => by
    cases fuel with
    | zero => simp [DataW.trod] at ht
    | succ fuel =>
      unfold plainData at hp
      cases hu : P.underlying t with
      | none => simp [hu] at hp
      | some de =>
        simp only [hu] at hp
        cases de with
        | bool =>
          rcases cs with _ | ⟨v, _ | ⟨v2, l⟩⟩
          · simp [DataW.trod, hu] at ht
          · cases v <;> simp [DataW.trod, hu] at ht
            rename_i b
            exact ⟨[.bool b], by simp only [typed, hu]; exact ⟨b, rfl⟩, Rel2.one (.bool b) rfl⟩
          · simp [DataW.trod, hu] at ht
        | int k =>
          rcases cs with _ | ⟨v, _ | ⟨v2, l⟩⟩
          · simp [DataW.trod, hu] at ht
          · cases v <;> simp [DataW.trod, hu] at ht
            rename_i k' x
            obtain ⟨⟨rfl, hwf⟩, _⟩ := ht
            simp [Lit.wf] at hwf
            exact ⟨[.int k' x], by simp only [typed, hu]; exact ⟨x, rfl, hwf.1, hwf.2⟩, Rel2.one (.int k' x) rfl⟩
          · simp [DataW.trod, hu] at ht
        | string =>
          rcases cs with _ | ⟨v, _ | ⟨v2, l⟩⟩
          · simp [DataW.trod, hu] at ht
          · cases v <;> simp [DataW.trod, hu] at ht
            rename_i x
            exact ⟨[.str x], by simp only [typed, hu]; exact ⟨x, rfl, ht.1⟩, Rel2.one (.str x) rfl⟩
          · simp [DataW.trod, hu] at ht
        | slice el =>
          simp only [Bool.and_eq_true, decide_eq_true_eq] at hp
          obtain ⟨hpe, hk⟩ := hp
          rcases cs with _ | ⟨v, _ | ⟨v2, l⟩⟩
          · simp [DataW.trod, hu] at ht
          · cases v with
            | slice A len cap =>
              cases A with
              | none =>
                rcases len with _ | len <;> rcases cap with _ | cap <;> simp [DataW.trod, hu] at ht
                refine ⟨[.lst 0 []], by simp only [typed, hu]; exact ⟨[], rfl, by simp, by simp⟩, Rel2.one (.lst 0 [] none default 0 0 (fun _ _ => undef) (by simp) (by simp) (by simp) (by simp [at2]) (by simp [at2]) (by simp [at2]) (by simp [at2])) rfl⟩
              | some a =>
                simp only [DataW.trod, hu] at ht
                split at ht <;> first | (cases ht; done) | skip
                rename_i hc
                rw [Option.bind_eq_some_iff] at ht
                obtain ⟨elems, hel, _⟩ := ht
                obtain ⟨k1, k2⟩ := mapM_all hel
                obtain ⟨rows, q1, q2, q3⟩ := lst_pv (N := N) (w := w) (a := a) (len := len) (cap := cap) (base := base) (Ty := typed P n el) hk hc.2.1 (fun i hi => by
                  obtain ⟨y, _, hy⟩ := k2 i i (by simp [hi])
                  rw [Option.bind_eq_some_iff] at hy
                  obtain ⟨ci, hci, htr⟩ := hy
                  exact ⟨ci, hci, trod_pv n el hpe fuel ci y htr⟩)
                refine ⟨[.lst 0 rows], by simp only [typed, hu]; exact ⟨rows, rfl, by omega, q2⟩, ?_⟩
                rw [q1] at q3
                exact Rel2.one q3 rfl
            | _ => simp [DataW.trod, hu] at ht
          · simp [DataW.trod, hu] at ht
        | struct fs =>
          simp only [Bool.and_eq_true, List.all_eq_true, beq_iff_eq] at hp
          obtain ⟨⟨ho, hf⟩, hsum⟩ := hp
          simp only [DataW.trod, hu] at ht
          split at ht <;> first | (cases ht; done) | skip
          rename_i hlen
          obtain ⟨xs, hxs, _⟩ := Option.map_eq_some_iff.1 ht
          obtain ⟨k1, k2⟩ := mapM_all hxs
          obtain ⟨parts, p1, p2⟩ := choose_list (fun (_ : Nat) (f : Field) (ps : List PV) => typed P n f.type ps ∧ Rel2 N w ps ((cs.drop f.offset).take (P.cellsOf f.type))) fs.toList (fun j f hj => by
            obtain ⟨y, _, hy⟩ := k2 j f hj
            exact trod_pv n f.type (hf f (List.mem_of_getElem? hj)).1 fuel _ y hy)
          refine ⟨parts.flatten, by simp only [typed, hu]; exact ⟨parts, by simpa using p1, rfl, fun i f r hi hr => (p2 i f r (by simpa using hi) hr).1⟩, ?_⟩
          have := rel_fields (N := N) (w := w) (cs := cs) fs.toList 0 parts ho (fun f hff => (hf f hff).2) p1 (by rw [Nat.zero_add, hsum, hlen]) (fun i f r hi hr => (p2 i f r hi hr).2)
          simpa using this
        | array m el =>
          simp only [Bool.and_eq_true, beq_iff_eq] at hp
          simp only [DataW.trod, hu] at ht
          split at ht <;> first | (cases ht; done) | skip
          rename_i hlen
          obtain ⟨xs, hxs, _⟩ := Option.map_eq_some_iff.1 ht
          obtain ⟨k1, k2⟩ := mapM_all hxs
          obtain ⟨parts, p1, p2⟩ := choose_list (fun (i : Nat) (_ : Nat) (ps : List PV) => typed P n el ps ∧ Rel2 N w ps ((cs.drop (i * P.cellsOf el)).take (P.cellsOf el))) (List.range m) (fun j x hj => by
            obtain ⟨y, _, hy⟩ := k2 j x hj
            have hjx : x = j := by
              have hlt : j < m := by have := (List.getElem?_eq_some_iff.1 hj).1; simpa using this
              simp [hlt] at hj; exact hj.symm
            subst hjx
            exact trod_pv n el hp.1 fuel _ y hy)
          have hpl : parts.length = m := by simpa using p1
          refine ⟨parts.flatten, by simp only [typed, hu]; exact ⟨parts, hpl, rfl, fun r hr => by
            obtain ⟨i, hi⟩ := List.mem_iff_getElem?.1 hr
            have hlt : i < m := by rw [← hpl]; exact (List.getElem?_eq_some_iff.1 hi).1
            exact (p2 i i r (by simp [hlt]) hi).1⟩, ?_⟩
          have := rel_items (N := N) (w := w) (cs := cs) (k := P.cellsOf el) m 0 parts hpl (by rw [Nat.zero_add, hp.2, hlen]) (fun i r hi => by
            have hlt : i < m := by rw [← hpl]; exact (List.getElem?_eq_some_iff.1 hi).1
            rw [Nat.zero_add]
            exact (p2 i i r (by simp [hlt]) hi).2)
          simpa using this
        | _ => simp at hp

end Go.Pv

/-
  A law: whatever plain data it is given, true comes back, and nothing that was there has changed.
-/
namespace Go.Pv
open Go.RowKit
variable {P : Program} {N : Nat → Nat} {w : World}

def argPV (P : Program) (t : TypeId) (cs : List PV) : PV := if isAggT P t = some true then .agg cs else cs.headD .nilp

theorem arg_one {n : Nat} {t : TypeId} (hp : plainData P n t = true) {r : Reach} {base : Nat} {v : Value} (hv : Value.okWide P w r base t v) {ps : List PV} (ht : typed P n t ps) (hr : Rel2 N w ps v.cells.toList) : PVR N (froz w) w (argPV P t ps) v := by
  cases n with
  | zero => simp [plainData] at hp
  | succ n =>
    cases hu : P.underlying t with
    | none => simp [plainData, hu] at hp
    | some de =>
      have agg : isAggT P t = some true → (∃ cs, v = .agg cs) → PVR N (froz w) w (argPV P t ps) v := by
        rintro hag ⟨cs, rfl⟩
        simp only [argPV, hag, if_true]
        refine .agg ps cs (by have := hr.1; simpa [Value.cells] using this.symm) (fun j c hj => ?_) (fun c hc => ?_)
        · have hlt : j < cs.size := by
            have := hr.1
            simp only [Value.cells, Array.length_toList] at this
            rw [← this]
            exact (List.getElem?_eq_some_iff.1 hj).1
          exact (hr.2 j c _ hj (by simp only [Value.cells, Array.getElem?_toList]; exact getD_of_getElem? hlt)).1
        · obtain ⟨j, hj⟩ := List.mem_iff_getElem?.1 hc
          have hlt' : j < cs.size := by
            have := hr.1
            simp only [Value.cells, Array.length_toList] at this
            rw [← this]
            exact (List.getElem?_eq_some_iff.1 hj).1
          exact PV.perm_one (hr.2 j c _ hj (by simp only [Value.cells, Array.getElem?_toList]; exact getD_of_getElem? hlt')).2
      have one : isAggT P t = some false → v.cells = #[v] → PVR N (froz w) w (argPV P t ps) v := by
        intro hag hc
        simp only [argPV, hag]
        have hl := hr.1
        rw [hc] at hl hr
        match ps, hl with
        | [c], _ => exact (hr.2 0 c v rfl rfl).1
      cases de with
      | bool =>
        refine one (by simp [isAggT, hu]) ?_
        simp only [Value.okWide, hu, Cell.okWide, Cell.ok] at hv
        cases v <;> first | rfl | (simp at hv)
      | int k =>
        refine one (by simp [isAggT, hu]) ?_
        simp only [Value.okWide, hu, Cell.okWide, Cell.ok] at hv
        cases v <;> first | rfl | (simp at hv)
      | string =>
        refine one (by simp [isAggT, hu]) ?_
        simp only [Value.okWide, hu, Cell.okWide, Cell.ok] at hv
        cases v <;> first | rfl | (simp at hv)
      | slice el =>
        refine one (by simp [isAggT, hu]) ?_
        simp only [Value.okWide, hu, Cell.okWide, Cell.ok] at hv
        cases v <;> first | rfl | (simp at hv)
      | struct fs =>
        refine agg (by simp [isAggT, hu]) ?_
        simp only [Value.okWide, hu] at hv
        obtain ⟨cs, rfl, _⟩ := hv
        exact ⟨cs, rfl⟩
      | array m el =>
        refine agg (by simp [isAggT, hu]) ?_
        simp only [Value.okWide, hu] at hv
        obtain ⟨cs, rfl, _⟩ := hv
        exact ⟨cs, rfl⟩
      | _ => simp [plainData, hu] at hp

theorem args_pv {H : Type} {enc : TypeId × Value → H} {base b0 : Nat} {spare : Nat → Bool} {held : Bool} {n : Nat} {r : Reach} : ∀ (ts : List TypeId) (vs : List Value) (ds : List (DataW H)) (pl : List MemPlace), DataW.TrodAll enc P w base spare held ts vs ds pl → (∀ t ∈ ts, plainData P n t = true) →
    (∀ (j : Nat) (t : TypeId) (v : Value), ts[j]? = some t → vs[j]? = some v → Value.okWide P w r b0 t v) →
    ∃ css : List (List PV), css.length = ts.length ∧ vs.length = ts.length ∧ (∀ (j : Nat) (t : TypeId) (cs : List PV), ts[j]? = some t → css[j]? = some cs → typed P n t cs) ∧
      ∀ (j : Nat) (p : PV), (List.zipWith (argPV P) ts css)[j]? = some p → ∃ v, vs[j]? = some v ∧ PVR N (froz w) w p v
  | [], [], [], pl, _, _, _ => ⟨[], rfl, rfl, fun j t cs hj => by simp at hj, fun j p hj => by simp at hj⟩
  | t :: ts, v :: vs, d :: ds, pl, h, hp, hv => by
    obtain ⟨p, q, ⟨fuel, h1⟩, h2, _⟩ := h
    obtain ⟨ps, k1, k2⟩ := trod_pv (N := N) n t (hp t (by simp)) fuel _ _ h1
    have hone := arg_one (hp t (by simp)) (hv 0 t v rfl rfl) k1 k2
    obtain ⟨css, g1, g2, g3, g4⟩ := args_pv ts vs ds q h2 (fun u hu => hp u (by simp [hu])) (fun j u x hj hx => hv (j + 1) u x (by simpa using hj) (by simpa using hx))
    refine ⟨ps :: css, by simp [g1], by simp [g2], fun j u cs hj hc => ?_, fun j p hj => ?_⟩
    · match j, hj, hc with
      | 0, hj, hc => simp at hj hc; subst hj; subst hc; exact k1
      | j + 1, hj, hc => exact g3 j u cs (by simpa using hj) (by simpa using hc)
    · match j, hj with
      | 0, hj => simp at hj; subst hj; exact ⟨v, rfl, hone⟩
      | j + 1, hj => simpa using g4 j p (by simpa using hj)

theorem law_calls {H : Type} {enc : TypeId × Value → H} {base b0 : Nat} {spare : Nat → Bool} {held : Bool} {n : Nat} {r : Reach} {f : Nat} {ts : List TypeId} (hF : ∀ css : List (List PV), css.length = ts.length → (∀ (j : Nat) (t : TypeId) (cs : List PV), ts[j]? = some t → css[j]? = some cs → typed P n t cs) →
      FnR P N f (List.zipWith (argPV P) ts css) [.bool true]) {go : Func} {code : Code} (h1 : P.funcs[N f]? = some go) (h2 : go.body = some code) (h3 : (go.name == "runtime.NumGoroutine") = false)
    {args : Array Value} {ds : List (DataW H)} {pl : List MemPlace} (hA : DataW.TrodAll enc P w base spare held ts args.toList ds pl) (hp : ∀ t ∈ ts, plainData P n t = true)
    (hv : ∀ (j : Nat) (t : TypeId) (v : Value), ts[j]? = some t → args.toList[j]? = some v → Value.okWide P w r b0 t v) :
    Calls P (N f) args w fun e w' => e = .returned (.bool true) ∧ Below w.heap.size w w' := by
  obtain ⟨css, g1, g2, g3, g4⟩ := args_pv (N := N) ts args.toList ds pl hA hp hv
  have hlen : args.toList.length = (List.zipWith (argPV P) ts css).length := by rw [g2, List.length_zipWith, g1]; simp
  have hcg := hF css g1 g3 (froz w) w none args (fun t b hb => hb.2) (.plain _ _ hlen g4)
  have hpost : ∀ v w', After N (froz w) w none [.bool true] v w' → v = .bool true ∧ Below w.heap.size w w' := by
    rintro v w' ⟨L1, bs, vals, f1, f2, f3, f4, f5, f6, f7, rfl⟩
    refine ⟨?_, f1.os, f1.tape, f1.output, f1.size, fun k hk => f1.kept k hk (fun hc => by
      rcases hc with hc | hc
      · omega
      · cases hc)⟩
    cases f5 with
    | cons p u b1 ps vs b2 q1 q2 =>
      cases q2
      cases q1 with
      | cell _ _ _ q =>
        cases q with
        | keep _ _ _ q => cases q; rfl
  rcases hcg with ⟨v, w', k1, k2⟩ | ⟨k1, k2⟩
  · exfalso
    have : (callFunc (N f) args).run P w = .ok (.enter (N f) args) w := by simp only [beq_eq_false_iff_ne, ne_eq] at h3; simp [callFunc, h1, h2, h3]
    rw [this] at k1
    cases k1
  · refine k2.mono fun e w' hh => ?_
    cases e with
    | returned v =>
      obtain ⟨rfl, hb⟩ := hpost v w' hh
      exact ⟨rfl, hb⟩
    | panicked => exact hh.elim
    | outgrown => exact hh.elim

end Go.Pv

/-
  The statement of a law: for whatever input the call gives true, and all that there was reads as before.
-/
namespace Go.Pv
open Go.RowKit Go.ChangeShapes
variable {H : Type} {enc : TypeId × Value → H} {P : Program}

theorem trods_stay (hl : laidOutB P = true) {W W' : World} (hb : Below W.heap.size W W') : ∀ (ts : List TypeId) (vs : List Value) (ds : List (DataW H)) (ps : List MemPlace), (∀ t ∈ ts, P.readableRec t = true ∧ t < P.types.size) →
    DataW.TrodAll enc P W 0 (fun _ => true) true ts vs ds ps → (∀ x ∈ ps, x.block < W.heap.size) → DataW.TrodAll enc P W' 0 (fun b => decide (b < W.heap.size)) true ts vs ds ps
  | [], _, _, _, _, h, _ => by
    obtain ⟨rfl, rfl, rfl⟩ := trodAll_nil h
    exact h
  | t :: ts, vs, ds, ps, hr, h, hp => by
    obtain ⟨v, vs', d, ds', p, q, rfl, rfl, rfl, h1, h2⟩ := trodAll_cons h
    obtain ⟨r1, r2⟩ := hr t (by simp)
    exact ⟨p, q, Below.trod hl r1 r2 h1 hb (fun x hx => hp x (by simp [hx])), trods_stay hl hb ts vs' ds' q (fun u hu => hr u (by simp [hu])) h2 (fun x hx => hp x (by simp [hx])), rfl⟩

theorem bool_trod {W : World} {b : Nat} {sp : Nat → Bool} {hd : Bool} {t : TypeId} (ht : P.underlying t = some .bool) (x : Bool) : DataW.TrodAll enc P W b sp hd [t] [.bool x] [.lit (.bool x)] [] :=
  trodAll_mk1 ⟨1, by simp [DataW.trod, Value.cells, ht]⟩


theorem law_post {f : Func} {s : ChangeSpec} {W W' : World} {args : Array Value} {ds gs : List (DataW H)} {before : List MemPlace} (hl : laidOutB P = true)
    (hW : DataW.Whole enc P f.params.toList s.vars false W args.toList ds gs before) (hsv : s.vars = []) {tb : TypeId} (hres : f.resultTypes = #[tb]) (htb : P.underlying tb = some .bool)
    (hsf : s.fn H (ds ++ gs) = { results := [.lit (.bool true)], args := ds }) (hr : ∀ t ∈ f.params.toList, P.readableRec t = true ∧ t < P.types.size) (hb : Below W.heap.size W W') :
    s.post enc P f false true false false W args (.bool true) W' := by
  have hlt : ∀ p ∈ before, p.block < W.heap.size := fun p hp => hW.lt p hp
  obtain ⟨p, q, h1, h2, h3, h4, h5⟩ := hW
  have hq : q = [] ∧ gs = [] := by
    rw [hsv] at h2
    obtain ⟨rfl, rfl⟩ := trodVars_none h2
    exact ⟨rfl, rfl⟩
  obtain ⟨rfl, rfl⟩ := hq
  have hp : before = p := by rw [h3, List.append_nil]
  refine ⟨ds, [], before, [], p, [], ⟨p, [], h1, h2, h3, h4, h5⟩, ?_, ?_, ?_, ?_, ?_⟩
  · rw [hsf, hres]
    exact bool_trod htb true
  · rw [hsf]
    exact trods_stay hl hb _ _ _ _ hr h1 (fun x hx => hlt x (by rw [hp]; exact hx))
  · rw [hsf]
    rw [hsv] at h2 ⊢
    exact h2
  · exact Below.frame hb _
  · intro hh
    cases hh

theorem law_lifted {C : Checked} {os : Os} {N : Nat → Nat} {f : Nat} {fn : Func} {s : ChangeSpec} {code : Code} {n : Nat} {tb : TypeId} (enc : TypeId × Value → H)
    (hF : ∀ css : List (List PV), css.length = fn.params.toList.length → (∀ (j : Nat) (t : TypeId) (cs : List PV), fn.params.toList[j]? = some t → css[j]? = some cs → typed C.prog n t cs) → FnR C.prog N f (List.zipWith (argPV C.prog) fn.params.toList css) [.bool true])
    (own : ownKnob C.prog.godebug = none) (hl : laidOutB C.prog = true) (started : os.Started) (noInit : C.prog.inits.idxOf? (N f) = none) (hfn : C.prog.funcs[N f]? = some fn) (hcode : fn.body = some code) (hname : (fn.name == "runtime.NumGoroutine") = false)
    (wit : ∃ (w : World) (tape : Tape) (i : Input), w.os = os ∧ (w.forCall tape i).Shaped C.prog ∧ i.vars = [] ∧ Input.okWide C.prog (w.forCall tape i) .any w.heap.size (N f) i ∧
      s.pre6 enc C.prog fn [] false (w.forCall tape i).memory i.args ∧ ({} : Assume).holds C.prog (lone (Frame.enter C.prog (N f) i.args .normal) [] (w.forCall tape i)))
    (hres : fn.resultTypes = #[tb]) (htb : C.prog.underlying tb = some .bool) (hsv : s.vars = []) (hsf : ∀ ds : List (DataW H), ds.length = fn.params.toList.length → s.fn H ds = { results := [.lit (.bool true)], args := ds })
    (hr : ∀ t ∈ fn.params.toList, C.prog.readableRec t = true ∧ t < C.prog.types.size) (hp : ∀ t ∈ fn.params.toList, plainData C.prog n t = true) :
    ReturnsInHanded {} C os (N f) .any (s.pre6 enc C.prog fn [] false) (s.post enc C.prog fn false true false false) := by
  refine returnsInHanded_of_change own started noInit hfn wit ?_
  intro W base args ds gs before hval hW _ _
  have hW' := hW
  obtain ⟨p, q, h1, h2, h3, h4, h5⟩ := hW
  have hlen : ds.length = fn.params.toList.length := by
    have key : ∀ (ts : List TypeId) (vs : List Value) (ds : List (DataW H)) (ps : List MemPlace), DataW.TrodAll enc C.prog W 0 (fun _ => true) true ts vs ds ps → ds.length = ts.length := by
      intro ts
      induction ts with
      | nil => intro vs ds ps h; obtain ⟨rfl, rfl, rfl⟩ := trodAll_nil h; rfl
      | cons t ts ih =>
        intro vs ds ps h
        obtain ⟨v, vs', d, ds', p, q, rfl, rfl, rfl, _, g2⟩ := trodAll_cons h
        simp [ih _ _ _ g2]
    exact key _ _ _ _ h1
  have hgs : gs = [] := by
    rw [hsv] at h2
    obtain ⟨g1, g2⟩ := trodVars_none h2
    first | exact g2 | exact g1
  refine (law_calls hF hfn hcode hname h1 hp (fun j t v hj hv => hval j t v (by simpa using hj) (by simpa using hv))).mono fun e W' ⟨he, hb⟩ => ?_
  subst he
  exact ⟨_, rfl, law_post hl hW' hsv hres htb (by rw [hgs, List.append_nil]; exact hsf ds hlen) hr hb⟩

end Go.Pv

/-
  Laws over types that name themselves.
-/
namespace Go.Pv
open Go.RowKit Go.ChangeShapes
variable {P : Program} {N : Nat → Nat} {w : World}

def shapeOk (P : Program) (S : List TypeId) (t : TypeId) : Bool :=
  match P.underlying t with
    | some .bool => true
    | some (.int _) => true
    | some .string => true
    | some (.slice e) => S.contains e && decide (0 < P.cellsOf e)
    | some (.struct fs) => offsOk P 0 fs.toList && (fs.toList.all fun f => S.contains f.type && (sizeT P f.type).isSome) && ((fs.toList.map fun f => P.cellsOf f.type).sum == P.cellsOf t)
    | some (.array m e) => S.contains e && m * P.cellsOf e == P.cellsOf t
    | _ => false
def recData (P : Program) (S : List TypeId) : Bool := S.all (shapeOk P S)
theorem shape_of {S : List TypeId} (h : recData P S = true) {t : TypeId} (ht : t ∈ S) : shapeOk P S t = true := List.all_eq_true.1 h t ht

theorem trod_rec {S : List TypeId} (hS : recData P S = true) {H : Type} {enc : TypeId × Value → H} {base : Nat} {spare : Nat → Bool} {held : Bool} : ∀ (fuel : Nat) (t : TypeId), t ∈ S → ∀ (cs : List Value) (r : DataW H × List MemPlace), DataW.trod enc P w base spare held fuel t cs = some r →
    ∃ ps, typed P fuel t ps ∧ Rel2 N w ps cs
  | 0, t, _, cs, r, ht => by simp [DataW.trod] at ht
  | fuel + 1, t, hp, cs, r, ht => by
      have hp := shape_of hS hp
      unfold shapeOk at hp
      cases hu : P.underlying t with
      | none => simp [hu] at hp
      | some de =>
        simp only [hu] at hp
        cases de with
        | bool =>
          rcases cs with _ | ⟨v, _ | ⟨v2, l⟩⟩
          · simp [DataW.trod, hu] at ht
          · cases v <;> simp [DataW.trod, hu] at ht
            rename_i b
            exact ⟨[.bool b], by simp only [typed, hu]; exact ⟨b, rfl⟩, Rel2.one (.bool b) rfl⟩
          · simp [DataW.trod, hu] at ht
        | int k =>
          rcases cs with _ | ⟨v, _ | ⟨v2, l⟩⟩
          · simp [DataW.trod, hu] at ht
          · cases v <;> simp [DataW.trod, hu] at ht
            rename_i k' x
            obtain ⟨⟨rfl, hwf⟩, _⟩ := ht
            simp [Lit.wf] at hwf
            exact ⟨[.int k' x], by simp only [typed, hu]; exact ⟨x, rfl, hwf.1, hwf.2⟩, Rel2.one (.int k' x) rfl⟩
          · simp [DataW.trod, hu] at ht
        | string =>
          rcases cs with _ | ⟨v, _ | ⟨v2, l⟩⟩
          · simp [DataW.trod, hu] at ht
          · cases v <;> simp [DataW.trod, hu] at ht
            rename_i x
            exact ⟨[.str x], by simp only [typed, hu]; exact ⟨x, rfl, ht.1⟩, Rel2.one (.str x) rfl⟩
          · simp [DataW.trod, hu] at ht
        | slice el =>
          simp only [Bool.and_eq_true, decide_eq_true_eq] at hp
          obtain ⟨hpe, hk⟩ := hp
          rcases cs with _ | ⟨v, _ | ⟨v2, l⟩⟩
          · simp [DataW.trod, hu] at ht
          · cases v with
            | slice A len cap =>
              cases A with
              | none =>
                rcases len with _ | len <;> rcases cap with _ | cap <;> simp [DataW.trod, hu] at ht
                refine ⟨[.lst 0 []], by simp only [typed, hu]; exact ⟨[], rfl, by simp, by simp⟩, Rel2.one (.lst 0 [] none default 0 0 (fun _ _ => undef) (by simp) (by simp) (by simp) (by simp [at2]) (by simp [at2]) (by simp [at2]) (by simp [at2])) rfl⟩
              | some a =>
                simp only [DataW.trod, hu] at ht
                split at ht <;> first | (cases ht; done) | skip
                rename_i hc
                rw [Option.bind_eq_some_iff] at ht
                obtain ⟨elems, hel, _⟩ := ht
                obtain ⟨k1, k2⟩ := mapM_all hel
                obtain ⟨rows, q1, q2, q3⟩ := lst_pv (N := N) (w := w) (a := a) (len := len) (cap := cap) (base := base) (Ty := typed P fuel el) hk hc.2.1 (fun i hi => by
                  obtain ⟨y, _, hy⟩ := k2 i i (by simp [hi])
                  rw [Option.bind_eq_some_iff] at hy
                  obtain ⟨ci, hci, htr⟩ := hy
                  exact ⟨ci, hci, trod_rec hS fuel el (List.contains_iff_mem.1 hpe) ci y htr⟩)
                refine ⟨[.lst 0 rows], by simp only [typed, hu]; exact ⟨rows, rfl, by omega, q2⟩, ?_⟩
                rw [q1] at q3
                exact Rel2.one q3 rfl
            | _ => simp [DataW.trod, hu] at ht
          · simp [DataW.trod, hu] at ht
        | struct fs =>
          simp only [Bool.and_eq_true, List.all_eq_true, beq_iff_eq] at hp
          obtain ⟨⟨ho, hf⟩, hsum⟩ := hp
          simp only [DataW.trod, hu] at ht
          split at ht <;> first | (cases ht; done) | skip
          rename_i hlen
          obtain ⟨xs, hxs, _⟩ := Option.map_eq_some_iff.1 ht
          obtain ⟨k1, k2⟩ := mapM_all hxs
          obtain ⟨parts, p1, p2⟩ := choose_list (fun (_ : Nat) (f : Field) (ps : List PV) => typed P fuel f.type ps ∧ Rel2 N w ps ((cs.drop f.offset).take (P.cellsOf f.type))) fs.toList (fun j f hj => by
            obtain ⟨y, _, hy⟩ := k2 j f hj
            exact trod_rec hS fuel f.type (List.contains_iff_mem.1 (hf f (List.mem_of_getElem? hj)).1) _ y hy)
          refine ⟨parts.flatten, by simp only [typed, hu]; exact ⟨parts, by simpa using p1, rfl, fun i f r hi hr => (p2 i f r (by simpa using hi) hr).1⟩, ?_⟩
          have := rel_fields (N := N) (w := w) (cs := cs) fs.toList 0 parts ho (fun f hff => (hf f hff).2) p1 (by rw [Nat.zero_add, hsum, hlen]) (fun i f r hi hr => (p2 i f r hi hr).2)
          simpa using this
        | array m el =>
          simp only [Bool.and_eq_true, beq_iff_eq] at hp
          simp only [DataW.trod, hu] at ht
          split at ht <;> first | (cases ht; done) | skip
          rename_i hlen
          obtain ⟨xs, hxs, _⟩ := Option.map_eq_some_iff.1 ht
          obtain ⟨k1, k2⟩ := mapM_all hxs
          obtain ⟨parts, p1, p2⟩ := choose_list (fun (i : Nat) (_ : Nat) (ps : List PV) => typed P fuel el ps ∧ Rel2 N w ps ((cs.drop (i * P.cellsOf el)).take (P.cellsOf el))) (List.range m) (fun j x hj => by
            obtain ⟨y, _, hy⟩ := k2 j x hj
            have hjx : x = j := by
              have hlt : j < m := by have := (List.getElem?_eq_some_iff.1 hj).1; simpa using this
              simp [hlt] at hj; exact hj.symm
            subst hjx
            exact trod_rec hS fuel el (List.contains_iff_mem.1 hp.1) _ y hy)
          have hpl : parts.length = m := by simpa using p1
          refine ⟨parts.flatten, by simp only [typed, hu]; exact ⟨parts, hpl, rfl, fun r hr => by
            obtain ⟨i, hi⟩ := List.mem_iff_getElem?.1 hr
            have hlt : i < m := by rw [← hpl]; exact (List.getElem?_eq_some_iff.1 hi).1
            exact (p2 i i r (by simp [hlt]) hi).1⟩, ?_⟩
          have := rel_items (N := N) (w := w) (cs := cs) (k := P.cellsOf el) m 0 parts hpl (by rw [Nat.zero_add, hp.2, hlen]) (fun i r hi => by
            have hlt : i < m := by rw [← hpl]; exact (List.getElem?_eq_some_iff.1 hi).1
            rw [Nat.zero_add]
            exact (p2 i i r (by simp [hlt]) hi).2)
          simpa using this
        | _ => simp at hp

theorem arg_rec {n : Nat} {S : List TypeId} {t : TypeId} (hp : shapeOk P S t = true) {r : Reach} {base : Nat} {v : Value} (hv : Value.okWide P w r base t v) {ps : List PV} (ht : typed P n t ps) (hr : Rel2 N w ps v.cells.toList) : PVR N (froz w) w (argPV P t ps) v := by
    cases hu : P.underlying t with
    | none => simp [shapeOk, hu] at hp
    | some de =>
      have agg : isAggT P t = some true → (∃ cs, v = .agg cs) → PVR N (froz w) w (argPV P t ps) v := by
        rintro hag ⟨cs, rfl⟩
        simp only [argPV, hag, if_true]
        refine .agg ps cs (by have := hr.1; simpa [Value.cells] using this.symm) (fun j c hj => ?_) (fun c hc => ?_)
        · have hlt : j < cs.size := by
            have := hr.1
            simp only [Value.cells, Array.length_toList] at this
            rw [← this]
            exact (List.getElem?_eq_some_iff.1 hj).1
          exact (hr.2 j c _ hj (by simp only [Value.cells, Array.getElem?_toList]; exact getD_of_getElem? hlt)).1
        · obtain ⟨j, hj⟩ := List.mem_iff_getElem?.1 hc
          have hlt' : j < cs.size := by
            have := hr.1
            simp only [Value.cells, Array.length_toList] at this
            rw [← this]
            exact (List.getElem?_eq_some_iff.1 hj).1
          exact PV.perm_one (hr.2 j c _ hj (by simp only [Value.cells, Array.getElem?_toList]; exact getD_of_getElem? hlt')).2
      have one : isAggT P t = some false → v.cells = #[v] → PVR N (froz w) w (argPV P t ps) v := by
        intro hag hc
        simp only [argPV, hag]
        have hl := hr.1
        rw [hc] at hl hr
        match ps, hl with
        | [c], _ => exact (hr.2 0 c v rfl rfl).1
      cases de with
      | bool =>
        refine one (by simp [isAggT, hu]) ?_
        simp only [Value.okWide, hu, Cell.okWide, Cell.ok] at hv
        cases v <;> first | rfl | (simp at hv)
      | int k =>
        refine one (by simp [isAggT, hu]) ?_
        simp only [Value.okWide, hu, Cell.okWide, Cell.ok] at hv
        cases v <;> first | rfl | (simp at hv)
      | string =>
        refine one (by simp [isAggT, hu]) ?_
        simp only [Value.okWide, hu, Cell.okWide, Cell.ok] at hv
        cases v <;> first | rfl | (simp at hv)
      | slice el =>
        refine one (by simp [isAggT, hu]) ?_
        simp only [Value.okWide, hu, Cell.okWide, Cell.ok] at hv
        cases v <;> first | rfl | (simp at hv)
      | struct fs =>
        refine agg (by simp [isAggT, hu]) ?_
        simp only [Value.okWide, hu] at hv
        obtain ⟨cs, rfl, _⟩ := hv
        exact ⟨cs, rfl⟩
      | array m el =>
        refine agg (by simp [isAggT, hu]) ?_
        simp only [Value.okWide, hu] at hv
        obtain ⟨cs, rfl, _⟩ := hv
        exact ⟨cs, rfl⟩
      | _ => simp [shapeOk, hu] at hp

theorem args_rec {S : List TypeId} (hS : recData P S = true) {H : Type} {enc : TypeId × Value → H} {base b0 : Nat} {spare : Nat → Bool} {held : Bool} {r : Reach} : ∀ (ts : List TypeId) (vs : List Value) (ds : List (DataW H)) (pl : List MemPlace), DataW.TrodAll enc P w base spare held ts vs ds pl → (∀ t ∈ ts, t ∈ S) →
    (∀ (j : Nat) (t : TypeId) (v : Value), ts[j]? = some t → vs[j]? = some v → Value.okWide P w r b0 t v) →
    ∃ css : List (List PV), css.length = ts.length ∧ vs.length = ts.length ∧ (∀ (j : Nat) (t : TypeId) (cs : List PV), ts[j]? = some t → css[j]? = some cs → ∃ n, typed P n t cs) ∧
      ∀ (j : Nat) (p : PV), (List.zipWith (argPV P) ts css)[j]? = some p → ∃ v, vs[j]? = some v ∧ PVR N (froz w) w p v
  | [], [], [], pl, _, _, _ => ⟨[], rfl, rfl, fun j t cs hj => by simp at hj, fun j p hj => by simp at hj⟩
  | t :: ts, v :: vs, d :: ds, pl, h, hp, hv => by
    obtain ⟨p, q, ⟨fuel, h1⟩, h2, _⟩ := h
    obtain ⟨ps, k1, k2⟩ := trod_rec (N := N) hS fuel t (hp t (by simp)) _ _ h1
    have hone := arg_rec (shape_of hS (hp t (by simp))) (hv 0 t v rfl rfl) k1 k2
    obtain ⟨css, g1, g2, g3, g4⟩ := args_rec hS ts vs ds q h2 (fun u hu => hp u (by simp [hu])) (fun j u x hj hx => hv (j + 1) u x (by simpa using hj) (by simpa using hx))
    refine ⟨ps :: css, by simp [g1], by simp [g2], fun j u cs hj hc => ?_, fun j p hj => ?_⟩
    · match j, hj, hc with
      | 0, hj, hc => simp at hj hc; subst hj; subst hc; exact ⟨_, k1⟩
      | j + 1, hj, hc => exact g3 j u cs (by simpa using hj) (by simpa using hc)
    · match j, hj with
      | 0, hj => simp at hj; subst hj; exact ⟨v, rfl, hone⟩
      | j + 1, hj => simpa using g4 j p (by simpa using hj)

theorem law_calls_rec {S : List TypeId} (hS : recData P S = true) {H : Type} {enc : TypeId × Value → H} {base b0 : Nat} {spare : Nat → Bool} {held : Bool} {r : Reach} {f : Nat} {ts : List TypeId} (hF : ∀ css : List (List PV), css.length = ts.length → (∀ (j : Nat) (t : TypeId) (cs : List PV), ts[j]? = some t → css[j]? = some cs → ∃ n, typed P n t cs) →
      FnR P N f (List.zipWith (argPV P) ts css) [.bool true]) {go : Func} {code : Code} (h1 : P.funcs[N f]? = some go) (h2 : go.body = some code) (h3 : (go.name == "runtime.NumGoroutine") = false)
    {args : Array Value} {ds : List (DataW H)} {pl : List MemPlace} (hA : DataW.TrodAll enc P w base spare held ts args.toList ds pl) (hp : ∀ t ∈ ts, t ∈ S)
    (hv : ∀ (j : Nat) (t : TypeId) (v : Value), ts[j]? = some t → args.toList[j]? = some v → Value.okWide P w r b0 t v) :
    Calls P (N f) args w fun e w' => e = .returned (.bool true) ∧ Below w.heap.size w w' := by
  obtain ⟨css, g1, g2, g3, g4⟩ := args_rec (N := N) hS ts args.toList ds pl hA hp hv
  have hlen : args.toList.length = (List.zipWith (argPV P) ts css).length := by rw [g2, List.length_zipWith, g1]; simp
  have hcg := hF css g1 g3 (froz w) w none args (fun t b hb => hb.2) (.plain _ _ hlen g4)
  have hpost : ∀ v w', After N (froz w) w none [.bool true] v w' → v = .bool true ∧ Below w.heap.size w w' := by
    rintro v w' ⟨L1, bs, vals, f1, f2, f3, f4, f5, f6, f7, rfl⟩
    refine ⟨?_, f1.os, f1.tape, f1.output, f1.size, fun k hk => f1.kept k hk (fun hc => by
      rcases hc with hc | hc
      · omega
      · cases hc)⟩
    cases f5 with
    | cons p u b1 ps vs b2 q1 q2 =>
      cases q2
      cases q1 with
      | cell _ _ _ q =>
        cases q with
        | keep _ _ _ q => cases q; rfl
  rcases hcg with ⟨v, w', k1, k2⟩ | ⟨k1, k2⟩
  · exfalso
    have : (callFunc (N f) args).run P w = .ok (.enter (N f) args) w := by simp only [beq_eq_false_iff_ne, ne_eq] at h3; simp [callFunc, h1, h2, h3]
    rw [this] at k1
    cases k1
  · refine k2.mono fun e w' hh => ?_
    cases e with
    | returned v =>
      obtain ⟨rfl, hb⟩ := hpost v w' hh
      exact ⟨rfl, hb⟩
    | panicked => exact hh.elim
    | outgrown => exact hh.elim

theorem law_lifted_rec {H : Type} {S : List TypeId} {C : Checked} {os : Os} {N : Nat → Nat} {f : Nat} {fn : Func} {s : ChangeSpec} {code : Code} {tb : TypeId} (enc : TypeId × Value → H)
    (hF : ∀ css : List (List PV), css.length = fn.params.toList.length → (∀ (j : Nat) (t : TypeId) (cs : List PV), fn.params.toList[j]? = some t → css[j]? = some cs → ∃ n, typed C.prog n t cs) → FnR C.prog N f (List.zipWith (argPV C.prog) fn.params.toList css) [.bool true])
    (own : ownKnob C.prog.godebug = none) (hl : laidOutB C.prog = true) (started : os.Started) (noInit : C.prog.inits.idxOf? (N f) = none) (hfn : C.prog.funcs[N f]? = some fn) (hcode : fn.body = some code) (hname : (fn.name == "runtime.NumGoroutine") = false)
    (wit : ∃ (w : World) (tape : Tape) (i : Input), w.os = os ∧ (w.forCall tape i).Shaped C.prog ∧ i.vars = [] ∧ Input.okWide C.prog (w.forCall tape i) .any w.heap.size (N f) i ∧
      s.pre6 enc C.prog fn [] false (w.forCall tape i).memory i.args ∧ ({} : Assume).holds C.prog (lone (Frame.enter C.prog (N f) i.args .normal) [] (w.forCall tape i)))
    (hres : fn.resultTypes = #[tb]) (htb : C.prog.underlying tb = some .bool) (hsv : s.vars = []) (hsf : ∀ ds : List (DataW H), ds.length = fn.params.toList.length → s.fn H ds = { results := [.lit (.bool true)], args := ds })
    (hr : ∀ t ∈ fn.params.toList, C.prog.readableRec t = true ∧ t < C.prog.types.size) (hS : recData C.prog S = true) (hp : ∀ t ∈ fn.params.toList, t ∈ S) :
    ReturnsInHanded {} C os (N f) .any (s.pre6 enc C.prog fn [] false) (s.post enc C.prog fn false true false false) := by
  refine returnsInHanded_of_change own started noInit hfn wit ?_
  intro W base args ds gs before hval hW _ _
  have hW' := hW
  obtain ⟨p, q, h1, h2, h3, h4, h5⟩ := hW
  have hlen : ds.length = fn.params.toList.length := by
    have key : ∀ (ts : List TypeId) (vs : List Value) (ds : List (DataW H)) (ps : List MemPlace), DataW.TrodAll enc C.prog W 0 (fun _ => true) true ts vs ds ps → ds.length = ts.length := by
      intro ts
      induction ts with
      | nil => intro vs ds ps h; obtain ⟨rfl, rfl, rfl⟩ := trodAll_nil h; rfl
      | cons t ts ih =>
        intro vs ds ps h
        obtain ⟨v, vs', d, ds', p, q, rfl, rfl, rfl, _, g2⟩ := trodAll_cons h
        simp [ih _ _ _ g2]
    exact key _ _ _ _ h1
  have hgs : gs = [] := by
    rw [hsv] at h2
    obtain ⟨g1, g2⟩ := trodVars_none h2
    first | exact g2 | exact g1
  refine (law_calls_rec hS hF hfn hcode hname h1 hp (fun j t v hj hv => hval j t v (by simpa using hj) (by simpa using hv))).mono fun e W' ⟨he, hb⟩ => ?_
  subst he
  exact ⟨_, rfl, law_post hl hW' hsv hres htb (by rw [hgs, List.append_nil]; exact hsf ds hlen) hr hb⟩

end Go.Pv

/-
  Laws over what is of a bulk.
-/
namespace Go.Pv
open Go.RowKit Go.ChangeShapes
variable {P : Program} {N : Nat → Nat} {w : World}

structure Bulky {H : Type} (B : DataW H → Nat) : Prop where
  str : ∀ l, l.length ≤ B (.lit (.string l))
  slice : ∀ e s, e.length ≤ B (.slice e s) ∧ ∀ d ∈ e, B d ≤ B (.slice e s)
  agg : ∀ ps, ∀ d ∈ ps, B d ≤ B (.agg ps)
inductive Small (M : Nat) : PV → Prop
  | bool (b : Bool) : Small M (.bool b)
  | int (k : IntKind) (n : Int) : Small M (.int k n)
  | str (s : ByteArray) (h : s.size ≤ M) : Small M (.str s)
  | lst (t : Nat) (rows : List (List PV)) (hl : rows.length ≤ M) (hr : ∀ r ∈ rows, ∀ c ∈ r, Small M c) : Small M (.lst t rows)
theorem small_one {M : Nat} {p : PV} (h : Small M p) : ∀ c ∈ [p], Small M c := fun c hc => by
  rw [List.mem_singleton] at hc
  rw [hc]
  exact h

theorem trod_small {S : List TypeId} (hS : recData P S = true) {H : Type} {B : DataW H → Nat} (hB : Bulky B) {M : Nat} {enc : TypeId × Value → H} {base : Nat} {spare : Nat → Bool} {held : Bool} : ∀ (fuel : Nat) (t : TypeId), t ∈ S → ∀ (cs : List Value) (r : DataW H × List MemPlace), DataW.trod enc P w base spare held fuel t cs = some r → B r.1 ≤ M →
    ∃ ps, (typed P fuel t ps ∧ ∀ c ∈ ps, Small M c) ∧ Rel2 N w ps cs
  | 0, t, _, cs, r, ht, _ => by simp [DataW.trod] at ht
  | fuel + 1, t, hp, cs, r, ht, hM => by
      have hp := shape_of hS hp
      unfold shapeOk at hp
      cases hu : P.underlying t with
      | none => simp [hu] at hp
      | some de =>
        simp only [hu] at hp
        cases de with
        | bool =>
          rcases cs with _ | ⟨v, _ | ⟨v2, l⟩⟩
          · simp [DataW.trod, hu] at ht
          · cases v <;> simp [DataW.trod, hu] at ht
            rename_i b
            exact ⟨[.bool b], ⟨by simp only [typed, hu]; exact ⟨b, rfl⟩, small_one (.bool b)⟩, Rel2.one (.bool b) rfl⟩
          · simp [DataW.trod, hu] at ht
        | int k =>
          rcases cs with _ | ⟨v, _ | ⟨v2, l⟩⟩
          · simp [DataW.trod, hu] at ht
          · cases v <;> simp [DataW.trod, hu] at ht
            rename_i k' x
            obtain ⟨⟨rfl, hwf⟩, _⟩ := ht
            simp [Lit.wf] at hwf
            exact ⟨[.int k' x], ⟨by simp only [typed, hu]; exact ⟨x, rfl, hwf.1, hwf.2⟩, small_one (.int k' x)⟩, Rel2.one (.int k' x) rfl⟩
          · simp [DataW.trod, hu] at ht
        | string =>
          rcases cs with _ | ⟨v, _ | ⟨v2, l⟩⟩
          · simp [DataW.trod, hu] at ht
          · cases v <;> simp [DataW.trod, hu] at ht
            rename_i x
            obtain ⟨ht, rfl⟩ := ht
            have hsz : x.size ≤ M := by
              have := hB.str x.data.toList
              rw [Array.length_toList] at this
              exact Nat.le_trans this hM
            exact ⟨[.str x], ⟨by simp only [typed, hu]; exact ⟨x, rfl, ht⟩, small_one (.str x hsz)⟩, Rel2.one (.str x) rfl⟩
          · simp [DataW.trod, hu] at ht
        | slice el =>
          simp only [Bool.and_eq_true, decide_eq_true_eq] at hp
          obtain ⟨hpe, hk⟩ := hp
          rcases cs with _ | ⟨v, _ | ⟨v2, l⟩⟩
          · simp [DataW.trod, hu] at ht
          · cases v with
            | slice A len cap =>
              cases A with
              | none =>
                rcases len with _ | len <;> rcases cap with _ | cap <;> simp [DataW.trod, hu] at ht
                refine ⟨[.lst 0 []], ⟨by simp only [typed, hu]; exact ⟨[], rfl, by simp, by simp⟩, small_one (.lst 0 [] (Nat.zero_le _) (fun r hr => (List.not_mem_nil hr).elim))⟩, Rel2.one (.lst 0 [] none default 0 0 (fun _ _ => undef) (by simp) (by simp) (by simp) (by simp [at2]) (by simp [at2]) (by simp [at2]) (by simp [at2])) rfl⟩
              | some a =>
                simp only [DataW.trod, hu] at ht
                split at ht <;> first | (cases ht; done) | skip
                rename_i hc
                rw [Option.bind_eq_some_iff] at ht
                obtain ⟨elems, hel, hrest⟩ := ht
                rw [Option.map_eq_some_iff] at hrest
                obtain ⟨rest, _, rfl⟩ := hrest
                obtain ⟨k1, k2⟩ := mapM_all hel
                obtain ⟨b1, b2⟩ := hB.slice (elems.map (·.1)) (rest.map (·.1))
                rw [List.length_map, k1, List.length_range] at b1
                obtain ⟨rows, q1, q2, q3⟩ := lst_pv (N := N) (w := w) (a := a) (len := len) (cap := cap) (base := base) (Ty := fun ps => typed P fuel el ps ∧ ∀ c ∈ ps, Small M c) hk hc.2.1 (fun i hi => by
                  obtain ⟨y, hy0, hy⟩ := k2 i i (by simp [hi])
                  rw [Option.bind_eq_some_iff] at hy
                  obtain ⟨ci, hci, htr⟩ := hy
                  exact ⟨ci, hci, trod_small hS hB fuel el (List.contains_iff_mem.1 hpe) ci y htr (Nat.le_trans (b2 y.1 (List.mem_map.2 ⟨y, List.mem_of_getElem? hy0, rfl⟩)) hM)⟩)
                refine ⟨[.lst 0 rows], ⟨by simp only [typed, hu]; exact ⟨rows, rfl, by omega, fun r hr => (q2 r hr).1⟩, small_one (.lst 0 rows (by rw [q1]; exact Nat.le_trans b1 hM) (fun r hr => (q2 r hr).2))⟩, ?_⟩
                rw [q1] at q3
                exact Rel2.one q3 rfl
            | _ => simp [DataW.trod, hu] at ht
          · simp [DataW.trod, hu] at ht
        | struct fs =>
          simp only [Bool.and_eq_true, List.all_eq_true, beq_iff_eq] at hp
          obtain ⟨⟨ho, hf⟩, hsum⟩ := hp
          simp only [DataW.trod, hu] at ht
          split at ht <;> first | (cases ht; done) | skip
          rename_i hlen
          obtain ⟨xs, hxs, rfl⟩ := Option.map_eq_some_iff.1 ht
          have hb := hB.agg (xs.map (·.1))
          obtain ⟨k1, k2⟩ := mapM_all hxs
          obtain ⟨parts, p1, p2⟩ := choose_list (fun (_ : Nat) (f : Field) (ps : List PV) => (typed P fuel f.type ps ∧ ∀ c ∈ ps, Small M c) ∧ Rel2 N w ps ((cs.drop f.offset).take (P.cellsOf f.type))) fs.toList (fun j f hj => by
            obtain ⟨y, hy0, hy⟩ := k2 j f hj
            exact trod_small hS hB fuel f.type (List.contains_iff_mem.1 (hf f (List.mem_of_getElem? hj)).1) _ y hy (Nat.le_trans (hb y.1 (List.mem_map.2 ⟨y, List.mem_of_getElem? hy0, rfl⟩)) hM))
          refine ⟨parts.flatten, ⟨by simp only [typed, hu]; exact ⟨parts, by simpa using p1, rfl, fun i f r hi hr => (p2 i f r (by simpa using hi) hr).1.1⟩, fun c hc => by
            obtain ⟨r, hr, hcr⟩ := List.mem_flatten.1 hc
            obtain ⟨i, hi⟩ := List.mem_iff_getElem?.1 hr
            have hlt : i < fs.toList.length := by rw [← p1]; exact (List.getElem?_eq_some_iff.1 hi).1
            exact (p2 i _ r (List.getElem?_eq_getElem hlt) hi).1.2 c hcr⟩, ?_⟩
          have := rel_fields (N := N) (w := w) (cs := cs) fs.toList 0 parts ho (fun f hff => (hf f hff).2) p1 (by rw [Nat.zero_add, hsum, hlen]) (fun i f r hi hr => (p2 i f r hi hr).2)
          simpa using this
        | array m el =>
          simp only [Bool.and_eq_true, beq_iff_eq] at hp
          simp only [DataW.trod, hu] at ht
          split at ht <;> first | (cases ht; done) | skip
          rename_i hlen
          obtain ⟨xs, hxs, rfl⟩ := Option.map_eq_some_iff.1 ht
          have hb := hB.agg (xs.map (·.1))
          obtain ⟨k1, k2⟩ := mapM_all hxs
          obtain ⟨parts, p1, p2⟩ := choose_list (fun (i : Nat) (_ : Nat) (ps : List PV) => (typed P fuel el ps ∧ ∀ c ∈ ps, Small M c) ∧ Rel2 N w ps ((cs.drop (i * P.cellsOf el)).take (P.cellsOf el))) (List.range m) (fun j x hj => by
            obtain ⟨y, hy0, hy⟩ := k2 j x hj
            have hjx : x = j := by
              have hlt : j < m := by have := (List.getElem?_eq_some_iff.1 hj).1; simpa using this
              simp [hlt] at hj; exact hj.symm
            subst hjx
            exact trod_small hS hB fuel el (List.contains_iff_mem.1 hp.1) _ y hy (Nat.le_trans (hb y.1 (List.mem_map.2 ⟨y, List.mem_of_getElem? hy0, rfl⟩)) hM))
          have hpl : parts.length = m := by simpa using p1
          have hone : ∀ r ∈ parts, typed P fuel el r ∧ ∀ c ∈ r, Small M c := fun r hr => by
            obtain ⟨i, hi⟩ := List.mem_iff_getElem?.1 hr
            have hlt : i < m := by rw [← hpl]; exact (List.getElem?_eq_some_iff.1 hi).1
            exact (p2 i i r (by simp [hlt]) hi).1
          refine ⟨parts.flatten, ⟨by simp only [typed, hu]; exact ⟨parts, hpl, rfl, fun r hr => (hone r hr).1⟩, fun c hc => by
            obtain ⟨r, hr, hcr⟩ := List.mem_flatten.1 hc
            exact (hone r hr).2 c hcr⟩, ?_⟩
          have := rel_items (N := N) (w := w) (cs := cs) (k := P.cellsOf el) m 0 parts hpl (by rw [Nat.zero_add, hp.2, hlen]) (fun i r hi => by
            have hlt : i < m := by rw [← hpl]; exact (List.getElem?_eq_some_iff.1 hi).1
            rw [Nat.zero_add]
            exact (p2 i i r (by simp [hlt]) hi).2)
          simpa using this
        | _ => simp at hp

theorem args_small {S : List TypeId} (hS : recData P S = true) {H : Type} {B : DataW H → Nat} (hB : Bulky B) {M : Nat} {enc : TypeId × Value → H} {base b0 : Nat} {spare : Nat → Bool} {held : Bool} {r : Reach} : ∀ (ts : List TypeId) (vs : List Value) (ds : List (DataW H)) (pl : List MemPlace), DataW.TrodAll enc P w base spare held ts vs ds pl → (∀ t ∈ ts, t ∈ S) → (∀ d ∈ ds, B d ≤ M) →
    (∀ (j : Nat) (t : TypeId) (v : Value), ts[j]? = some t → vs[j]? = some v → Value.okWide P w r b0 t v) →
    ∃ css : List (List PV), css.length = ts.length ∧ vs.length = ts.length ∧ (∀ (j : Nat) (t : TypeId) (cs : List PV), ts[j]? = some t → css[j]? = some cs → (∃ n, typed P n t cs) ∧ ∀ c ∈ cs, Small M c) ∧
      ∀ (j : Nat) (p : PV), (List.zipWith (argPV P) ts css)[j]? = some p → ∃ v, vs[j]? = some v ∧ PVR N (froz w) w p v
  | [], [], [], pl, _, _, _, _ => ⟨[], rfl, rfl, fun j t cs hj => by simp at hj, fun j p hj => by simp at hj⟩
  | t :: ts, v :: vs, d :: ds, pl, h, hp, hM, hv => by
    obtain ⟨p, q, ⟨fuel, h1⟩, h2, _⟩ := h
    obtain ⟨ps, k1, k2⟩ := trod_small (N := N) hS hB fuel t (hp t (by simp)) _ _ h1 (hM d (by simp))
    have hone := arg_rec (shape_of hS (hp t (by simp))) (hv 0 t v rfl rfl) k1.1 k2
    obtain ⟨css, g1, g2, g3, g4⟩ := args_small hS hB ts vs ds q h2 (fun u hu => hp u (by simp [hu])) (fun u hu => hM u (by simp [hu])) (fun j u x hj hx => hv (j + 1) u x (by simpa using hj) (by simpa using hx))
    refine ⟨ps :: css, by simp [g1], by simp [g2], fun j u cs hj hc => ?_, fun j p hj => ?_⟩
    · match j, hj, hc with
      | 0, hj, hc => simp at hj hc; subst hj; subst hc; exact ⟨⟨_, k1.1⟩, k1.2⟩
      | j + 1, hj, hc => exact g3 j u cs (by simpa using hj) (by simpa using hc)
    · match j, hj with
      | 0, hj => simp at hj; subst hj; exact ⟨v, rfl, hone⟩
      | j + 1, hj => simpa using g4 j p (by simpa using hj)

theorem law_calls_small {S : List TypeId} (hS : recData P S = true) {H : Type} {B : DataW H → Nat} (hB : Bulky B) {M : Nat} {enc : TypeId × Value → H} {base b0 : Nat} {spare : Nat → Bool} {held : Bool} {r : Reach} {f : Nat} {ts : List TypeId} (hF : ∀ css : List (List PV), css.length = ts.length → (∀ (j : Nat) (t : TypeId) (cs : List PV), ts[j]? = some t → css[j]? = some cs → (∃ n, typed P n t cs) ∧ ∀ c ∈ cs, Small M c) →
      FnR P N f (List.zipWith (argPV P) ts css) [.bool true]) {go : Func} {code : Code} (h1 : P.funcs[N f]? = some go) (h2 : go.body = some code) (h3 : (go.name == "runtime.NumGoroutine") = false)
    {args : Array Value} {ds : List (DataW H)} {pl : List MemPlace} (hA : DataW.TrodAll enc P w base spare held ts args.toList ds pl) (hp : ∀ t ∈ ts, t ∈ S) (hM : ∀ d ∈ ds, B d ≤ M)
    (hv : ∀ (j : Nat) (t : TypeId) (v : Value), ts[j]? = some t → args.toList[j]? = some v → Value.okWide P w r b0 t v) :
    Calls P (N f) args w fun e w' => e = .returned (.bool true) ∧ Below w.heap.size w w' := by
  obtain ⟨css, g1, g2, g3, g4⟩ := args_small (N := N) hS hB ts args.toList ds pl hA hp hM hv
  have hlen : args.toList.length = (List.zipWith (argPV P) ts css).length := by rw [g2, List.length_zipWith, g1]; simp
  have hcg := hF css g1 g3 (froz w) w none args (fun t b hb => hb.2) (.plain _ _ hlen g4)
  have hpost : ∀ v w', After N (froz w) w none [.bool true] v w' → v = .bool true ∧ Below w.heap.size w w' := by
    rintro v w' ⟨L1, bs, vals, f1, f2, f3, f4, f5, f6, f7, rfl⟩
    refine ⟨?_, f1.os, f1.tape, f1.output, f1.size, fun k hk => f1.kept k hk (fun hc => by
      rcases hc with hc | hc
      · omega
      · cases hc)⟩
    cases f5 with
    | cons p u b1 ps vs b2 q1 q2 =>
      cases q2
      cases q1 with
      | cell _ _ _ q =>
        cases q with
        | keep _ _ _ q => cases q; rfl
  rcases hcg with ⟨v, w', k1, k2⟩ | ⟨k1, k2⟩
  · exfalso
    have : (callFunc (N f) args).run P w = .ok (.enter (N f) args) w := by simp only [beq_eq_false_iff_ne, ne_eq] at h3; simp [callFunc, h1, h2, h3]
    rw [this] at k1
    cases k1
  · refine k2.mono fun e w' hh => ?_
    cases e with
    | returned v =>
      obtain ⟨rfl, hb⟩ := hpost v w' hh
      exact ⟨rfl, hb⟩
    | panicked => exact hh.elim
    | outgrown => exact hh.elim

theorem law_lifted_upto {H : Type} {B : DataW H → Nat} (hB : Bulky B) {M : Nat} {S : List TypeId} {C : Checked} {os : Os} {N : Nat → Nat} {f : Nat} {fn : Func} {s : ChangeSpec} {s' : OpenSpec} {k : (H : Type) → List (DataW H) → Bool} (hk : s'.cond = some k) (hkM : ∀ ds : List (DataW H), k H ds = true → ∀ d ∈ ds, B d ≤ M) {F : Stop.Interp} {code : Code} {tb : TypeId} (enc : TypeId × Value → H)
    (hF : ∀ css : List (List PV), css.length = fn.params.toList.length → (∀ (j : Nat) (t : TypeId) (cs : List PV), fn.params.toList[j]? = some t → css[j]? = some cs → (∃ n, typed C.prog n t cs) ∧ ∀ c ∈ cs, Small M c) → FnR C.prog N f (List.zipWith (argPV C.prog) fn.params.toList css) [.bool true])
    (own : ownKnob C.prog.godebug = none) (hl : laidOutB C.prog = true) (started : os.Started) (noInit : C.prog.inits.idxOf? (N f) = none) (hfn : C.prog.funcs[N f]? = some fn) (hcode : fn.body = some code) (hname : (fn.name == "runtime.NumGoroutine") = false)
    (wit : ∃ (w : World) (tape : Tape) (i : Input), w.os = os ∧ (w.forCall tape i).Shaped C.prog ∧ i.vars = [] ∧ Input.okWide C.prog (w.forCall tape i) .any w.heap.size (N f) i ∧
      s'.pre6 enc C.prog fn [] false (w.forCall tape i).memory i.args ∧ ({} : Assume).holds C.prog (lone (Frame.enter C.prog (N f) i.args .normal) [] (w.forCall tape i)))
    (hres : fn.resultTypes = #[tb]) (htb : C.prog.underlying tb = some .bool) (hsv : s.vars = []) (hsv' : s'.vars = s.vars) (hpost : (s'.at F).post enc C.prog fn false true false false = s.post enc C.prog fn false true false false) (hsf : ∀ ds : List (DataW H), ds.length = fn.params.toList.length → s.fn H ds = { results := [.lit (.bool true)], args := ds })
    (hr : ∀ t ∈ fn.params.toList, C.prog.readableRec t = true ∧ t < C.prog.types.size) (hS : recData C.prog S = true) (hp : ∀ t ∈ fn.params.toList, t ∈ S) :
    ReturnsInHanded {} C os (N f) .any (s'.pre6 enc C.prog fn [] false) ((s'.at F).post enc C.prog fn false true false false) := by
  refine returnsInHanded_of_cond hk own started noInit hfn wit ?_
  intro W base args ds gs before hval hW _ hkk _
  rw [hsv'] at hW
  have hMM := hkM _ hkk
  have hW' := hW
  obtain ⟨p, q, h1, h2, h3, h4, h5⟩ := hW
  have hlen : ds.length = fn.params.toList.length := by
    have key : ∀ (ts : List TypeId) (vs : List Value) (ds : List (DataW H)) (ps : List MemPlace), DataW.TrodAll enc C.prog W 0 (fun _ => true) true ts vs ds ps → ds.length = ts.length := by
      intro ts
      induction ts with
      | nil => intro vs ds ps h; obtain ⟨rfl, rfl, rfl⟩ := trodAll_nil h; rfl
      | cons t ts ih =>
        intro vs ds ps h
        obtain ⟨v, vs', d, ds', p, q, rfl, rfl, rfl, _, g2⟩ := trodAll_cons h
        simp [ih _ _ _ g2]
    exact key _ _ _ _ h1
  have hgs : gs = [] := by
    rw [hsv] at h2
    obtain ⟨g1, g2⟩ := trodVars_none h2
    first | exact g2 | exact g1
  refine (law_calls_small hS hB hF hfn hcode hname h1 hp (fun d hd => hMM d (List.mem_append_left _ hd)) (fun j t v hj hv => hval j t v (by simpa using hj) (by simpa using hv))).mono fun e W' ⟨he, hb⟩ => ?_
  subst he
  rw [hpost]
  exact ⟨_, rfl, law_post hl hW' hsv hres htb (by rw [hgs, List.append_nil]; exact hsf ds hlen) hr hb⟩

end Go.Pv

/-
  The statement of a law whose row lists variables with what they hold: none of it is used.
-/
namespace Go.Pv
open Go.RowKit Go.ChangeShapes
variable {H : Type} {enc : TypeId × Value → H} {P : Program}

theorem law_lifted_laid {C : Checked} {os : Os} {N : Nat → Nat} {f : Nat} {fn : Func} {s : ChangeSpec} {code : Code} {n : Nat} {tb : TypeId} (enc : TypeId × Value → H) (X : World → Prop) (hX : ∀ w w' : World, w.heap = w'.heap → X w → X w')
    (hF : ∀ css : List (List PV), css.length = fn.params.toList.length → (∀ (j : Nat) (t : TypeId) (cs : List PV), fn.params.toList[j]? = some t → css[j]? = some cs → typed C.prog n t cs) → FnR C.prog N f (List.zipWith (argPV C.prog) fn.params.toList css) [.bool true])
    (own : ownKnob C.prog.godebug = none) (hl : laidOutB C.prog = true) (started : os.Started) (noInit : C.prog.inits.idxOf? (N f) = none) (hfn : C.prog.funcs[N f]? = some fn) (hcode : fn.body = some code) (hname : (fn.name == "runtime.NumGoroutine") = false)
    (wit : ∃ (w : World) (tape : Tape) (i : Input), w.os = os ∧ (w.forCall tape i).Shaped C.prog ∧ i.vars = [] ∧ Input.okWide C.prog (w.forCall tape i) .any w.heap.size (N f) i ∧
      ((s.pre enc C.prog fn [] false (w.forCall tape i).memory i.args ∧ X (w.forCall tape i).memory) ∧ sizedMet enc C.prog fn (OpenSpec.ofChange s) false (w.forCall tape i).memory i.args) ∧ ({} : Assume).holds C.prog (lone (Frame.enter C.prog (N f) i.args .normal) [] (w.forCall tape i)))
    (hres : fn.resultTypes = #[tb]) (htb : C.prog.underlying tb = some .bool) (hsv : s.vars = []) (hsf : ∀ ds : List (DataW H), ds.length = fn.params.toList.length → s.fn H ds = { results := [.lit (.bool true)], args := ds })
    (hr : ∀ t ∈ fn.params.toList, C.prog.readableRec t = true ∧ t < C.prog.types.size) (hp : ∀ t ∈ fn.params.toList, plainData C.prog n t = true) :
    ReturnsInHanded {} C os (N f) .any (fun w args => (s.pre enc C.prog fn [] false w args ∧ X w) ∧ sizedMet enc C.prog fn (OpenSpec.ofChange s) false w args) (s.post enc C.prog fn false true false false) := by
  refine returnsInHanded_of_change_and (X := fun w _ => X w) (fun w w' _ h hx => hX w w' h hx) own started noInit hfn wit ?_
  intro W base args ds gs before hval hW _ _ _ _
  have hW' := hW
  obtain ⟨p, q, h1, h2, h3, h4, h5⟩ := hW
  have hlen : ds.length = fn.params.toList.length := by
    have key : ∀ (ts : List TypeId) (vs : List Value) (ds : List (DataW H)) (ps : List MemPlace), DataW.TrodAll enc C.prog W 0 (fun _ => true) true ts vs ds ps → ds.length = ts.length := by
      intro ts
      induction ts with
      | nil => intro vs ds ps h; obtain ⟨rfl, rfl, rfl⟩ := trodAll_nil h; rfl
      | cons t ts ih =>
        intro vs ds ps h
        obtain ⟨v, vs', d, ds', p, q, rfl, rfl, rfl, _, g2⟩ := trodAll_cons h
        simp [ih _ _ _ g2]
    exact key _ _ _ _ h1
  have hgs : gs = [] := by
    rw [hsv] at h2
    obtain ⟨g1, g2⟩ := trodVars_none h2
    first | exact g2 | exact g1
  refine (law_calls hF hfn hcode hname h1 hp (fun j t v hj hv => hval j t v (by simpa using hj) (by simpa using hv))).mono fun e W' ⟨he, hb⟩ => ?_
  subst he
  exact ⟨_, rfl, law_post hl hW' hsv hres htb (by rw [hgs, List.append_nil]; exact hsf ds hlen) hr hb⟩

end Go.Pv

/-
  Walking code of the interpreter: weakest conditions, as rules for rewriting.
-/
namespace Go.Pv
variable {A : Nat → Option AFunc} {Pr : Prims}

inductive Tie {α : Sort _} (a : α) : Type
  | mk

def optK {α : Type} (o : Option α) (K : α → Prop) (_t : Tie K := .mk) : Prop := ∃ v, o = some v ∧ K v
@[congr] theorem optK_congr {α : Type} {o o' : Option α} {K : α → Prop} (h : o = o') : optK o K = optK o' K := by rw [h]
@[go_sem] theorem optK_some {α : Type} (v : α) (K : α → Prop) : optK (some v) K = K v := by simp [optK]
@[go_sem] theorem optK_none {α : Type} (K : α → Prop) : optK none K = False := by simp [optK]

def Br (c : Bool) (X Y : Prop) (_t : Tie (X ∧ Y) := .mk) : Prop := if c = true then X else Y
@[congr] theorem Br_congr {c c' : Bool} {X Y : Prop} (h : c = c') : Br c X Y = Br c' X Y := by rw [h]
@[go_sem] theorem Br_true (X Y : Prop) : Br true X Y = X := rfl
@[go_sem] theorem Br_false (X Y : Prop) : Br false X Y = Y := by simp [Br]
theorem Br.of {c : Bool} {X Y : Prop} (h1 : c = true → X) (h2 : c = false → Y) : Br c X Y := by
  cases c
  · simpa [Br] using h2 rfl
  · simpa [Br] using h1 rfl
theorem Br.ofP {p : Prop} {i : Decidable p} {X Y : Prop} (h1 : p → X) (h2 : ¬ p → Y) : Br (@decide p i) X Y := by
  by_cases h : p <;> simp [Br, h, h1, h2]

def boolK (v : V) (K : Bool → Prop) (_t : Tie K := .mk) : Prop := ∃ b, v = .pv (.bool b) ∧ K b
@[congr] theorem boolK_congr {v v' : V} {K : Bool → Prop} (h : v = v') : boolK v K = boolK v' K := by rw [h]
@[go_sem] theorem boolK_mk (b : Bool) (K : Bool → Prop) : boolK (.pv (.bool b)) K = K b := by simp [boolK]

open Classical in
noncomputable def res (A : Nat → Option AFunc) (Pr : Prims) (f : Nat) (ps : List PV) : Option (List PV) := if h : ∃ rs, Gives A Pr f ps rs then some h.choose else none

theorem Gives.uniq {f : Nat} {ps rs rs' : List PV} (h : Gives A Pr f ps rs) (h' : Gives A Pr f ps rs') : rs = rs' := by
  obtain ⟨n, hn⟩ := h
  obtain ⟨m, hm⟩ := h'
  have h1 := call_le (exec_le (A := A) (Pr := Pr) (Nat.le_max_left n m)) _ _ _ hn
  have h2 := call_le (exec_le (A := A) (Pr := Pr) (Nat.le_max_right n m)) _ _ _ hm
  rw [h1] at h2
  exact Option.some.inj h2

theorem res_some {f : Nat} {ps rs : List PV} : res A Pr f ps = some rs ↔ Gives A Pr f ps rs := by
  unfold res
  constructor
  · intro h
    split at h
    · rename_i hh
      cases h
      exact hh.choose_spec
    · cases h
  · intro h
    have hh : ∃ rs, Gives A Pr f ps rs := ⟨rs, h⟩
    rw [dif_pos hh]
    rw [Gives.uniq hh.choose_spec h]

def W (A : Nat → Option AFunc) (Pr : Prims) (c : AC) (s : St) (Q : Ex → St → Prop) (_t : Tie (c, Q) := .mk) : Prop := ∃ ex s', Runs A Pr c s ex s' ∧ Q ex s'
def WO (A : Nat → Option AFunc) (Pr : Prims) (l : List AOper) (s : St) (K : St → Prop) (_t : Tie (l, K) := .mk) : Prop := ∃ s', RunsOps A Pr l s s' ∧ K s'
def WD (A : Nat → Option AFunc) (Pr : Prims) (l : List (AOper × List Nat)) (done : List Tn) (s : St) (K : St → Prop) (_t : Tie (l, K) := .mk) : Prop := ∃ s', RunsDraw A Pr l done s s' ∧ K s'

def seqK (A : Nat → Option AFunc) (Pr : Prims) (b : AC) (Q : Ex → St → Prop) (_t : Tie (b, Q) := .mk) : Ex → St → Prop
  | .normal, s => W A Pr b s Q
  | .exit i, s => Q (.exit i) s
  | .ret, s => Q .ret s
def blockK (id : Nat) (Q : Ex → St → Prop) (_t : Tie Q := .mk) : Ex → St → Prop
  | .normal, s => Q .normal s
  | .exit i, s => if i = id then Q .normal s else Q (.exit i) s
  | .ret, s => Q .ret s
@[go_sem] theorem seqK_normal (b : AC) (Q : Ex → St → Prop) (s : St) : seqK A Pr b Q .mk .normal s = W A Pr b s Q := rfl
@[go_sem] theorem seqK_exit (b : AC) (Q : Ex → St → Prop) (i : Nat) (s : St) : seqK A Pr b Q .mk (.exit i) s = Q (.exit i) s := rfl
@[go_sem] theorem seqK_ret (b : AC) (Q : Ex → St → Prop) (s : St) : seqK A Pr b Q .mk .ret s = Q .ret s := rfl
@[go_sem] theorem blockK_normal (i : Nat) (Q : Ex → St → Prop) (s : St) : blockK i Q .mk .normal s = Q .normal s := rfl
@[go_sem] theorem blockK_exit (i j : Nat) (Q : Ex → St → Prop) (s : St) : blockK i Q .mk (.exit j) s = if j = i then Q .normal s else Q (.exit j) s := rfl
@[go_sem] theorem blockK_ret (i : Nat) (Q : Ex → St → Prop) (s : St) : blockK i Q .mk .ret s = Q .ret s := rfl

theorem Runs.uniq {c : AC} {s s1 s2 : St} {e1 e2 : Ex} (h1 : Runs A Pr c s e1 s1) (h2 : Runs A Pr c s e2 s2) : e1 = e2 ∧ s1 = s2 := by
  obtain ⟨n, hn⟩ := h1
  obtain ⟨m, hm⟩ := h2
  have h1 := exec_le (A := A) (Pr := Pr) (Nat.le_max_left n m) _ _ _ hn
  have h2 := exec_le (A := A) (Pr := Pr) (Nat.le_max_right n m) _ _ _ hm
  rw [h1] at h2
  cases h2
  exact ⟨rfl, rfl⟩

theorem W.uniq {c : AC} {s s' : St} {ex : Ex} {Q : Ex → St → Prop} (h : Runs A Pr c s ex s') : W A Pr c s Q = Q ex s' := by
  apply propext
  constructor
  · rintro ⟨e2, s2, h1, h2⟩
    obtain ⟨rfl, rfl⟩ := Runs.uniq h h1
    exact h2
  · exact fun hq => ⟨_, _, h, hq⟩

@[go_sem] theorem W_skip (s : St) (Q : Ex → St → Prop) : W A Pr .skip s Q = Q .normal s := W.uniq (Runs.skip s)
@[go_sem] theorem W_exit (i : Nat) (s : St) (Q : Ex → St → Prop) : W A Pr (.exit i) s Q = Q (.exit i) s := W.uniq (Runs.exit i s)
@[go_sem] theorem W_ret (s : St) (Q : Ex → St → Prop) : W A Pr .ret s Q = Q .ret s := W.uniq (Runs.ret s)

theorem pred_of {c : AC} {s s' : St} {ex : Ex} (h : Runs A Pr c s ex s') : ∃ n, layer A Pr (exec A Pr n) c s = some (ex, s') := by
  obtain ⟨n, hn⟩ := h
  cases n with
  | zero => simp [exec] at hn
  | succ n => exact ⟨n, hn⟩

@[go_sem] theorem W_seq (a b : AC) (s : St) (Q : Ex → St → Prop) : W A Pr (.seq a b) s Q = W A Pr a s (seqK A Pr b Q) := by
  apply propext
  constructor
  · rintro ⟨ex, s', h, hq⟩
    obtain ⟨n, hn⟩ := pred_of h
    simp only [layer] at hn
    cases ha : exec A Pr n a s with
    | none => simp [ha] at hn
    | some r =>
      obtain ⟨e1, s1⟩ := r
      rw [ha] at hn
      refine ⟨e1, s1, ⟨n, ha⟩, ?_⟩
      cases e1 with
      | normal => exact ⟨ex, s', ⟨n, hn⟩, hq⟩
      | exit i => cases hn; exact hq
      | ret => cases hn; exact hq
  · rintro ⟨ex, s', h, hq⟩
    cases ex with
    | normal =>
      obtain ⟨e2, s2, h2, hq2⟩ := hq
      exact ⟨e2, s2, Runs.seq h h2, hq2⟩
    | exit i => exact ⟨_, _, Runs.seq_out h (by simp), hq⟩
    | ret => exact ⟨_, _, Runs.seq_out h (by simp), hq⟩

@[go_sem] theorem W_block (id : Nat) (a : AC) (s : St) (Q : Ex → St → Prop) : W A Pr (.block id a) s Q = W A Pr a s (blockK id Q) := by
  apply propext
  constructor
  · rintro ⟨ex, s', h, hq⟩
    obtain ⟨n, hn⟩ := pred_of h
    simp only [layer] at hn
    cases ha : exec A Pr n a s with
    | none => simp [ha] at hn
    | some r =>
      obtain ⟨e1, s1⟩ := r
      rw [ha] at hn
      refine ⟨e1, s1, ⟨n, ha⟩, ?_⟩
      cases e1 with
      | normal => cases hn; exact hq
      | exit i =>
        simp only [blockK]
        split
        · rename_i hi
          simp only [hi, if_true] at hn
          cases hn
          exact hq
        · rename_i hi
          simp only [hi, if_false] at hn
          cases hn
          exact hq
      | ret => cases hn; exact hq
  · rintro ⟨ex, s', h, hq⟩
    have hb := Runs.block (id := id) h
    cases ex with
    | normal => exact ⟨_, _, hb, hq⟩
    | exit i =>
      simp only [blockK] at hq
      refine ⟨_, _, hb, ?_⟩
      show Q (if i = id then Ex.normal else Ex.exit i) s'
      by_cases hi : i = id
      · rw [if_pos hi] at hq ⊢; exact hq
      · rw [if_neg hi] at hq ⊢; exact hq
    | ret => exact ⟨_, _, hb, hq⟩

@[go_sem] theorem W_mask (kt kb : List Nat) (a : AC) (s : St) (Q : Ex → St → Prop) : W A Pr (.mask kt kb a) s Q = W A Pr a (s.mask kt kb) Q := by
  apply propext
  constructor
  · rintro ⟨ex, s', h, hq⟩
    obtain ⟨n, hn⟩ := pred_of h
    exact ⟨ex, s', ⟨n, hn⟩, hq⟩
  · rintro ⟨ex, s', h, hq⟩
    exact ⟨ex, s', Runs.mask h, hq⟩

@[go_sem] theorem W_cond (c : Opd) (a b : AC) (s : St) (Q : Ex → St → Prop) : W A Pr (.cond c a b) s Q = boolK (geto s.env c) fun t => Br t (W A Pr a s Q) (W A Pr b s Q) := by
  apply propext
  constructor
  · rintro ⟨ex, s', h, hq⟩
    obtain ⟨n, hn⟩ := pred_of h
    simp only [layer] at hn
    split at hn
    · rename_i he
      exact ⟨true, he, ex, s', ⟨n, hn⟩, hq⟩
    · rename_i he
      exact ⟨false, he, by simpa [Br] using ⟨ex, s', ⟨n, hn⟩, hq⟩⟩
    · cases hn
  · rintro ⟨t, ht, hb⟩
    cases t with
    | true =>
      obtain ⟨ex, s', h, hq⟩ : W A Pr a s Q := hb
      exact ⟨ex, s', Runs.cond ht h, hq⟩
    | false =>
      have hb' : W A Pr b s Q := by simpa [Br] using hb
      obtain ⟨ex, s', h, hq⟩ := hb'
      exact ⟨ex, s', Runs.cond ht h, hq⟩

@[go_sem] theorem W_region (ops : List AOper) (kt kb : List Nat) (s : St) (Q : Ex → St → Prop) : W A Pr (.region ops kt kb) s Q = WO A Pr ops s fun s' => Q .normal (s'.mask kt kb) := by
  apply propext
  constructor
  · rintro ⟨ex, s', h, hq⟩
    obtain ⟨n, hn⟩ := pred_of h
    simp only [layer] at hn
    split at hn
    · rename_i s1 he
      cases hn
      exact ⟨s1, ⟨n, he⟩, hq⟩
    · cases hn
  · rintro ⟨s', h, hq⟩
    exact ⟨_, _, Runs.region h, hq⟩

@[go_sem] theorem W_draw (ops : List (AOper × List Nat)) (kt kb : List Nat) (s : St) (Q : Ex → St → Prop) : W A Pr (.draw ops kt kb) s Q = WD A Pr ops [] s fun s' => Q .normal (s'.mask kt kb) := by
  apply propext
  constructor
  · rintro ⟨ex, s', h, hq⟩
    obtain ⟨n, hn⟩ := pred_of h
    simp only [layer] at hn
    split at hn
    · rename_i s1 he
      cases hn
      exact ⟨s1, ⟨n, he⟩, hq⟩
    · cases hn
  · rintro ⟨s', h, hq⟩
    exact ⟨_, _, Runs.draw h, hq⟩

@[go_sem] theorem W_drawR (k : Nat) (ops : List (AOper × List Nat)) (kt kb : List Nat) (s : St) (Q : Ex → St → Prop) : W A Pr (.drawR k ops kt kb) s Q = WD A Pr (mkAts s.h.ar.length ops) [] ⟨s.env, s.h.room k⟩ fun s' => Q .normal (s'.mask kt kb) := by
  apply propext
  constructor
  · rintro ⟨ex, s', h, hq⟩
    obtain ⟨n, hn⟩ := pred_of h
    simp only [layer] at hn
    split at hn
    · rename_i s1 he
      cases hn
      exact ⟨s1, ⟨n, he⟩, hq⟩
    · cases hn
  · rintro ⟨s', h, hq⟩
    exact ⟨_, _, Runs.drawR h, hq⟩

def WE (A : Nat → Option AFunc) (Pr : Prims) (env : List (Nat × V)) (h : Heap) (q : AOp) (K : V → Tn → Prop) (_t : Tie (q, K) := .mk) : Prop := ∃ n v t, evalOp (callBy A (exec A Pr n)) (withInl A (exec A Pr n) Pr) (takes A) (geto env) h q = some (v, t) ∧ K v t

theorem WE.uniq {env : List (Nat × V)} {h : Heap} {q : AOp} {K : V → Tn → Prop} {n : Nat} {v : V} {t : Tn} (he : evalOp (callBy A (exec A Pr n)) (withInl A (exec A Pr n) Pr) (takes A) (geto env) h q = some (v, t)) : WE A Pr env h q K = K v t := by
  apply propext
  constructor
  · rintro ⟨m, v', t', h1, hk⟩
    have e1 := eval_le (call_le (exec_le (A := A) (Pr := Pr) (Nat.le_max_left n m))) (inl_le (exec_le (A := A) (Pr := Pr) (Nat.le_max_left n m))) he
    have e2 := eval_le (call_le (exec_le (A := A) (Pr := Pr) (Nat.le_max_right n m))) (inl_le (exec_le (A := A) (Pr := Pr) (Nat.le_max_right n m))) h1
    rw [e1] at e2
    cases e2
    exact hk
  · exact fun hk => ⟨n, v, t, he, hk⟩

def quietOp : AOp → Bool
  | .call _ _ => false
  | _ => true

def ev (env : List (Nat × V)) (h : Heap) (q : AOp) : Option (V × Tn) := evalOp (fun _ _ => none) (fun _ => none) (fun _ => false) (geto env) h q

theorem quiet_ev {Φ : Nat → List PV → Option (List PV)} {Tk : Nat → Bool} {env : List (Nat × V)} {h : Heap} {q : AOp} (hq : quietOp q = true) : evalOp Φ Pr Tk (geto env) h q = ev env h q := by
  cases q <;> first | rfl | (simp [quietOp] at hq)

theorem WE_quiet {env : List (Nat × V)} {h : Heap} {q : AOp} {K : V → Tn → Prop} (hq : quietOp q = true) : WE A Pr env h q K = optK (ev env h q) fun r => K r.1 r.2 := by
  apply propext
  constructor
  · rintro ⟨n, v, t, h1, hk⟩
    rw [quiet_ev hq] at h1
    exact ⟨_, h1, hk⟩
  · rintro ⟨⟨v, t⟩, h1, hk⟩
    exact ⟨0, v, t, by rw [quiet_ev hq]; exact h1, hk⟩

def inls (A : Nat → Option AFunc) (fn : Nat) : Bool :=
  match A fn with
  | some g => g.inl
  | none => false

def inlK (rv : List RVar) (ss : List Nat) (K : V → Tn → Prop) (_t : Tie (rv, K) := .mk) : Ex → St → Prop
  | .exit _, _ => False
  | _, s => optK (mapO (resultOf s) rv) fun rs => optK (mapO (renV (toOut ss)) rs) fun ws => optK (outBx (toOut ss) s.h.bx outer ss) fun bs => K (tuple1 ws) { all := some (bs, s.h.ar, s.h.mp) }
@[go_sem] theorem inlK_normal (rv : List RVar) (ss : List Nat) (K : V → Tn → Prop) (s : St) : inlK rv ss K .mk .normal s = optK (mapO (resultOf s) rv) fun rs => optK (mapO (renV (toOut ss)) rs) fun ws => optK (outBx (toOut ss) s.h.bx outer ss) fun bs => K (tuple1 ws) { all := some (bs, s.h.ar, s.h.mp) } := rfl
@[go_sem] theorem inlK_ret (rv : List RVar) (ss : List Nat) (K : V → Tn → Prop) (s : St) : inlK rv ss K .mk .ret s = optK (mapO (resultOf s) rv) fun rs => optK (mapO (renV (toOut ss)) rs) fun ws => optK (outBx (toOut ss) s.h.bx outer ss) fun bs => K (tuple1 ws) { all := some (bs, s.h.ar, s.h.mp) } := rfl
@[congr] theorem inlK_congr {rv : List RVar} {ss ss' : List Nat} {K : V → Tn → Prop} {e e' : Ex} {s s' : St} (hs : ss = ss') (he : e = e') (h : s = s') : inlK rv ss K .mk e s = inlK rv ss' K .mk e' s' := by rw [hs, he, h]

def atSlots (vs : List V) (bx : List (Nat × List V)) : List Nat := comeAt bx 2 (addSlots [] (vs.flatMap slotsOf))

def IW (A : Nat → Option AFunc) (Pr : Prims) (fn : Nat) (vs : List V) (h : Heap) (K : V → Tn → Prop) (_t : Tie K := .mk) : Prop :=
  ∃ g n v t, A fn = some g ∧ runInl (exec A Pr n) g vs h = some (v, t) ∧ K v t

def CW (A : Nat → Option AFunc) (Pr : Prims) (fn : Nat) (vs : List V) (h : Heap) (K : V → Tn → Prop) (_t : Tie K := .mk) : Prop :=
  if inls A fn = true then IW A Pr fn vs h K else
  match Pr fn with
  | some pr => optK (pr vs h) fun r => K r.1 r.2
  | none => optK (lendAll h (takes A fn) vs) fun q => optK (res A Pr fn q.1) fun rs => K (tuple1 (takeAll h.ar.length rs).1) { ar := q.2, push := (takeAll h.ar.length rs).2, rall := !(vs.all V.isPv), base := if (takeAll h.ar.length rs).2.isEmpty then 0 else h.ar.length }

theorem CW_none {fn : Nat} (hi : inls A fn = false) (hp : Pr fn = none) {t : Bool} (ht : takes A fn = t) (vs : List V) (h : Heap) (K : V → Tn → Prop) : CW A Pr fn vs h K = optK (lendAll h t vs) fun q => optK (res A Pr fn q.1) fun rs => K (tuple1 (takeAll h.ar.length rs).1) { ar := q.2, push := (takeAll h.ar.length rs).2, rall := !(vs.all V.isPv), base := if (takeAll h.ar.length rs).2.isEmpty then 0 else h.ar.length } := by
  unfold CW
  rw [hi, hp, ht]
  rfl

theorem CW_some {fn : Nat} {pr : List V → Heap → Option (V × Tn)} (hi : inls A fn = false) (hp : Pr fn = some pr) (vs : List V) (h : Heap) (K : V → Tn → Prop) : CW A Pr fn vs h K = optK (pr vs h) fun r => K r.1 r.2 := by
  unfold CW
  rw [hi, hp]
  rfl

theorem CW_inl {fn : Nat} (hi : inls A fn = true) (vs : List V) (h : Heap) (K : V → Tn → Prop) : CW A Pr fn vs h K = IW A Pr fn vs h K := if_pos hi

theorem withInl_no {fn : Nat} (hi : inls A fn = false) (E : AC → St → Option (Ex × St)) : withInl A E Pr fn = Pr fn := by
  unfold inls at hi
  unfold withInl
  cases hf : A fn with
  | none => rfl
  | some g =>
    rw [hf] at hi
    simp only at hi ⊢
    rw [hi]
    simp
theorem withInl_yes {fn : Nat} (hi : inls A fn = true) (E : AC → St → Option (Ex × St)) : ∃ g, A fn = some g ∧ withInl A E Pr fn = some (runInl E g) := by
  unfold inls at hi
  unfold withInl
  cases hf : A fn with
  | none => rw [hf] at hi; cases hi
  | some g =>
    rw [hf] at hi
    simp only at hi ⊢
    rw [hi]
    exact ⟨g, rfl, rfl⟩

@[go_sem] theorem WE_call (env : List (Nat × V)) (h : Heap) (f : Opd) (args : List Opd) (K : V → Tn → Prop) : WE A Pr env h (.call f args) K = optK (funcOf (geto env f)) fun fc => CW A Pr fc.1 (args.map (geto env) ++ fc.2) h K := by
  apply propext
  constructor
  · rintro ⟨n, v, t, h1, hk⟩
    simp only [evalOp] at h1
    split at h1 <;> first | (cases h1; done) | skip
    rename_i fn cap hf
    refine ⟨(fn, cap), hf, ?_⟩
    unfold CW
    cases hi : inls A fn with
    | true =>
      obtain ⟨g, g1, g2⟩ := withInl_yes (Pr := Pr) hi (exec A Pr n)
      rw [g2] at h1
      dsimp only
      rw [if_pos hi]
      exact ⟨g, n, v, t, g1, h1, hk⟩
    | false =>
      rw [withInl_no hi] at h1
      dsimp only
      rw [if_neg (by rw [hi]; simp)]
      cases hp : Pr fn with
      | some pr =>
        simp only [hp] at h1 ⊢
        exact ⟨_, h1, hk⟩
      | none =>
        simp only [hp] at h1 ⊢
        split at h1 <;> first | (cases h1; done) | skip
        rename_i ps a hl
        split at h1 <;> first | (cases h1; done) | skip
        rename_i rs hrs
        cases h1
        exact ⟨(ps, a), hl, ⟨rs, res_some.2 ⟨n, hrs⟩, hk⟩⟩
  · rintro ⟨⟨fn, cap⟩, hf, hc⟩
    unfold CW at hc
    cases hi : inls A fn with
    | true =>
      simp only at hc
      rw [hi, if_pos rfl] at hc
      obtain ⟨g, n, v, t, g1, g2, hk⟩ := hc
      obtain ⟨g', k1, k2⟩ := withInl_yes (Pr := Pr) hi (exec A Pr n)
      rw [g1] at k1
      cases k1
      refine ⟨n, v, t, ?_, hk⟩
      simp only [evalOp, hf, k2]
      exact g2
    | false =>
      simp only at hc
      rw [hi, if_neg (by simp)] at hc
      cases hp : Pr fn with
      | some pr =>
        simp only [hp] at hc
        obtain ⟨⟨v, t⟩, h1, hk⟩ := hc
        refine ⟨0, v, t, ?_, hk⟩
        simp only [evalOp, hf, withInl_no hi, hp]
        exact h1
      | none =>
        simp only [hp] at hc
        obtain ⟨⟨ps, a⟩, hl, rs, hrs, hk⟩ := hc
        obtain ⟨n, hn⟩ := res_some.1 hrs
        refine ⟨n, _, _, ?_, hk⟩
        simp only [evalOp, hf, withInl_no hi, hp, hl, hn]

@[go_sem] theorem WO_nil (s : St) (K : St → Prop) : WO A Pr [] s K = K s := by
  apply propext
  constructor
  · rintro ⟨s', ⟨n, hn⟩, hk⟩
    simp only [execOps] at hn
    cases hn
    exact hk
  · exact fun hk => ⟨s, RunsOps.nil s, hk⟩

theorem WO_step {o : AOper} {r : List AOper} {s : St} {K : St → Prop} : WO A Pr (o :: r) s K = ∃ n s1 t, stepOp (callBy A (exec A Pr n)) (withInl A (exec A Pr n) Pr) (takes A) o s = some (s1, t) ∧ WO A Pr r s1 K := by
  apply propext
  constructor
  · rintro ⟨s', ⟨n, hn⟩, hk⟩
    simp only [execOps] at hn
    split at hn
    · rename_i s1 t h1
      exact ⟨n, s1, t, h1, s', ⟨n, hn⟩, hk⟩
    · cases hn
  · rintro ⟨n, s1, t, h1, s', h2, hk⟩
    exact ⟨s', RunsOps.cons h1 h2, hk⟩

@[go_sem] theorem WO_cons (d : Option Nat) (q : AOp) (r : List AOper) (env : List (Nat × V)) (h : Heap) (K : St → Prop) : WO A Pr (⟨d, q, none⟩ :: r) ⟨env, h⟩ K = WE A Pr env h q fun v t => WO A Pr r ⟨put env d v, t.apply h⟩ K := by
  rw [WO_step]
  apply propext
  constructor
  · rintro ⟨n, s1, t, h1, hk⟩
    simp only [stepOp, wanted] at h1
    split at h1
    · rename_i v t' he
      cases h1
      exact ⟨n, v, t, he, hk⟩
    · cases h1
  · rintro ⟨n, v, t, he, hk⟩
    exact ⟨n, _, t, by simp only [stepOp, wanted, he], hk⟩

def bare (t : Nat) (b : Bool) : List AOper → List AOper
  | [] => []
  | o :: r => if o.guard = some (t, b) ∧ o.dst ≠ some t then ⟨o.dst, o.op, none⟩ :: bare t b r else o :: r
def past (t : Nat) (b : Bool) : List AOper → List (Nat × V) → List (Nat × V) × List AOper
  | [], env => (env, [])
  | o :: r, env => if o.guard = some (t, b) ∧ o.dst ≠ some t then past t b r (put env o.dst (.tup [])) else (env, o :: r)

theorem get_putO {env : List (Nat × V)} {d : Option Nat} {v : V} {t : Nat} (h : d ≠ some t) : get (put env d v) t = get env t := by
  cases d with
  | none => rfl
  | some d =>
    simp only [put, get, look1]
    rw [if_neg (by intro he; exact h (by rw [he]))]

theorem wanted_put {env : List (Nat × V)} {d : Option Nat} {v : V} {t : Nat} {b : Bool} (h : d ≠ some t) : wanted (put env d v) (some (t, b)) = wanted env (some (t, b)) := by
  simp only [wanted, get_putO h]

theorem WO_bare {t : Nat} {b : Bool} : ∀ (l : List AOper) (s : St) (K : St → Prop), wanted s.env (some (t, b)) = some true → WO A Pr l s K = WO A Pr (bare t b l) s K
  | [], s, K, _ => rfl
  | o :: r, s, K, he => by
    by_cases hg : o.guard = some (t, b) ∧ o.dst ≠ some t
    · rw [show bare t b (o :: r) = ⟨o.dst, o.op, none⟩ :: bare t b r from if_pos hg]
      obtain ⟨env, h⟩ := s
      rw [WO_step, WO_step]
      have : ∀ n, stepOp (callBy A (exec A Pr n)) (withInl A (exec A Pr n) Pr) (takes A) o ⟨env, h⟩ = stepOp (callBy A (exec A Pr n)) (withInl A (exec A Pr n) Pr) (takes A) ⟨o.dst, o.op, none⟩ ⟨env, h⟩ := by
        intro n
        have e1 : wanted env o.guard = some true := by rw [hg.1]; exact he
        have e2 : wanted env (none : Option (Nat × Bool)) = some true := rfl
        simp only [stepOp, e1, e2]
      simp only [this]
      apply propext
      have hr : ∀ n s1 tn, stepOp (callBy A (exec A Pr n)) (withInl A (exec A Pr n) Pr) (takes A) ⟨o.dst, o.op, none⟩ ⟨env, h⟩ = some (s1, tn) → wanted s1.env (some (t, b)) = some true := by
        intro n s1 tn h1
        have e2 : wanted env (none : Option (Nat × Bool)) = some true := rfl
        simp only [stepOp, e2] at h1
        split at h1
        · cases h1
          exact (wanted_put hg.2).trans he
        · cases h1
      constructor
      · rintro ⟨n, s1, tn, h1, hk⟩
        exact ⟨n, s1, tn, h1, by rw [← WO_bare r s1 K (hr _ _ _ h1)]; exact hk⟩
      · rintro ⟨n, s1, tn, h1, hk⟩
        exact ⟨n, s1, tn, h1, by rw [WO_bare r s1 K (hr _ _ _ h1)]; exact hk⟩
    · rw [show bare t b (o :: r) = o :: r from if_neg hg]

theorem WO_past {t : Nat} {b : Bool} : ∀ (l : List AOper) (env : List (Nat × V)) (h : Heap) (K : St → Prop), wanted env (some (t, b)) = some false → WO A Pr l ⟨env, h⟩ K = WO A Pr (past t b l env).2 ⟨(past t b l env).1, h⟩ K
  | [], env, h, K, _ => rfl
  | o :: r, env, h, K, he => by
    by_cases hg : o.guard = some (t, b) ∧ o.dst ≠ some t
    · rw [show past t b (o :: r) env = past t b r (put env o.dst (.tup [])) from if_pos hg]
      rw [WO_step, ← WO_past r (put env o.dst (.tup [])) h K ((wanted_put hg.2).trans he)]
      have : ∀ n, stepOp (callBy A (exec A Pr n)) (withInl A (exec A Pr n) Pr) (takes A) o ⟨env, h⟩ = some (⟨put env o.dst (.tup []), h⟩, {}) := by
        intro n
        have e1 : wanted env o.guard = some false := by rw [hg.1]; exact he
        simp only [stepOp, e1]
      simp only [this]
      apply propext
      constructor
      · rintro ⟨n, s1, tn, h1, hk⟩
        cases h1
        exact hk
      · exact fun hk => ⟨0, _, _, rfl, hk⟩
    · rw [show past t b (o :: r) env = (env, o :: r) from if_neg hg]

def gdK (v : V) (b : Bool) (X Y : Prop) (_t : Tie (X ∧ Y) := .mk) : Prop :=
  match v with
  | .pv (.bool c) => Br (c == b) X Y
  | .tup _ => Y
  | _ => False
@[congr] theorem gdK_congr {v v' : V} {b : Bool} {X Y : Prop} (h : v = v') : gdK v b X Y = gdK v' b X Y := by rw [h]
@[go_sem] theorem gdK_bool (c b : Bool) (X Y : Prop) : gdK (.pv (.bool c)) b X Y = Br (c == b) X Y := rfl
@[go_sem] theorem gdK_tup (l : List V) (b : Bool) (X Y : Prop) : gdK (.tup l) b X Y = Y := rfl
theorem gdK_iff {env : List (Nat × V)} {t : Nat} {b : Bool} {X Y Z : Prop} (h0 : Z → ∃ c, wanted env (some (t, b)) = some c) (h1 : wanted env (some (t, b)) = some true → Z = X) (h2 : wanted env (some (t, b)) = some false → Z = Y) : Z = gdK (get env t) b X Y := by
  simp only [wanted] at h0 h1 h2
  apply propext
  cases hv : get env t with
  | pv p =>
    cases p with
    | bool c =>
      simp only [hv, Option.some.injEq] at h1 h2
      rw [gdK_bool]
      cases hcb : (c == b) with
      | true => rw [Br_true, h1 hcb]
      | false => rw [Br_false, h2 hcb]
    | _ =>
      simp only [hv] at h0
      exact ⟨fun hz => (h0 hz).elim (fun _ h => by cases h), fun h => h.elim⟩
  | tup l =>
    simp only [hv] at h2
    rw [gdK_tup, h2 trivial]
  | _ =>
    simp only [hv] at h0
    exact ⟨fun hz => (h0 hz).elim (fun _ h => by cases h), fun h => h.elim⟩

def WB (A : Nat → Option AFunc) (Pr : Prims) (t : Nat) (b : Bool) (l : List AOper) (s : St) (K : St → Prop) (_t : Tie (l, K) := .mk) : Prop := WO A Pr (bare t b l) s K
def WN (A : Nat → Option AFunc) (Pr : Prims) (t : Nat) (b : Bool) (l : List AOper) (s : St) (K : St → Prop) (_t : Tie (l, K) := .mk) : Prop := WO A Pr (past t b l s.env).2 ⟨(past t b l s.env).1, s.h⟩ K
def ndst (t : Nat) : Option Nat → Bool
  | some d => !(d == t)
  | none => true
@[go_sem] theorem ndst_some (t d : Nat) : ndst t (some d) = !(d == t) := rfl
@[go_sem] theorem ndst_none (t : Nat) : ndst t none = true := rfl
theorem ndst_iff {t : Nat} {d : Option Nat} : ndst t d = true ↔ d ≠ some t := by
  cases d <;> simp [ndst]
@[congr] theorem WB_congr {t : Nat} {b : Bool} {l : List AOper} {s s' : St} {K : St → Prop} (h : s = s') : WB A Pr t b l s K = WB A Pr t b l s' K := by rw [h]
@[congr] theorem WN_congr {t : Nat} {b : Bool} {l : List AOper} {s s' : St} {K : St → Prop} (h : s = s') : WN A Pr t b l s K = WN A Pr t b l s' K := by rw [h]
@[go_sem] theorem WB_nil (t : Nat) (b : Bool) (s : St) (K : St → Prop) : WB A Pr t b [] s K = K s := WO_nil s K
@[go_sem] theorem WN_nil (t : Nat) (b : Bool) (s : St) (K : St → Prop) : WN A Pr t b [] s K = K s := WO_nil s K
@[go_sem] theorem WB_none (t : Nat) (b : Bool) (d : Option Nat) (q : AOp) (r : List AOper) (s : St) (K : St → Prop) : WB A Pr t b (⟨d, q, none⟩ :: r) s K = WO A Pr (⟨d, q, none⟩ :: r) s K := by
  simp [WB, bare]
@[go_sem] theorem WN_none (t : Nat) (b : Bool) (d : Option Nat) (q : AOp) (r : List AOper) (s : St) (K : St → Prop) : WN A Pr t b (⟨d, q, none⟩ :: r) s K = WO A Pr (⟨d, q, none⟩ :: r) s K := by
  simp [WN, past]
@[go_sem] theorem WB_some (t : Nat) (b : Bool) (d : Option Nat) (q : AOp) (t' : Nat) (b' : Bool) (r : List AOper) (env : List (Nat × V)) (h : Heap) (K : St → Prop) : WB A Pr t b (⟨d, q, some (t', b')⟩ :: r) ⟨env, h⟩ K = Br (t' == t && b' == b && ndst t d) (WE A Pr env h q fun v tn => WB A Pr t b r ⟨put env d v, tn.apply h⟩ K) (WO A Pr (⟨d, q, some (t', b')⟩ :: r) ⟨env, h⟩ K) := by
  by_cases hc : t' = t ∧ b' = b ∧ d ≠ some t
  · obtain ⟨rfl, rfl, hd⟩ := hc
    rw [show (t' == t' && b' == b' && ndst t' d) = true by simp [ndst_iff.2 hd], Br_true]
    unfold WB
    rw [← WO_cons, show bare t' b' (⟨d, q, some (t', b')⟩ :: r) = ⟨d, q, none⟩ :: bare t' b' r from if_pos ⟨rfl, hd⟩]
  · rw [show (t' == t && b' == b && ndst t d) = false by
      cases hx : (t' == t && b' == b && ndst t d) with
      | false => rfl
      | true =>
        simp only [Bool.and_eq_true, beq_iff_eq] at hx
        exact (hc ⟨hx.1.1, hx.1.2, ndst_iff.1 hx.2⟩).elim, Br_false]
    have : ¬ (some (t', b') = some (t, b) ∧ d ≠ some t) := fun ⟨h1, h2⟩ => hc ⟨by cases h1; rfl, by cases h1; rfl, h2⟩
    unfold WB
    rw [show bare t b (⟨d, q, some (t', b')⟩ :: r) = ⟨d, q, some (t', b')⟩ :: r from if_neg this]
@[go_sem] theorem WN_some (t : Nat) (b : Bool) (d : Option Nat) (q : AOp) (t' : Nat) (b' : Bool) (r : List AOper) (env : List (Nat × V)) (h : Heap) (K : St → Prop) : WN A Pr t b (⟨d, q, some (t', b')⟩ :: r) ⟨env, h⟩ K = Br (t' == t && b' == b && ndst t d) (WN A Pr t b r ⟨put env d (.tup []), h⟩ K) (WO A Pr (⟨d, q, some (t', b')⟩ :: r) ⟨env, h⟩ K) := by
  by_cases hc : t' = t ∧ b' = b ∧ d ≠ some t
  · obtain ⟨rfl, rfl, hd⟩ := hc
    rw [show (t' == t' && b' == b' && ndst t' d) = true by simp [ndst_iff.2 hd], Br_true]
    unfold WN
    dsimp only
    rw [show past t' b' (⟨d, q, some (t', b')⟩ :: r) env = past t' b' r (put env d (.tup [])) from if_pos ⟨rfl, hd⟩]
  · rw [show (t' == t && b' == b && ndst t d) = false by
      cases hx : (t' == t && b' == b && ndst t d) with
      | false => rfl
      | true =>
        simp only [Bool.and_eq_true, beq_iff_eq] at hx
        exact (hc ⟨hx.1.1, hx.1.2, ndst_iff.1 hx.2⟩).elim, Br_false]
    have : ¬ (some (t', b') = some (t, b) ∧ d ≠ some t) := fun ⟨h1, h2⟩ => hc ⟨by cases h1; rfl, by cases h1; rfl, h2⟩
    unfold WN
    dsimp only
    rw [show past t b (⟨d, q, some (t', b')⟩ :: r) env = (env, ⟨d, q, some (t', b')⟩ :: r) from if_neg this]

@[go_sem] theorem WO_guard (d : Option Nat) (q : AOp) (t : Nat) (b : Bool) (r : List AOper) (env : List (Nat × V)) (h : Heap) (K : St → Prop) : WO A Pr (⟨d, q, some (t, b)⟩ :: r) ⟨env, h⟩ K = gdK (get env t) b (WB A Pr t b (⟨d, q, some (t, b)⟩ :: r) ⟨env, h⟩ K) (WN A Pr t b (⟨d, q, some (t, b)⟩ :: r) ⟨env, h⟩ K) := by
  refine gdK_iff (fun hw => ?_) (fun hw => WO_bare _ ⟨env, h⟩ K hw) (fun hw => WO_past _ env h K hw)
  rw [WO_step] at hw
  obtain ⟨n, s1, tn, h1, _⟩ := hw
  cases hx : wanted env (some (t, b)) with
  | none => simp only [stepOp, hx] at h1; cases h1
  | some c => exact ⟨c, rfl⟩


@[go_sem] theorem WD_nil (done : List Tn) (s : St) (K : St → Prop) : WD A Pr [] done s K = K s := by
  apply propext
  constructor
  · rintro ⟨s', ⟨n, hn⟩, hk⟩
    simp only [execDraw] at hn
    cases hn
    exact hk
  · exact fun hk => ⟨s, RunsDraw.nil done s, hk⟩

theorem WD_step {o : AOper} {un : List Nat} {r : List (AOper × List Nat)} {done : List Tn} {s : St} {K : St → Prop} : WD A Pr ((o, un) :: r) done s K = ∃ n s1 t, stepOp (callBy A (exec A Pr n)) (withInl A (exec A Pr n) Pr) (takes A) o s = some (s1, t) ∧ holdAgainst un t done = true ∧ WD A Pr r (done ++ [t]) s1 K := by
  apply propext
  constructor
  · rintro ⟨s', ⟨n, hn⟩, hk⟩
    simp only [execDraw] at hn
    split at hn
    · rename_i s1 t h1
      split at hn
      · rename_i hh
        exact ⟨n, s1, t, h1, hh, s', ⟨n, hn⟩, hk⟩
      · cases hn
    · cases hn
  · rintro ⟨n, s1, t, h1, hh, s', h2, hk⟩
    exact ⟨s', RunsDraw.cons h1 hh h2, hk⟩

def held (un : List Nat) (t : Tn) (done : List Tn) (X : Prop) (_t : Tie X := .mk) : Prop := holdAgainst un t done = true ∧ X
@[congr] theorem held_congr {un : List Nat} {t t' : Tn} {done done' : List Tn} {X : Prop} (h : t = t') (h' : done = done') : held un t done X = held un t' done' X := by rw [h, h']
@[go_sem] theorem held_nil (t : Tn) (done : List Tn) (X : Prop) : held [] t done X = X := by simp [held, holdAgainst]

@[go_sem] theorem WD_cons (d : Option Nat) (q : AOp) (un : List Nat) (r : List (AOper × List Nat)) (done : List Tn) (env : List (Nat × V)) (h : Heap) (K : St → Prop) : WD A Pr ((⟨d, q, none⟩, un) :: r) done ⟨env, h⟩ K = WE A Pr env h q fun v t => held un t done (WD A Pr r (done ++ [t]) ⟨put env d v, t.apply h⟩ K) := by
  rw [WD_step]
  apply propext
  constructor
  · rintro ⟨n, s1, t, h1, hh, hk⟩
    simp only [stepOp, wanted] at h1
    split at h1
    · rename_i v t' he
      cases h1
      exact ⟨n, v, t, he, hh, hk⟩
    · cases h1
  · rintro ⟨n, v, t, he, hh, hk⟩
    exact ⟨n, _, t, by simp only [stepOp, wanted, he], hh, hk⟩

def bareD (t : Nat) (b : Bool) : List (AOper × List Nat) → List (AOper × List Nat)
  | [] => []
  | (o, un) :: r => if o.guard = some (t, b) ∧ o.dst ≠ some t then (⟨o.dst, o.op, none⟩, un) :: bareD t b r else (o, un) :: r

theorem WD_bare {t : Nat} {b : Bool} : ∀ (l : List (AOper × List Nat)) (done : List Tn) (s : St) (K : St → Prop), wanted s.env (some (t, b)) = some true → WD A Pr l done s K = WD A Pr (bareD t b l) done s K
  | [], _, s, K, _ => rfl
  | (o, un) :: r, done, s, K, he => by
    by_cases hg : o.guard = some (t, b) ∧ o.dst ≠ some t
    · rw [show bareD t b ((o, un) :: r) = (⟨o.dst, o.op, none⟩, un) :: bareD t b r from if_pos hg]
      obtain ⟨env, h⟩ := s
      rw [WD_step, WD_step]
      have : ∀ n, stepOp (callBy A (exec A Pr n)) (withInl A (exec A Pr n) Pr) (takes A) o ⟨env, h⟩ = stepOp (callBy A (exec A Pr n)) (withInl A (exec A Pr n) Pr) (takes A) ⟨o.dst, o.op, none⟩ ⟨env, h⟩ := by
        intro n
        have e1 : wanted env o.guard = some true := by rw [hg.1]; exact he
        have e2 : wanted env (none : Option (Nat × Bool)) = some true := rfl
        simp only [stepOp, e1, e2]
      simp only [this]
      apply propext
      have hr : ∀ n s1 tn, stepOp (callBy A (exec A Pr n)) (withInl A (exec A Pr n) Pr) (takes A) ⟨o.dst, o.op, none⟩ ⟨env, h⟩ = some (s1, tn) → wanted s1.env (some (t, b)) = some true := by
        intro n s1 tn h1
        have e2 : wanted env (none : Option (Nat × Bool)) = some true := rfl
        simp only [stepOp, e2] at h1
        split at h1
        · cases h1
          exact (wanted_put hg.2).trans he
        · cases h1
      constructor
      · rintro ⟨n, s1, tn, h1, hh, hk⟩
        exact ⟨n, s1, tn, h1, hh, by rw [← WD_bare r _ s1 K (hr _ _ _ h1)]; exact hk⟩
      · rintro ⟨n, s1, tn, h1, hh, hk⟩
        exact ⟨n, s1, tn, h1, hh, by rw [WD_bare r _ s1 K (hr _ _ _ h1)]; exact hk⟩
    · rw [show bareD t b ((o, un) :: r) = (o, un) :: r from if_neg hg]

theorem WD_past1 {o : AOper} {un : List Nat} {r : List (AOper × List Nat)} {done : List Tn} {env : List (Nat × V)} {h : Heap} {K : St → Prop} (he : wanted env o.guard = some false) : WD A Pr ((o, un) :: r) done ⟨env, h⟩ K = held un ({} : Tn) done (WD A Pr r (done ++ [({} : Tn)]) ⟨put env o.dst (.tup []), h⟩ K) := by
  rw [WD_step]
  have : ∀ n, stepOp (callBy A (exec A Pr n)) (withInl A (exec A Pr n) Pr) (takes A) o ⟨env, h⟩ = some (⟨put env o.dst (.tup []), h⟩, {}) := by
    intro n
    simp only [stepOp, he]
  simp only [this]
  apply propext
  constructor
  · rintro ⟨n, s1, tn, h1, hh, hk⟩
    cases h1
    exact ⟨hh, hk⟩
  · rintro ⟨hh, hk⟩
    exact ⟨0, _, _, rfl, hh, hk⟩

def WDB (A : Nat → Option AFunc) (Pr : Prims) (t : Nat) (b : Bool) (l : List (AOper × List Nat)) (done : List Tn) (s : St) (K : St → Prop) (_t : Tie (l, K) := .mk) : Prop := WD A Pr (bareD t b l) done s K
@[congr] theorem WDB_congr {t : Nat} {b : Bool} {l : List (AOper × List Nat)} {done done' : List Tn} {s s' : St} {K : St → Prop} (h' : done = done') (h : s = s') : WDB A Pr t b l done s K = WDB A Pr t b l done' s' K := by rw [h, h']
@[go_sem] theorem WDB_nil (t : Nat) (b : Bool) (done : List Tn) (s : St) (K : St → Prop) : WDB A Pr t b [] done s K = K s := WD_nil done s K
@[go_sem] theorem WDB_none (t : Nat) (b : Bool) (d : Option Nat) (q : AOp) (un : List Nat) (r : List (AOper × List Nat)) (done : List Tn) (s : St) (K : St → Prop) : WDB A Pr t b ((⟨d, q, none⟩, un) :: r) done s K = WD A Pr ((⟨d, q, none⟩, un) :: r) done s K := by
  simp [WDB, bareD]
@[go_sem] theorem WDB_some (t : Nat) (b : Bool) (d : Option Nat) (q : AOp) (t' : Nat) (b' : Bool) (un : List Nat) (r : List (AOper × List Nat)) (done : List Tn) (env : List (Nat × V)) (h : Heap) (K : St → Prop) : WDB A Pr t b ((⟨d, q, some (t', b')⟩, un) :: r) done ⟨env, h⟩ K = Br (t' == t && b' == b && ndst t d) (WE A Pr env h q fun v tn => held un tn done (WDB A Pr t b r (done ++ [tn]) ⟨put env d v, tn.apply h⟩ K)) (WD A Pr ((⟨d, q, some (t', b')⟩, un) :: r) done ⟨env, h⟩ K) := by
  by_cases hc : t' = t ∧ b' = b ∧ d ≠ some t
  · obtain ⟨rfl, rfl, hd⟩ := hc
    rw [show (t' == t' && b' == b' && ndst t' d) = true by simp [ndst_iff.2 hd], Br_true]
    unfold WDB
    rw [← WD_cons, show bareD t' b' ((⟨d, q, some (t', b')⟩, un) :: r) = (⟨d, q, none⟩, un) :: bareD t' b' r from if_pos ⟨rfl, hd⟩]
  · rw [show (t' == t && b' == b && ndst t d) = false by
      cases hx : (t' == t && b' == b && ndst t d) with
      | false => rfl
      | true =>
        simp only [Bool.and_eq_true, beq_iff_eq] at hx
        exact (hc ⟨hx.1.1, hx.1.2, ndst_iff.1 hx.2⟩).elim, Br_false]
    have : ¬ (some (t', b') = some (t, b) ∧ d ≠ some t) := fun ⟨h1, h2⟩ => hc ⟨by cases h1; rfl, by cases h1; rfl, h2⟩
    unfold WDB
    rw [show bareD t b ((⟨d, q, some (t', b')⟩, un) :: r) = (⟨d, q, some (t', b')⟩, un) :: r from if_neg this]

@[go_sem] theorem WD_guard (d : Option Nat) (q : AOp) (t : Nat) (b : Bool) (un : List Nat) (r : List (AOper × List Nat)) (done : List Tn) (env : List (Nat × V)) (h : Heap) (K : St → Prop) : WD A Pr ((⟨d, q, some (t, b)⟩, un) :: r) done ⟨env, h⟩ K = gdK (get env t) b (WDB A Pr t b ((⟨d, q, some (t, b)⟩, un) :: r) done ⟨env, h⟩ K) (held un ({} : Tn) done (WD A Pr r (done ++ [({} : Tn)]) ⟨put env d (.tup []), h⟩ K)) := by
  refine gdK_iff (fun hw => ?_) (fun hw => WD_bare _ done ⟨env, h⟩ K hw) (fun hw => WD_past1 hw)
  rw [WD_step] at hw
  obtain ⟨n, s1, tn, h1, _⟩ := hw
  cases hx : wanted env (some (t, b)) with
  | none => simp only [stepOp, hx] at h1; cases h1
  | some c => exact ⟨c, rfl⟩


def rndK {α : Type} (S : α → St) (P : α → Prop) (m : α → Nat) (x : α) (Q : Ex → St → Prop) (_t : Tie (S, P, m, x, Q) := .mk) : Ex → St → Prop
  | .normal, s => ∃ y, P y ∧ m y < m x ∧ s = S y
  | .exit i, s => Q (.exit i) s
  | .ret, s => Q .ret s
@[go_sem] theorem rndK_exit {α : Type} (S : α → St) (P : α → Prop) (m : α → Nat) (x : α) (Q : Ex → St → Prop) (i : Nat) (s : St) : rndK S P m x Q .mk (.exit i) s = Q (.exit i) s := rfl
@[go_sem] theorem rndK_ret {α : Type} (S : α → St) (P : α → Prop) (m : α → Nat) (x : α) (Q : Ex → St → Prop) (s : St) : rndK S P m x Q .mk .ret s = Q .ret s := rfl

@[congr] theorem rndK_congr {α : Type} {S : α → St} {P : α → Prop} {m : α → Nat} {x : α} {Q : Ex → St → Prop} {e e' : Ex} {s s' : St} (he : e = e') (hs : s = s') : rndK S P m x Q .mk e s = rndK S P m x Q .mk e' s' := by rw [he, hs]

theorem W.loop {α : Type} {a : AC} {s : St} {Q : Ex → St → Prop} (S : α → St) (P : α → Prop) (m : α → Nat) (x0 : α) (hs : s = S x0) (h0 : P x0) (hr : ∀ x, P x → W A Pr a (S x) (rndK S P m x Q)) : W A Pr (.loop a) s Q := by
  subst hs
  have key : ∀ n x, m x ≤ n → P x → W A Pr (.loop a) (S x) Q := by
    intro n
    induction n with
    | zero =>
      intro x hm hp
      obtain ⟨ex, s', h1, h2⟩ := hr x hp
      cases ex with
      | normal => obtain ⟨y, _, h3, _⟩ := h2; omega
      | exit i => exact ⟨_, _, Runs.loop_out h1 (by simp), h2⟩
      | ret => exact ⟨_, _, Runs.loop_out h1 (by simp), h2⟩
    | succ n ih =>
      intro x hm hp
      obtain ⟨ex, s', h1, h2⟩ := hr x hp
      cases ex with
      | normal =>
        obtain ⟨y, hy, h3, rfl⟩ := h2
        obtain ⟨e2, s2, h4, h5⟩ := ih y (by omega) hy
        exact ⟨e2, s2, Runs.loop_step h1 h4, h5⟩
      | exit i => exact ⟨_, _, Runs.loop_out h1 (by simp), h2⟩
      | ret => exact ⟨_, _, Runs.loop_out h1 (by simp), h2⟩
  exact key _ x0 (Nat.le_refl _) h0

def stepK (S : Nat → St) (P : Nat → Prop) (n k : Nat) (Q : Ex → St → Prop) (_t : Tie (S, P, n, k, Q) := .mk) : Ex → St → Prop
  | .normal, s => k < n ∧ s = S (k + 1) ∧ P (k + 1)
  | .exit i, s => Q (.exit i) s
  | .ret, s => Q .ret s
@[congr] theorem stepK_congr {S : Nat → St} {P : Nat → Prop} {n k : Nat} {Q : Ex → St → Prop} {e e' : Ex} {s s' : St} (he : e = e') (hs : s = s') : stepK S P n k Q .mk e s = stepK S P n k Q .mk e' s' := by rw [he, hs]
@[go_sem] theorem stepK_exit (S : Nat → St) (P : Nat → Prop) (n k : Nat) (Q : Ex → St → Prop) (i : Nat) (s : St) : stepK S P n k Q .mk (.exit i) s = Q (.exit i) s := rfl
@[go_sem] theorem stepK_ret (S : Nat → St) (P : Nat → Prop) (n k : Nat) (Q : Ex → St → Prop) (s : St) : stepK S P n k Q .mk .ret s = Q .ret s := rfl
theorem stepK.of {S : Nat → St} {P : Nat → Prop} {n k : Nat} {Q : Ex → St → Prop} {s : St} (h1 : k < n) (h2 : s = S (k + 1)) (h3 : P (k + 1)) : stepK S P n k Q .mk .normal s := ⟨h1, h2, h3⟩

theorem W.upto {a : AC} {s : St} {Q : Ex → St → Prop} (n : Nat) (S : Nat → St) (P : Nat → Prop) (hs : s = S 0) (h0 : P 0) (hr : ∀ k, k ≤ n → P k → W A Pr a (S k) (stepK S P n k Q)) : W A Pr (.loop a) s Q := by
  refine W.loop S (fun k => k ≤ n ∧ P k) (fun k => n - k) 0 hs ⟨Nat.zero_le _, h0⟩ fun k hk => ?_
  obtain ⟨ex, s', h1, h2⟩ := hr k hk.1 hk.2
  refine ⟨ex, s', h1, ?_⟩
  cases ex with
  | normal =>
    obtain ⟨g1, g2, g3⟩ := h2
    exact ⟨k + 1, ⟨g1, g3⟩, by show n - (k + 1) < n - k; omega, g2⟩
  | exit i => exact h2
  | ret => exact h2


def leaveL (s : St) (rs : List RVar) (fresh : Bool) : Option (List PV) :=
  (mapO (resultOf s) rs).bind fun vs => if !fresh || distinct (ownIds vs) then mapO (keep s.h fresh) vs else none
theorem leave_eq (fn : AFunc) (s : St) : leave fn s = leaveL s fn.results fn.fresh := by
  simp only [leave, leaveL]
  cases mapO (resultOf s) fn.results <;> rfl

def endK (l : List RVar) (fresh : Bool) (rs : List PV) (_t : Tie (l, fresh, rs) := .mk) : Ex → St → Prop
  | .normal, s => leaveL s l fresh = some rs
  | .ret, s => leaveL s l fresh = some rs
  | .exit _, _ => False
@[congr] theorem endK_congr {l : List RVar} {fresh : Bool} {rs : List PV} {e e' : Ex} {s s' : St} (he : e = e') (hs : s = s') : endK l fresh rs .mk e s = endK l fresh rs .mk e' s' := by rw [he, hs]
@[go_sem] theorem endK_normal (l : List RVar) (fresh : Bool) (rs : List PV) (s : St) : endK l fresh rs .mk .normal s = (leaveL s l fresh = some rs) := rfl
@[go_sem] theorem endK_ret (l : List RVar) (fresh : Bool) (rs : List PV) (s : St) : endK l fresh rs .mk .ret s = (leaveL s l fresh = some rs) := rfl

theorem Gives.ofW {f : Nat} {fn : AFunc} {ps rs : List PV} (hf : A f = some fn) (hl : ps.length = fn.nargs) (ha : argsOk fn.take ps = true) (hw : W A Pr fn.body ⟨entry 0 ps, entryHeap ps⟩ (endK fn.results fn.fresh rs)) : Gives A Pr f ps rs := by
  obtain ⟨ex, s', h, hq⟩ := hw
  cases ex with
  | normal => exact Gives.of hf hl ha h (.inl rfl) ((leave_eq fn s').trans hq)
  | ret => exact Gives.of hf hl ha h (.inr rfl) ((leave_eq fn s').trans hq)
  | exit i => exact hq.elim

theorem res_of {f : Nat} {fn : AFunc} {ps rs : List PV} (hf : A f = some fn) (hl : ps.length = fn.nargs) (ha : argsOk fn.take ps = true) (hw : W A Pr fn.body ⟨entry 0 ps, entryHeap ps⟩ (endK fn.results fn.fresh rs)) : res A Pr f ps = some rs :=
  res_some.2 (Gives.ofW hf hl ha hw)

end Go.Pv

/-
  What operations come to, as rules for rewriting.
-/
namespace Go.Pv
variable {A : Nat → Option AFunc} {Pr : Prims}

@[congr] theorem W_congr {c : AC} {s s' : St} {Q : Ex → St → Prop} (h : s = s') : W A Pr c s Q = W A Pr c s' Q := by rw [h]
@[congr] theorem WO_congr {l : List AOper} {s s' : St} {K : St → Prop} (h : s = s') : WO A Pr l s K = WO A Pr l s' K := by rw [h]
@[congr] theorem WD_congr {l : List (AOper × List Nat)} {d d' : List Tn} {s s' : St} {K : St → Prop} (h' : d = d') (h : s = s') : WD A Pr l d s K = WD A Pr l d' s' K := by rw [h, h']
@[congr] theorem WE_congr {env env' : List (Nat × V)} {h h' : Heap} {q : AOp} {K : V → Tn → Prop} (he : env = env') (hh : h = h') : WE A Pr env h q K = WE A Pr env' h' q K := by rw [he, hh]
@[congr] theorem CW_congr {fn : Nat} {vs vs' : List V} {h h' : Heap} {K : V → Tn → Prop} (he : vs = vs') (hh : h = h') : CW A Pr fn vs h K = CW A Pr fn vs' h' K := by rw [he, hh]
@[congr] theorem seqK_congr {b : AC} {Q : Ex → St → Prop} {e e' : Ex} {s s' : St} (he : e = e') (hs : s = s') : seqK A Pr b Q .mk e s = seqK A Pr b Q .mk e' s' := by rw [he, hs]
@[congr] theorem blockK_congr {i : Nat} {Q : Ex → St → Prop} {e e' : Ex} {s s' : St} (he : e = e') (hs : s = s') : blockK i Q .mk e s = blockK i Q .mk e' s' := by rw [he, hs]

def sel {α : Type} (c : Bool) (x y : α) (_t : Tie (x, y) := .mk) : α := if c = true then x else y
@[congr] theorem sel_congr {α : Type} {c c' : Bool} {x y : α} (h : c = c') : sel c x y = sel c' x y := by rw [h]
@[go_sem] theorem sel_true {α : Type} (x y : α) : sel true x y = x := rfl
@[go_sem] theorem sel_false {α : Type} (x y : α) : sel false x y = y := by simp [sel]
theorem sel_eq {α : Type} (s t : Nat) (x y : α) : sel (s == t) x y = if s = t then x else y := by simp [sel]
@[go_sem] theorem geto_tmp (env : List (Nat × V)) (t : Nat) : geto env (.tmp t) = get env t := rfl
@[go_sem] theorem geto_val (env : List (Nat × V)) (v : V) : geto env (.val v) = v := rfl
@[go_sem] theorem get_cons (s : Nat) (x : V) (r : List (Nat × V)) (t : Nat) : get ((s, x) :: r) t = sel (s == t) x (get r t) := by
  simp only [get, look1, sel_eq]
  split <;> rfl
@[go_sem] theorem get_nil (t : Nat) : get [] t = .any := rfl
@[go_sem] theorem put_some (env : List (Nat × V)) (d : Nat) (v : V) : put env (some d) v = (d, v) :: env := rfl
@[go_sem] theorem put_none (env : List (Nat × V)) (v : V) : put env none v = env := rfl
@[go_sem] theorem look1_cons {α : Type} (s : Nat) (x : α) (r : List (Nat × α)) (t : Nat) : look1 t ((s, x) :: r) = sel (s == t) (some x) (look1 t r) := by rw [sel_eq]; rfl
@[go_sem] theorem look1_nil {α : Type} (t : Nat) : look1 t ([] : List (Nat × α)) = none := rfl
@[go_sem] theorem bxSet_nil (s : Nat) (c : List V) : bxSet s c [] = [(s, c)] := rfl
@[go_sem] theorem bxSet_cons (s : Nat) (c : List V) (s' : Nat) (c' : List V) (r : List (Nat × List V)) : bxSet s c ((s', c') :: r) = sel (s' == s) ((s, c) :: r) ((s', c') :: bxSet s c r) := by rw [sel_eq]; rfl
@[go_sem] theorem mask_mk (kt kb : List Nat) (env : List (Nat × V)) (bx : List (Nat × List V)) (ar : List Arr) (mp : List (List (PV × PV))) : St.mask kt kb ⟨env, ⟨bx, ar, mp⟩⟩ = ⟨maskEnv kt kb env, ⟨maskBx kb bx, ar, mp⟩⟩ := rfl
@[go_sem] theorem maskEnv_cons (t : Nat) (kt kb : List Nat) (env : List (Nat × V)) : maskEnv (t :: kt) kb env = (t, scrub kb (get env t)) :: maskEnv kt kb env := rfl
@[go_sem] theorem maskEnv_nil (kb : List Nat) (env : List (Nat × V)) : maskEnv [] kb env = [] := rfl
def consO (s : Nat) (o : Option (List V)) (r : List (Nat × List V)) : List (Nat × List V) :=
  match o with
  | some c => (s, c) :: r
  | none => r
@[go_sem] theorem consO_some (s : Nat) (c : List V) (r : List (Nat × List V)) : consO s (some c) r = (s, c) :: r := rfl
@[go_sem] theorem consO_none (s : Nat) (r : List (Nat × List V)) : consO s none r = r := rfl
@[go_sem] theorem maskBx_cons (s : Nat) (kb : List Nat) (bx : List (Nat × List V)) : maskBx (s :: kb) bx = consO s (look1 s bx) (maskBx kb bx) := by
  simp only [maskBx]
  split <;> rename_i h <;> rw [h] <;> rfl
@[go_sem] theorem maskBx_nil (bx : List (Nat × List V)) : maskBx [] bx = pins bx := rfl
@[go_sem] theorem pins_nil : pins [] = [] := rfl
@[go_sem] theorem pins_cons (s : Nat) (cs : List V) (r : List (Nat × List V)) : pins ((s, cs) :: r) = sel (isPin s) ((s, cs) :: pins r) (pins r) := rfl
@[go_sem] theorem isPin_lt {s : Nat} (h : s < 100000) : isPin s = false := by
  unfold isPin
  rw [Bool.eq_false_iff]
  intro hh
  rw [Nat.ble_eq] at hh
  omega
@[go_sem] theorem isPin_ge {s : Nat} (h : 100000 ≤ s) : isPin s = true := by
  unfold isPin
  rw [Nat.ble_eq]
  exact h
@[go_sem] theorem scrub_pv (kb : List Nat) (p : PV) : scrub kb (.pv p) = .pv p := rfl
@[go_sem] theorem scrub_tl (kb : List Nat) (r : List (List PV)) : scrub kb (.tl r) = .tl r := rfl
@[go_sem] theorem scrub_own (kb : List Nat) (a b c d : Nat) : scrub kb (.own a b c d) = .own a b c d := rfl
@[go_sem] theorem scrub_aptr (kb : List Nat) (a b c d : Nat) : scrub kb (.aptr a b c d) = .aptr a b c d := rfl
@[go_sem] theorem scrub_map (kb : List Nat) (i : Nat) : scrub kb (.map i) = .map i := rfl
@[go_sem] theorem scrub_nilm (kb : List Nat) : scrub kb .nilm = .nilm := rfl
@[go_sem] theorem scrub_any (kb : List Nat) : scrub kb .any = .any := rfl
@[go_sem] theorem scrub_tup (kb : List Nat) (vs : List V) : scrub kb (.tup vs) = .any := rfl
@[go_sem] theorem scrub_ptr (kb : List Nat) (s o : Nat) : scrub kb (.ptr s o) = sel (kb.contains s || isPin s) (.ptr s o) .any := rfl
@[go_sem] theorem scrub_func (kb : List Nat) (f : Nat) (cap : List V) : scrub kb (.func f cap) = sel (cap.all (okc kb)) (.func f cap) .any := rfl
@[go_sem] theorem scrub_agg (kb : List Nat) (cs : List V) : scrub kb (.agg cs) = sel (cs.all (okc kb)) (.agg cs) .any := rfl
@[go_sem] theorem okc_pv (kb : List Nat) (p : PV) : okc kb (.pv p) = true := rfl
@[go_sem] theorem okc_tl (kb : List Nat) (r : List (List PV)) : okc kb (.tl r) = true := rfl
@[go_sem] theorem okc_own (kb : List Nat) (a b c d : Nat) : okc kb (.own a b c d) = true := rfl
@[go_sem] theorem okc_any (kb : List Nat) : okc kb .any = true := rfl
@[go_sem] theorem okc_map (kb : List Nat) (i : Nat) : okc kb (.map i) = true := rfl
@[go_sem] theorem okc_nilm (kb : List Nat) : okc kb .nilm = true := rfl
@[go_sem] theorem okc_aptr (kb : List Nat) (a b c d : Nat) : okc kb (.aptr a b c d) = true := rfl
@[go_sem] theorem okc_ptr (kb : List Nat) (s o : Nat) : okc kb (.ptr s o) = (kb.contains s || isPin s) := rfl
@[go_sem] theorem okc_func (kb : List Nat) (f : Nat) (cap : List V) : okc kb (.func f cap) = cap.isEmpty := rfl

@[go_sem] theorem apply_none (new : Bool) (rb ra rm : Option Nat) (rall : Bool) (ra2 : Option Nat) (base : Nat) (h : Heap) : Tn.apply ⟨none, new, none, [], none, false, rb, ra, rm, rall, ra2, base, none⟩ h = h := by
  cases h
  simp [Tn.apply]
@[go_sem] theorem apply_bx (s : Nat) (c : List V) (new : Bool) (rb ra rm : Option Nat) (rall : Bool) (ra2 : Option Nat) (base : Nat) (bx : List (Nat × List V)) (ar : List Arr) (mp : List (List (PV × PV))) : Tn.apply ⟨some (s, c), new, none, [], none, false, rb, ra, rm, rall, ra2, base, none⟩ ⟨bx, ar, mp⟩ = ⟨bxSet s c bx, ar, mp⟩ := by
  simp [Tn.apply]
@[go_sem] theorem apply_arr (i : Nat) (a : Arr) (new : Bool) (rb ra rm : Option Nat) (rall : Bool) (ra2 : Option Nat) (base : Nat) (bx : List (Nat × List V)) (ar : List Arr) (mp : List (List (PV × PV))) : Tn.apply ⟨none, new, some (i, a), [], none, false, rb, ra, rm, rall, ra2, base, none⟩ ⟨bx, ar, mp⟩ = ⟨bx, ar.set i a, mp⟩ := by
  simp [Tn.apply]
@[go_sem] theorem apply_push (x : Arr) (l : List Arr) (new : Bool) (rb ra rm : Option Nat) (rall : Bool) (ra2 : Option Nat) (base : Nat) (bx : List (Nat × List V)) (ar : List Arr) (mp : List (List (PV × PV))) : Tn.apply ⟨none, new, none, x :: l, none, false, rb, ra, rm, rall, ra2, base, none⟩ ⟨bx, ar, mp⟩ = ⟨bx, ar ++ x :: l, mp⟩ := by
  simp [Tn.apply]
@[go_sem] theorem apply_arpush (i : Nat) (a : Arr) (x : Arr) (l : List Arr) (new : Bool) (rb ra rm : Option Nat) (rall : Bool) (ra2 : Option Nat) (base : Nat) (bx : List (Nat × List V)) (ar : List Arr) (mp : List (List (PV × PV))) : Tn.apply ⟨none, new, some (i, a), x :: l, none, false, rb, ra, rm, rall, ra2, base, none⟩ ⟨bx, ar, mp⟩ = ⟨bx, ar.set i a ++ x :: l, mp⟩ := by
  simp [Tn.apply]
@[go_sem] theorem apply_mp (i : Nat) (m : List (PV × PV)) (new : Bool) (rb ra rm : Option Nat) (rall : Bool) (ra2 : Option Nat) (base : Nat) (bx : List (Nat × List V)) (ar : List Arr) (mp : List (List (PV × PV))) : Tn.apply ⟨none, new, none, [], some (i, m), false, rb, ra, rm, rall, ra2, base, none⟩ ⟨bx, ar, mp⟩ = ⟨bx, ar, mp.set i m⟩ := by
  simp [Tn.apply]
@[go_sem] theorem apply_pushm (new : Bool) (rb ra rm : Option Nat) (rall : Bool) (ra2 : Option Nat) (base : Nat) (bx : List (Nat × List V)) (ar : List Arr) (mp : List (List (PV × PV))) : Tn.apply ⟨none, new, none, [], none, true, rb, ra, rm, rall, ra2, base, none⟩ ⟨bx, ar, mp⟩ = ⟨bx, ar, mp ++ [[]]⟩ := by
  simp [Tn.apply]

@[go_sem] theorem apply_all (ob : Option (Nat × List V)) (new : Bool) (oa : Option (Nat × Arr)) (l : List Arr) (om : Option (Nat × List (PV × PV))) (pm : Bool) (rb ra rm : Option Nat) (rall : Bool) (ra2 : Option Nat) (base : Nat) (bs : List (Nat × List V)) (ar : List Arr) (mp : List (List (PV × PV))) (h : Heap) : Tn.apply ⟨ob, new, oa, l, om, pm, rb, ra, rm, rall, ra2, base, some (bs, ar, mp)⟩ h = ⟨bxSets bs h.bx, ar, mp⟩ := rfl
@[go_sem] theorem bxSets_nil (bx : List (Nat × List V)) : bxSets [] bx = bx := rfl
@[go_sem] theorem bxSets_cons (s : Nat) (cs : List V) (r bx : List (Nat × List V)) : bxSets ((s, cs) :: r) bx = bxSets r (bxSet s cs bx) := rfl

@[go_sem] theorem WE_mov (env : List (Nat × V)) (h : Heap) (x : Opd) (K : V → Tn → Prop) : WE A Pr env h (.mov x) K = K (geto env x) {} := WE.uniq (n := 0) rfl
@[go_sem] theorem WE_pick (env : List (Nat × V)) (h : Heap) (c a b : Opd) (K : V → Tn → Prop) : WE A Pr env h (.pick c a b) K = boolK (geto env c) fun t => Br t (K (geto env a) {}) (K (geto env b) {}) := by
  rw [WE_quiet rfl]
  apply propext
  unfold ev
  constructor
  · rintro ⟨⟨v, t⟩, h1, hk⟩
    simp only [evalOp] at h1
    split at h1
    · rename_i hc
      cases h1
      exact ⟨true, hc, hk⟩
    · rename_i hc
      cases h1
      exact ⟨false, hc, by simpa [Br] using hk⟩
    · cases h1
  · rintro ⟨t, hc, hb⟩
    cases t with
    | true => exact ⟨(geto env a, {}), by simp only [evalOp, hc], hb⟩
    | false => exact ⟨(geto env b, {}), by simp only [evalOp, hc], by simpa [Br] using hb⟩

def newK (slot : Nat) (h : Heap) (X : Prop) (_t : Tie X := .mk) : Prop := look1 slot h.bx = none ∧ X
@[congr] theorem newK_congr {slot : Nat} {h h' : Heap} {X : Prop} (e : h = h') : newK slot h X = newK slot h' X := by rw [e]
@[go_sem] theorem newK_mk (slot : Nat) (bx : List (Nat × List V)) (ar : List Arr) (mp : List (List (PV × PV))) (X : Prop) : newK slot ⟨bx, ar, mp⟩ X = (look1 slot bx = none ∧ X) := rfl
def reqK (p : Prop) (X : Prop) (_t : Tie X := .mk) : Prop := p ∧ X
@[congr] theorem reqK_congr {p p' X : Prop} (h : p = p') : reqK p X = reqK p' X := by rw [h]
@[go_sem] theorem reqK_true (X : Prop) : reqK True X = X := by simp [reqK]
theorem reqK.of {p X : Prop} (h : p) (k : X) : reqK p X := ⟨h, k⟩

@[go_sem] theorem WE_alloc (env : List (Nat × V)) (h : Heap) (slot : Nat) (zero : List V) (K : V → Tn → Prop) : WE A Pr env h (.alloc slot zero) K = reqK ((look1 slot h.bx).isNone = true) (K (.ptr slot 0) { bx := some (slot, zero), new := true }) := by
  rw [WE_quiet rfl]
  apply propext
  unfold ev
  constructor
  · rintro ⟨⟨v, t⟩, h1, hk⟩
    simp only [evalOp] at h1
    split at h1
    · rename_i hc
      cases h1
      exact ⟨by rw [hc]; rfl, hk⟩
    · cases h1
  · rintro ⟨hc, hk⟩
    refine ⟨(_, _), ?_, hk⟩
    simp only [evalOp]
    cases hl : look1 slot h.bx with
    | none => rfl
    | some x => simp [hl] at hc
@[go_sem] theorem WE_box (env : List (Nat × V)) (h : Heap) (slot n : Nat) (x : Opd) (K : V → Tn → Prop) : WE A Pr env h (.box slot n x) K = reqK ((look1 slot h.bx).isNone = true ∧ (geto env x).cells.length = n ∧ (geto env x).cells.all V.calmB = true) (K (.ptr slot 0) { bx := some (slot, (geto env x).cells), new := true }) := by
  rw [WE_quiet rfl]
  apply propext
  unfold ev
  constructor
  · rintro ⟨⟨v, t⟩, h1, hk⟩
    simp only [evalOp] at h1
    split at h1
    · rename_i hc
      split at h1
      · rename_i h2
        cases h1
        exact ⟨⟨by rw [hc]; rfl, h2⟩, hk⟩
      · cases h1
    · cases h1
  · rintro ⟨⟨hc, h2⟩, hk⟩
    refine ⟨(_, _), ?_, hk⟩
    simp only [evalOp]
    cases hl : look1 slot h.bx with
    | none => simp only; rw [if_pos h2]
    | some x => simp [hl] at hc
@[go_sem] theorem WE_build (env : List (Nat × V)) (h : Heap) (zero : List V) (parts : List (Nat × Nat × Opd)) (K : V → Tn → Prop) : WE A Pr env h (.build zero parts) K = optK (fillv (geto env) zero parts) fun cs => K (.agg cs) {} := by
  rw [WE_quiet rfl]
  apply propext
  unfold ev
  constructor
  · rintro ⟨⟨v, t⟩, h1, hk⟩
    simp only [evalOp] at h1
    split at h1
    · rename_i cs hc
      cases h1
      exact ⟨cs, hc, hk⟩
    · cases h1
  · rintro ⟨cs, hc, hk⟩
    exact ⟨(_, _), by simp only [evalOp, hc], hk⟩
def litV (h : Heap) (k len : Nat) (cs : List V) : Option (V × Tn) :=
  match mkRows (chop k len cs) with
  | .inl rows => some (.tl rows, {})
  | .inr rows => if cs.all V.calm then some (.own h.ar.length 0 0 len, { push := [⟨0, k, .inr rows⟩], base := h.ar.length }) else none
@[go_sem] theorem WE_lit (env : List (Nat × V)) (h : Heap) (k : Nat) (zero : List V) (len : Nat) (parts : List (Nat × Nat × Opd)) (K : V → Tn → Prop) : WE A Pr env h (.lit k zero len parts) K = optK (fillv (geto env) ((List.range (len * k)).map fun i => zero.getD (i % k) .any) parts) fun cs => optK (litV h k len cs) fun r => K r.1 r.2 := by
  rw [WE_quiet rfl]
  apply propext
  unfold ev
  constructor
  · rintro ⟨⟨v, t⟩, h1, hk⟩
    simp only [evalOp] at h1
    split at h1
    · rename_i cs hc
      exact ⟨cs, hc, _, h1, hk⟩
    · cases h1
  · rintro ⟨cs, hc, ⟨v, t⟩, h1, hk⟩
    exact ⟨(v, t), by simp only [evalOp, hc]; exact h1, hk⟩
@[go_sem] theorem WE_load (env : List (Nat × V)) (h : Heap) (n : Nat) (b : Bool) (x : Opd) (K : V → Tn → Prop) : WE A Pr env h (.load n b x) K = optK (loadAt h n (geto env x)) fun r => optK (cellsV b r.1) fun v => K v r.2 := by
  rw [WE_quiet rfl]
  apply propext
  unfold ev
  constructor
  · rintro ⟨⟨v, t⟩, h1, hk⟩
    simp only [evalOp] at h1
    split at h1
    · rename_i cs tq hc
      split at h1
      · rename_i vq hv
        cases h1
        exact ⟨_, hc, _, hv, hk⟩
      · cases h1
    · cases h1
  · rintro ⟨⟨cs, t⟩, hc, v, hv, hk⟩
    exact ⟨(v, t), by simp only [evalOp, hc, hv], hk⟩
@[go_sem] theorem WE_store (env : List (Nat × V)) (h : Heap) (n : Nat) (x v : Opd) (K : V → Tn → Prop) : WE A Pr env h (.store n x v) K = reqK ((geto env v).cells.length = n) (optK (storeAt h (geto env x) (geto env v).cells) fun t => K .any t) := by
  rw [WE_quiet rfl]
  apply propext
  unfold ev
  constructor
  · rintro ⟨⟨v, t⟩, h1, hk⟩
    simp only [evalOp] at h1
    split at h1
    · rename_i hn
      split at h1
      · rename_i t' ht
        cases h1
        exact ⟨hn, _, ht, hk⟩
      · cases h1
    · cases h1
  · rintro ⟨hn, t, ht, hk⟩
    exact ⟨(_, t), by simp only [evalOp, hn, ht, if_true], hk⟩
def nilckV : V → Option V
  | .func f cap => some (.func f cap)
  | .pv (.func f cap) => some (.pv (.func f cap))
  | .ptr s o => some (.ptr s o)
  | .pv (.ro t cs) => some (.pv (.ro t cs))
  | .aptr i v r c => some (.aptr i v r c)
  | _ => none
theorem map_opt {α β : Type} (o : Option α) (f : α → β) (K : β → Prop) : optK (o.map f) K = optK o fun v => K (f v) := by
  cases o <;> simp [optK]
@[go_sem] theorem WE_nilck (env : List (Nat × V)) (h : Heap) (x : Opd) (K : V → Tn → Prop) : WE A Pr env h (.nilck x) K = optK (nilckV (geto env x)) fun v => K v {} := by
  rw [WE_quiet rfl, ← map_opt _ (fun v => (v, ({} : Tn))) (fun r => K r.1 r.2)]
  congr 1
  simp only [ev, evalOp]
  cases geto env x with
  | pv p => cases p <;> rfl
  | _ => rfl
@[go_sem] theorem WE_bin (env : List (Nat × V)) (h : Heap) (op : BinOp) (x y : Opd) (K : V → Tn → Prop) : WE A Pr env h (.bin op x y) K = optK (binV op (geto env x) (geto env y)) fun v => K v {} := by
  rw [WE_quiet rfl, ← map_opt _ (fun v => (v, ({} : Tn))) (fun r => K r.1 r.2)]; rfl
def eqaV (ag : Bool) (ks : List Nat) (neg : Bool) (x y : V) : Option V :=
  match plainCells ag x, plainCells ag y with
  | some a, some b => match eqsAll ks a b with
    | some r => some (.pv (.bool (if neg then !r else r)))
    | none => none
  | _, _ => none
@[go_sem] theorem WE_eqa (env : List (Nat × V)) (h : Heap) (ag : Bool) (ks : List Nat) (neg : Bool) (x y : Opd) (K : V → Tn → Prop) : WE A Pr env h (.eqa ag ks neg x y) K = optK (eqaV ag ks neg (geto env x) (geto env y)) fun v => K v {} := by
  rw [WE_quiet rfl, ← map_opt _ (fun v => (v, ({} : Tn))) (fun r => K r.1 r.2)]
  congr 1
  simp only [ev, evalOp, eqaV]
  cases plainCells ag (geto env x) with
  | none => rfl
  | some a =>
    cases plainCells ag (geto env y) with
    | none => rfl
    | some b =>
      simp only
      cases eqsAll ks a b <;> rfl
@[go_sem] theorem WE_un (env : List (Nat × V)) (h : Heap) (op : UnOp) (x : Opd) (K : V → Tn → Prop) : WE A Pr env h (.un op x) K = optK (unV op (geto env x)) fun v => K v {} := by
  rw [WE_quiet rfl, ← map_opt _ (fun v => (v, ({} : Tn))) (fun r => K r.1 r.2)]; rfl
def convV (k : IntKind) : V → Option V
  | .pv (.int _ n) => some (.pv (.int k (k.wrap n)))
  | _ => none
@[go_sem] theorem convV_int (k j : IntKind) (n : Int) : convV k (.pv (.int j n)) = some (.pv (.int k (k.wrap n))) := rfl
@[go_sem] theorem WE_conv (env : List (Nat × V)) (h : Heap) (k : IntKind) (x : Opd) (K : V → Tn → Prop) : WE A Pr env h (.conv k x) K = optK (convV k (geto env x)) fun v => K v {} := by
  rw [WE_quiet rfl, ← map_opt _ (fun v => (v, ({} : Tn))) (fun r => K r.1 r.2)]
  congr 1
  simp only [ev, evalOp]
  cases geto env x with
  | pv p => cases p <;> rfl
  | _ => rfl
def convsV : V → Option V
  | .pv (.str s) => some (.pv (.str s))
  | .pv (.int _ n) => some (.pv (.str (Utf8.encode n)))
  | _ => none
@[go_sem] theorem convsV_str (s : ByteArray) : convsV (.pv (.str s)) = some (.pv (.str s)) := rfl
@[go_sem] theorem convsV_int (k : IntKind) (n : Int) : convsV (.pv (.int k n)) = some (.pv (.str (Utf8.encode n))) := rfl
@[go_sem] theorem WE_convs (env : List (Nat × V)) (h : Heap) (x : Opd) (K : V → Tn → Prop) : WE A Pr env h (.convs x) K = optK (convsV (geto env x)) fun v => K v {} := by
  rw [WE_quiet rfl, ← map_opt _ (fun v => (v, ({} : Tn))) (fun r => K r.1 r.2)]
  congr 1
  simp only [ev, evalOp]
  cases geto env x with
  | pv p => cases p <;> rfl
  | _ => rfl
@[go_sem] theorem WE_fld (env : List (Nat × V)) (h : Heap) (off : Nat) (x : Opd) (K : V → Tn → Prop) : WE A Pr env h (.fld off x) K = optK (fldV off (geto env x)) fun v => K v {} := by
  rw [WE_quiet rfl, ← map_opt _ (fun v => (v, ({} : Tn))) (fun r => K r.1 r.2)]; rfl
def partV (off n : Nat) (b : Bool) : V → Option V
  | .agg cs => match takeN off n cs with
    | some l => cellsV b l
    | none => none
  | _ => none
@[go_sem] theorem WE_part (env : List (Nat × V)) (h : Heap) (off n : Nat) (b : Bool) (x : Opd) (K : V → Tn → Prop) : WE A Pr env h (.part off n b x) K = optK (partV off n b (geto env x)) fun v => K v {} := by
  rw [WE_quiet rfl, ← map_opt _ (fun v => (v, ({} : Tn))) (fun r => K r.1 r.2)]
  congr 1
  simp only [ev, evalOp]
  cases geto env x <;> simp only [partV] <;> first | rfl | (rename_i cs; cases takeN off n cs <;> rfl)
@[go_sem] theorem WE_idx (env : List (Nat × V)) (h : Heap) (k : Nat) (x i : Opd) (K : V → Tn → Prop) : WE A Pr env h (.idx k x i) K = optK (idxV h k (geto env x) (intOf (geto env i))) fun r => K r.1 r.2 := by
  rw [WE_quiet rfl]; rfl
@[go_sem] theorem WE_idxa (env : List (Nat × V)) (h : Heap) (len k : Nat) (x i : Opd) (K : V → Tn → Prop) : WE A Pr env h (.idxa len k x i) K = optK (inRange (intOf (geto env i)) len) fun j => optK (fldV (j * k) (geto env x)) fun v => K v {} := by
  rw [WE_quiet rfl]
  apply propext
  unfold ev
  constructor
  · rintro ⟨⟨v, t⟩, h1, hk⟩
    simp only [evalOp] at h1
    split at h1
    · rename_i j hj
      obtain ⟨vq, hv, he⟩ := Option.map_eq_some_iff.1 h1
      cases he
      exact ⟨j, hj, _, hv, hk⟩
    · cases h1
  · rintro ⟨j, hj, v, hv, hk⟩
    exact ⟨(v, {}), by simp only [evalOp, hj, hv, Option.map_some], hk⟩
def ixaV (j k : Nat) (b : Bool) : V → Option V
  | .agg cs => match takeN (j * k) k cs with
    | some l => cellsV b l
    | none => none
  | _ => none
@[go_sem] theorem WE_ixa (env : List (Nat × V)) (h : Heap) (len k : Nat) (b : Bool) (x i : Opd) (K : V → Tn → Prop) : WE A Pr env h (.ixa len k b x i) K = optK (inRange (intOf (geto env i)) len) fun j => optK (ixaV j k b (geto env x)) fun v => K v {} := by
  rw [WE_quiet rfl]
  apply propext
  unfold ev
  constructor
  · rintro ⟨⟨v, t⟩, h1, hk⟩
    simp only [evalOp] at h1
    split at h1
    · rename_i j hj
      split at h1
      · rename_i cs hx
        split at h1
        · rename_i l hl
          obtain ⟨vq, hv, he⟩ := Option.map_eq_some_iff.1 h1
          cases he
          exact ⟨j, hj, _, by simp only [hx, ixaV, hl]; exact hv, hk⟩
        · cases h1
      · cases h1
    · cases h1
  · rintro ⟨j, hj, v, hv, hk⟩
    refine ⟨(v, {}), ?_, hk⟩
    simp only [evalOp, hj]
    cases hx : geto env x <;> simp only [hx, ixaV] at hv <;> first | (cases hv; done) | skip
    rename_i cs
    simp only
    cases hl : takeN (j * k) k cs <;> simp only [hl] at hv <;> first | (cases hv; done) | skip
    simp only [hv, Option.map_some]
def ixsV (i : Option Int) : V → Option V
  | .pv (.str s) => match inRange i s.size with
    | some j => match s[j]? with
      | some b => some (.pv (.int .u8 b.toNat))
      | none => none
    | none => none
  | _ => none
@[go_sem] theorem WE_ixs (env : List (Nat × V)) (h : Heap) (x i : Opd) (K : V → Tn → Prop) : WE A Pr env h (.ixs x i) K = optK (ixsV (intOf (geto env i)) (geto env x)) fun v => K v {} := by
  rw [WE_quiet rfl, ← map_opt _ (fun v => (v, ({} : Tn))) (fun r => K r.1 r.2)]
  congr 1
  simp only [ev, evalOp]
  cases geto env x with
  | pv p =>
    cases p <;> simp only [ixsV] <;> first | rfl | skip
    rename_i str
    cases inRange (intOf (geto env i)) str.size with
    | none => rfl
    | some j =>
      simp only
      cases str[j]? <;> rfl
  | _ => rfl
@[go_sem] theorem WE_sl (env : List (Nat × V)) (h : Heap) (k : Nat) (x : Opd) (lo hi mx : Option Opd) (K : V → Tn → Prop) : WE A Pr env h (.sl k x lo hi mx) K = optK (sliceV (geto env) h k (geto env x) lo hi mx) fun r => K r.1 r.2 := by
  rw [WE_quiet rfl]; rfl
@[go_sem] theorem WE_sls (env : List (Nat × V)) (h : Heap) (x : Opd) (lo hi : Option Opd) (K : V → Tn → Prop) : WE A Pr env h (.sls x lo hi) K = optK (sliceS (geto env) (geto env x) lo hi) fun v => K v {} := by
  rw [WE_quiet rfl, ← map_opt _ (fun v => (v, ({} : Tn))) (fun r => K r.1 r.2)]; rfl
@[go_sem] theorem WE_len (env : List (Nat × V)) (h : Heap) (kd : Nat) (x : Opd) (K : V → Tn → Prop) : WE A Pr env h (.len kd x) K = optK (lenV h kd (geto env x)) fun r => K (.pv (.int .i64 r.1)) r.2 := by
  rw [WE_quiet rfl]
  apply propext
  unfold ev
  constructor
  · rintro ⟨⟨v, t⟩, h1, hk⟩
    simp only [evalOp] at h1
    split at h1
    · rename_i n tq hc
      cases h1
      exact ⟨_, hc, hk⟩
    · cases h1
  · rintro ⟨⟨n, t⟩, hc, hk⟩
    exact ⟨(_, t), by simp only [evalOp, hc], hk⟩
@[go_sem] theorem WE_app (env : List (Nat × V)) (h : Heap) (k : Nat) (x y : Opd) (K : V → Tn → Prop) : WE A Pr env h (.app k x y) K = optK (appendV h k (geto env x) (geto env y)) fun r => K r.1 r.2 := by
  rw [WE_quiet rfl]; rfl
@[go_sem] theorem WE_make (env : List (Nat × V)) (h : Heap) (k : Nat) (zero : List V) (n c : Opd) (K : V → Tn → Prop) : WE A Pr env h (.make k zero n c) K = optK (intOf (geto env n)) fun a => optK (intOf (geto env c)) fun b => reqK (0 ≤ a ∧ a ≤ b ∧ b ≤ mostRows) (K (.own h.ar.length 0 0 a.toNat) { push := [⟨0, k, sameRows a.toNat zero⟩], base := h.ar.length }) := by
  rw [WE_quiet rfl]
  apply propext
  unfold ev
  constructor
  · rintro ⟨⟨v, t⟩, h1, hk⟩
    simp only [evalOp] at h1
    split at h1
    · rename_i a b ha hb
      split at h1
      · rename_i hc
        cases h1
        exact ⟨a, ha, b, hb, hc, hk⟩
      · cases h1
    · cases h1
  · rintro ⟨a, ha, b, hb, hc, hk⟩
    exact ⟨(_, _), by simp only [evalOp, ha, hb]; rw [if_pos hc], hk⟩
@[go_sem] theorem WE_makeAt (env : List (Nat × V)) (h : Heap) (id k : Nat) (zero : List V) (n c : Opd) (K : V → Tn → Prop) : WE A Pr env h (.makeAt id k zero n c) K = optK (intOf (geto env n)) fun a => optK (intOf (geto env c)) fun b => optK (h.ar[id]?) fun old => reqK (0 ≤ a ∧ a ≤ b ∧ b ≤ mostRows) (reqK (old.k = 0) (K (.own id (old.ver + 1) 0 a.toNat) { ar := some (id, ⟨old.ver + 1, k, sameRows a.toNat zero⟩) })) := by
  rw [WE_quiet rfl]
  apply propext
  unfold ev
  constructor
  · rintro ⟨⟨v, t⟩, h1, hk⟩
    simp only [evalOp] at h1
    split at h1
    · rename_i a b old ha hb ho
      split at h1
      · rename_i hc
        cases h1
        exact ⟨a, ha, b, hb, old, ho, ⟨hc.1, hc.2.1, hc.2.2.1⟩, hc.2.2.2, hk⟩
      · cases h1
    · cases h1
  · rintro ⟨a, ha, b, hb, old, ho, hc, hc2, hk⟩
    exact ⟨(_, _), by simp only [evalOp, ha, hb, ho]; rw [if_pos ⟨hc.1, hc.2.1, hc.2.2, hc2⟩], hk⟩
def litAtV (h : Heap) (id k len : Nat) (cs : List V) : Option (V × Tn) :=
  match mkRows (chop k len cs) with
  | .inl rows => some (.tl rows, {})
  | .inr rows => match h.ar[id]? with
    | some old => if cs.all V.calm ∧ old.k = 0 then some (.own id (old.ver + 1) 0 len, { ar := some (id, ⟨old.ver + 1, k, .inr rows⟩) }) else none
    | none => none
@[go_sem] theorem WE_litAt (env : List (Nat × V)) (h : Heap) (id k : Nat) (zero : List V) (len : Nat) (parts : List (Nat × Nat × Opd)) (K : V → Tn → Prop) : WE A Pr env h (.litAt id k zero len parts) K = optK (fillv (geto env) ((List.range (len * k)).map fun i => zero.getD (i % k) .any) parts) fun cs => optK (litAtV h id k len cs) fun r => K r.1 r.2 := by
  rw [WE_quiet rfl]
  apply propext
  unfold ev
  constructor
  · rintro ⟨⟨v, t⟩, h1, hk⟩
    simp only [evalOp] at h1
    split at h1
    · rename_i cs hc
      exact ⟨cs, hc, _, h1, hk⟩
    · cases h1
  · rintro ⟨cs, hc, ⟨v, t⟩, h1, hk⟩
    exact ⟨(v, t), by simp only [evalOp, hc]; exact h1, hk⟩
@[go_sem] theorem WE_appAt (env : List (Nat × V)) (h : Heap) (id k : Nat) (x y : Opd) (K : V → Tn → Prop) : WE A Pr env h (.appAt id k x y) K = optK (appendAt h id k (geto env x) (geto env y)) fun r => K r.1 r.2 := by
  rw [WE_quiet rfl]; rfl
@[go_sem] theorem mkAts_nil (b : Nat) : mkAts b [] = [] := rfl
@[go_sem] theorem mkAts_cons (b : Nat) (d : Option Nat) (q : AOp) (g : Option (Nat × Bool)) (un : List Nat) (r : List (AOper × List Nat)) : mkAts b ((⟨d, q, g⟩, un) :: r) = (⟨d, mkAt b q, g⟩, un) :: mkAts b r := rfl
def deads : Nat → List Arr
  | 0 => []
  | n + 1 => ⟨0, 0, .inl []⟩ :: deads n
theorem deads_eq : ∀ n, List.replicate n (⟨0, 0, .inl []⟩ : Arr) = deads n
  | 0 => rfl
  | n + 1 => by rw [List.replicate_succ, deads_eq n]; rfl
@[go_sem] theorem deads_zero : deads 0 = [] := rfl
@[go_sem] theorem deads_succ (n : Nat) : deads (n + 1) = ⟨0, 0, .inl []⟩ :: deads n := rfl
@[go_sem] theorem room_mk (bx : List (Nat × List V)) (ar : List Arr) (mp : List (List (PV × PV))) (n : Nat) : Heap.room ⟨bx, ar, mp⟩ n = ⟨bx, ar ++ deads n, mp⟩ := by
  simp only [Heap.room, deads_eq]
attribute [go_sem] mkAt
@[go_sem] theorem WE_mkmap (env : List (Nat × V)) (h : Heap) (K : V → Tn → Prop) : WE A Pr env h .mkmap K = K (.map h.mp.length) { pushm := true } := WE.uniq (n := 0) rfl
def mapOf (h : Heap) : V → Option (List (PV × PV))
  | .nilm => some []
  | .map id => h.mp[id]?
  | _ => none
def rmOf : V → Tn
  | .map id => { rm := some id }
  | _ => {}
@[go_sem] theorem rmOf_map (id : Nat) : rmOf (.map id) = { rm := some id } := rfl
@[go_sem] theorem rmOf_nilm : rmOf .nilm = {} := rfl
@[go_sem] theorem mapOf_nilm (h : Heap) : mapOf h .nilm = some [] := rfl
@[go_sem] theorem mapOf_map (h : Heap) (id : Nat) : mapOf h (.map id) = h.mp[id]? := rfl
def foundV (zero : V) (ok : Bool) (r : Option (Nat × PV)) : V :=
  if ok then .tup [match r with | some (_, p) => .pv p | none => zero, .pv (.bool r.isSome)] else match r with | some (_, p) => .pv p | none => zero
@[go_sem] theorem WE_look (env : List (Nat × V)) (h : Heap) (ag : Bool) (ks : List Nat) (zero : V) (x i : Opd) (ok : Bool) (K : V → Tn → Prop) : WE A Pr env h (.look ag ks zero x i ok) K = optK (keyOf ag (geto env i)) fun k => optK (mapOf h (geto env x)) fun m => optK (findKey ag ks k m 0) fun r => K (foundV zero ok r) (rmOf (geto env x)) := by
  rw [WE_quiet rfl]
  apply propext
  unfold ev
  constructor
  · rintro ⟨⟨v, t⟩, h1, hk⟩
    simp only [evalOp] at h1
    split at h1
    · cases h1
    · rename_i k hk'
      split at h1
      · cases h1
      · rename_i m hm
        split at h1
        · cases h1
        · rename_i r hr
          cases h1
          refine ⟨k, hk', m, ?_, r, hr, hk⟩
          cases hx : geto env x <;> simp only [hx] at hm <;> first | exact hm | cases hm
  · rintro ⟨k, hk', m, hm, r, hr, hk⟩
    refine ⟨(_, _), ?_, hk⟩
    simp only [evalOp, hk']
    cases hx : geto env x <;> simp only [hx, mapOf] at hm <;> first | (cases hm; done) | skip
    · simp only [hm, hr]
      rfl
    · cases hm
      simp only [hr]
      rfl
def updM (ag : Bool) (ks : List Nat) (q p : PV) (id : Nat) (l : List (PV × PV)) : Option Tn :=
  match findKey ag ks q l 0 with
  | some (some (i, _)) => some { mp := some (id, l.set i (q, p)) }
  | some none => some { mp := some (id, l ++ [(q, p)]) }
  | none => none
def mapId : V → Option Nat
  | .map id => some id
  | _ => none
@[go_sem] theorem mapId_map (id : Nat) : mapId (.map id) = some id := rfl
@[go_sem] theorem WE_upd (env : List (Nat × V)) (h : Heap) (ag : Bool) (ks : List Nat) (m k v : Opd) (K : V → Tn → Prop) : WE A Pr env h (.upd ag ks m k v) K = optK (mapId (geto env m)) fun id => optK (keyOf ag (geto env k)) fun q => optK (geto env v).purec fun p => optK h.mp[id]? fun l => optK (updM ag ks q p id l) fun t => K .any t := by
  rw [WE_quiet rfl]
  apply propext
  unfold ev
  constructor
  · rintro ⟨⟨v, t⟩, h1, hk⟩
    simp only [evalOp] at h1
    split at h1
    · rename_i id q p h2 h3 h4
      split at h1
      · rename_i l hl
        refine ⟨id, by rw [h2]; rfl, q, h3, p, h4, l, hl, ?_⟩
        simp only [updM]
        split at h1
        · rename_i hf
          cases h1
          exact ⟨_, by rw [hf], hk⟩
        · rename_i hf
          cases h1
          exact ⟨_, by rw [hf], hk⟩
        · cases h1
      · cases h1
    · cases h1
  · rintro ⟨id, h2, q, h3, p, h4, l, hl, t, ht, hk⟩
    refine ⟨(_, t), ?_, hk⟩
    have h2' : geto env m = .map id := by
      cases hx : geto env m <;> simp only [hx, mapId] at h2 <;> first | (cases h2; rfl) | cases h2
    simp only [evalOp, h2', h3, h4, hl]
    simp only [updM] at ht
    split at ht
    · rename_i hf
      cases ht
      rw [hf]
    · rename_i hf
      cases ht
      rw [hf]
    · cases ht
@[go_sem] theorem WE_clos (env : List (Nat × V)) (h : Heap) (f : Nat) (cap : List Opd) (K : V → Tn → Prop) : WE A Pr env h (.clos f cap) K = K (.func f (cap.map (geto env))) {} := WE.uniq (n := 0) rfl
def extV (i : Nat) : V → Option V
  | .tup vs => vs[i]?
  | _ => none
@[go_sem] theorem extV_tup (i : Nat) (vs : List V) : extV i (.tup vs) = vs[i]? := rfl
@[go_sem] theorem WE_ext (env : List (Nat × V)) (h : Heap) (x : Opd) (i : Nat) (K : V → Tn → Prop) : WE A Pr env h (.ext x i) K = optK (extV i (geto env x)) fun v => K v {} := by
  rw [WE_quiet rfl, ← map_opt _ (fun v => (v, ({} : Tn))) (fun r => K r.1 r.2)]
  congr 1
  simp only [ev, evalOp]
  cases geto env x <;> simp only [extV] <;> first | rfl | skip
  split <;> rename_i hh <;> rw [hh] <;> rfl
def minmaxV (isMax : Bool) : List V → Option V
  | .pv (.int k a) :: r => match minmaxI isMax a r with
    | some n => some (.pv (.int k n))
    | none => none
  | _ => none
@[go_sem] theorem WE_minmax (env : List (Nat × V)) (h : Heap) (isMax : Bool) (args : List Opd) (K : V → Tn → Prop) : WE A Pr env h (.minmax isMax args) K = optK (minmaxV isMax (args.map (geto env))) fun v => K v {} := by
  rw [WE_quiet rfl, ← map_opt _ (fun v => (v, ({} : Tn))) (fun r => K r.1 r.2)]
  congr 1
  simp only [ev, evalOp]
  cases args.map (geto env) with
  | nil => rfl
  | cons x r =>
    cases x with
    | pv p =>
      cases p with
      | int k a =>
        simp only [minmaxV]
        cases minmaxI isMax a r <;> rfl
      | _ => rfl
    | _ => rfl
@[go_sem] theorem minmaxV_two (k j : IntKind) (a b : Int) : minmaxV true [.pv (.int k a), .pv (.int j b)] = some (.pv (.int k (max a b))) := by
  simp only [minmaxV, minmaxI]
  congr 3
  simp only [if_true]
  split <;> omega
@[go_sem] theorem minmaxV_two' (k j : IntKind) (a b : Int) : minmaxV false [.pv (.int k a), .pv (.int j b)] = some (.pv (.int k (min a b))) := by
  simp only [minmaxV, minmaxI]
  congr 3
  simp only [Bool.false_eq_true, if_false]
  split <;> omega
def clrV (h : Heap) (k : Nat) (zero : List V) : V → Option (V × Tn)
  | .pv (.lst _ []) => some (.tup [], {})
  | .tl [] => some (.tup [], {})
  | .own id ver off len => match ownArr h id ver, mapO V.purec zero with
    | some a, some z => match a.body with
      | .inl rows => if a.k = k ∧ off + len ≤ rows.length then
          some (.tup [], { ar := some (id, ⟨ver, k, .inl (rows.take off ++ List.replicate len z ++ rows.drop (off + len))⟩) }) else none
      | .inr _ => none
    | _, _ => none
  | _ => none
@[go_sem] theorem WE_clr (env : List (Nat × V)) (h : Heap) (k : Nat) (zero : List V) (x : Opd) (K : V → Tn → Prop) : WE A Pr env h (.clr k zero x) K = optK (clrV h k zero (geto env x)) fun r => K r.1 r.2 := by
  rw [WE_quiet rfl]
  rfl

@[go_sem] theorem minmaxV_nil : minmaxV true [] = none := rfl
@[go_sem] theorem WE_copy (env : List (Nat × V)) (h : Heap) (k : Nat) (x y : Opd) (K : V → Tn → Prop) : WE A Pr env h (.copy k x y) K = optK (copyV h k (geto env x) (geto env y)) fun r => K r.1 r.2 := by
  rw [WE_quiet rfl]
  rfl

end Go.Pv

/-
  Values, cells and rows, as rules for rewriting.
-/
namespace Go.Pv
variable {A : Nat → Option AFunc} {Pr : Prims}

@[go_sem] theorem Br_not (c : Bool) (X Y : Prop) : Br (!c) X Y = Br c Y X := by cases c <;> simp [Br]

theorem wrap_i64 {x : Int} (h1 : -9223372036854775808 ≤ x) (h2 : x ≤ 9223372036854775807) : IntKind.wrap .i64 x = x := by
  show (if (true && decide (x % (2 ^ 64 : Int) ≥ (2 ^ 63 : Int))) = true then x % (2 ^ 64 : Int) - (2 ^ 64 : Int) else x % (2 ^ 64 : Int)) = x
  simp only [Bool.true_and, decide_eq_true_eq, Int.reducePow]
  by_cases h : x % 18446744073709551616 ≥ 9223372036854775808
  · rw [if_pos h]; omega
  · rw [if_neg h]; omega
attribute [go_sem] wrap_i64
theorem wrap_u8 {x : Int} (h1 : 0 ≤ x) (h2 : x ≤ 255) : IntKind.wrap .u8 x = x := by
  show (if (false && decide (x % (2 ^ 8 : Int) ≥ (2 ^ 7 : Int))) = true then x % (2 ^ 8 : Int) - (2 ^ 8 : Int) else x % (2 ^ 8 : Int)) = x
  simp only [Bool.false_and, Bool.false_eq_true, if_false, Int.reducePow]
  omega
theorem beq_dec {α : Type} [DecidableEq α] (a b : α) : (a == b) = decide (a = b) := by
  by_cases h : a = b <;> simp [h]
@[go_sem] theorem binV_add (k : IntKind) (a b : Int) : binV .add (.pv (.int k a)) (.pv (.int k b)) = some (.pv (.int k (k.wrap (a + b)))) := by simp [binV, intBin]
@[go_sem] theorem binV_sub (k : IntKind) (a b : Int) : binV .sub (.pv (.int k a)) (.pv (.int k b)) = some (.pv (.int k (k.wrap (a - b)))) := by simp [binV, intBin]
@[go_sem] theorem binV_mul (k : IntKind) (a b : Int) : binV .mul (.pv (.int k a)) (.pv (.int k b)) = some (.pv (.int k (k.wrap (a * b)))) := by simp [binV, intBin]
theorem binV_quo {k : IntKind} {a b : Int} (h : b ≠ 0) : binV .quo (.pv (.int k a)) (.pv (.int k b)) = some (.pv (.int k (k.wrap (a.tdiv b)))) := by simp [binV, intBin, h]
theorem binV_rem {k : IntKind} {a b : Int} (h : b ≠ 0) : binV .rem (.pv (.int k a)) (.pv (.int k b)) = some (.pv (.int k (a.tmod b))) := by simp [binV, intBin, h]
@[go_sem] theorem binV_eql (k : IntKind) (a b : Int) : binV .eql (.pv (.int k a)) (.pv (.int k b)) = some (.pv (.bool (decide (a = b)))) := by simp [binV, intBin, beq_dec]
@[go_sem] theorem binV_neq (k : IntKind) (a b : Int) : binV .neq (.pv (.int k a)) (.pv (.int k b)) = some (.pv (.bool (!decide (a = b)))) := by simp [binV, intBin, bne, beq_dec]
@[go_sem] theorem binV_lss (k : IntKind) (a b : Int) : binV .lss (.pv (.int k a)) (.pv (.int k b)) = some (.pv (.bool (decide (a < b)))) := by simp [binV, intBin]
@[go_sem] theorem binV_leq (k : IntKind) (a b : Int) : binV .leq (.pv (.int k a)) (.pv (.int k b)) = some (.pv (.bool (decide (a ≤ b)))) := by simp [binV, intBin]
@[go_sem] theorem binV_gtr (k : IntKind) (a b : Int) : binV .gtr (.pv (.int k a)) (.pv (.int k b)) = some (.pv (.bool (decide (b < a)))) := by simp [binV, intBin]
@[go_sem] theorem binV_geq (k : IntKind) (a b : Int) : binV .geq (.pv (.int k a)) (.pv (.int k b)) = some (.pv (.bool (decide (b ≤ a)))) := by simp [binV, intBin]
theorem list_beq {a b : ByteArray} : (a.toList == b.toList) = decide (a = b) := by
  by_cases h : a = b
  · subst h; simp
  · have : ¬ a.toList = b.toList := fun hh => h (ByteArray.ext (by
      have e : ∀ x : ByteArray, x.toList = x.data.toList := fun x => by
        rw [ByteArray.toList_eq]
      rw [e, e] at hh
      exact Array.toList_inj.1 hh))
    simp [h, this]
@[go_sem] theorem binV_seql (a b : ByteArray) : binV .eql (.pv (.str a)) (.pv (.str b)) = some (.pv (.bool (decide (a = b)))) := by simp only [binV, strBin, Option.map_some, list_beq]
@[go_sem] theorem binV_sneq (a b : ByteArray) : binV .neq (.pv (.str a)) (.pv (.str b)) = some (.pv (.bool (!decide (a = b)))) := by simp only [binV, strBin, Option.map_some, list_beq]
theorem binV_sadd {a b : ByteArray} (h : a.size + b.size ≤ 1099511627776) : binV .add (.pv (.str a)) (.pv (.str b)) = some (.pv (.str (a ++ b))) := by simp [binV, strBin, h]
@[go_sem] theorem unV_neg (k : IntKind) (n : Int) : unV .neg (.pv (.int k n)) = some (.pv (.int k (k.wrap (0 - n)))) := rfl
@[go_sem] theorem unV_not (b : Bool) : unV .not (.pv (.bool b)) = some (.pv (.bool !b)) := rfl
@[go_sem] theorem intOf_int (k : IntKind) (n : Int) : intOf (.pv (.int k n)) = some n := rfl
@[go_sem] theorem inRange_some {x : Int} {n : Nat} (h0 : 0 ≤ x) (h1 : x < n) : inRange (some x) n = some x.toNat := by simp [inRange, h0, h1]
@[go_sem] theorem make_ok {a b : Int} {X : Prop} (h0 : 0 ≤ a) (h1 : a ≤ b) (h2 : b ≤ 2147483648) : reqK (0 ≤ a ∧ a ≤ b ∧ b ≤ mostRows) X = X := by
  unfold reqK mostRows
  apply propext
  constructor
  · exact fun h => h.2
  · exact fun h => ⟨⟨h0, h1, h2⟩, h⟩

theorem mapO_len2 {α β : Type} {f : α → Option β} : ∀ {l : List α} {r : List β}, mapO f l = some r → r.length = l.length
  | [], r, h => by cases h; rfl
  | x :: l, r, h => by
    simp only [mapO] at h
    split at h
    · rename_i y l' h1 h2
      cases h
      simp [mapO_len2 h2]
    · cases h
@[go_sem] theorem cells_pv (p : PV) : V.cells (.pv p) = [.pv p] := rfl
@[go_sem] theorem cells_tl (r : List (List PV)) : V.cells (.tl r) = [.tl r] := rfl
@[go_sem] theorem cells_own (a b c d : Nat) : V.cells (.own a b c d) = [.own a b c d] := rfl
@[go_sem] theorem cells_agg (cs : List V) : V.cells (.agg cs) = cs := rfl
@[go_sem] theorem cells_map (i : Nat) : V.cells (.map i) = [.map i] := rfl
@[go_sem] theorem cells_nilm : V.cells .nilm = [.nilm] := rfl
@[go_sem] theorem cells_func (f : Nat) (c : List V) : V.cells (.func f c) = [.func f c] := rfl
@[go_sem] theorem cells_ptr (a b : Nat) : V.cells (.ptr a b) = [.ptr a b] := rfl
@[go_sem] theorem cells_aptr (a b c d : Nat) : V.cells (.aptr a b c d) = [.aptr a b c d] := rfl
@[go_sem] theorem calm_bool (b : Bool) : V.calm (.pv (.bool b)) = true := rfl
@[go_sem] theorem calm_int (k : IntKind) (n : Int) : V.calm (.pv (.int k n)) = true := rfl
@[go_sem] theorem calm_str (s : ByteArray) : V.calm (.pv (.str s)) = true := rfl
@[go_sem] theorem calm_lst (t : Nat) (r : List (List PV)) : V.calm (.pv (.lst t r)) = true := rfl
@[go_sem] theorem calm_nilp : V.calm (.pv .nilp) = true := rfl
@[go_sem] theorem calm_nilf : V.calm (.pv .nilf) = true := rfl
@[go_sem] theorem calm_pfunc (f : Nat) (c : List PV) : V.calm (.pv (.func f c)) = c.isEmpty := rfl
@[go_sem] theorem calm_tl (r : List (List PV)) : V.calm (.tl r) = true := rfl
@[go_sem] theorem calm_own (a b c d : Nat) : V.calm (.own a b c d) = true := rfl
@[go_sem] theorem calm_func (f : Nat) (c : List V) : V.calm (.func f c) = c.isEmpty := rfl
@[go_sem] theorem calm_map (i : Nat) : V.calm (.map i) = false := rfl
@[go_sem] theorem calm_nilm : V.calm .nilm = false := rfl
@[go_sem] theorem calm_ptr (a b : Nat) : V.calm (.ptr a b) = false := rfl
def isPM : V → Bool
  | .ptr s _ => isPin s
  | .map _ | .nilm => true
  | _ => false
@[go_sem] theorem isPM_ptr (s o : Nat) : isPM (.ptr s o) = isPin s := rfl
@[go_sem] theorem isPM_map (i : Nat) : isPM (.map i) = true := rfl
@[go_sem] theorem isPM_nilm : isPM .nilm = true := rfl
@[go_sem] theorem calmB_or (v : V) : V.calmB v = (V.calm v || isPM v) := by cases v <;> simp [V.calmB, V.calm, isPM]
@[go_sem] theorem sized_bool (b : Bool) : V.sized (.pv (.bool b)) = true := rfl
@[go_sem] theorem sized_int (k : IntKind) (n : Int) : V.sized (.pv (.int k n)) = true := rfl
@[go_sem] theorem sized_str (s : ByteArray) : V.sized (.pv (.str s)) = true := rfl
@[go_sem] theorem sized_lst (t : Nat) (r : List (List PV)) : V.sized (.pv (.lst t r)) = true := rfl
@[go_sem] theorem sized_nilp : V.sized (.pv .nilp) = true := rfl
@[go_sem] theorem sized_tl (r : List (List PV)) : V.sized (.tl r) = true := rfl
@[go_sem] theorem sized_own (a b c d : Nat) : V.sized (.own a b c d) = true := rfl
@[go_sem] theorem sized_agg (cs : List V) : V.sized (.agg cs) = true := rfl
@[go_sem] theorem sized_nilm : V.sized .nilm = true := rfl
@[go_sem] theorem sized_map (i : Nat) : V.sized (.map i) = true := rfl
@[go_sem] theorem sized_func (f : Nat) (c : List V) : V.sized (.func f c) = true := rfl
@[go_sem] theorem takeN_eq {α : Type} (off n : Nat) (l : List α) : takeN off n l = if off + n ≤ l.length then some ((l.drop off).take n) else none := rfl
@[go_sem] theorem cellsV_true (cs : List V) : cellsV true cs = some (.agg cs) := rfl
@[go_sem] theorem cellsV_one (v : V) : cellsV false [v] = some v := rfl
@[go_sem] theorem setAt_eq {α : Type} (l : List α) (off : Nat) (n : List α) : setAt l off n = l.take off ++ n ++ l.drop (off + n.length) := rfl
@[go_sem] theorem fillv_nil (g : Opd → V) (cells : List V) : fillv g cells [] = some cells := rfl
@[go_sem] theorem fillv_cons (g : Opd → V) (cells : List V) (off n : Nat) (x : Opd) (r : List (Nat × Nat × Opd)) : fillv g cells ((off, n, x) :: r) = if (g x).sized = true ∧ (g x).cells.length = n ∧ off + n ≤ cells.length then fillv g (setAt cells off (g x).cells) r else none := rfl
@[go_sem] theorem partV_agg (off n : Nat) (b : Bool) (cs : List V) : partV off n b (.agg cs) = (takeN off n cs).bind (cellsV b) := by
  simp only [partV]
  cases takeN off n cs <;> rfl
@[go_sem] theorem ixaV_agg (j k : Nat) (b : Bool) (cs : List V) : ixaV j k b (.agg cs) = (takeN (j * k) k cs).bind (cellsV b) := by
  simp only [ixaV]
  cases takeN (j * k) k cs <;> rfl
@[go_sem] theorem loadAt_ro (h : Heap) (n t : Nat) (cs : List PV) : loadAt h n (.pv (.ro t cs)) = (takeN 0 n cs).bind fun l => some (l.map .pv, {}) := by
  simp only [loadAt]
  cases takeN 0 n cs <;> rfl
@[go_sem] theorem loadAt_ptr (h : Heap) (n slot off : Nat) : loadAt h n (.ptr slot off) = (look1 slot h.bx).bind fun cs => (takeN off n cs).bind fun l => some (l, { rb := some slot }) := by
  simp only [loadAt]
  cases look1 slot h.bx with
  | none => rfl
  | some cs =>
    simp only [Option.bind_some]
    cases takeN off n cs <;> rfl
def bodyRow (row : Nat) : Sum (List (List PV)) (List (List V)) → Option (List V)
  | .inl x => x[row]?.map (·.map .pv)
  | .inr x => x[row]?
@[go_sem] theorem bodyRow_inl (row : Nat) (x : List (List PV)) : bodyRow row (.inl x) = x[row]?.map (·.map .pv) := rfl
@[go_sem] theorem bodyRow_inr (row : Nat) (x : List (List V)) : bodyRow row (.inr x) = x[row]? := rfl
@[go_sem] theorem loadAt_aptr (h : Heap) (n id ver row col : Nat) : loadAt h n (.aptr id ver row col) = (ownArr h id ver).bind fun a => (bodyRow row a.body).bind fun r => (takeN col n r).bind fun l => some (l, { ra := some id }) := by
  simp only [loadAt]
  cases ownArr h id ver with
  | none => rfl
  | some a =>
    simp only [Option.bind_some]
    cases a.body with
    | inl x =>
      simp only [bodyRow]
      cases x[row]? with
      | none => rfl
      | some r =>
        simp only [Option.map_some, Option.bind_some, takeN, List.length_map]
        by_cases hc : col + n ≤ r.length <;> simp [hc]
    | inr x =>
      simp only [bodyRow]
      cases x[row]? with
      | none => rfl
      | some r =>
        simp only [Option.bind_some]
        cases takeN col n r <;> rfl
@[go_sem] theorem storeAt_ptr (h : Heap) (slot off : Nat) (news : List V) : storeAt h (.ptr slot off) news = (look1 slot h.bx).bind fun cs => if off + news.length ≤ cs.length ∧ news.all V.calmB then some { bx := some (slot, setAt cs off news) } else none := by
  simp only [storeAt]
  cases look1 slot h.bx <;> rfl
def storeRow (id row col : Nat) (news : List V) (a : Arr) : Option Tn :=
  if row < a.size ∧ col + news.length ≤ a.k ∧ news.all V.calm then some { ar := some (id, { a with body := setBody row col news a.body }) } else none
@[go_sem] theorem storeAt_aptr (h : Heap) (id ver row col : Nat) (news : List V) : storeAt h (.aptr id ver row col) news = (ownArr h id ver).bind (storeRow id row col news) := by
  simp only [storeAt]
  cases ownArr h id ver <;> rfl
def over (row c : Nat) (news : List PV) (x : List (List PV)) : List (List PV) := x.set row ((x.getD row []).take c ++ news ++ (x.getD row []).drop (c + news.length))
theorem storeRow_inl {id row col ver k : Nat} {news : List V} {rows : List (List PV)} {l : List PV} (h1 : row < rows.length) (h2 : mapO V.purec news = some l) (h3 : col + news.length ≤ k) (h4 : news.all V.calm = true) :
    storeRow id row col news ⟨ver, k, .inl rows⟩ = some { ar := some (id, ⟨ver, k, .inl (over row col l rows)⟩) } := by
  have hl : l.length = news.length := mapO_len2 h2
  have : row < (⟨ver, k, .inl rows⟩ : Arr).size := h1
  simp only [storeRow, this, h3, h4, true_and, if_true, setBody, h2, over, hl]
theorem storeRow_one {id row ver : Nat} {p : PV} {rows : List (List PV)} (h1 : row < rows.length) (h2 : p.perm = true) (h3 : rows[row]? = none ∨ ∃ q, rows[row]? = some [q]) (h4 : (V.pv p).calm = true) :
    storeRow id row 0 [.pv p] ⟨ver, 1, .inl rows⟩ = some { ar := some (id, ⟨ver, 1, .inl (rows.set row [p])⟩) } := by
  rw [storeRow_inl (l := [p]) h1 (by simp [mapO, V.purec, h2]) (by simp) (by simp [h4])]
  have : rows.getD row [] = [] ∨ ∃ q, rows.getD row [] = [q] := by
    rcases h3 with h | ⟨q, h⟩
    · exact .inl (by simp [h])
    · exact .inr ⟨q, by simp [h]⟩
  unfold over
  rcases this with h | ⟨q, h⟩ <;> rw [h] <;> rfl
@[go_sem] theorem fldV_ro (off t : Nat) (cs : List PV) : fldV off (.pv (.ro t cs)) = some (.pv (.ro t (cs.drop off))) := rfl
@[go_sem] theorem fldV_ptr (off s o : Nat) : fldV off (.ptr s o) = some (.ptr s (o + off)) := rfl
@[go_sem] theorem fldV_aptr (off i v r c : Nat) : fldV off (.aptr i v r c) = some (.aptr i v r (c + off)) := rfl
@[go_sem] theorem nilckV_func (f : Nat) (cap : List V) : nilckV (.func f cap) = some (.func f cap) := rfl
@[go_sem] theorem nilckV_pfunc (f : Nat) (cap : List PV) : nilckV (.pv (.func f cap)) = some (.pv (.func f cap)) := rfl
@[go_sem] theorem nilckV_ptr (s o : Nat) : nilckV (.ptr s o) = some (.ptr s o) := rfl
@[go_sem] theorem nilckV_ro (t : Nat) (cs : List PV) : nilckV (.pv (.ro t cs)) = some (.pv (.ro t cs)) := rfl
@[go_sem] theorem nilckV_aptr (i v r c : Nat) : nilckV (.aptr i v r c) = some (.aptr i v r c) := rfl
@[go_sem] theorem funcOf_func (f : Nat) (cap : List V) : funcOf (.func f cap) = some (f, cap) := rfl
@[go_sem] theorem funcOf_pfunc (f : Nat) (cap : List PV) : funcOf (.pv (.func f cap)) = some (f, cap.map .pv) := rfl
@[go_sem] theorem ownArr_mk (bx : List (Nat × List V)) (ar : List Arr) (mp : List (List (PV × PV))) (id ver : Nat) : ownArr ⟨bx, ar, mp⟩ id ver = (ar[id]?).bind fun a => if a.ver = ver then some a else none := by
  simp only [ownArr]
  cases ar[id]? <;> rfl

@[go_sem] theorem plainCells_pv (p : PV) : plainCells false (.pv p) = some [p] := rfl
@[go_sem] theorem plainCells_agg (cs : List V) : plainCells true (.agg cs) = mapO pvOf cs := rfl
@[go_sem] theorem pvOf_pv (p : PV) : pvOf (.pv p) = some p := rfl
@[go_sem] theorem mapO_nil {α β : Type} (f : α → Option β) : mapO f [] = some [] := rfl
theorem mapO_cons' {α β : Type} (f : α → Option β) (x : α) (r : List α) : mapO f (x :: r) = (f x).bind fun y => (mapO f r).bind fun l => some (y :: l) := by
  simp only [mapO]
  cases f x with
  | none => rfl
  | some y => cases mapO f r <;> rfl
attribute [go_sem] mapO_cons'
@[go_sem] theorem keyOf_pv (p : PV) : keyOf false (.pv p) = some p := rfl
theorem keyOf_agg (cs : List V) : keyOf true (.agg cs) = (mapO pvOf cs).map .agg := by
  simp only [keyOf, plainCells]
  cases mapO pvOf cs <;> rfl
attribute [go_sem] keyOf_agg
def eqB (ks : List Nat) (a b : List PV) : Option Bool := eqsAll ks a b
@[go_sem] theorem eqsAll_nil : eqsAll [] [] [] = some true := rfl
theorem eqsAll_cons (k : Nat) (ks : List Nat) (a b : PV) (x y : List PV) : eqsAll (k :: ks) (a :: x) (b :: y) = (PV.eqs k a b).bind fun p => (eqsAll ks x y).bind fun q => some (p && q) := by
  simp only [eqsAll]
  cases PV.eqs k a b with
  | none => rfl
  | some p => cases eqsAll ks x y <;> rfl
attribute [go_sem] eqsAll_cons
@[go_sem] theorem eqs_bool (a b : Bool) : PV.eqs 0 (.bool a) (.bool b) = some (decide (a = b)) := by simp [PV.eqs, beq_dec]
@[go_sem] theorem eqs_int (k : IntKind) (a b : Int) : PV.eqs 1 (.int k a) (.int k b) = some (decide (a = b)) := by simp [PV.eqs, beq_dec]
@[go_sem] theorem eqs_str (a b : ByteArray) : PV.eqs 2 (.str a) (.str b) = some (decide (a = b)) := by simp only [PV.eqs, list_beq]
theorem eqaV_eq (ag : Bool) (ks : List Nat) (neg : Bool) (x y : V) : eqaV ag ks neg x y = (plainCells ag x).bind fun a => (plainCells ag y).bind fun b => (eqsAll ks a b).bind fun r => some (.pv (.bool (if neg then !r else r))) := by
  simp only [eqaV]
  cases plainCells ag x with
  | none => rfl
  | some a =>
    cases plainCells ag y with
    | none => rfl
    | some b =>
      simp only [Option.bind_some]
      cases eqsAll ks a b <;> rfl
attribute [go_sem] eqaV_eq

theorem idxR_nat (k t : Nat) (rows : List (List PV)) (j : Nat) : idxR k t rows (some (j : Int)) = (rows[j]?).bind fun r => if r.length = k then some (.pv (.ro t r)) else none := by
  simp only [idxR, inRange]
  by_cases h : j < rows.length
  · rw [if_pos ⟨by omega, by omega⟩]
    simp only [Int.toNat_natCast]
    cases rows[j]? <;> rfl
  · rw [if_neg (by omega)]
    rw [List.getElem?_eq_none (by omega)]
    rfl
theorem idxR_int (k t : Nat) (rows : List (List PV)) {i : Int} (h : 0 ≤ i) : idxR k t rows (some i) = (rows[i.toNat]?).bind fun r => if r.length = k then some (.pv (.ro t r)) else none := by
  obtain ⟨j, rfl⟩ := Int.eq_ofNat_of_zero_le h
  exact idxR_nat k t rows j
attribute [go_sem] idxR_nat
@[go_sem] theorem idxV_lst (h : Heap) (k t : Nat) (rows : List (List PV)) (i : Option Int) : idxV h k (.pv (.lst t rows)) i = (idxR k t rows i).map fun v => (v, {}) := rfl
@[go_sem] theorem idxV_tl (h : Heap) (k : Nat) (rows : List (List PV)) (i : Option Int) : idxV h k (.tl rows) i = (idxR k 0 rows i).map fun v => (v, {}) := rfl
theorem idxV_own (h : Heap) (k id ver off len : Nat) (i : Option Int) : idxV h k (.own id ver off len) i = (inRange i len).bind fun j => (ownArr h id ver).bind fun a => if a.k = k then some (.aptr id ver (off + j) 0, { ra := some id }) else none := by
  simp only [idxV]
  cases inRange i len with
  | none => rfl
  | some j => cases ownArr h id ver <;> rfl
attribute [go_sem] idxV_own
@[go_sem] theorem lenV_lst (h : Heap) (t : Nat) (rows : List (List PV)) : lenV h 0 (.pv (.lst t rows)) = some (rows.length, {}) := rfl
@[go_sem] theorem lenV_tl (h : Heap) (rows : List (List PV)) : lenV h 0 (.tl rows) = some (rows.length, {}) := rfl
@[go_sem] theorem lenV_own (h : Heap) (a b c d : Nat) : lenV h 0 (.own a b c d) = some (d, {}) := rfl
@[go_sem] theorem lenV_str (h : Heap) (s : ByteArray) : lenV h 1 (.pv (.str s)) = some (s.size, {}) := rfl
theorem lenV_map (h : Heap) (id : Nat) : lenV h 2 (.map id) = (h.mp[id]?).map fun m => (m.length, { rm := some id }) := by
  simp only [lenV]
  cases h.mp[id]? <;> rfl
attribute [go_sem] lenV_map
@[go_sem] theorem lenV_nilm (h : Heap) : lenV h 2 .nilm = some (0, {}) := rfl

@[go_sem] theorem ofArg_agg (cs : List PV) : V.ofArg (.agg cs) = .agg (cs.map .pv) := rfl
@[go_sem] theorem ofArg_bool (b : Bool) : V.ofArg (.bool b) = .pv (.bool b) := rfl
@[go_sem] theorem ofArg_int (k : IntKind) (n : Int) : V.ofArg (.int k n) = .pv (.int k n) := rfl
@[go_sem] theorem ofArg_str (s : ByteArray) : V.ofArg (.str s) = .pv (.str s) := rfl
@[go_sem] theorem ofArg_lst (t : Nat) (r : List (List PV)) : V.ofArg (.lst t r) = .pv (.lst t r) := rfl
@[go_sem] theorem ofArg_ro (t : Nat) (r : List PV) : V.ofArg (.ro t r) = .pv (.ro t r) := rfl
@[go_sem] theorem ofArg_func (f : Nat) (r : List PV) : V.ofArg (.func f r) = .pv (.func f r) := rfl
@[go_sem] theorem ofArg_fr (k : Nat) (r : List (List PV)) : V.ofArg (.fr k r) = .own 0 0 0 r.length := rfl
@[go_sem] theorem entry_nil (n : Nat) : entry n [] = [] := rfl
@[go_sem] theorem entry_cons (n : Nat) (p : PV) (r : List PV) : entry n (p :: r) = (n, V.ofArg p) :: entry (n + 1) r := rfl
@[go_sem] theorem entryHeap_nil : entryHeap [] = ⟨[], [], []⟩ := rfl
@[go_sem] theorem entryHeap_fr (k : Nat) (rows : List (List PV)) (r : List PV) : entryHeap (.fr k rows :: r) = ⟨[], [⟨0, k, .inl rows⟩], []⟩ := rfl
@[go_sem] theorem entryHeap_agg (cs : List PV) (r : List PV) : entryHeap (.agg cs :: r) = ⟨[], [], []⟩ := rfl
@[go_sem] theorem entryHeap_bool (b : Bool) (r : List PV) : entryHeap (.bool b :: r) = ⟨[], [], []⟩ := rfl
@[go_sem] theorem entryHeap_int (k : IntKind) (n : Int) (r : List PV) : entryHeap (.int k n :: r) = ⟨[], [], []⟩ := rfl
@[go_sem] theorem entryHeap_str (s : ByteArray) (r : List PV) : entryHeap (.str s :: r) = ⟨[], [], []⟩ := rfl
@[go_sem] theorem entryHeap_lst (t : Nat) (rows : List (List PV)) (r : List PV) : entryHeap (.lst t rows :: r) = ⟨[], [], []⟩ := rfl
@[go_sem] theorem entryHeap_ro (t : Nat) (rows : List PV) (r : List PV) : entryHeap (.ro t rows :: r) = ⟨[], [], []⟩ := rfl
@[go_sem] theorem entryHeap_func (t : Nat) (rows : List PV) (r : List PV) : entryHeap (.func t rows :: r) = ⟨[], [], []⟩ := rfl

@[go_sem] theorem resultOf_tmp (s : St) (t : Nat) : resultOf s (.tmp t) = some (get s.env t) := rfl
theorem resultOf_cell (s : St) (t n : Nat) (b : Bool) : resultOf s (.cell t n b) = (loadAt s.h n (get s.env t)).bind fun r => cellsV b r.1 := by
  simp only [resultOf]
  cases loadAt s.h n (get s.env t) <;> rfl
attribute [go_sem] resultOf_cell
@[go_sem] theorem leaveL_false (s : St) (rs : List RVar) : leaveL s rs false = (mapO (resultOf s) rs).bind fun vs => mapO (keep s.h false) vs := by
  simp [leaveL]
theorem leaveL_true (s : St) (rs : List RVar) : leaveL s rs true = (mapO (resultOf s) rs).bind fun vs => if distinct (ownIds vs) then mapO (keep s.h true) vs else none := by
  simp [leaveL]
attribute [go_sem] leaveL_true
@[go_sem] theorem keep_agg (h : Heap) (cs : List V) : keep h false (.agg cs) = (mapO (keepc h 4) cs).map .agg := by
  simp only [keep, Bool.false_eq_true, if_false]
  cases mapO (keepc h 4) cs <;> rfl
@[go_sem] theorem keep_ptr0 (h : Heap) (slot off : Nat) : keep h false (.ptr slot off) = (look1 slot h.bx).bind fun cs => (mapO (keepc h 4) (cs.drop off)).map (.ro 0) := by
  simp only [keep, Bool.false_eq_true, if_false]
  cases look1 slot h.bx with
  | none => rfl
  | some cs => simp only [Option.bind_some]; cases mapO (keepc h 4) (cs.drop off) <;> rfl
@[go_sem] theorem keep_bool (h : Heap) (b : Bool) : keep h false (.pv (.bool b)) = keepc h 4 (.pv (.bool b)) := rfl
@[go_sem] theorem keep_int (h : Heap) (k : IntKind) (n : Int) : keep h false (.pv (.int k n)) = keepc h 4 (.pv (.int k n)) := rfl
@[go_sem] theorem keep_str (h : Heap) (s : ByteArray) : keep h false (.pv (.str s)) = keepc h 4 (.pv (.str s)) := rfl
@[go_sem] theorem keep_nilp (h : Heap)  : keep h false (.pv (.nilp)) = keepc h 4 (.pv (.nilp)) := rfl
@[go_sem] theorem keep_nilf (h : Heap)  : keep h false (.pv (.nilf)) = keepc h 4 (.pv (.nilf)) := rfl
@[go_sem] theorem keep_lst (h : Heap) (t : Nat) (rows : List (List PV)) : keep h false (.pv (.lst t rows)) = keepc h 4 (.pv (.lst t rows)) := rfl
@[go_sem] theorem keep_pfunc (h : Heap) (f : Nat) (cap : List PV) : keep h false (.pv (.func f cap)) = keepc h 4 (.pv (.func f cap)) := rfl
@[go_sem] theorem keep_pagg (h : Heap) (cs : List PV) : keep h false (.pv (.agg cs)) = keepc h 4 (.pv (.agg cs)) := rfl
@[go_sem] theorem keep_ro (h : Heap) (cs : List PV) : keep h false (.pv (.ro 0 cs)) = if cs.all PV.perm = true then some (.ro 0 cs) else none := by
  show (if _ ∧ _ ∧ _ then _ else _) = _
  simp
@[go_sem] theorem keep_tl (h : Heap) (r : List (List PV)) : keep h false (.tl r) = keepc h 4 (.tl r) := rfl
@[go_sem] theorem keep_own (h : Heap) (a b c d : Nat) : keep h false (.own a b c d) = keepc h 4 (.own a b c d) := rfl
@[go_sem] theorem keep_func (h : Heap) (a : Nat) (c : List V) : keep h false (.func a c) = keepc h 4 (.func a c) := rfl
@[go_sem] theorem keepc_pv (h : Heap) (d : Nat) (p : PV) : keepc h d (.pv p) = if p.perm then some p else none := by cases d <;> rfl
@[go_sem] theorem keepc_tl (h : Heap) (d : Nat) (r : List (List PV)) : keepc h d (.tl r) = some (.lst 0 r) := by cases d <;> rfl
@[go_sem] theorem perm_bool (b : Bool) : PV.perm (.bool b) = true := rfl
@[go_sem] theorem perm_int (k : IntKind) (n : Int) : PV.perm (.int k n) = true := rfl
@[go_sem] theorem perm_str (s : ByteArray) : PV.perm (.str s) = true := rfl
@[go_sem] theorem perm_nilp : PV.perm .nilp = true := rfl
@[go_sem] theorem perm_lst (t : Nat) (r : List (List PV)) : PV.perm (.lst t r) = (t == 0) := rfl
@[go_sem] theorem cutRows_inl (off len : Nat) (x : List (List PV)) : cutRows off len (.inl x) = .inl ((x.drop off).take len) := rfl
@[go_sem] theorem cutRows_inr (off len : Nat) (x : List (List V)) : cutRows off len (.inr x) = .inr ((x.drop off).take len) := rfl
def keepRows (f : V → Option PV) : Sum (List (List PV)) (List (List V)) → Option PV
  | .inl rows => some (.lst 0 rows)
  | .inr rows => (mapO (mapO f) rows).map (.lst 0)
@[go_sem] theorem keepRows_inl (f : V → Option PV) (rows : List (List PV)) : keepRows f (.inl rows) = some (.lst 0 rows) := rfl
@[go_sem] theorem keepRows_inr (f : V → Option PV) (rows : List (List V)) : keepRows f (.inr rows) = (mapO (mapO f) rows).map (.lst 0) := rfl
theorem keepc_own (h : Heap) (d id ver off len : Nat) : keepc h (d + 1) (.own id ver off len) = (ownArr h id ver).bind fun a => keepRows (keepc h d) (cutRows off len a.body) := by
  simp only [keepc]
  cases ownArr h id ver with
  | none => rfl
  | some a =>
    simp only [Option.bind_some]
    cases cutRows off len a.body with
    | inl r => rfl
    | inr r =>
      simp only [keepRows]
      cases mapO (mapO (keepc h d)) r <;> rfl
@[go_sem] theorem keepc_own4 (h : Heap) (id ver off len : Nat) : keepc h 4 (.own id ver off len) = (ownArr h id ver).bind fun a => keepRows (keepc h 3) (cutRows off len a.body) := keepc_own h 3 id ver off len
@[go_sem] theorem keepc_own3 (h : Heap) (id ver off len : Nat) : keepc h 3 (.own id ver off len) = (ownArr h id ver).bind fun a => keepRows (keepc h 2) (cutRows off len a.body) := keepc_own h 2 id ver off len
@[go_sem] theorem keepc_own2 (h : Heap) (id ver off len : Nat) : keepc h 2 (.own id ver off len) = (ownArr h id ver).bind fun a => keepRows (keepc h 1) (cutRows off len a.body) := keepc_own h 1 id ver off len
def lendRows (f : V → Option PV) : Sum (List (List PV)) (List (List V)) → Option PV
  | .inl rows => some (.lst 1 rows)
  | .inr rows => (mapO (mapO f) rows).map (.lst 2)
@[go_sem] theorem lendRows_inl (f : V → Option PV) (rows : List (List PV)) : lendRows f (.inl rows) = some (.lst 1 rows) := rfl
@[go_sem] theorem lendRows_inr (f : V → Option PV) (rows : List (List V)) : lendRows f (.inr rows) = (mapO (mapO f) rows).map (.lst 2) := rfl
@[go_sem] theorem lendAll_false (h : Heap) (vs : List V) : lendAll h false vs = (mapO (lend h) vs).bind fun l => some (l, none) := by
  simp only [lendAll, Bool.false_eq_true, if_false]
  cases mapO (lend h) vs <;> rfl
@[go_sem] theorem lend_bool (h : Heap) (b : Bool) : lend h (.pv (.bool b)) = some (.bool b) := rfl
@[go_sem] theorem lend_int (h : Heap) (k : IntKind) (n : Int) : lend h (.pv (.int k n)) = some (.int k n) := rfl
@[go_sem] theorem lend_str (h : Heap) (s : ByteArray) : lend h (.pv (.str s)) = some (.str s) := rfl
@[go_sem] theorem lend_lst (h : Heap) (t : Nat) (r : List (List PV)) : lend h (.pv (.lst t r)) = some (.lst t r) := rfl
@[go_sem] theorem lend_ro (h : Heap) (t : Nat) (r : List PV) : lend h (.pv (.ro t r)) = some (.ro t r) := rfl
@[go_sem] theorem lend_pfunc (h : Heap) (t : Nat) (r : List PV) : lend h (.pv (.func t r)) = some (.func t r) := rfl
@[go_sem] theorem lend_pagg (h : Heap) (r : List PV) : lend h (.pv (.agg r)) = some (.agg r) := rfl
@[go_sem] theorem lend_tl (h : Heap) (r : List (List PV)) : lend h (.tl r) = some (.lst 0 r) := rfl
@[go_sem] theorem lend_agg (h : Heap) (cs : List V) : lend h (.agg cs) = (mapO (lendc h 4) cs).map .agg := by
  simp only [lend]
  cases mapO (lendc h 4) cs <;> rfl
theorem lendc_own (h : Heap) (d id ver off len : Nat) : lendc h (d + 1) (.own id ver off len) = (ownArr h id ver).bind fun a => lendRows (lendc h d) (cutRows off len a.body) := by
  simp only [lendc]
  cases ownArr h id ver with
  | none => rfl
  | some a =>
    simp only [Option.bind_some]
    cases cutRows off len a.body with
    | inl r => rfl
    | inr r =>
      simp only [lendRows]
      cases mapO (mapO (lendc h d)) r <;> rfl
@[go_sem] theorem lend_own (h : Heap) (id ver off len : Nat) : lend h (.own id ver off len) = (ownArr h id ver).bind fun a => lendRows (lendc h 3) (cutRows off len a.body) := lendc_own h 3 id ver off len
@[go_sem] theorem lendc_own4 (h : Heap) (id ver off len : Nat) : lendc h 4 (.own id ver off len) = (ownArr h id ver).bind fun a => lendRows (lendc h 3) (cutRows off len a.body) := lendc_own h 3 id ver off len
@[go_sem] theorem lendc_own3 (h : Heap) (id ver off len : Nat) : lendc h 3 (.own id ver off len) = (ownArr h id ver).bind fun a => lendRows (lendc h 2) (cutRows off len a.body) := lendc_own h 2 id ver off len
@[go_sem] theorem lendc_own2 (h : Heap) (id ver off len : Nat) : lendc h 2 (.own id ver off len) = (ownArr h id ver).bind fun a => lendRows (lendc h 1) (cutRows off len a.body) := lendc_own h 1 id ver off len
theorem lendc_ptr (h : Heap) (d slot off : Nat) : lendc h (d + 1) (.ptr slot off) = (look1 slot h.bx).bind fun cs => (mapO (lendc h d) (cs.drop off)).map (.ro 2) := by
  simp only [lendc]
  cases look1 slot h.bx with
  | none => rfl
  | some cs =>
    simp only [Option.bind_some]
    cases mapO (lendc h d) (cs.drop off) <;> rfl
@[go_sem] theorem lend_ptr (h : Heap) (slot off : Nat) : lend h (.ptr slot off) = (look1 slot h.bx).bind fun cs => (mapO (lendc h 3) (cs.drop off)).map (.ro 2) := lendc_ptr h 3 slot off
@[go_sem] theorem lendc_ptr4 (h : Heap) (slot off : Nat) : lendc h 4 (.ptr slot off) = (look1 slot h.bx).bind fun cs => (mapO (lendc h 3) (cs.drop off)).map (.ro 2) := lendc_ptr h 3 slot off
@[go_sem] theorem lendc_ptr3 (h : Heap) (slot off : Nat) : lendc h 3 (.ptr slot off) = (look1 slot h.bx).bind fun cs => (mapO (lendc h 2) (cs.drop off)).map (.ro 2) := lendc_ptr h 2 slot off
theorem lendc_func (h : Heap) (d f : Nat) (cap : List V) : lendc h (d + 1) (.func f cap) = (mapO (lendc h d) cap).map (.func f) := by
  simp only [lendc]
  cases mapO (lendc h d) cap <;> rfl
@[go_sem] theorem lend_func (h : Heap) (f : Nat) (cap : List V) : lend h (.func f cap) = (mapO (lendc h 3) cap).map (.func f) := lendc_func h 3 f cap
@[go_sem] theorem lendc_func3 (h : Heap) (f : Nat) (cap : List V) : lendc h 3 (.func f cap) = (mapO (lendc h 2) cap).map (.func f) := lendc_func h 2 f cap
@[go_sem] theorem lendc_func4 (h : Heap) (f : Nat) (cap : List V) : lendc h 4 (.func f cap) = (mapO (lendc h 3) cap).map (.func f) := lendc_func h 3 f cap
@[go_sem] theorem lendc_bool (h : Heap) (d : Nat) (b : Bool) : lendc h d (.pv (.bool b)) = some (.bool b) := by cases d <;> rfl
@[go_sem] theorem lendc_int (h : Heap) (d : Nat) (k : IntKind) (n : Int) : lendc h d (.pv (.int k n)) = some (.int k n) := by cases d <;> rfl
@[go_sem] theorem lendc_str (h : Heap) (d : Nat) (s : ByteArray) : lendc h d (.pv (.str s)) = some (.str s) := by cases d <;> rfl
@[go_sem] theorem lendc_lst (h : Heap) (d t : Nat) (r : List (List PV)) : lendc h d (.pv (.lst t r)) = some (.lst t r) := by cases d <;> rfl
@[go_sem] theorem lendc_ro (h : Heap) (d t : Nat) (r : List PV) : lendc h d (.pv (.ro t r)) = some (.ro t r) := by cases d <;> rfl
@[go_sem] theorem lendc_pfunc (h : Heap) (d t : Nat) (r : List PV) : lendc h d (.pv (.func t r)) = some (.func t r) := by cases d <;> rfl
@[go_sem] theorem lendc_tl (h : Heap) (d : Nat) (r : List (List PV)) : lendc h d (.tl r) = some (.lst 0 r) := by cases d <;> rfl

def PV.still : PV → Bool
  | .fr _ _ => false
  | _ => true
@[go_sem] theorem takec_nil (n : Nat) : takec n [] = ([], []) := rfl
@[go_sem] theorem takec_fr (n k : Nat) (rows : List (List PV)) (r : List PV) : takec n (.fr k rows :: r) = (.own n 0 0 rows.length :: (takec (n + 1) r).1, ⟨0, k, .inl rows⟩ :: (takec (n + 1) r).2) := rfl
@[go_sem] theorem takec_bool (n : Nat) (b : Bool) (r : List PV) : takec n (.bool b :: r) = (.pv (.bool b) :: (takec n r).1, (takec n r).2) := rfl
@[go_sem] theorem takec_int (n : Nat) (k : IntKind) (i : Int) (r : List PV) : takec n (.int k i :: r) = (.pv (.int k i) :: (takec n r).1, (takec n r).2) := rfl
@[go_sem] theorem takec_str (n : Nat) (s : ByteArray) (r : List PV) : takec n (.str s :: r) = (.pv (.str s) :: (takec n r).1, (takec n r).2) := rfl
@[go_sem] theorem takec_lst (n t : Nat) (l : List (List PV)) (r : List PV) : takec n (.lst t l :: r) = (.pv (.lst t l) :: (takec n r).1, (takec n r).2) := rfl
@[go_sem] theorem takev_agg (n : Nat) (cs : List PV) : takev n (.agg cs) = (.agg (takec n cs).1, (takec n cs).2) := rfl
@[go_sem] theorem takev_fr (n k : Nat) (rows : List (List PV)) : takev n (.fr k rows) = (.own n 0 0 rows.length, [⟨0, k, .inl rows⟩]) := rfl
@[go_sem] theorem takev_bool (n : Nat) (b : Bool) : takev n (.bool b) = (.pv (.bool b), []) := rfl
@[go_sem] theorem takev_int (n : Nat) (k : IntKind) (i : Int) : takev n (.int k i) = (.pv (.int k i), []) := rfl
@[go_sem] theorem takev_str (n : Nat) (s : ByteArray) : takev n (.str s) = (.pv (.str s), []) := rfl
@[go_sem] theorem takev_lst (n t : Nat) (l : List (List PV)) : takev n (.lst t l) = (.pv (.lst t l), []) := rfl
@[go_sem] theorem takeAll_nil (n : Nat) : takeAll n [] = ([], []) := rfl
@[go_sem] theorem takeAll_step (n : Nat) (p : PV) (r : List PV) : takeAll n (p :: r) = ((takev n p).1 :: (takeAll (n + (takev n p).2.length) r).1, (takev n p).2 ++ (takeAll (n + (takev n p).2.length) r).2) := rfl
@[go_sem] theorem tuple1_one (v : V) : tuple1 [v] = v := rfl
@[go_sem] theorem tuple1_two (v w : V) (r : List V) : tuple1 (v :: w :: r) = .tup (v :: w :: r) := rfl
@[go_sem] theorem tuple1_nil : tuple1 [] = .tup [] := rfl


def CN (A : Nat → Option AFunc) (Pr : Prims) (t : Bool) (fn : Nat) (vs : List V) (h : Heap) (K : V → Tn → Prop) (_t : Tie K := .mk) : Prop :=
  optK (lendAll h t vs) fun q => optK (res A Pr fn q.1) fun rs => K (tuple1 (takeAll h.ar.length rs).1) { ar := q.2, push := (takeAll h.ar.length rs).2, rall := !(vs.all V.isPv), base := if (takeAll h.ar.length rs).2.isEmpty then 0 else h.ar.length }
theorem CW_CN {fn : Nat} (hi : inls A fn = false) (hp : Pr fn = none) {t : Bool} (ht : takes A fn = t) (vs : List V) (h : Heap) (K : V → Tn → Prop) : CW A Pr fn vs h K = CN A Pr t fn vs h K := CW_none hi hp ht vs h K
@[go_sem] theorem CN_eq (t : Bool) (fn : Nat) (vs : List V) (h : Heap) (K : V → Tn → Prop) : CN A Pr t fn vs h K = optK (lendAll h t vs) fun q => optK (res A Pr fn q.1) fun rs => K (tuple1 (takeAll h.ar.length rs).1) { ar := q.2, push := (takeAll h.ar.length rs).2, rall := !(vs.all V.isPv), base := if (takeAll h.ar.length rs).2.isEmpty then 0 else h.ar.length } := rfl
@[go_sem] theorem isPv_pv (p : PV) : V.isPv (.pv p) = true := rfl
@[go_sem] theorem isPv_tl (r : List (List PV)) : V.isPv (.tl r) = true := rfl
@[go_sem] theorem isPv_own (a b c d : Nat) : V.isPv (.own a b c d) = false := rfl
@[go_sem] theorem isPv_ptr (a b : Nat) : V.isPv (.ptr a b) = false := rfl
@[go_sem] theorem isPv_func (f : Nat) (cap : List V) : V.isPv (.func f cap) = cap.isEmpty := rfl
def pvTl : V → Bool
  | .pv _ => true
  | .tl _ => true
  | _ => false
@[go_sem] theorem pvTl_pv (p : PV) : pvTl (.pv p) = true := rfl
@[go_sem] theorem pvTl_tl (r : List (List PV)) : pvTl (.tl r) = true := rfl
@[go_sem] theorem pvTl_own (a b c d : Nat) : pvTl (.own a b c d) = false := rfl
@[go_sem] theorem isPv_agg (cs : List V) : V.isPv (.agg cs) = cs.all pvTl := by
  show (cs.all fun | .pv _ => true | .tl _ => true | _ => false) = _
  congr 1

@[go_sem] theorem held_cons (j : Nat) (un : List Nat) (t : Tn) (done : List Tn) (X : Prop) : held (j :: un) t done X = reqK (((done[j]?).map fun u => u.apart t) = some true) (held un t done X) := by
  unfold held reqK holdAgainst
  simp only [List.all_cons, Bool.and_eq_true]
  apply propext
  cases done[j]? with
  | none => simp
  | some u => simp [and_assoc]
@[go_sem] theorem apart_eq (a b : Tn) : a.apart b = (a.off b && b.offL a) := rfl
@[go_sem] theorem offL_eq (a b : Tn) : a.offL b = (off2 (a.bx.map (·.1)) (b.bx.map (·.1)) (· == ·) && off2 (a.bx.map (·.1)) b.rb (· == ·) &&
  off2 (a.ar.map (·.1)) (b.ar.map (·.1)) (· == ·) && off2 (a.ar.map (·.1)) b.ra (· == ·) && off2 (a.ar.map (·.1)) b.ra2 (· == ·) &&
  (a.push.isEmpty || (b.push.isEmpty && b.old a.base)) && a.mp.isNone && !a.pushm && (a.all.isNone && b.all.isNone) &&
  (!b.rall || ((a.bx.isNone || a.new) && a.ar.isNone))) := rfl
@[go_sem] theorem off_eq (a b : Tn) : a.off b = (off2 (a.bx.map (·.1)) (b.bx.map (·.1)) (· == ·) && off2 (a.bx.map (·.1)) b.rb (· == ·) &&
  off2 (a.ar.map (·.1)) (b.ar.map (·.1)) (· == ·) && off2 (a.ar.map (·.1)) b.ra (· == ·) && off2 (a.ar.map (·.1)) b.ra2 (· == ·) &&
  (a.push.isEmpty || (b.push.isEmpty && b.old a.base)) && a.mp.isNone && !a.pushm && (a.all.isNone && b.all.isNone) &&
  (!b.rall || (a.bx.isNone && a.ar.isNone && a.push.isEmpty))) := rfl
@[go_sem] theorem old_eq (a : Tn) (n : Nat) : a.old n = (a.ar.all (·.1 < n) && a.ra.all (· < n) && a.ra2.all (· < n)) := rfl
@[go_sem] theorem off2_some {α : Type} (a b : α) (eq : α → α → Bool) : off2 (some a) (some b) eq = !eq a b := rfl
@[go_sem] theorem off2_none {α : Type} (p : Option α) (eq : α → α → Bool) : off2 none p eq = true := rfl
@[go_sem] theorem off2_none' {α : Type} (a : α) (eq : α → α → Bool) : off2 (some a) none eq = true := rfl
attribute [go_sem] Option.all_some Option.all_none

def rowsO (r : Option (List (List PV))) (h : Heap) (k len : Nat) (cs : List V) : Option (V × Tn) :=
  match r with
  | some rows => some (.tl rows, {})
  | none => if cs.all V.calm then some (.own h.ar.length 0 0 len, { push := [⟨0, k, .inr (chop k len cs)⟩], base := h.ar.length }) else none
@[go_sem] theorem rowsO_some (rows : List (List PV)) (h : Heap) (k len : Nat) (cs : List V) : rowsO (some rows) h k len cs = some (.tl rows, {}) := rfl
@[go_sem] theorem rowsO_none (h : Heap) (k len : Nat) (cs : List V) : rowsO none h k len cs = if cs.all V.calm then some (.own h.ar.length 0 0 len, { push := [⟨0, k, .inr (chop k len cs)⟩], base := h.ar.length }) else none := rfl
@[go_sem] theorem litV_rows (h : Heap) (k len : Nat) (cs : List V) : litV h k len cs = rowsO (mapO (mapO V.purec) (chop k len cs)) h k len cs := by
  unfold litV mkRows rowsO
  cases mapO (mapO V.purec) (chop k len cs) <;> rfl
@[go_sem] theorem chop_zero {α : Type} (k : Nat) (l : List α) : chop k 0 l = [] := rfl
@[go_sem] theorem chop_succ {α : Type} (k n : Nat) (l : List α) : chop k (n + 1) l = l.take k :: chop k n (l.drop k) := rfl
@[go_sem] theorem purec_pv (p : PV) : V.purec (.pv p) = if p.perm then some p else none := rfl
@[go_sem] theorem purec_tl (r : List (List PV)) : V.purec (.tl r) = none := rfl
@[go_sem] theorem purec_own (a b c d : Nat) : V.purec (.own a b c d) = none := rfl
@[go_sem] theorem purec_nilp : V.purec .nilm = none := rfl

attribute [go_sem] List.map_cons List.map_nil List.length_cons List.length_nil List.all_cons List.all_nil Option.isNone_none Option.isNone_some Bool.and_true Bool.true_and Bool.and_false Bool.false_and Bool.or_true Bool.true_or Bool.or_false Bool.false_or Bool.not_true Bool.not_false and_self and_true true_and and_false false_and Bool.and_self
  List.drop_zero List.drop_succ_cons List.drop_nil List.take_zero List.take_succ_cons List.take_nil List.nil_append List.cons_append List.append_nil Option.bind_some Option.bind_none Option.map_some Option.map_none List.contains_cons List.contains_nil Nat.reduceBEq beq_self_eq_true List.isEmpty_nil List.isEmpty_cons List.length_map List.getElem?_map
  decide_true decide_false Bool.false_eq_true if_true if_false List.length_append Nat.zero_add Nat.add_zero List.getElem?_cons_zero List.getElem?_cons_succ List.set_cons_zero List.set_cons_succ List.map_drop List.map_take beq_true beq_false List.getElem?_nil
attribute [go_sem] Nat.reduceAdd Nat.reduceSub Nat.reduceMul Nat.reduceDiv Nat.reduceMod Nat.reduceLeDiff Nat.reduceEqDiff Nat.reduceLT Int.reduceAdd Int.reduceSub Int.reduceMul Int.reduceNeg Int.reduceLT Int.reduceLE Int.reduceEq Int.reduceToNat Int.toNat_natCast Int.toNat_zero Int.toNat_one
attribute [go_sem] List.range_succ List.range_zero List.range_eq_range' List.range'_succ List.range'_zero List.getD_cons_zero List.getD_cons_succ
attribute [go_sem ↓] reduceIte

end Go.Pv

