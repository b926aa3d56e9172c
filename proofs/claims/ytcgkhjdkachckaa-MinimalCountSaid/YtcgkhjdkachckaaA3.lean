/-
  The interpreter over plain values, and that it is sound.
-/
import Derived.Test.YtcgkhjdkachckaaA2
import Derived.Carry
import Derived.Attr
import Derived.Sort.Grow
import Derived.Shelf.GgSortFunc.InsertionK
import Derived.Shelf.SlSortCmp.InsertionK
import Derived.Shelf.SlicesE.Clone
set_option linter.unusedSimpArgs false
set_option linter.unusedVariables false
/-
  The statement of a law: for whatever input the call gives true, and all that there was reads as before.
-/
namespace Go.Pv
open Go.RowKit Go.ChangeShapes
variable {H : Type} {enc : TypeId × Value → H} {P : Program}

/-- All arguments read on as they did. -/
theorem trods_stay (hl : laidOutB P = true) {W W' : World} (hb : Below W.heap.size W W') : ∀ (ts : List TypeId) (vs : List Value) (ds : List (DataW H)) (ps : List MemPlace), (∀ t ∈ ts, P.readableRec t = true ∧ t < P.types.size) →
    DataW.TrodAll enc P W 0 (fun _ => true) true ts vs ds ps → (∀ x ∈ ps, x.block < W.heap.size) → DataW.TrodAll enc P W' 0 (fun b => decide (b < W.heap.size)) true ts vs ds ps
  | [], _, _, _, _, h, _ => by
    obtain ⟨rfl, rfl, rfl⟩ := trodAll_nil h
    exact h
  | t :: ts, vs, ds, ps, hr, h, hp => by
    obtain ⟨v, vs', d, ds', p, q, rfl, rfl, rfl, h1, h2⟩ := trodAll_cons h
    obtain ⟨r1, r2⟩ := hr t (by simp)
    exact ⟨p, q, Below.trod hl r1 r2 h1 hb (fun x hx => hp x (by simp [hx])), trods_stay hl hb ts vs' ds' q (fun u hu => hr u (by simp [hu])) h2 (fun x hx => hp x (by simp [hx])), rfl⟩

theorem trods_spare {W' : World} {b : Nat} {sp sp' : Nat → Bool} {held : Bool} {ts : List TypeId} {vs : List Value} {ds : List (DataW H)} {ps : List MemPlace} (hsp : sp = sp') (h : DataW.TrodAll enc P W' b sp held ts vs ds ps) : DataW.TrodAll enc P W' b sp' held ts vs ds ps := hsp ▸ h

theorem bool_trod {W : World} {b : Nat} {sp : Nat → Bool} {hd : Bool} {t : TypeId} (ht : P.underlying t = some .bool) (x : Bool) : DataW.TrodAll enc P W b sp hd [t] [.bool x] [.lit (.bool x)] [] :=
  trodAll_mk1 ⟨1, by simp [DataW.trod, Value.cells, ht]⟩


/-- The row's last step. -/
theorem law_post {f : Func} {s : ChangeSpec} {W W' : World} {args : Array Value} {ds gs : List (DataW H)} {before : List MemPlace} (hl : laidOutB P = true)
    (hW : DataW.Whole enc P f.params.toList s.vars false W args.toList ds gs before) (hsv : s.vars = []) {tb : TypeId} (hres : f.resultTypes = #[tb]) (htb : P.underlying tb = some .bool)
    (hsf : s.fn H (ds ++ gs) = { results := [.lit (.bool true)], args := ds }) (hr : ∀ t ∈ f.params.toList, P.readableRec t = true ∧ t < P.types.size) (hb : Below W.heap.size W W') :
    s.post enc P f false true false false W args (.bool true) W' := by
  have hlt : ∀ p ∈ before, p.block < W.heap.size := fun p hp => hW.lt p hp
  obtain ⟨p, q, h1, h2, h3, h4, h5⟩ := hW
  have hq : q = [] ∧ gs = [] := by
    rw [hsv] at h2
    obtain ⟨rfl, rfl⟩ := trodVars_none h2
    exact ⟨rfl, rfl⟩
  obtain ⟨rfl, rfl⟩ := hq
  have hp : before = p := by rw [h3, List.append_nil]
  refine ⟨ds, [], before, [], p, [], ⟨p, [], h1, h2, h3, h4, h5⟩, ?_, ?_, ?_, ?_, ?_⟩
  · rw [hsf, hres]
    exact bool_trod htb true
  · rw [hsf]
    exact trods_stay hl hb _ _ _ _ hr h1 (fun x hx => hlt x (by rw [hp]; exact hx))
  · rw [hsf]
    rw [hsv] at h2 ⊢
    exact h2
  · exact Below.frame hb _
  · intro hh
    cases hh

/-- A law, lifted. -/
theorem law_lifted {C : Checked} {os : Os} {N : Nat → Nat} {f : Nat} {fn : Func} {s : ChangeSpec} {code : Code} {n : Nat} {tb : TypeId} (enc : TypeId × Value → H)
    (hF : ∀ css : List (List PV), css.length = fn.params.toList.length → (∀ (j : Nat) (t : TypeId) (cs : List PV), fn.params.toList[j]? = some t → css[j]? = some cs → typed C.prog n t cs) → FnR C.prog N f (List.zipWith (argPV C.prog) fn.params.toList css) [.bool true])
    (own : ownKnob C.prog.godebug = none) (hl : laidOutB C.prog = true) (started : os.Started) (noInit : C.prog.inits.idxOf? (N f) = none) (hfn : C.prog.funcs[N f]? = some fn) (hcode : fn.body = some code) (hname : (fn.name == "runtime.NumGoroutine") = false)
    (wit : ∃ (w : World) (tape : Tape) (i : Input), w.os = os ∧ (w.forCall tape i).Shaped C.prog ∧ i.vars = [] ∧ Input.okWide C.prog (w.forCall tape i) .any w.heap.size (N f) i ∧
      s.pre6 enc C.prog fn [] false (w.forCall tape i).memory i.args ∧ ({} : Assume).holds C.prog (lone (Frame.enter C.prog (N f) i.args .normal) [] (w.forCall tape i)))
    (hres : fn.resultTypes = #[tb]) (htb : C.prog.underlying tb = some .bool) (hsv : s.vars = []) (hsf : ∀ ds : List (DataW H), ds.length = fn.params.toList.length → s.fn H ds = { results := [.lit (.bool true)], args := ds })
    (hr : ∀ t ∈ fn.params.toList, C.prog.readableRec t = true ∧ t < C.prog.types.size) (hp : ∀ t ∈ fn.params.toList, plainData C.prog n t = true) :
    ReturnsInHanded {} C os (N f) .any (s.pre6 enc C.prog fn [] false) (s.post enc C.prog fn false true false false) := by
  refine returnsInHanded_of_change own started noInit hfn wit ?_
  intro W base args ds gs before hval hW _ _
  have hW' := hW
  obtain ⟨p, q, h1, h2, h3, h4, h5⟩ := hW
  have hlen : ds.length = fn.params.toList.length := by
    have key : ∀ (ts : List TypeId) (vs : List Value) (ds : List (DataW H)) (ps : List MemPlace), DataW.TrodAll enc C.prog W 0 (fun _ => true) true ts vs ds ps → ds.length = ts.length := by
      intro ts
      induction ts with
      | nil => intro vs ds ps h; obtain ⟨rfl, rfl, rfl⟩ := trodAll_nil h; rfl
      | cons t ts ih =>
        intro vs ds ps h
        obtain ⟨v, vs', d, ds', p, q, rfl, rfl, rfl, _, g2⟩ := trodAll_cons h
        simp [ih _ _ _ g2]
    exact key _ _ _ _ h1
  have hgs : gs = [] := by
    rw [hsv] at h2
    obtain ⟨g1, g2⟩ := trodVars_none h2
    first | exact g2 | exact g1
  refine (law_calls hF hfn hcode hname h1 hp (fun j t v hj hv => hval j t v (by simpa using hj) (by simpa using hv))).mono fun e W' ⟨he, hb⟩ => ?_
  subst he
  exact ⟨_, rfl, law_post hl hW' hsv hres htb (by rw [hgs, List.append_nil]; exact hsf ds hlen) hr hb⟩

end Go.Pv

/-
  Walking code of the interpreter: weakest conditions, as rules for rewriting.
-/
namespace Go.Pv
variable {A : Nat → Option AFunc} {Pr : Prims}

/-- Ties what the simplifier is to leave alone: an argument that another one's type names is not visited. -/
inductive Tie {α : Sort _} (a : α) : Type
  | mk

/-- A value that there is, and what holds of it. -/
def optK {α : Type} (o : Option α) (K : α → Prop) (_t : Tie K := .mk) : Prop := ∃ v, o = some v ∧ K v
@[congr] theorem optK_congr {α : Type} {o o' : Option α} {K : α → Prop} (h : o = o') : optK o K = optK o' K := by rw [h]
@[go_sem] theorem optK_some {α : Type} (v : α) (K : α → Prop) : optK (some v) K = K v := by simp [optK]
@[go_sem] theorem optK_none {α : Type} (K : α → Prop) : optK none K = False := by simp [optK]

/-- Two ways. -/
def Br (c : Bool) (X Y : Prop) (_t : Tie (X ∧ Y) := .mk) : Prop := if c = true then X else Y
@[congr] theorem Br_congr {c c' : Bool} {X Y : Prop} (h : c = c') : Br c X Y = Br c' X Y := by rw [h]
@[go_sem] theorem Br_true (X Y : Prop) : Br true X Y = X := rfl
@[go_sem] theorem Br_false (X Y : Prop) : Br false X Y = Y := by simp [Br]
theorem Br.of {c : Bool} {X Y : Prop} (h1 : c = true → X) (h2 : c = false → Y) : Br c X Y := by
  cases c
  · simpa [Br] using h2 rfl
  · simpa [Br] using h1 rfl
/-- A condition in words. -/
theorem Br.ofP {p : Prop} {i : Decidable p} {X Y : Prop} (h1 : p → X) (h2 : ¬ p → Y) : Br (@decide p i) X Y := by
  by_cases h : p <;> simp [Br, h, h1, h2]

def boolK (v : V) (K : Bool → Prop) (_t : Tie K := .mk) : Prop := ∃ b, v = .pv (.bool b) ∧ K b
@[congr] theorem boolK_congr {v v' : V} {K : Bool → Prop} (h : v = v') : boolK v K = boolK v' K := by rw [h]
@[go_sem] theorem boolK_mk (b : Bool) (K : Bool → Prop) : boolK (.pv (.bool b)) K = K b := by simp [boolK]

open Classical in
/-- What a function gives, if it gives something. -/
noncomputable def res (A : Nat → Option AFunc) (Pr : Prims) (f : Nat) (ps : List PV) : Option (List PV) := if h : ∃ rs, Gives A Pr f ps rs then some h.choose else none

theorem Gives.uniq {f : Nat} {ps rs rs' : List PV} (h : Gives A Pr f ps rs) (h' : Gives A Pr f ps rs') : rs = rs' := by
  obtain ⟨n, hn⟩ := h
  obtain ⟨m, hm⟩ := h'
  have h1 := call_le (exec_le (A := A) (Pr := Pr) (Nat.le_max_left n m)) _ _ _ hn
  have h2 := call_le (exec_le (A := A) (Pr := Pr) (Nat.le_max_right n m)) _ _ _ hm
  rw [h1] at h2
  exact Option.some.inj h2

theorem res_some {f : Nat} {ps rs : List PV} : res A Pr f ps = some rs ↔ Gives A Pr f ps rs := by
  unfold res
  constructor
  · intro h
    split at h
    · rename_i hh
      cases h
      exact hh.choose_spec
    · cases h
  · intro h
    have hh : ∃ rs, Gives A Pr f ps rs := ⟨rs, h⟩
    rw [dif_pos hh]
    rw [Gives.uniq hh.choose_spec h]

/-- Code runs to an end of which Q holds. -/
def W (A : Nat → Option AFunc) (Pr : Prims) (c : AC) (s : St) (Q : Ex → St → Prop) (_t : Tie (c, Q) := .mk) : Prop := ∃ ex s', Runs A Pr c s ex s' ∧ Q ex s'
def WO (A : Nat → Option AFunc) (Pr : Prims) (l : List AOper) (s : St) (K : St → Prop) (_t : Tie (l, K) := .mk) : Prop := ∃ s', RunsOps A Pr l s s' ∧ K s'
def WD (A : Nat → Option AFunc) (Pr : Prims) (l : List (AOper × List Nat)) (done : List Tn) (s : St) (K : St → Prop) (_t : Tie (l, K) := .mk) : Prop := ∃ s', RunsDraw A Pr l done s s' ∧ K s'

def seqK (A : Nat → Option AFunc) (Pr : Prims) (b : AC) (Q : Ex → St → Prop) (_t : Tie (b, Q) := .mk) : Ex → St → Prop
  | .normal, s => W A Pr b s Q
  | .exit i, s => Q (.exit i) s
  | .ret, s => Q .ret s
def blockK (id : Nat) (Q : Ex → St → Prop) (_t : Tie Q := .mk) : Ex → St → Prop
  | .normal, s => Q .normal s
  | .exit i, s => if i = id then Q .normal s else Q (.exit i) s
  | .ret, s => Q .ret s
@[go_sem] theorem seqK_normal (b : AC) (Q : Ex → St → Prop) (s : St) : seqK A Pr b Q .mk .normal s = W A Pr b s Q := rfl
@[go_sem] theorem seqK_exit (b : AC) (Q : Ex → St → Prop) (i : Nat) (s : St) : seqK A Pr b Q .mk (.exit i) s = Q (.exit i) s := rfl
@[go_sem] theorem seqK_ret (b : AC) (Q : Ex → St → Prop) (s : St) : seqK A Pr b Q .mk .ret s = Q .ret s := rfl
@[go_sem] theorem blockK_normal (i : Nat) (Q : Ex → St → Prop) (s : St) : blockK i Q .mk .normal s = Q .normal s := rfl
@[go_sem] theorem blockK_exit (i j : Nat) (Q : Ex → St → Prop) (s : St) : blockK i Q .mk (.exit j) s = if j = i then Q .normal s else Q (.exit j) s := rfl
@[go_sem] theorem blockK_ret (i : Nat) (Q : Ex → St → Prop) (s : St) : blockK i Q .mk .ret s = Q .ret s := rfl

theorem Runs.uniq {c : AC} {s s1 s2 : St} {e1 e2 : Ex} (h1 : Runs A Pr c s e1 s1) (h2 : Runs A Pr c s e2 s2) : e1 = e2 ∧ s1 = s2 := by
  obtain ⟨n, hn⟩ := h1
  obtain ⟨m, hm⟩ := h2
  have h1 := exec_le (A := A) (Pr := Pr) (Nat.le_max_left n m) _ _ _ hn
  have h2 := exec_le (A := A) (Pr := Pr) (Nat.le_max_right n m) _ _ _ hm
  rw [h1] at h2
  cases h2
  exact ⟨rfl, rfl⟩

theorem W.uniq {c : AC} {s s' : St} {ex : Ex} {Q : Ex → St → Prop} (h : Runs A Pr c s ex s') : W A Pr c s Q = Q ex s' := by
  apply propext
  constructor
  · rintro ⟨e2, s2, h1, h2⟩
    obtain ⟨rfl, rfl⟩ := Runs.uniq h h1
    exact h2
  · exact fun hq => ⟨_, _, h, hq⟩

@[go_sem] theorem W_skip (s : St) (Q : Ex → St → Prop) : W A Pr .skip s Q = Q .normal s := W.uniq (Runs.skip s)
@[go_sem] theorem W_exit (i : Nat) (s : St) (Q : Ex → St → Prop) : W A Pr (.exit i) s Q = Q (.exit i) s := W.uniq (Runs.exit i s)
@[go_sem] theorem W_ret (s : St) (Q : Ex → St → Prop) : W A Pr .ret s Q = Q .ret s := W.uniq (Runs.ret s)

theorem pred_of {c : AC} {s s' : St} {ex : Ex} (h : Runs A Pr c s ex s') : ∃ n, layer A Pr (exec A Pr n) c s = some (ex, s') := by
  obtain ⟨n, hn⟩ := h
  cases n with
  | zero => simp [exec] at hn
  | succ n => exact ⟨n, hn⟩

@[go_sem] theorem W_seq (a b : AC) (s : St) (Q : Ex → St → Prop) : W A Pr (.seq a b) s Q = W A Pr a s (seqK A Pr b Q) := by
  apply propext
  constructor
  · rintro ⟨ex, s', h, hq⟩
    obtain ⟨n, hn⟩ := pred_of h
    simp only [layer] at hn
    cases ha : exec A Pr n a s with
    | none => simp [ha] at hn
    | some r =>
      obtain ⟨e1, s1⟩ := r
      rw [ha] at hn
      refine ⟨e1, s1, ⟨n, ha⟩, ?_⟩
      cases e1 with
      | normal => exact ⟨ex, s', ⟨n, hn⟩, hq⟩
      | exit i => cases hn; exact hq
      | ret => cases hn; exact hq
  · rintro ⟨ex, s', h, hq⟩
    cases ex with
    | normal =>
      obtain ⟨e2, s2, h2, hq2⟩ := hq
      exact ⟨e2, s2, Runs.seq h h2, hq2⟩
    | exit i => exact ⟨_, _, Runs.seq_out h (by simp), hq⟩
    | ret => exact ⟨_, _, Runs.seq_out h (by simp), hq⟩

@[go_sem] theorem W_block (id : Nat) (a : AC) (s : St) (Q : Ex → St → Prop) : W A Pr (.block id a) s Q = W A Pr a s (blockK id Q) := by
  apply propext
  constructor
  · rintro ⟨ex, s', h, hq⟩
    obtain ⟨n, hn⟩ := pred_of h
    simp only [layer] at hn
    cases ha : exec A Pr n a s with
    | none => simp [ha] at hn
    | some r =>
      obtain ⟨e1, s1⟩ := r
      rw [ha] at hn
      refine ⟨e1, s1, ⟨n, ha⟩, ?_⟩
      cases e1 with
      | normal => cases hn; exact hq
      | exit i =>
        simp only [blockK]
        split
        · rename_i hi
          simp only [hi, if_true] at hn
          cases hn
          exact hq
        · rename_i hi
          simp only [hi, if_false] at hn
          cases hn
          exact hq
      | ret => cases hn; exact hq
  · rintro ⟨ex, s', h, hq⟩
    have hb := Runs.block (id := id) h
    cases ex with
    | normal => exact ⟨_, _, hb, hq⟩
    | exit i =>
      simp only [blockK] at hq
      refine ⟨_, _, hb, ?_⟩
      show Q (if i = id then Ex.normal else Ex.exit i) s'
      by_cases hi : i = id
      · rw [if_pos hi] at hq ⊢; exact hq
      · rw [if_neg hi] at hq ⊢; exact hq
    | ret => exact ⟨_, _, hb, hq⟩

@[go_sem] theorem W_mask (kt kb : List Nat) (a : AC) (s : St) (Q : Ex → St → Prop) : W A Pr (.mask kt kb a) s Q = W A Pr a (s.mask kt kb) Q := by
  apply propext
  constructor
  · rintro ⟨ex, s', h, hq⟩
    obtain ⟨n, hn⟩ := pred_of h
    exact ⟨ex, s', ⟨n, hn⟩, hq⟩
  · rintro ⟨ex, s', h, hq⟩
    exact ⟨ex, s', Runs.mask h, hq⟩

@[go_sem] theorem W_cond (c : Opd) (a b : AC) (s : St) (Q : Ex → St → Prop) : W A Pr (.cond c a b) s Q = boolK (geto s.env c) fun t => Br t (W A Pr a s Q) (W A Pr b s Q) := by
  apply propext
  constructor
  · rintro ⟨ex, s', h, hq⟩
    obtain ⟨n, hn⟩ := pred_of h
    simp only [layer] at hn
    split at hn
    · rename_i he
      exact ⟨true, he, ex, s', ⟨n, hn⟩, hq⟩
    · rename_i he
      exact ⟨false, he, by simpa [Br] using ⟨ex, s', ⟨n, hn⟩, hq⟩⟩
    · cases hn
  · rintro ⟨t, ht, hb⟩
    cases t with
    | true =>
      obtain ⟨ex, s', h, hq⟩ : W A Pr a s Q := hb
      exact ⟨ex, s', Runs.cond ht h, hq⟩
    | false =>
      have hb' : W A Pr b s Q := by simpa [Br] using hb
      obtain ⟨ex, s', h, hq⟩ := hb'
      exact ⟨ex, s', Runs.cond ht h, hq⟩

@[go_sem] theorem W_region (ops : List AOper) (kt kb : List Nat) (s : St) (Q : Ex → St → Prop) : W A Pr (.region ops kt kb) s Q = WO A Pr ops s fun s' => Q .normal (s'.mask kt kb) := by
  apply propext
  constructor
  · rintro ⟨ex, s', h, hq⟩
    obtain ⟨n, hn⟩ := pred_of h
    simp only [layer] at hn
    split at hn
    · rename_i s1 he
      cases hn
      exact ⟨s1, ⟨n, he⟩, hq⟩
    · cases hn
  · rintro ⟨s', h, hq⟩
    exact ⟨_, _, Runs.region h, hq⟩

@[go_sem] theorem W_draw (ops : List (AOper × List Nat)) (kt kb : List Nat) (s : St) (Q : Ex → St → Prop) : W A Pr (.draw ops kt kb) s Q = WD A Pr ops [] s fun s' => Q .normal (s'.mask kt kb) := by
  apply propext
  constructor
  · rintro ⟨ex, s', h, hq⟩
    obtain ⟨n, hn⟩ := pred_of h
    simp only [layer] at hn
    split at hn
    · rename_i s1 he
      cases hn
      exact ⟨s1, ⟨n, he⟩, hq⟩
    · cases hn
  · rintro ⟨s', h, hq⟩
    exact ⟨_, _, Runs.draw h, hq⟩

/-- One operation without its guard: its value, and what it turns. -/
def WE (A : Nat → Option AFunc) (Pr : Prims) (env : List (Nat × V)) (h : Heap) (q : AOp) (K : V → Tn → Prop) (_t : Tie (q, K) := .mk) : Prop := ∃ n v t, evalOp (callBy A (exec A Pr n)) Pr (takes A) (geto env) h q = some (v, t) ∧ K v t

theorem WE.uniq {env : List (Nat × V)} {h : Heap} {q : AOp} {K : V → Tn → Prop} {n : Nat} {v : V} {t : Tn} (he : evalOp (callBy A (exec A Pr n)) Pr (takes A) (geto env) h q = some (v, t)) : WE A Pr env h q K = K v t := by
  apply propext
  constructor
  · rintro ⟨m, v', t', h1, hk⟩
    have e1 := eval_le (call_le (exec_le (A := A) (Pr := Pr) (Nat.le_max_left n m))) he
    have e2 := eval_le (call_le (exec_le (A := A) (Pr := Pr) (Nat.le_max_right n m))) h1
    rw [e1] at e2
    cases e2
    exact hk
  · exact fun hk => ⟨n, v, t, he, hk⟩

def quietOp : AOp → Bool
  | .call _ _ => false
  | _ => true

theorem quiet_eval {Φ Φ' : Nat → List PV → Option (List PV)} {Tk : Nat → Bool} {g : Opd → V} {h : Heap} {q : AOp} (hq : quietOp q = true) : evalOp Φ Pr Tk g h q = evalOp Φ' Pr Tk g h q := by
  cases q <;> first | rfl | (simp [quietOp] at hq)

/-- An operation that is no call. -/
def ev (env : List (Nat × V)) (h : Heap) (q : AOp) : Option (V × Tn) := evalOp (fun _ _ => none) (fun _ => none) (fun _ => false) (geto env) h q

theorem quiet_ev {Φ : Nat → List PV → Option (List PV)} {Tk : Nat → Bool} {env : List (Nat × V)} {h : Heap} {q : AOp} (hq : quietOp q = true) : evalOp Φ Pr Tk (geto env) h q = ev env h q := by
  cases q <;> first | rfl | (simp [quietOp] at hq)

theorem WE_quiet {env : List (Nat × V)} {h : Heap} {q : AOp} {K : V → Tn → Prop} (hq : quietOp q = true) : WE A Pr env h q K = optK (ev env h q) fun r => K r.1 r.2 := by
  apply propext
  constructor
  · rintro ⟨n, v, t, h1, hk⟩
    rw [quiet_ev hq] at h1
    exact ⟨_, h1, hk⟩
  · rintro ⟨⟨v, t⟩, h1, hk⟩
    exact ⟨0, v, t, by rw [quiet_ev hq]; exact h1, hk⟩

/-- A call of a function, by its contract or by what stands for it. -/
def CW (A : Nat → Option AFunc) (Pr : Prims) (fn : Nat) (vs : List V) (h : Heap) (K : V → Tn → Prop) (_t : Tie K := .mk) : Prop :=
  match Pr fn with
  | some pr => optK (pr vs h) fun r => K r.1 r.2
  | none => optK (lendAll h (takes A fn) vs) fun q => optK (res A Pr fn q.1) fun rs => K (tuple1 (takeAll h.ar.length rs).1) { ar := q.2, push := (takeAll h.ar.length rs).2, rall := !(vs.all V.isPv), base := if (takeAll h.ar.length rs).2.isEmpty then 0 else h.ar.length }

theorem CW_none {fn : Nat} (hp : Pr fn = none) {t : Bool} (ht : takes A fn = t) (vs : List V) (h : Heap) (K : V → Tn → Prop) : CW A Pr fn vs h K = optK (lendAll h t vs) fun q => optK (res A Pr fn q.1) fun rs => K (tuple1 (takeAll h.ar.length rs).1) { ar := q.2, push := (takeAll h.ar.length rs).2, rall := !(vs.all V.isPv), base := if (takeAll h.ar.length rs).2.isEmpty then 0 else h.ar.length } := by
  unfold CW
  rw [hp, ht]

theorem CW_some {fn : Nat} {pr : List V → Heap → Option (V × Tn)} (hp : Pr fn = some pr) (vs : List V) (h : Heap) (K : V → Tn → Prop) : CW A Pr fn vs h K = optK (pr vs h) fun r => K r.1 r.2 := by
  unfold CW
  rw [hp]

@[go_sem] theorem WE_call (env : List (Nat × V)) (h : Heap) (f : Opd) (args : List Opd) (K : V → Tn → Prop) : WE A Pr env h (.call f args) K = optK (funcOf (geto env f)) fun fc => CW A Pr fc.1 (args.map (geto env) ++ fc.2) h K := by
  apply propext
  constructor
  · rintro ⟨n, v, t, h1, hk⟩
    simp only [evalOp] at h1
    split at h1 <;> first | (cases h1; done) | skip
    rename_i fn cap hf
    refine ⟨(fn, cap), hf, ?_⟩
    unfold CW
    cases hp : Pr fn with
    | some pr =>
      simp only [hp] at h1 ⊢
      exact ⟨_, h1, hk⟩
    | none =>
      simp only [hp] at h1 ⊢
      split at h1 <;> first | (cases h1; done) | skip
      rename_i ps a hl
      split at h1 <;> first | (cases h1; done) | skip
      rename_i rs hrs
      cases h1
      exact ⟨(ps, a), hl, ⟨rs, res_some.2 ⟨n, hrs⟩, hk⟩⟩
  · rintro ⟨⟨fn, cap⟩, hf, hc⟩
    unfold CW at hc
    cases hp : Pr fn with
    | some pr =>
      simp only [hp] at hc
      obtain ⟨⟨v, t⟩, h1, hk⟩ := hc
      refine ⟨0, v, t, ?_, hk⟩
      simp only [evalOp, hf, hp]
      exact h1
    | none =>
      simp only [hp] at hc
      obtain ⟨⟨ps, a⟩, hl, rs, hrs, hk⟩ := hc
      obtain ⟨n, hn⟩ := res_some.1 hrs
      refine ⟨n, _, _, ?_, hk⟩
      simp only [evalOp, hf, hp, hl, hn]

@[go_sem] theorem WO_nil (s : St) (K : St → Prop) : WO A Pr [] s K = K s := by
  apply propext
  constructor
  · rintro ⟨s', ⟨n, hn⟩, hk⟩
    simp only [execOps] at hn
    cases hn
    exact hk
  · exact fun hk => ⟨s, RunsOps.nil s, hk⟩

theorem WO_step {o : AOper} {r : List AOper} {s : St} {K : St → Prop} : WO A Pr (o :: r) s K = ∃ n s1 t, stepOp (callBy A (exec A Pr n)) Pr (takes A) o s = some (s1, t) ∧ WO A Pr r s1 K := by
  apply propext
  constructor
  · rintro ⟨s', ⟨n, hn⟩, hk⟩
    simp only [execOps] at hn
    split at hn
    · rename_i s1 t h1
      exact ⟨n, s1, t, h1, s', ⟨n, hn⟩, hk⟩
    · cases hn
  · rintro ⟨n, s1, t, h1, s', h2, hk⟩
    exact ⟨s', RunsOps.cons h1 h2, hk⟩

@[go_sem] theorem WO_cons (d : Option Nat) (q : AOp) (r : List AOper) (env : List (Nat × V)) (h : Heap) (K : St → Prop) : WO A Pr (⟨d, q, none⟩ :: r) ⟨env, h⟩ K = WE A Pr env h q fun v t => WO A Pr r ⟨put env d v, t.apply h⟩ K := by
  rw [WO_step]
  apply propext
  constructor
  · rintro ⟨n, s1, t, h1, hk⟩
    simp only [stepOp, wanted] at h1
    split at h1
    · rename_i v t' he
      cases h1
      exact ⟨n, v, t, he, hk⟩
    · cases h1
  · rintro ⟨n, v, t, he, hk⟩
    exact ⟨n, _, t, by simp only [stepOp, wanted, he], hk⟩

/-- The leading operations under a guard, without it. -/
def bare (t : Nat) (b : Bool) : List AOper → List AOper
  | [] => []
  | o :: r => if o.guard = some (t, b) ∧ o.dst ≠ some t then ⟨o.dst, o.op, none⟩ :: bare t b r else o :: r
/-- What is left when they are passed over. -/
def past (t : Nat) (b : Bool) : List AOper → List (Nat × V) → List (Nat × V) × List AOper
  | [], env => (env, [])
  | o :: r, env => if o.guard = some (t, b) ∧ o.dst ≠ some t then past t b r (put env o.dst (.tup [])) else (env, o :: r)

theorem get_putO {env : List (Nat × V)} {d : Option Nat} {v : V} {t : Nat} (h : d ≠ some t) : get (put env d v) t = get env t := by
  cases d with
  | none => rfl
  | some d =>
    simp only [put, get, look1]
    rw [if_neg (by intro he; exact h (by rw [he]))]

theorem wanted_put {env : List (Nat × V)} {d : Option Nat} {v : V} {t : Nat} {b : Bool} (h : d ≠ some t) : wanted (put env d v) (some (t, b)) = wanted env (some (t, b)) := by
  simp only [wanted, get_putO h]

theorem WO_bare {t : Nat} {b : Bool} : ∀ (l : List AOper) (s : St) (K : St → Prop), wanted s.env (some (t, b)) = some true → WO A Pr l s K = WO A Pr (bare t b l) s K
  | [], s, K, _ => rfl
  | o :: r, s, K, he => by
    by_cases hg : o.guard = some (t, b) ∧ o.dst ≠ some t
    · rw [show bare t b (o :: r) = ⟨o.dst, o.op, none⟩ :: bare t b r from if_pos hg]
      obtain ⟨env, h⟩ := s
      rw [WO_step, WO_step]
      have : ∀ n, stepOp (callBy A (exec A Pr n)) Pr (takes A) o ⟨env, h⟩ = stepOp (callBy A (exec A Pr n)) Pr (takes A) ⟨o.dst, o.op, none⟩ ⟨env, h⟩ := by
        intro n
        have e1 : wanted env o.guard = some true := by rw [hg.1]; exact he
        have e2 : wanted env (none : Option (Nat × Bool)) = some true := rfl
        simp only [stepOp, e1, e2]
      simp only [this]
      apply propext
      have hr : ∀ n s1 tn, stepOp (callBy A (exec A Pr n)) Pr (takes A) ⟨o.dst, o.op, none⟩ ⟨env, h⟩ = some (s1, tn) → wanted s1.env (some (t, b)) = some true := by
        intro n s1 tn h1
        have e2 : wanted env (none : Option (Nat × Bool)) = some true := rfl
        simp only [stepOp, e2] at h1
        split at h1
        · cases h1
          exact (wanted_put hg.2).trans he
        · cases h1
      constructor
      · rintro ⟨n, s1, tn, h1, hk⟩
        exact ⟨n, s1, tn, h1, by rw [← WO_bare r s1 K (hr _ _ _ h1)]; exact hk⟩
      · rintro ⟨n, s1, tn, h1, hk⟩
        exact ⟨n, s1, tn, h1, by rw [WO_bare r s1 K (hr _ _ _ h1)]; exact hk⟩
    · rw [show bare t b (o :: r) = o :: r from if_neg hg]

theorem WO_past {t : Nat} {b : Bool} : ∀ (l : List AOper) (env : List (Nat × V)) (h : Heap) (K : St → Prop), wanted env (some (t, b)) = some false → WO A Pr l ⟨env, h⟩ K = WO A Pr (past t b l env).2 ⟨(past t b l env).1, h⟩ K
  | [], env, h, K, _ => rfl
  | o :: r, env, h, K, he => by
    by_cases hg : o.guard = some (t, b) ∧ o.dst ≠ some t
    · rw [show past t b (o :: r) env = past t b r (put env o.dst (.tup [])) from if_pos hg]
      rw [WO_step, ← WO_past r (put env o.dst (.tup [])) h K ((wanted_put hg.2).trans he)]
      have : ∀ n, stepOp (callBy A (exec A Pr n)) Pr (takes A) o ⟨env, h⟩ = some (⟨put env o.dst (.tup []), h⟩, {}) := by
        intro n
        have e1 : wanted env o.guard = some false := by rw [hg.1]; exact he
        simp only [stepOp, e1]
      simp only [this]
      apply propext
      constructor
      · rintro ⟨n, s1, tn, h1, hk⟩
        cases h1
        exact hk
      · exact fun hk => ⟨0, _, _, rfl, hk⟩
    · rw [show past t b (o :: r) env = (env, o :: r) from if_neg hg]

/-- A guard: the way if it holds; if it does not, or if what it asks of was passed over. -/
def gdK (v : V) (b : Bool) (X Y : Prop) (_t : Tie (X ∧ Y) := .mk) : Prop :=
  match v with
  | .pv (.bool c) => Br (c == b) X Y
  | .tup _ => Y
  | _ => False
@[congr] theorem gdK_congr {v v' : V} {b : Bool} {X Y : Prop} (h : v = v') : gdK v b X Y = gdK v' b X Y := by rw [h]
@[go_sem] theorem gdK_bool (c b : Bool) (X Y : Prop) : gdK (.pv (.bool c)) b X Y = Br (c == b) X Y := rfl
@[go_sem] theorem gdK_tup (l : List V) (b : Bool) (X Y : Prop) : gdK (.tup l) b X Y = Y := rfl
theorem gdK_iff {env : List (Nat × V)} {t : Nat} {b : Bool} {X Y Z : Prop} (h0 : Z → ∃ c, wanted env (some (t, b)) = some c) (h1 : wanted env (some (t, b)) = some true → Z = X) (h2 : wanted env (some (t, b)) = some false → Z = Y) : Z = gdK (get env t) b X Y := by
  simp only [wanted] at h0 h1 h2
  apply propext
  cases hv : get env t with
  | pv p =>
    cases p with
    | bool c =>
      simp only [hv, Option.some.injEq] at h1 h2
      rw [gdK_bool]
      cases hcb : (c == b) with
      | true => rw [Br_true, h1 hcb]
      | false => rw [Br_false, h2 hcb]
    | _ =>
      simp only [hv] at h0
      exact ⟨fun hz => (h0 hz).elim (fun _ h => by cases h), fun h => h.elim⟩
  | tup l =>
    simp only [hv] at h2
    rw [gdK_tup, h2 trivial]
  | _ =>
    simp only [hv] at h0
    exact ⟨fun hz => (h0 hz).elim (fun _ h => by cases h), fun h => h.elim⟩

/-- Leading operations under a guard that holds; under one that does not. -/
def WB (A : Nat → Option AFunc) (Pr : Prims) (t : Nat) (b : Bool) (l : List AOper) (s : St) (K : St → Prop) (_t : Tie (l, K) := .mk) : Prop := WO A Pr (bare t b l) s K
def WN (A : Nat → Option AFunc) (Pr : Prims) (t : Nat) (b : Bool) (l : List AOper) (s : St) (K : St → Prop) (_t : Tie (l, K) := .mk) : Prop := WO A Pr (past t b l s.env).2 ⟨(past t b l s.env).1, s.h⟩ K
/-- Does it write another slot? -/
def ndst (t : Nat) : Option Nat → Bool
  | some d => !(d == t)
  | none => true
@[go_sem] theorem ndst_some (t d : Nat) : ndst t (some d) = !(d == t) := rfl
@[go_sem] theorem ndst_none (t : Nat) : ndst t none = true := rfl
theorem ndst_iff {t : Nat} {d : Option Nat} : ndst t d = true ↔ d ≠ some t := by
  cases d <;> simp [ndst]
@[congr] theorem WB_congr {t : Nat} {b : Bool} {l : List AOper} {s s' : St} {K : St → Prop} (h : s = s') : WB A Pr t b l s K = WB A Pr t b l s' K := by rw [h]
@[congr] theorem WN_congr {t : Nat} {b : Bool} {l : List AOper} {s s' : St} {K : St → Prop} (h : s = s') : WN A Pr t b l s K = WN A Pr t b l s' K := by rw [h]
@[go_sem] theorem WB_nil (t : Nat) (b : Bool) (s : St) (K : St → Prop) : WB A Pr t b [] s K = K s := WO_nil s K
@[go_sem] theorem WN_nil (t : Nat) (b : Bool) (s : St) (K : St → Prop) : WN A Pr t b [] s K = K s := WO_nil s K
@[go_sem] theorem WB_none (t : Nat) (b : Bool) (d : Option Nat) (q : AOp) (r : List AOper) (s : St) (K : St → Prop) : WB A Pr t b (⟨d, q, none⟩ :: r) s K = WO A Pr (⟨d, q, none⟩ :: r) s K := by
  simp [WB, bare]
@[go_sem] theorem WN_none (t : Nat) (b : Bool) (d : Option Nat) (q : AOp) (r : List AOper) (s : St) (K : St → Prop) : WN A Pr t b (⟨d, q, none⟩ :: r) s K = WO A Pr (⟨d, q, none⟩ :: r) s K := by
  simp [WN, past]
@[go_sem] theorem WB_some (t : Nat) (b : Bool) (d : Option Nat) (q : AOp) (t' : Nat) (b' : Bool) (r : List AOper) (env : List (Nat × V)) (h : Heap) (K : St → Prop) : WB A Pr t b (⟨d, q, some (t', b')⟩ :: r) ⟨env, h⟩ K = Br (t' == t && b' == b && ndst t d) (WE A Pr env h q fun v tn => WB A Pr t b r ⟨put env d v, tn.apply h⟩ K) (WO A Pr (⟨d, q, some (t', b')⟩ :: r) ⟨env, h⟩ K) := by
  by_cases hc : t' = t ∧ b' = b ∧ d ≠ some t
  · obtain ⟨rfl, rfl, hd⟩ := hc
    rw [show (t' == t' && b' == b' && ndst t' d) = true by simp [ndst_iff.2 hd], Br_true]
    unfold WB
    rw [← WO_cons, show bare t' b' (⟨d, q, some (t', b')⟩ :: r) = ⟨d, q, none⟩ :: bare t' b' r from if_pos ⟨rfl, hd⟩]
  · rw [show (t' == t && b' == b && ndst t d) = false by
      cases hx : (t' == t && b' == b && ndst t d) with
      | false => rfl
      | true =>
        simp only [Bool.and_eq_true, beq_iff_eq] at hx
        exact (hc ⟨hx.1.1, hx.1.2, ndst_iff.1 hx.2⟩).elim, Br_false]
    have : ¬ (some (t', b') = some (t, b) ∧ d ≠ some t) := fun ⟨h1, h2⟩ => hc ⟨by cases h1; rfl, by cases h1; rfl, h2⟩
    unfold WB
    rw [show bare t b (⟨d, q, some (t', b')⟩ :: r) = ⟨d, q, some (t', b')⟩ :: r from if_neg this]
@[go_sem] theorem WN_some (t : Nat) (b : Bool) (d : Option Nat) (q : AOp) (t' : Nat) (b' : Bool) (r : List AOper) (env : List (Nat × V)) (h : Heap) (K : St → Prop) : WN A Pr t b (⟨d, q, some (t', b')⟩ :: r) ⟨env, h⟩ K = Br (t' == t && b' == b && ndst t d) (WN A Pr t b r ⟨put env d (.tup []), h⟩ K) (WO A Pr (⟨d, q, some (t', b')⟩ :: r) ⟨env, h⟩ K) := by
  by_cases hc : t' = t ∧ b' = b ∧ d ≠ some t
  · obtain ⟨rfl, rfl, hd⟩ := hc
    rw [show (t' == t' && b' == b' && ndst t' d) = true by simp [ndst_iff.2 hd], Br_true]
    unfold WN
    dsimp only
    rw [show past t' b' (⟨d, q, some (t', b')⟩ :: r) env = past t' b' r (put env d (.tup [])) from if_pos ⟨rfl, hd⟩]
  · rw [show (t' == t && b' == b && ndst t d) = false by
      cases hx : (t' == t && b' == b && ndst t d) with
      | false => rfl
      | true =>
        simp only [Bool.and_eq_true, beq_iff_eq] at hx
        exact (hc ⟨hx.1.1, hx.1.2, ndst_iff.1 hx.2⟩).elim, Br_false]
    have : ¬ (some (t', b') = some (t, b) ∧ d ≠ some t) := fun ⟨h1, h2⟩ => hc ⟨by cases h1; rfl, by cases h1; rfl, h2⟩
    unfold WN
    dsimp only
    rw [show past t b (⟨d, q, some (t', b')⟩ :: r) env = (env, ⟨d, q, some (t', b')⟩ :: r) from if_neg this]

@[go_sem] theorem WO_guard (d : Option Nat) (q : AOp) (t : Nat) (b : Bool) (r : List AOper) (env : List (Nat × V)) (h : Heap) (K : St → Prop) : WO A Pr (⟨d, q, some (t, b)⟩ :: r) ⟨env, h⟩ K = gdK (get env t) b (WB A Pr t b (⟨d, q, some (t, b)⟩ :: r) ⟨env, h⟩ K) (WN A Pr t b (⟨d, q, some (t, b)⟩ :: r) ⟨env, h⟩ K) := by
  refine gdK_iff (fun hw => ?_) (fun hw => WO_bare _ ⟨env, h⟩ K hw) (fun hw => WO_past _ env h K hw)
  rw [WO_step] at hw
  obtain ⟨n, s1, tn, h1, _⟩ := hw
  cases hx : wanted env (some (t, b)) with
  | none => simp only [stepOp, hx] at h1; cases h1
  | some c => exact ⟨c, rfl⟩

-- drawn regions

@[go_sem] theorem WD_nil (done : List Tn) (s : St) (K : St → Prop) : WD A Pr [] done s K = K s := by
  apply propext
  constructor
  · rintro ⟨s', ⟨n, hn⟩, hk⟩
    simp only [execDraw] at hn
    cases hn
    exact hk
  · exact fun hk => ⟨s, RunsDraw.nil done s, hk⟩

theorem WD_step {o : AOper} {un : List Nat} {r : List (AOper × List Nat)} {done : List Tn} {s : St} {K : St → Prop} : WD A Pr ((o, un) :: r) done s K = ∃ n s1 t, stepOp (callBy A (exec A Pr n)) Pr (takes A) o s = some (s1, t) ∧ holdAgainst un t done = true ∧ WD A Pr r (done ++ [t]) s1 K := by
  apply propext
  constructor
  · rintro ⟨s', ⟨n, hn⟩, hk⟩
    simp only [execDraw] at hn
    split at hn
    · rename_i s1 t h1
      split at hn
      · rename_i hh
        exact ⟨n, s1, t, h1, hh, s', ⟨n, hn⟩, hk⟩
      · cases hn
    · cases hn
  · rintro ⟨n, s1, t, h1, hh, s', h2, hk⟩
    exact ⟨s', RunsDraw.cons h1 hh h2, hk⟩

/-- What was done is held against what comes. -/
def held (un : List Nat) (t : Tn) (done : List Tn) (X : Prop) (_t : Tie X := .mk) : Prop := holdAgainst un t done = true ∧ X
@[congr] theorem held_congr {un : List Nat} {t t' : Tn} {done done' : List Tn} {X : Prop} (h : t = t') (h' : done = done') : held un t done X = held un t' done' X := by rw [h, h']
@[go_sem] theorem held_nil (t : Tn) (done : List Tn) (X : Prop) : held [] t done X = X := by simp [held, holdAgainst]

@[go_sem] theorem WD_cons (d : Option Nat) (q : AOp) (un : List Nat) (r : List (AOper × List Nat)) (done : List Tn) (env : List (Nat × V)) (h : Heap) (K : St → Prop) : WD A Pr ((⟨d, q, none⟩, un) :: r) done ⟨env, h⟩ K = WE A Pr env h q fun v t => held un t done (WD A Pr r (done ++ [t]) ⟨put env d v, t.apply h⟩ K) := by
  rw [WD_step]
  apply propext
  constructor
  · rintro ⟨n, s1, t, h1, hh, hk⟩
    simp only [stepOp, wanted] at h1
    split at h1
    · rename_i v t' he
      cases h1
      exact ⟨n, v, t, he, hh, hk⟩
    · cases h1
  · rintro ⟨n, v, t, he, hh, hk⟩
    exact ⟨n, _, t, by simp only [stepOp, wanted, he], hh, hk⟩

def bareD (t : Nat) (b : Bool) : List (AOper × List Nat) → List (AOper × List Nat)
  | [] => []
  | (o, un) :: r => if o.guard = some (t, b) ∧ o.dst ≠ some t then (⟨o.dst, o.op, none⟩, un) :: bareD t b r else (o, un) :: r

theorem WD_bare {t : Nat} {b : Bool} : ∀ (l : List (AOper × List Nat)) (done : List Tn) (s : St) (K : St → Prop), wanted s.env (some (t, b)) = some true → WD A Pr l done s K = WD A Pr (bareD t b l) done s K
  | [], _, s, K, _ => rfl
  | (o, un) :: r, done, s, K, he => by
    by_cases hg : o.guard = some (t, b) ∧ o.dst ≠ some t
    · rw [show bareD t b ((o, un) :: r) = (⟨o.dst, o.op, none⟩, un) :: bareD t b r from if_pos hg]
      obtain ⟨env, h⟩ := s
      rw [WD_step, WD_step]
      have : ∀ n, stepOp (callBy A (exec A Pr n)) Pr (takes A) o ⟨env, h⟩ = stepOp (callBy A (exec A Pr n)) Pr (takes A) ⟨o.dst, o.op, none⟩ ⟨env, h⟩ := by
        intro n
        have e1 : wanted env o.guard = some true := by rw [hg.1]; exact he
        have e2 : wanted env (none : Option (Nat × Bool)) = some true := rfl
        simp only [stepOp, e1, e2]
      simp only [this]
      apply propext
      have hr : ∀ n s1 tn, stepOp (callBy A (exec A Pr n)) Pr (takes A) ⟨o.dst, o.op, none⟩ ⟨env, h⟩ = some (s1, tn) → wanted s1.env (some (t, b)) = some true := by
        intro n s1 tn h1
        have e2 : wanted env (none : Option (Nat × Bool)) = some true := rfl
        simp only [stepOp, e2] at h1
        split at h1
        · cases h1
          exact (wanted_put hg.2).trans he
        · cases h1
      constructor
      · rintro ⟨n, s1, tn, h1, hh, hk⟩
        exact ⟨n, s1, tn, h1, hh, by rw [← WD_bare r _ s1 K (hr _ _ _ h1)]; exact hk⟩
      · rintro ⟨n, s1, tn, h1, hh, hk⟩
        exact ⟨n, s1, tn, h1, hh, by rw [WD_bare r _ s1 K (hr _ _ _ h1)]; exact hk⟩
    · rw [show bareD t b ((o, un) :: r) = (o, un) :: r from if_neg hg]

/-- One operation that is passed over. -/
theorem WD_past1 {o : AOper} {un : List Nat} {r : List (AOper × List Nat)} {done : List Tn} {env : List (Nat × V)} {h : Heap} {K : St → Prop} (he : wanted env o.guard = some false) : WD A Pr ((o, un) :: r) done ⟨env, h⟩ K = held un ({} : Tn) done (WD A Pr r (done ++ [({} : Tn)]) ⟨put env o.dst (.tup []), h⟩ K) := by
  rw [WD_step]
  have : ∀ n, stepOp (callBy A (exec A Pr n)) Pr (takes A) o ⟨env, h⟩ = some (⟨put env o.dst (.tup []), h⟩, {}) := by
    intro n
    simp only [stepOp, he]
  simp only [this]
  apply propext
  constructor
  · rintro ⟨n, s1, tn, h1, hh, hk⟩
    cases h1
    exact ⟨hh, hk⟩
  · rintro ⟨hh, hk⟩
    exact ⟨0, _, _, rfl, hh, hk⟩

def WDB (A : Nat → Option AFunc) (Pr : Prims) (t : Nat) (b : Bool) (l : List (AOper × List Nat)) (done : List Tn) (s : St) (K : St → Prop) (_t : Tie (l, K) := .mk) : Prop := WD A Pr (bareD t b l) done s K
@[congr] theorem WDB_congr {t : Nat} {b : Bool} {l : List (AOper × List Nat)} {done done' : List Tn} {s s' : St} {K : St → Prop} (h' : done = done') (h : s = s') : WDB A Pr t b l done s K = WDB A Pr t b l done' s' K := by rw [h, h']
@[go_sem] theorem WDB_nil (t : Nat) (b : Bool) (done : List Tn) (s : St) (K : St → Prop) : WDB A Pr t b [] done s K = K s := WD_nil done s K
@[go_sem] theorem WDB_none (t : Nat) (b : Bool) (d : Option Nat) (q : AOp) (un : List Nat) (r : List (AOper × List Nat)) (done : List Tn) (s : St) (K : St → Prop) : WDB A Pr t b ((⟨d, q, none⟩, un) :: r) done s K = WD A Pr ((⟨d, q, none⟩, un) :: r) done s K := by
  simp [WDB, bareD]
@[go_sem] theorem WDB_some (t : Nat) (b : Bool) (d : Option Nat) (q : AOp) (t' : Nat) (b' : Bool) (un : List Nat) (r : List (AOper × List Nat)) (done : List Tn) (env : List (Nat × V)) (h : Heap) (K : St → Prop) : WDB A Pr t b ((⟨d, q, some (t', b')⟩, un) :: r) done ⟨env, h⟩ K = Br (t' == t && b' == b && ndst t d) (WE A Pr env h q fun v tn => held un tn done (WDB A Pr t b r (done ++ [tn]) ⟨put env d v, tn.apply h⟩ K)) (WD A Pr ((⟨d, q, some (t', b')⟩, un) :: r) done ⟨env, h⟩ K) := by
  by_cases hc : t' = t ∧ b' = b ∧ d ≠ some t
  · obtain ⟨rfl, rfl, hd⟩ := hc
    rw [show (t' == t' && b' == b' && ndst t' d) = true by simp [ndst_iff.2 hd], Br_true]
    unfold WDB
    rw [← WD_cons, show bareD t' b' ((⟨d, q, some (t', b')⟩, un) :: r) = (⟨d, q, none⟩, un) :: bareD t' b' r from if_pos ⟨rfl, hd⟩]
  · rw [show (t' == t && b' == b && ndst t d) = false by
      cases hx : (t' == t && b' == b && ndst t d) with
      | false => rfl
      | true =>
        simp only [Bool.and_eq_true, beq_iff_eq] at hx
        exact (hc ⟨hx.1.1, hx.1.2, ndst_iff.1 hx.2⟩).elim, Br_false]
    have : ¬ (some (t', b') = some (t, b) ∧ d ≠ some t) := fun ⟨h1, h2⟩ => hc ⟨by cases h1; rfl, by cases h1; rfl, h2⟩
    unfold WDB
    rw [show bareD t b ((⟨d, q, some (t', b')⟩, un) :: r) = (⟨d, q, some (t', b')⟩, un) :: r from if_neg this]

@[go_sem] theorem WD_guard (d : Option Nat) (q : AOp) (t : Nat) (b : Bool) (un : List Nat) (r : List (AOper × List Nat)) (done : List Tn) (env : List (Nat × V)) (h : Heap) (K : St → Prop) : WD A Pr ((⟨d, q, some (t, b)⟩, un) :: r) done ⟨env, h⟩ K = gdK (get env t) b (WDB A Pr t b ((⟨d, q, some (t, b)⟩, un) :: r) done ⟨env, h⟩ K) (held un ({} : Tn) done (WD A Pr r (done ++ [({} : Tn)]) ⟨put env d (.tup []), h⟩ K)) := by
  refine gdK_iff (fun hw => ?_) (fun hw => WD_bare _ done ⟨env, h⟩ K hw) (fun hw => WD_past1 hw)
  rw [WD_step] at hw
  obtain ⟨n, s1, tn, h1, _⟩ := hw
  cases hx : wanted env (some (t, b)) with
  | none => simp only [stepOp, hx] at h1; cases h1
  | some c => exact ⟨c, rfl⟩

-- loops

/-- What a round comes to. -/
def rndK {α : Type} (S : α → St) (P : α → Prop) (m : α → Nat) (x : α) (Q : Ex → St → Prop) (_t : Tie (S, P, m, x, Q) := .mk) : Ex → St → Prop
  | .normal, s => ∃ y, P y ∧ m y < m x ∧ s = S y
  | .exit i, s => Q (.exit i) s
  | .ret, s => Q .ret s
theorem rndK_normal {α : Type} (S : α → St) (P : α → Prop) (m : α → Nat) (x : α) (Q : Ex → St → Prop) (s : St) : rndK S P m x Q .mk .normal s = ∃ y, P y ∧ m y < m x ∧ s = S y := rfl
@[go_sem] theorem rndK_exit {α : Type} (S : α → St) (P : α → Prop) (m : α → Nat) (x : α) (Q : Ex → St → Prop) (i : Nat) (s : St) : rndK S P m x Q .mk (.exit i) s = Q (.exit i) s := rfl
@[go_sem] theorem rndK_ret {α : Type} (S : α → St) (P : α → Prop) (m : α → Nat) (x : α) (Q : Ex → St → Prop) (s : St) : rndK S P m x Q .mk .ret s = Q .ret s := rfl

@[congr] theorem rndK_congr {α : Type} {S : α → St} {P : α → Prop} {m : α → Nat} {x : α} {Q : Ex → St → Prop} {e e' : Ex} {s s' : St} (he : e = e') (hs : s = s') : rndK S P m x Q .mk e s = rndK S P m x Q .mk e' s' := by rw [he, hs]

theorem W.loop {α : Type} {a : AC} {s : St} {Q : Ex → St → Prop} (S : α → St) (P : α → Prop) (m : α → Nat) (x0 : α) (hs : s = S x0) (h0 : P x0) (hr : ∀ x, P x → W A Pr a (S x) (rndK S P m x Q)) : W A Pr (.loop a) s Q := by
  subst hs
  have key : ∀ n x, m x ≤ n → P x → W A Pr (.loop a) (S x) Q := by
    intro n
    induction n with
    | zero =>
      intro x hm hp
      obtain ⟨ex, s', h1, h2⟩ := hr x hp
      cases ex with
      | normal => obtain ⟨y, _, h3, _⟩ := h2; omega
      | exit i => exact ⟨_, _, Runs.loop_out h1 (by simp), h2⟩
      | ret => exact ⟨_, _, Runs.loop_out h1 (by simp), h2⟩
    | succ n ih =>
      intro x hm hp
      obtain ⟨ex, s', h1, h2⟩ := hr x hp
      cases ex with
      | normal =>
        obtain ⟨y, hy, h3, rfl⟩ := h2
        obtain ⟨e2, s2, h4, h5⟩ := ih y (by omega) hy
        exact ⟨e2, s2, Runs.loop_step h1 h4, h5⟩
      | exit i => exact ⟨_, _, Runs.loop_out h1 (by simp), h2⟩
      | ret => exact ⟨_, _, Runs.loop_out h1 (by simp), h2⟩
  exact key _ x0 (Nat.le_refl _) h0

/-- What a counted round comes to. -/
def stepK (S : Nat → St) (P : Nat → Prop) (n k : Nat) (Q : Ex → St → Prop) (_t : Tie (S, P, n, k, Q) := .mk) : Ex → St → Prop
  | .normal, s => k < n ∧ s = S (k + 1) ∧ P (k + 1)
  | .exit i, s => Q (.exit i) s
  | .ret, s => Q .ret s
@[congr] theorem stepK_congr {S : Nat → St} {P : Nat → Prop} {n k : Nat} {Q : Ex → St → Prop} {e e' : Ex} {s s' : St} (he : e = e') (hs : s = s') : stepK S P n k Q .mk e s = stepK S P n k Q .mk e' s' := by rw [he, hs]
@[go_sem] theorem stepK_exit (S : Nat → St) (P : Nat → Prop) (n k : Nat) (Q : Ex → St → Prop) (i : Nat) (s : St) : stepK S P n k Q .mk (.exit i) s = Q (.exit i) s := rfl
@[go_sem] theorem stepK_ret (S : Nat → St) (P : Nat → Prop) (n k : Nat) (Q : Ex → St → Prop) (s : St) : stepK S P n k Q .mk .ret s = Q .ret s := rfl
theorem stepK.of {S : Nat → St} {P : Nat → Prop} {n k : Nat} {Q : Ex → St → Prop} {s : St} (h1 : k < n) (h2 : s = S (k + 1)) (h3 : P (k + 1)) : stepK S P n k Q .mk .normal s := ⟨h1, h2, h3⟩

/-- A loop that counts. -/
theorem W.upto {a : AC} {s : St} {Q : Ex → St → Prop} (n : Nat) (S : Nat → St) (P : Nat → Prop) (hs : s = S 0) (h0 : P 0) (hr : ∀ k, k ≤ n → P k → W A Pr a (S k) (stepK S P n k Q)) : W A Pr (.loop a) s Q := by
  refine W.loop S (fun k => k ≤ n ∧ P k) (fun k => n - k) 0 hs ⟨Nat.zero_le _, h0⟩ fun k hk => ?_
  obtain ⟨ex, s', h1, h2⟩ := hr k hk.1 hk.2
  refine ⟨ex, s', h1, ?_⟩
  cases ex with
  | normal =>
    obtain ⟨g1, g2, g3⟩ := h2
    exact ⟨k + 1, ⟨g1, g3⟩, by show n - (k + 1) < n - k; omega, g2⟩
  | exit i => exact h2
  | ret => exact h2

-- a whole function

/-- Results, at a body's end. -/
def leaveL (s : St) (rs : List RVar) (fresh : Bool) : Option (List PV) :=
  (mapO (resultOf s) rs).bind fun vs => if !fresh || distinct (ownIds vs) then mapO (keep s.h fresh) vs else none
theorem leave_eq (fn : AFunc) (s : St) : leave fn s = leaveL s fn.results fn.fresh := by
  simp only [leave, leaveL]
  cases mapO (resultOf s) fn.results <;> rfl

/-- The end of a body. -/
def endK (l : List RVar) (fresh : Bool) (rs : List PV) (_t : Tie (l, fresh, rs) := .mk) : Ex → St → Prop
  | .normal, s => leaveL s l fresh = some rs
  | .ret, s => leaveL s l fresh = some rs
  | .exit _, _ => False
@[congr] theorem endK_congr {l : List RVar} {fresh : Bool} {rs : List PV} {e e' : Ex} {s s' : St} (he : e = e') (hs : s = s') : endK l fresh rs .mk e s = endK l fresh rs .mk e' s' := by rw [he, hs]
@[go_sem] theorem endK_normal (l : List RVar) (fresh : Bool) (rs : List PV) (s : St) : endK l fresh rs .mk .normal s = (leaveL s l fresh = some rs) := rfl
@[go_sem] theorem endK_ret (l : List RVar) (fresh : Bool) (rs : List PV) (s : St) : endK l fresh rs .mk .ret s = (leaveL s l fresh = some rs) := rfl

theorem Gives.ofW {f : Nat} {fn : AFunc} {ps rs : List PV} (hf : A f = some fn) (hl : ps.length = fn.nargs) (ha : argsOk fn.take ps = true) (hw : W A Pr fn.body ⟨entry 0 ps, entryHeap ps⟩ (endK fn.results fn.fresh rs)) : Gives A Pr f ps rs := by
  obtain ⟨ex, s', h, hq⟩ := hw
  cases ex with
  | normal => exact Gives.of hf hl ha h (.inl rfl) ((leave_eq fn s').trans hq)
  | ret => exact Gives.of hf hl ha h (.inr rfl) ((leave_eq fn s').trans hq)
  | exit i => exact hq.elim

theorem res_of {f : Nat} {fn : AFunc} {ps rs : List PV} (hf : A f = some fn) (hl : ps.length = fn.nargs) (ha : argsOk fn.take ps = true) (hw : W A Pr fn.body ⟨entry 0 ps, entryHeap ps⟩ (endK fn.results fn.fresh rs)) : res A Pr f ps = some rs :=
  res_some.2 (Gives.ofW hf hl ha hw)

end Go.Pv

/-
  What operations come to, as rules for rewriting.
-/
namespace Go.Pv
variable {A : Nat → Option AFunc} {Pr : Prims}

@[congr] theorem W_congr {c : AC} {s s' : St} {Q : Ex → St → Prop} (h : s = s') : W A Pr c s Q = W A Pr c s' Q := by rw [h]
@[congr] theorem WO_congr {l : List AOper} {s s' : St} {K : St → Prop} (h : s = s') : WO A Pr l s K = WO A Pr l s' K := by rw [h]
@[congr] theorem WD_congr {l : List (AOper × List Nat)} {d d' : List Tn} {s s' : St} {K : St → Prop} (h' : d = d') (h : s = s') : WD A Pr l d s K = WD A Pr l d' s' K := by rw [h, h']
@[congr] theorem WE_congr {env env' : List (Nat × V)} {h h' : Heap} {q : AOp} {K : V → Tn → Prop} (he : env = env') (hh : h = h') : WE A Pr env h q K = WE A Pr env' h' q K := by rw [he, hh]
@[congr] theorem CW_congr {fn : Nat} {vs vs' : List V} {h h' : Heap} {K : V → Tn → Prop} (he : vs = vs') (hh : h = h') : CW A Pr fn vs h K = CW A Pr fn vs' h' K := by rw [he, hh]
@[congr] theorem seqK_congr {b : AC} {Q : Ex → St → Prop} {e e' : Ex} {s s' : St} (he : e = e') (hs : s = s') : seqK A Pr b Q .mk e s = seqK A Pr b Q .mk e' s' := by rw [he, hs]
@[congr] theorem blockK_congr {i : Nat} {Q : Ex → St → Prop} {e e' : Ex} {s s' : St} (he : e = e') (hs : s = s') : blockK i Q .mk e s = blockK i Q .mk e' s' := by rw [he, hs]

-- the frame
/-- One of two. -/
def sel {α : Type} (c : Bool) (x y : α) (_t : Tie (x, y) := .mk) : α := if c = true then x else y
@[congr] theorem sel_congr {α : Type} {c c' : Bool} {x y : α} (h : c = c') : sel c x y = sel c' x y := by rw [h]
@[go_sem] theorem sel_true {α : Type} (x y : α) : sel true x y = x := rfl
@[go_sem] theorem sel_false {α : Type} (x y : α) : sel false x y = y := by simp [sel]
theorem sel_eq {α : Type} (s t : Nat) (x y : α) : sel (s == t) x y = if s = t then x else y := by simp [sel]
@[go_sem] theorem geto_tmp (env : List (Nat × V)) (t : Nat) : geto env (.tmp t) = get env t := rfl
@[go_sem] theorem geto_val (env : List (Nat × V)) (v : V) : geto env (.val v) = v := rfl
@[go_sem] theorem get_cons (s : Nat) (x : V) (r : List (Nat × V)) (t : Nat) : get ((s, x) :: r) t = sel (s == t) x (get r t) := by
  simp only [get, look1, sel_eq]
  split <;> rfl
@[go_sem] theorem get_nil (t : Nat) : get [] t = .any := rfl
@[go_sem] theorem put_some (env : List (Nat × V)) (d : Nat) (v : V) : put env (some d) v = (d, v) :: env := rfl
@[go_sem] theorem put_none (env : List (Nat × V)) (v : V) : put env none v = env := rfl
@[go_sem] theorem look1_cons {α : Type} (s : Nat) (x : α) (r : List (Nat × α)) (t : Nat) : look1 t ((s, x) :: r) = sel (s == t) (some x) (look1 t r) := by rw [sel_eq]; rfl
@[go_sem] theorem look1_nil {α : Type} (t : Nat) : look1 t ([] : List (Nat × α)) = none := rfl
@[go_sem] theorem bxSet_nil (s : Nat) (c : List V) : bxSet s c [] = [(s, c)] := rfl
@[go_sem] theorem bxSet_cons (s : Nat) (c : List V) (s' : Nat) (c' : List V) (r : List (Nat × List V)) : bxSet s c ((s', c') :: r) = sel (s' == s) ((s, c) :: r) ((s', c') :: bxSet s c r) := by rw [sel_eq]; rfl
@[go_sem] theorem mask_mk (kt kb : List Nat) (env : List (Nat × V)) (bx : List (Nat × List V)) (ar : List Arr) (mp : List (List (PV × PV))) : St.mask kt kb ⟨env, ⟨bx, ar, mp⟩⟩ = ⟨maskEnv kt kb env, ⟨maskBx kb bx, ar, mp⟩⟩ := rfl
@[go_sem] theorem maskEnv_cons (t : Nat) (kt kb : List Nat) (env : List (Nat × V)) : maskEnv (t :: kt) kb env = (t, scrub kb (get env t)) :: maskEnv kt kb env := rfl
@[go_sem] theorem maskEnv_nil (kb : List Nat) (env : List (Nat × V)) : maskEnv [] kb env = [] := rfl
def consO (s : Nat) (o : Option (List V)) (r : List (Nat × List V)) : List (Nat × List V) :=
  match o with
  | some c => (s, c) :: r
  | none => r
@[go_sem] theorem consO_some (s : Nat) (c : List V) (r : List (Nat × List V)) : consO s (some c) r = (s, c) :: r := rfl
@[go_sem] theorem consO_none (s : Nat) (r : List (Nat × List V)) : consO s none r = r := rfl
@[go_sem] theorem maskBx_cons (s : Nat) (kb : List Nat) (bx : List (Nat × List V)) : maskBx (s :: kb) bx = consO s (look1 s bx) (maskBx kb bx) := by
  simp only [maskBx]
  split <;> rename_i h <;> rw [h] <;> rfl
@[go_sem] theorem maskBx_nil (bx : List (Nat × List V)) : maskBx [] bx = [] := rfl
@[go_sem] theorem scrub_pv (kb : List Nat) (p : PV) : scrub kb (.pv p) = .pv p := rfl
@[go_sem] theorem scrub_tl (kb : List Nat) (r : List (List PV)) : scrub kb (.tl r) = .tl r := rfl
@[go_sem] theorem scrub_own (kb : List Nat) (a b c d : Nat) : scrub kb (.own a b c d) = .own a b c d := rfl
@[go_sem] theorem scrub_aptr (kb : List Nat) (a b c d : Nat) : scrub kb (.aptr a b c d) = .aptr a b c d := rfl
@[go_sem] theorem scrub_map (kb : List Nat) (i : Nat) : scrub kb (.map i) = .map i := rfl
@[go_sem] theorem scrub_nilm (kb : List Nat) : scrub kb .nilm = .nilm := rfl
@[go_sem] theorem scrub_any (kb : List Nat) : scrub kb .any = .any := rfl
@[go_sem] theorem scrub_tup (kb : List Nat) (vs : List V) : scrub kb (.tup vs) = .any := rfl
@[go_sem] theorem scrub_ptr (kb : List Nat) (s o : Nat) : scrub kb (.ptr s o) = sel (kb.contains s) (.ptr s o) .any := rfl
@[go_sem] theorem scrub_func (kb : List Nat) (f : Nat) (cap : List V) : scrub kb (.func f cap) = sel (cap.all (okc kb)) (.func f cap) .any := rfl
@[go_sem] theorem scrub_agg (kb : List Nat) (cs : List V) : scrub kb (.agg cs) = sel (cs.all (okc kb)) (.agg cs) .any := rfl
@[go_sem] theorem okc_pv (kb : List Nat) (p : PV) : okc kb (.pv p) = true := rfl
@[go_sem] theorem okc_tl (kb : List Nat) (r : List (List PV)) : okc kb (.tl r) = true := rfl
@[go_sem] theorem okc_own (kb : List Nat) (a b c d : Nat) : okc kb (.own a b c d) = true := rfl
@[go_sem] theorem okc_any (kb : List Nat) : okc kb .any = true := rfl
@[go_sem] theorem okc_map (kb : List Nat) (i : Nat) : okc kb (.map i) = true := rfl
@[go_sem] theorem okc_nilm (kb : List Nat) : okc kb .nilm = true := rfl
@[go_sem] theorem okc_aptr (kb : List Nat) (a b c d : Nat) : okc kb (.aptr a b c d) = true := rfl
@[go_sem] theorem okc_ptr (kb : List Nat) (s o : Nat) : okc kb (.ptr s o) = kb.contains s := rfl
@[go_sem] theorem okc_func (kb : List Nat) (f : Nat) (cap : List V) : okc kb (.func f cap) = cap.isEmpty := rfl

-- what turns
@[go_sem] theorem apply_none (new : Bool) (rb ra rm : Option Nat) (rall : Bool) (ra2 : Option Nat) (base : Nat) (h : Heap) : Tn.apply ⟨none, new, none, [], none, false, rb, ra, rm, rall, ra2, base⟩ h = h := by
  cases h
  simp [Tn.apply]
@[go_sem] theorem apply_bx (s : Nat) (c : List V) (new : Bool) (rb ra rm : Option Nat) (rall : Bool) (ra2 : Option Nat) (base : Nat) (bx : List (Nat × List V)) (ar : List Arr) (mp : List (List (PV × PV))) : Tn.apply ⟨some (s, c), new, none, [], none, false, rb, ra, rm, rall, ra2, base⟩ ⟨bx, ar, mp⟩ = ⟨bxSet s c bx, ar, mp⟩ := by
  simp [Tn.apply]
@[go_sem] theorem apply_arr (i : Nat) (a : Arr) (new : Bool) (rb ra rm : Option Nat) (rall : Bool) (ra2 : Option Nat) (base : Nat) (bx : List (Nat × List V)) (ar : List Arr) (mp : List (List (PV × PV))) : Tn.apply ⟨none, new, some (i, a), [], none, false, rb, ra, rm, rall, ra2, base⟩ ⟨bx, ar, mp⟩ = ⟨bx, ar.set i a, mp⟩ := by
  simp [Tn.apply]
@[go_sem] theorem apply_push (x : Arr) (l : List Arr) (new : Bool) (rb ra rm : Option Nat) (rall : Bool) (ra2 : Option Nat) (base : Nat) (bx : List (Nat × List V)) (ar : List Arr) (mp : List (List (PV × PV))) : Tn.apply ⟨none, new, none, x :: l, none, false, rb, ra, rm, rall, ra2, base⟩ ⟨bx, ar, mp⟩ = ⟨bx, ar ++ x :: l, mp⟩ := by
  simp [Tn.apply]
@[go_sem] theorem apply_arpush (i : Nat) (a : Arr) (x : Arr) (l : List Arr) (new : Bool) (rb ra rm : Option Nat) (rall : Bool) (ra2 : Option Nat) (base : Nat) (bx : List (Nat × List V)) (ar : List Arr) (mp : List (List (PV × PV))) : Tn.apply ⟨none, new, some (i, a), x :: l, none, false, rb, ra, rm, rall, ra2, base⟩ ⟨bx, ar, mp⟩ = ⟨bx, ar.set i a ++ x :: l, mp⟩ := by
  simp [Tn.apply]
@[go_sem] theorem apply_mp (i : Nat) (m : List (PV × PV)) (new : Bool) (rb ra rm : Option Nat) (rall : Bool) (ra2 : Option Nat) (base : Nat) (bx : List (Nat × List V)) (ar : List Arr) (mp : List (List (PV × PV))) : Tn.apply ⟨none, new, none, [], some (i, m), false, rb, ra, rm, rall, ra2, base⟩ ⟨bx, ar, mp⟩ = ⟨bx, ar, mp.set i m⟩ := by
  simp [Tn.apply]
@[go_sem] theorem apply_pushm (new : Bool) (rb ra rm : Option Nat) (rall : Bool) (ra2 : Option Nat) (base : Nat) (bx : List (Nat × List V)) (ar : List Arr) (mp : List (List (PV × PV))) : Tn.apply ⟨none, new, none, [], none, true, rb, ra, rm, rall, ra2, base⟩ ⟨bx, ar, mp⟩ = ⟨bx, ar, mp ++ [[]]⟩ := by
  simp [Tn.apply]

-- operations
@[go_sem] theorem WE_mov (env : List (Nat × V)) (h : Heap) (x : Opd) (K : V → Tn → Prop) : WE A Pr env h (.mov x) K = K (geto env x) {} := WE.uniq (n := 0) rfl
theorem WE_opt {env : List (Nat × V)} {h : Heap} {q : AOp} {K : V → Tn → Prop} {o : Option (V × Tn)} (hq : quietOp q = true) (he : ev env h q = o) : WE A Pr env h q K = optK o fun r => K r.1 r.2 := by rw [WE_quiet hq, he]
@[go_sem] theorem WE_pick (env : List (Nat × V)) (h : Heap) (c a b : Opd) (K : V → Tn → Prop) : WE A Pr env h (.pick c a b) K = boolK (geto env c) fun t => Br t (K (geto env a) {}) (K (geto env b) {}) := by
  rw [WE_quiet rfl]
  apply propext
  unfold ev
  constructor
  · rintro ⟨⟨v, t⟩, h1, hk⟩
    simp only [evalOp] at h1
    split at h1
    · rename_i hc
      cases h1
      exact ⟨true, hc, hk⟩
    · rename_i hc
      cases h1
      exact ⟨false, hc, by simpa [Br] using hk⟩
    · cases h1
  · rintro ⟨t, hc, hb⟩
    cases t with
    | true => exact ⟨(geto env a, {}), by simp only [evalOp, hc], hb⟩
    | false => exact ⟨(geto env b, {}), by simp only [evalOp, hc], by simpa [Br] using hb⟩

/-- A place that was not there. -/
def newK (slot : Nat) (h : Heap) (X : Prop) (_t : Tie X := .mk) : Prop := look1 slot h.bx = none ∧ X
@[congr] theorem newK_congr {slot : Nat} {h h' : Heap} {X : Prop} (e : h = h') : newK slot h X = newK slot h' X := by rw [e]
@[go_sem] theorem newK_mk (slot : Nat) (bx : List (Nat × List V)) (ar : List Arr) (mp : List (List (PV × PV))) (X : Prop) : newK slot ⟨bx, ar, mp⟩ X = (look1 slot bx = none ∧ X) := rfl
/-- A condition that must hold, and the rest. -/
def reqK (p : Prop) (X : Prop) (_t : Tie X := .mk) : Prop := p ∧ X
@[congr] theorem reqK_congr {p p' X : Prop} (h : p = p') : reqK p X = reqK p' X := by rw [h]
@[go_sem] theorem reqK_true (X : Prop) : reqK True X = X := by simp [reqK]
theorem reqK.of {p X : Prop} (h : p) (k : X) : reqK p X := ⟨h, k⟩

theorem look1_case {α : Type} {β : Type} (o : Option α) (a : β) : (match o with | none => some a | some _ => none) = if o.isNone = true then some a else none := by cases o <;> rfl
@[go_sem] theorem WE_alloc (env : List (Nat × V)) (h : Heap) (slot : Nat) (zero : List V) (K : V → Tn → Prop) : WE A Pr env h (.alloc slot zero) K = reqK ((look1 slot h.bx).isNone = true) (K (.ptr slot 0) { bx := some (slot, zero), new := true }) := by
  rw [WE_quiet rfl]
  apply propext
  unfold ev
  constructor
  · rintro ⟨⟨v, t⟩, h1, hk⟩
    simp only [evalOp] at h1
    split at h1
    · rename_i hc
      cases h1
      exact ⟨by rw [hc]; rfl, hk⟩
    · cases h1
  · rintro ⟨hc, hk⟩
    refine ⟨(_, _), ?_, hk⟩
    simp only [evalOp]
    cases hl : look1 slot h.bx with
    | none => rfl
    | some x => simp [hl] at hc
@[go_sem] theorem WE_box (env : List (Nat × V)) (h : Heap) (slot n : Nat) (x : Opd) (K : V → Tn → Prop) : WE A Pr env h (.box slot n x) K = reqK ((look1 slot h.bx).isNone = true ∧ (geto env x).cells.length = n ∧ (geto env x).cells.all V.calm = true) (K (.ptr slot 0) { bx := some (slot, (geto env x).cells), new := true }) := by
  rw [WE_quiet rfl]
  apply propext
  unfold ev
  constructor
  · rintro ⟨⟨v, t⟩, h1, hk⟩
    simp only [evalOp] at h1
    split at h1
    · rename_i hc
      split at h1
      · rename_i h2
        cases h1
        exact ⟨⟨by rw [hc]; rfl, h2⟩, hk⟩
      · cases h1
    · cases h1
  · rintro ⟨⟨hc, h2⟩, hk⟩
    refine ⟨(_, _), ?_, hk⟩
    simp only [evalOp]
    cases hl : look1 slot h.bx with
    | none => simp only; rw [if_pos h2]
    | some x => simp [hl] at hc
@[go_sem] theorem WE_build (env : List (Nat × V)) (h : Heap) (zero : List V) (parts : List (Nat × Nat × Opd)) (K : V → Tn → Prop) : WE A Pr env h (.build zero parts) K = optK (fillv (geto env) zero parts) fun cs => K (.agg cs) {} := by
  rw [WE_quiet rfl]
  apply propext
  unfold ev
  constructor
  · rintro ⟨⟨v, t⟩, h1, hk⟩
    simp only [evalOp] at h1
    split at h1
    · rename_i cs hc
      cases h1
      exact ⟨cs, hc, hk⟩
    · cases h1
  · rintro ⟨cs, hc, hk⟩
    exact ⟨(_, _), by simp only [evalOp, hc], hk⟩
/-- A slice of parts that are given. -/
def litV (h : Heap) (k len : Nat) (cs : List V) : Option (V × Tn) :=
  match mkRows (chop k len cs) with
  | .inl rows => some (.tl rows, {})
  | .inr rows => if cs.all V.calm then some (.own h.ar.length 0 0 len, { push := [⟨0, k, .inr rows⟩], base := h.ar.length }) else none
@[go_sem] theorem WE_lit (env : List (Nat × V)) (h : Heap) (k : Nat) (zero : List V) (len : Nat) (parts : List (Nat × Nat × Opd)) (K : V → Tn → Prop) : WE A Pr env h (.lit k zero len parts) K = optK (fillv (geto env) ((List.range (len * k)).map fun i => zero.getD (i % k) .any) parts) fun cs => optK (litV h k len cs) fun r => K r.1 r.2 := by
  rw [WE_quiet rfl]
  apply propext
  unfold ev
  constructor
  · rintro ⟨⟨v, t⟩, h1, hk⟩
    simp only [evalOp] at h1
    split at h1
    · rename_i cs hc
      exact ⟨cs, hc, _, h1, hk⟩
    · cases h1
  · rintro ⟨cs, hc, ⟨v, t⟩, h1, hk⟩
    exact ⟨(v, t), by simp only [evalOp, hc]; exact h1, hk⟩
@[go_sem] theorem WE_load (env : List (Nat × V)) (h : Heap) (n : Nat) (b : Bool) (x : Opd) (K : V → Tn → Prop) : WE A Pr env h (.load n b x) K = optK (loadAt h n (geto env x)) fun r => optK (cellsV b r.1) fun v => K v r.2 := by
  rw [WE_quiet rfl]
  apply propext
  unfold ev
  constructor
  · rintro ⟨⟨v, t⟩, h1, hk⟩
    simp only [evalOp] at h1
    split at h1
    · rename_i cs tq hc
      split at h1
      · rename_i vq hv
        cases h1
        exact ⟨_, hc, _, hv, hk⟩
      · cases h1
    · cases h1
  · rintro ⟨⟨cs, t⟩, hc, v, hv, hk⟩
    exact ⟨(v, t), by simp only [evalOp, hc, hv], hk⟩
@[go_sem] theorem WE_store (env : List (Nat × V)) (h : Heap) (n : Nat) (x v : Opd) (K : V → Tn → Prop) : WE A Pr env h (.store n x v) K = reqK ((geto env v).cells.length = n) (optK (storeAt h (geto env x) (geto env v).cells) fun t => K .any t) := by
  rw [WE_quiet rfl]
  apply propext
  unfold ev
  constructor
  · rintro ⟨⟨v, t⟩, h1, hk⟩
    simp only [evalOp] at h1
    split at h1
    · rename_i hn
      split at h1
      · rename_i t' ht
        cases h1
        exact ⟨hn, _, ht, hk⟩
      · cases h1
    · cases h1
  · rintro ⟨hn, t, ht, hk⟩
    exact ⟨(_, t), by simp only [evalOp, hn, ht, if_true], hk⟩
/-- A value that may be followed. -/
def nilckV : V → Option V
  | .func f cap => some (.func f cap)
  | .pv (.func f cap) => some (.pv (.func f cap))
  | .ptr s o => some (.ptr s o)
  | .pv (.ro t cs) => some (.pv (.ro t cs))
  | .aptr i v r c => some (.aptr i v r c)
  | _ => none
theorem map_opt {α β : Type} (o : Option α) (f : α → β) (K : β → Prop) : optK (o.map f) K = optK o fun v => K (f v) := by
  cases o <;> simp [optK]
@[go_sem] theorem WE_nilck (env : List (Nat × V)) (h : Heap) (x : Opd) (K : V → Tn → Prop) : WE A Pr env h (.nilck x) K = optK (nilckV (geto env x)) fun v => K v {} := by
  rw [WE_quiet rfl, ← map_opt _ (fun v => (v, ({} : Tn))) (fun r => K r.1 r.2)]
  congr 1
  simp only [ev, evalOp]
  cases geto env x with
  | pv p => cases p <;> rfl
  | _ => rfl
@[go_sem] theorem WE_bin (env : List (Nat × V)) (h : Heap) (op : BinOp) (x y : Opd) (K : V → Tn → Prop) : WE A Pr env h (.bin op x y) K = optK (binV op (geto env x) (geto env y)) fun v => K v {} := by
  rw [WE_quiet rfl, ← map_opt _ (fun v => (v, ({} : Tn))) (fun r => K r.1 r.2)]; rfl
/-- Equality of plain cells. -/
def eqaV (ag : Bool) (ks : List Nat) (neg : Bool) (x y : V) : Option V :=
  match plainCells ag x, plainCells ag y with
  | some a, some b => match eqsAll ks a b with
    | some r => some (.pv (.bool (if neg then !r else r)))
    | none => none
  | _, _ => none
@[go_sem] theorem WE_eqa (env : List (Nat × V)) (h : Heap) (ag : Bool) (ks : List Nat) (neg : Bool) (x y : Opd) (K : V → Tn → Prop) : WE A Pr env h (.eqa ag ks neg x y) K = optK (eqaV ag ks neg (geto env x) (geto env y)) fun v => K v {} := by
  rw [WE_quiet rfl, ← map_opt _ (fun v => (v, ({} : Tn))) (fun r => K r.1 r.2)]
  congr 1
  simp only [ev, evalOp, eqaV]
  cases plainCells ag (geto env x) with
  | none => rfl
  | some a =>
    cases plainCells ag (geto env y) with
    | none => rfl
    | some b =>
      simp only
      cases eqsAll ks a b <;> rfl
@[go_sem] theorem WE_un (env : List (Nat × V)) (h : Heap) (op : UnOp) (x : Opd) (K : V → Tn → Prop) : WE A Pr env h (.un op x) K = optK (unV op (geto env x)) fun v => K v {} := by
  rw [WE_quiet rfl, ← map_opt _ (fun v => (v, ({} : Tn))) (fun r => K r.1 r.2)]; rfl
def convV (k : IntKind) : V → Option V
  | .pv (.int _ n) => some (.pv (.int k (k.wrap n)))
  | _ => none
@[go_sem] theorem convV_int (k j : IntKind) (n : Int) : convV k (.pv (.int j n)) = some (.pv (.int k (k.wrap n))) := rfl
@[go_sem] theorem WE_conv (env : List (Nat × V)) (h : Heap) (k : IntKind) (x : Opd) (K : V → Tn → Prop) : WE A Pr env h (.conv k x) K = optK (convV k (geto env x)) fun v => K v {} := by
  rw [WE_quiet rfl, ← map_opt _ (fun v => (v, ({} : Tn))) (fun r => K r.1 r.2)]
  congr 1
  simp only [ev, evalOp]
  cases geto env x with
  | pv p => cases p <;> rfl
  | _ => rfl
def convsV : V → Option V
  | .pv (.str s) => some (.pv (.str s))
  | .pv (.int _ n) => some (.pv (.str (Utf8.encode n)))
  | _ => none
@[go_sem] theorem convsV_str (s : ByteArray) : convsV (.pv (.str s)) = some (.pv (.str s)) := rfl
@[go_sem] theorem convsV_int (k : IntKind) (n : Int) : convsV (.pv (.int k n)) = some (.pv (.str (Utf8.encode n))) := rfl
@[go_sem] theorem WE_convs (env : List (Nat × V)) (h : Heap) (x : Opd) (K : V → Tn → Prop) : WE A Pr env h (.convs x) K = optK (convsV (geto env x)) fun v => K v {} := by
  rw [WE_quiet rfl, ← map_opt _ (fun v => (v, ({} : Tn))) (fun r => K r.1 r.2)]
  congr 1
  simp only [ev, evalOp]
  cases geto env x with
  | pv p => cases p <;> rfl
  | _ => rfl
@[go_sem] theorem WE_fld (env : List (Nat × V)) (h : Heap) (off : Nat) (x : Opd) (K : V → Tn → Prop) : WE A Pr env h (.fld off x) K = optK (fldV off (geto env x)) fun v => K v {} := by
  rw [WE_quiet rfl, ← map_opt _ (fun v => (v, ({} : Tn))) (fun r => K r.1 r.2)]; rfl
def partV (off n : Nat) (b : Bool) : V → Option V
  | .agg cs => match takeN off n cs with
    | some l => cellsV b l
    | none => none
  | _ => none
@[go_sem] theorem WE_part (env : List (Nat × V)) (h : Heap) (off n : Nat) (b : Bool) (x : Opd) (K : V → Tn → Prop) : WE A Pr env h (.part off n b x) K = optK (partV off n b (geto env x)) fun v => K v {} := by
  rw [WE_quiet rfl, ← map_opt _ (fun v => (v, ({} : Tn))) (fun r => K r.1 r.2)]
  congr 1
  simp only [ev, evalOp]
  cases geto env x <;> simp only [partV] <;> first | rfl | (rename_i cs; cases takeN off n cs <;> rfl)
@[go_sem] theorem WE_idx (env : List (Nat × V)) (h : Heap) (k : Nat) (x i : Opd) (K : V → Tn → Prop) : WE A Pr env h (.idx k x i) K = optK (idxV h k (geto env x) (intOf (geto env i))) fun r => K r.1 r.2 := by
  rw [WE_quiet rfl]; rfl
@[go_sem] theorem WE_idxa (env : List (Nat × V)) (h : Heap) (len k : Nat) (x i : Opd) (K : V → Tn → Prop) : WE A Pr env h (.idxa len k x i) K = optK (inRange (intOf (geto env i)) len) fun j => optK (fldV (j * k) (geto env x)) fun v => K v {} := by
  rw [WE_quiet rfl]
  apply propext
  unfold ev
  constructor
  · rintro ⟨⟨v, t⟩, h1, hk⟩
    simp only [evalOp] at h1
    split at h1
    · rename_i j hj
      obtain ⟨vq, hv, he⟩ := Option.map_eq_some_iff.1 h1
      cases he
      exact ⟨j, hj, _, hv, hk⟩
    · cases h1
  · rintro ⟨j, hj, v, hv, hk⟩
    exact ⟨(v, {}), by simp only [evalOp, hj, hv, Option.map_some], hk⟩
def ixaV (j k : Nat) (b : Bool) : V → Option V
  | .agg cs => match takeN (j * k) k cs with
    | some l => cellsV b l
    | none => none
  | _ => none
@[go_sem] theorem WE_ixa (env : List (Nat × V)) (h : Heap) (len k : Nat) (b : Bool) (x i : Opd) (K : V → Tn → Prop) : WE A Pr env h (.ixa len k b x i) K = optK (inRange (intOf (geto env i)) len) fun j => optK (ixaV j k b (geto env x)) fun v => K v {} := by
  rw [WE_quiet rfl]
  apply propext
  unfold ev
  constructor
  · rintro ⟨⟨v, t⟩, h1, hk⟩
    simp only [evalOp] at h1
    split at h1
    · rename_i j hj
      split at h1
      · rename_i cs hx
        split at h1
        · rename_i l hl
          obtain ⟨vq, hv, he⟩ := Option.map_eq_some_iff.1 h1
          cases he
          exact ⟨j, hj, _, by simp only [hx, ixaV, hl]; exact hv, hk⟩
        · cases h1
      · cases h1
    · cases h1
  · rintro ⟨j, hj, v, hv, hk⟩
    refine ⟨(v, {}), ?_, hk⟩
    simp only [evalOp, hj]
    cases hx : geto env x <;> simp only [hx, ixaV] at hv <;> first | (cases hv; done) | skip
    rename_i cs
    simp only
    cases hl : takeN (j * k) k cs <;> simp only [hl] at hv <;> first | (cases hv; done) | skip
    simp only [hv, Option.map_some]
/-- A byte of a string. -/
def ixsV (i : Option Int) : V → Option V
  | .pv (.str s) => match inRange i s.size with
    | some j => match s[j]? with
      | some b => some (.pv (.int .u8 b.toNat))
      | none => none
    | none => none
  | _ => none
@[go_sem] theorem WE_ixs (env : List (Nat × V)) (h : Heap) (x i : Opd) (K : V → Tn → Prop) : WE A Pr env h (.ixs x i) K = optK (ixsV (intOf (geto env i)) (geto env x)) fun v => K v {} := by
  rw [WE_quiet rfl, ← map_opt _ (fun v => (v, ({} : Tn))) (fun r => K r.1 r.2)]
  congr 1
  simp only [ev, evalOp]
  cases geto env x with
  | pv p =>
    cases p <;> simp only [ixsV] <;> first | rfl | skip
    rename_i str
    cases inRange (intOf (geto env i)) str.size with
    | none => rfl
    | some j =>
      simp only
      cases str[j]? <;> rfl
  | _ => rfl
@[go_sem] theorem WE_sl (env : List (Nat × V)) (h : Heap) (k : Nat) (x : Opd) (lo hi mx : Option Opd) (K : V → Tn → Prop) : WE A Pr env h (.sl k x lo hi mx) K = optK (sliceV (geto env) h k (geto env x) lo hi mx) fun r => K r.1 r.2 := by
  rw [WE_quiet rfl]; rfl
@[go_sem] theorem WE_sls (env : List (Nat × V)) (h : Heap) (x : Opd) (lo hi : Option Opd) (K : V → Tn → Prop) : WE A Pr env h (.sls x lo hi) K = optK (sliceS (geto env) (geto env x) lo hi) fun v => K v {} := by
  rw [WE_quiet rfl, ← map_opt _ (fun v => (v, ({} : Tn))) (fun r => K r.1 r.2)]; rfl
@[go_sem] theorem WE_len (env : List (Nat × V)) (h : Heap) (kd : Nat) (x : Opd) (K : V → Tn → Prop) : WE A Pr env h (.len kd x) K = optK (lenV h kd (geto env x)) fun r => K (.pv (.int .i64 r.1)) r.2 := by
  rw [WE_quiet rfl]
  apply propext
  unfold ev
  constructor
  · rintro ⟨⟨v, t⟩, h1, hk⟩
    simp only [evalOp] at h1
    split at h1
    · rename_i n tq hc
      cases h1
      exact ⟨_, hc, hk⟩
    · cases h1
  · rintro ⟨⟨n, t⟩, hc, hk⟩
    exact ⟨(_, t), by simp only [evalOp, hc], hk⟩
@[go_sem] theorem WE_app (env : List (Nat × V)) (h : Heap) (k : Nat) (x y : Opd) (K : V → Tn → Prop) : WE A Pr env h (.app k x y) K = optK (appendV h k (geto env x) (geto env y)) fun r => K r.1 r.2 := by
  rw [WE_quiet rfl]; rfl
@[go_sem] theorem WE_make (env : List (Nat × V)) (h : Heap) (k : Nat) (zero : List V) (n c : Opd) (K : V → Tn → Prop) : WE A Pr env h (.make k zero n c) K = optK (intOf (geto env n)) fun a => optK (intOf (geto env c)) fun b => reqK (0 ≤ a ∧ a ≤ b ∧ b ≤ mostRows) (K (.own h.ar.length 0 0 a.toNat) { push := [⟨0, k, sameRows a.toNat zero⟩], base := h.ar.length }) := by
  rw [WE_quiet rfl]
  apply propext
  unfold ev
  constructor
  · rintro ⟨⟨v, t⟩, h1, hk⟩
    simp only [evalOp] at h1
    split at h1
    · rename_i a b ha hb
      split at h1
      · rename_i hc
        cases h1
        exact ⟨a, ha, b, hb, hc, hk⟩
      · cases h1
    · cases h1
  · rintro ⟨a, ha, b, hb, hc, hk⟩
    exact ⟨(_, _), by simp only [evalOp, ha, hb]; rw [if_pos hc], hk⟩
@[go_sem] theorem WE_mkmap (env : List (Nat × V)) (h : Heap) (K : V → Tn → Prop) : WE A Pr env h .mkmap K = K (.map h.mp.length) { pushm := true } := WE.uniq (n := 0) rfl
/-- What a map holds. -/
def mapOf (h : Heap) : V → Option (List (PV × PV))
  | .nilm => some []
  | .map id => h.mp[id]?
  | _ => none
def rmOf : V → Tn
  | .map id => { rm := some id }
  | _ => {}
@[go_sem] theorem rmOf_map (id : Nat) : rmOf (.map id) = { rm := some id } := rfl
@[go_sem] theorem rmOf_nilm : rmOf .nilm = {} := rfl
@[go_sem] theorem mapOf_nilm (h : Heap) : mapOf h .nilm = some [] := rfl
@[go_sem] theorem mapOf_map (h : Heap) (id : Nat) : mapOf h (.map id) = h.mp[id]? := rfl
def foundV (zero : V) (ok : Bool) (r : Option (Nat × PV)) : V :=
  if ok then .tup [match r with | some (_, p) => .pv p | none => zero, .pv (.bool r.isSome)] else match r with | some (_, p) => .pv p | none => zero
@[go_sem] theorem WE_look (env : List (Nat × V)) (h : Heap) (ag : Bool) (ks : List Nat) (zero : V) (x i : Opd) (ok : Bool) (K : V → Tn → Prop) : WE A Pr env h (.look ag ks zero x i ok) K = optK (keyOf ag (geto env i)) fun k => optK (mapOf h (geto env x)) fun m => optK (findKey ag ks k m 0) fun r => K (foundV zero ok r) (rmOf (geto env x)) := by
  rw [WE_quiet rfl]
  apply propext
  unfold ev
  constructor
  · rintro ⟨⟨v, t⟩, h1, hk⟩
    simp only [evalOp] at h1
    split at h1
    · cases h1
    · rename_i k hk'
      split at h1
      · cases h1
      · rename_i m hm
        split at h1
        · cases h1
        · rename_i r hr
          cases h1
          refine ⟨k, hk', m, ?_, r, hr, hk⟩
          cases hx : geto env x <;> simp only [hx] at hm <;> first | exact hm | cases hm
  · rintro ⟨k, hk', m, hm, r, hr, hk⟩
    refine ⟨(_, _), ?_, hk⟩
    simp only [evalOp, hk']
    cases hx : geto env x <;> simp only [hx, mapOf] at hm <;> first | (cases hm; done) | skip
    · simp only [hm, hr]
      rfl
    · cases hm
      simp only [hr]
      rfl
/-- What a map is after a store. -/
def updM (ag : Bool) (ks : List Nat) (q p : PV) (id : Nat) (l : List (PV × PV)) : Option Tn :=
  match findKey ag ks q l 0 with
  | some (some (i, _)) => some { mp := some (id, l.set i (q, p)) }
  | some none => some { mp := some (id, l ++ [(q, p)]) }
  | none => none
def mapId : V → Option Nat
  | .map id => some id
  | _ => none
@[go_sem] theorem mapId_map (id : Nat) : mapId (.map id) = some id := rfl
@[go_sem] theorem WE_upd (env : List (Nat × V)) (h : Heap) (ag : Bool) (ks : List Nat) (m k v : Opd) (K : V → Tn → Prop) : WE A Pr env h (.upd ag ks m k v) K = optK (mapId (geto env m)) fun id => optK (keyOf ag (geto env k)) fun q => optK (geto env v).purec fun p => optK h.mp[id]? fun l => optK (updM ag ks q p id l) fun t => K .any t := by
  rw [WE_quiet rfl]
  apply propext
  unfold ev
  constructor
  · rintro ⟨⟨v, t⟩, h1, hk⟩
    simp only [evalOp] at h1
    split at h1
    · rename_i id q p h2 h3 h4
      split at h1
      · rename_i l hl
        refine ⟨id, by rw [h2]; rfl, q, h3, p, h4, l, hl, ?_⟩
        simp only [updM]
        split at h1
        · rename_i hf
          cases h1
          exact ⟨_, by rw [hf], hk⟩
        · rename_i hf
          cases h1
          exact ⟨_, by rw [hf], hk⟩
        · cases h1
      · cases h1
    · cases h1
  · rintro ⟨id, h2, q, h3, p, h4, l, hl, t, ht, hk⟩
    refine ⟨(_, t), ?_, hk⟩
    have h2' : geto env m = .map id := by
      cases hx : geto env m <;> simp only [hx, mapId] at h2 <;> first | (cases h2; rfl) | cases h2
    simp only [evalOp, h2', h3, h4, hl]
    simp only [updM] at ht
    split at ht
    · rename_i hf
      cases ht
      rw [hf]
    · rename_i hf
      cases ht
      rw [hf]
    · cases ht
@[go_sem] theorem WE_clos (env : List (Nat × V)) (h : Heap) (f : Nat) (cap : List Opd) (K : V → Tn → Prop) : WE A Pr env h (.clos f cap) K = K (.func f (cap.map (geto env))) {} := WE.uniq (n := 0) rfl
def extV (i : Nat) : V → Option V
  | .tup vs => vs[i]?
  | _ => none
@[go_sem] theorem extV_tup (i : Nat) (vs : List V) : extV i (.tup vs) = vs[i]? := rfl
@[go_sem] theorem WE_ext (env : List (Nat × V)) (h : Heap) (x : Opd) (i : Nat) (K : V → Tn → Prop) : WE A Pr env h (.ext x i) K = optK (extV i (geto env x)) fun v => K v {} := by
  rw [WE_quiet rfl, ← map_opt _ (fun v => (v, ({} : Tn))) (fun r => K r.1 r.2)]
  congr 1
  simp only [ev, evalOp]
  cases geto env x <;> simp only [extV] <;> first | rfl | skip
  split <;> rename_i hh <;> rw [hh] <;> rfl
def minmaxV (isMax : Bool) : List V → Option V
  | .pv (.int k a) :: r => match minmaxI isMax a r with
    | some n => some (.pv (.int k n))
    | none => none
  | _ => none
@[go_sem] theorem WE_minmax (env : List (Nat × V)) (h : Heap) (isMax : Bool) (args : List Opd) (K : V → Tn → Prop) : WE A Pr env h (.minmax isMax args) K = optK (minmaxV isMax (args.map (geto env))) fun v => K v {} := by
  rw [WE_quiet rfl, ← map_opt _ (fun v => (v, ({} : Tn))) (fun r => K r.1 r.2)]
  congr 1
  simp only [ev, evalOp]
  cases args.map (geto env) with
  | nil => rfl
  | cons x r =>
    cases x with
    | pv p =>
      cases p with
      | int k a =>
        simp only [minmaxV]
        cases minmaxI isMax a r <;> rfl
      | _ => rfl
    | _ => rfl
@[go_sem] theorem minmaxV_two (k j : IntKind) (a b : Int) : minmaxV true [.pv (.int k a), .pv (.int j b)] = some (.pv (.int k (max a b))) := by
  simp only [minmaxV, minmaxI]
  congr 3
  simp only [if_true]
  split <;> omega
@[go_sem] theorem minmaxV_two' (k j : IntKind) (a b : Int) : minmaxV false [.pv (.int k a), .pv (.int j b)] = some (.pv (.int k (min a b))) := by
  simp only [minmaxV, minmaxI]
  congr 3
  simp only [Bool.false_eq_true, if_false]
  split <;> omega
def clrV (h : Heap) (k : Nat) (zero : List V) : V → Option (V × Tn)
  | .pv (.lst _ []) => some (.tup [], {})
  | .tl [] => some (.tup [], {})
  | .own id ver off len => match ownArr h id ver, mapO V.purec zero with
    | some a, some z => match a.body with
      | .inl rows => if a.k = k ∧ off + len ≤ rows.length then
          some (.tup [], { ar := some (id, ⟨ver, k, .inl (rows.take off ++ List.replicate len z ++ rows.drop (off + len))⟩) }) else none
      | .inr _ => none
    | _, _ => none
  | _ => none
@[go_sem] theorem WE_clr (env : List (Nat × V)) (h : Heap) (k : Nat) (zero : List V) (x : Opd) (K : V → Tn → Prop) : WE A Pr env h (.clr k zero x) K = optK (clrV h k zero (geto env x)) fun r => K r.1 r.2 := by
  rw [WE_quiet rfl]
  rfl

end Go.Pv

/-
  Values, cells and rows, as rules for rewriting.
-/
namespace Go.Pv
variable {A : Nat → Option AFunc} {Pr : Prims}

@[go_sem] theorem Br_not (c : Bool) (X Y : Prop) : Br (!c) X Y = Br c Y X := by cases c <;> simp [Br]

-- numbers
theorem wrap_i64 {x : Int} (h1 : -9223372036854775808 ≤ x) (h2 : x ≤ 9223372036854775807) : IntKind.wrap .i64 x = x := by
  show (if (true && decide (x % (2 ^ 64 : Int) ≥ (2 ^ 63 : Int))) = true then x % (2 ^ 64 : Int) - (2 ^ 64 : Int) else x % (2 ^ 64 : Int)) = x
  simp only [Bool.true_and, decide_eq_true_eq, Int.reducePow]
  by_cases h : x % 18446744073709551616 ≥ 9223372036854775808
  · rw [if_pos h]; omega
  · rw [if_neg h]; omega
attribute [go_sem] wrap_i64
theorem wrap_u8 {x : Int} (h1 : 0 ≤ x) (h2 : x ≤ 255) : IntKind.wrap .u8 x = x := by
  show (if (false && decide (x % (2 ^ 8 : Int) ≥ (2 ^ 7 : Int))) = true then x % (2 ^ 8 : Int) - (2 ^ 8 : Int) else x % (2 ^ 8 : Int)) = x
  simp only [Bool.false_and, Bool.false_eq_true, if_false, Int.reducePow]
  omega
theorem beq_dec {α : Type} [DecidableEq α] (a b : α) : (a == b) = decide (a = b) := by
  by_cases h : a = b <;> simp [h]
@[go_sem] theorem binV_add (k : IntKind) (a b : Int) : binV .add (.pv (.int k a)) (.pv (.int k b)) = some (.pv (.int k (k.wrap (a + b)))) := by simp [binV, intBin]
@[go_sem] theorem binV_sub (k : IntKind) (a b : Int) : binV .sub (.pv (.int k a)) (.pv (.int k b)) = some (.pv (.int k (k.wrap (a - b)))) := by simp [binV, intBin]
@[go_sem] theorem binV_mul (k : IntKind) (a b : Int) : binV .mul (.pv (.int k a)) (.pv (.int k b)) = some (.pv (.int k (k.wrap (a * b)))) := by simp [binV, intBin]
theorem binV_quo {k : IntKind} {a b : Int} (h : b ≠ 0) : binV .quo (.pv (.int k a)) (.pv (.int k b)) = some (.pv (.int k (k.wrap (a.tdiv b)))) := by simp [binV, intBin, h]
theorem binV_rem {k : IntKind} {a b : Int} (h : b ≠ 0) : binV .rem (.pv (.int k a)) (.pv (.int k b)) = some (.pv (.int k (a.tmod b))) := by simp [binV, intBin, h]
@[go_sem] theorem binV_eql (k : IntKind) (a b : Int) : binV .eql (.pv (.int k a)) (.pv (.int k b)) = some (.pv (.bool (decide (a = b)))) := by simp [binV, intBin, beq_dec]
@[go_sem] theorem binV_neq (k : IntKind) (a b : Int) : binV .neq (.pv (.int k a)) (.pv (.int k b)) = some (.pv (.bool (!decide (a = b)))) := by simp [binV, intBin, bne, beq_dec]
@[go_sem] theorem binV_lss (k : IntKind) (a b : Int) : binV .lss (.pv (.int k a)) (.pv (.int k b)) = some (.pv (.bool (decide (a < b)))) := by simp [binV, intBin]
@[go_sem] theorem binV_leq (k : IntKind) (a b : Int) : binV .leq (.pv (.int k a)) (.pv (.int k b)) = some (.pv (.bool (decide (a ≤ b)))) := by simp [binV, intBin]
@[go_sem] theorem binV_gtr (k : IntKind) (a b : Int) : binV .gtr (.pv (.int k a)) (.pv (.int k b)) = some (.pv (.bool (decide (b < a)))) := by simp [binV, intBin]
@[go_sem] theorem binV_geq (k : IntKind) (a b : Int) : binV .geq (.pv (.int k a)) (.pv (.int k b)) = some (.pv (.bool (decide (b ≤ a)))) := by simp [binV, intBin]
theorem list_beq {a b : ByteArray} : (a.toList == b.toList) = decide (a = b) := by
  by_cases h : a = b
  · subst h; simp
  · have : ¬ a.toList = b.toList := fun hh => h (ByteArray.ext (by
      have e : ∀ x : ByteArray, x.toList = x.data.toList := fun x => by
        rw [ByteArray.toList_eq]
      rw [e, e] at hh
      exact Array.toList_inj.1 hh))
    simp [h, this]
@[go_sem] theorem binV_seql (a b : ByteArray) : binV .eql (.pv (.str a)) (.pv (.str b)) = some (.pv (.bool (decide (a = b)))) := by simp only [binV, strBin, Option.map_some, list_beq]
@[go_sem] theorem binV_sneq (a b : ByteArray) : binV .neq (.pv (.str a)) (.pv (.str b)) = some (.pv (.bool (!decide (a = b)))) := by simp only [binV, strBin, Option.map_some, list_beq]
theorem binV_sadd {a b : ByteArray} (h : a.size + b.size ≤ 1099511627776) : binV .add (.pv (.str a)) (.pv (.str b)) = some (.pv (.str (a ++ b))) := by simp [binV, strBin, h]
@[go_sem] theorem unV_neg (k : IntKind) (n : Int) : unV .neg (.pv (.int k n)) = some (.pv (.int k (k.wrap (0 - n)))) := rfl
@[go_sem] theorem unV_not (b : Bool) : unV .not (.pv (.bool b)) = some (.pv (.bool !b)) := rfl
@[go_sem] theorem intOf_int (k : IntKind) (n : Int) : intOf (.pv (.int k n)) = some n := rfl
@[go_sem] theorem inRange_some {x : Int} {n : Nat} (h0 : 0 ≤ x) (h1 : x < n) : inRange (some x) n = some x.toNat := by simp [inRange, h0, h1]
@[go_sem] theorem make_ok {a b : Int} {X : Prop} (h0 : 0 ≤ a) (h1 : a ≤ b) (h2 : b ≤ 2147483648) : reqK (0 ≤ a ∧ a ≤ b ∧ b ≤ mostRows) X = X := by
  unfold reqK mostRows
  apply propext
  constructor
  · exact fun h => h.2
  · exact fun h => ⟨⟨h0, h1, h2⟩, h⟩

theorem mapO_len2 {α β : Type} {f : α → Option β} : ∀ {l : List α} {r : List β}, mapO f l = some r → r.length = l.length
  | [], r, h => by cases h; rfl
  | x :: l, r, h => by
    simp only [mapO] at h
    split at h
    · rename_i y l' h1 h2
      cases h
      simp [mapO_len2 h2]
    · cases h
-- cells
@[go_sem] theorem cells_pv (p : PV) : V.cells (.pv p) = [.pv p] := rfl
@[go_sem] theorem cells_tl (r : List (List PV)) : V.cells (.tl r) = [.tl r] := rfl
@[go_sem] theorem cells_own (a b c d : Nat) : V.cells (.own a b c d) = [.own a b c d] := rfl
@[go_sem] theorem cells_agg (cs : List V) : V.cells (.agg cs) = cs := rfl
@[go_sem] theorem cells_map (i : Nat) : V.cells (.map i) = [.map i] := rfl
@[go_sem] theorem cells_nilm : V.cells .nilm = [.nilm] := rfl
@[go_sem] theorem cells_func (f : Nat) (c : List V) : V.cells (.func f c) = [.func f c] := rfl
@[go_sem] theorem cells_ptr (a b : Nat) : V.cells (.ptr a b) = [.ptr a b] := rfl
@[go_sem] theorem cells_aptr (a b c d : Nat) : V.cells (.aptr a b c d) = [.aptr a b c d] := rfl
@[go_sem] theorem calm_bool (b : Bool) : V.calm (.pv (.bool b)) = true := rfl
@[go_sem] theorem calm_int (k : IntKind) (n : Int) : V.calm (.pv (.int k n)) = true := rfl
@[go_sem] theorem calm_str (s : ByteArray) : V.calm (.pv (.str s)) = true := rfl
@[go_sem] theorem calm_lst (t : Nat) (r : List (List PV)) : V.calm (.pv (.lst t r)) = true := rfl
@[go_sem] theorem calm_nilp : V.calm (.pv .nilp) = true := rfl
@[go_sem] theorem calm_nilf : V.calm (.pv .nilf) = true := rfl
@[go_sem] theorem calm_pfunc (f : Nat) (c : List PV) : V.calm (.pv (.func f c)) = c.isEmpty := rfl
@[go_sem] theorem calm_tl (r : List (List PV)) : V.calm (.tl r) = true := rfl
@[go_sem] theorem calm_own (a b c d : Nat) : V.calm (.own a b c d) = true := rfl
@[go_sem] theorem calm_func (f : Nat) (c : List V) : V.calm (.func f c) = c.isEmpty := rfl
@[go_sem] theorem calm_map (i : Nat) : V.calm (.map i) = V.calm (.map 0) := rfl
@[go_sem] theorem sized_bool (b : Bool) : V.sized (.pv (.bool b)) = true := rfl
@[go_sem] theorem sized_int (k : IntKind) (n : Int) : V.sized (.pv (.int k n)) = true := rfl
@[go_sem] theorem sized_str (s : ByteArray) : V.sized (.pv (.str s)) = true := rfl
@[go_sem] theorem sized_lst (t : Nat) (r : List (List PV)) : V.sized (.pv (.lst t r)) = true := rfl
@[go_sem] theorem sized_nilp : V.sized (.pv .nilp) = true := rfl
@[go_sem] theorem sized_tl (r : List (List PV)) : V.sized (.tl r) = true := rfl
@[go_sem] theorem sized_own (a b c d : Nat) : V.sized (.own a b c d) = true := rfl
@[go_sem] theorem sized_agg (cs : List V) : V.sized (.agg cs) = true := rfl
@[go_sem] theorem sized_nilm : V.sized .nilm = true := rfl
@[go_sem] theorem sized_map (i : Nat) : V.sized (.map i) = true := rfl
@[go_sem] theorem sized_func (f : Nat) (c : List V) : V.sized (.func f c) = true := rfl
@[go_sem] theorem takeN_eq {α : Type} (off n : Nat) (l : List α) : takeN off n l = if off + n ≤ l.length then some ((l.drop off).take n) else none := rfl
@[go_sem] theorem cellsV_true (cs : List V) : cellsV true cs = some (.agg cs) := rfl
@[go_sem] theorem cellsV_one (v : V) : cellsV false [v] = some v := rfl
@[go_sem] theorem setAt_eq {α : Type} (l : List α) (off : Nat) (n : List α) : setAt l off n = l.take off ++ n ++ l.drop (off + n.length) := rfl
@[go_sem] theorem fillv_nil (g : Opd → V) (cells : List V) : fillv g cells [] = some cells := rfl
@[go_sem] theorem fillv_cons (g : Opd → V) (cells : List V) (off n : Nat) (x : Opd) (r : List (Nat × Nat × Opd)) : fillv g cells ((off, n, x) :: r) = if (g x).sized = true ∧ (g x).cells.length = n ∧ off + n ≤ cells.length then fillv g (setAt cells off (g x).cells) r else none := rfl
@[go_sem] theorem partV_agg (off n : Nat) (b : Bool) (cs : List V) : partV off n b (.agg cs) = (takeN off n cs).bind (cellsV b) := by
  simp only [partV]
  cases takeN off n cs <;> rfl
@[go_sem] theorem ixaV_agg (j k : Nat) (b : Bool) (cs : List V) : ixaV j k b (.agg cs) = (takeN (j * k) k cs).bind (cellsV b) := by
  simp only [ixaV]
  cases takeN (j * k) k cs <;> rfl
@[go_sem] theorem loadAt_ro (h : Heap) (n t : Nat) (cs : List PV) : loadAt h n (.pv (.ro t cs)) = (takeN 0 n cs).bind fun l => some (l.map .pv, {}) := by
  simp only [loadAt]
  cases takeN 0 n cs <;> rfl
@[go_sem] theorem loadAt_ptr (h : Heap) (n slot off : Nat) : loadAt h n (.ptr slot off) = (look1 slot h.bx).bind fun cs => (takeN off n cs).bind fun l => some (l, { rb := some slot }) := by
  simp only [loadAt]
  cases look1 slot h.bx with
  | none => rfl
  | some cs =>
    simp only [Option.bind_some]
    cases takeN off n cs <;> rfl
/-- A row of cells, as values. -/
def bodyRow (row : Nat) : Sum (List (List PV)) (List (List V)) → Option (List V)
  | .inl x => x[row]?.map (·.map .pv)
  | .inr x => x[row]?
@[go_sem] theorem bodyRow_inl (row : Nat) (x : List (List PV)) : bodyRow row (.inl x) = x[row]?.map (·.map .pv) := rfl
@[go_sem] theorem bodyRow_inr (row : Nat) (x : List (List V)) : bodyRow row (.inr x) = x[row]? := rfl
@[go_sem] theorem loadAt_aptr (h : Heap) (n id ver row col : Nat) : loadAt h n (.aptr id ver row col) = (ownArr h id ver).bind fun a => (bodyRow row a.body).bind fun r => (takeN col n r).bind fun l => some (l, { ra := some id }) := by
  simp only [loadAt]
  cases ownArr h id ver with
  | none => rfl
  | some a =>
    simp only [Option.bind_some]
    cases a.body with
    | inl x =>
      simp only [bodyRow]
      cases x[row]? with
      | none => rfl
      | some r =>
        simp only [Option.map_some, Option.bind_some, takeN, List.length_map, List.map_drop, List.map_take]
        by_cases hc : col + n ≤ r.length <;> simp [hc]
    | inr x =>
      simp only [bodyRow]
      cases x[row]? with
      | none => rfl
      | some r =>
        simp only [Option.bind_some]
        cases takeN col n r <;> rfl
@[go_sem] theorem storeAt_ptr (h : Heap) (slot off : Nat) (news : List V) : storeAt h (.ptr slot off) news = (look1 slot h.bx).bind fun cs => if off + news.length ≤ cs.length ∧ news.all V.calm then some { bx := some (slot, setAt cs off news) } else none := by
  simp only [storeAt]
  cases look1 slot h.bx <;> rfl
/-- Cells of a row are written. -/
def storeRow (id row col : Nat) (news : List V) (a : Arr) : Option Tn :=
  if row < a.size ∧ col + news.length ≤ a.k ∧ news.all V.calm then some { ar := some (id, { a with body := setBody row col news a.body }) } else none
@[go_sem] theorem storeAt_aptr (h : Heap) (id ver row col : Nat) (news : List V) : storeAt h (.aptr id ver row col) news = (ownArr h id ver).bind (storeRow id row col news) := by
  simp only [storeAt, storeRow]
  cases ownArr h id ver <;> rfl
/-- A row with cells laid over it. -/
def over (row c : Nat) (news : List PV) (x : List (List PV)) : List (List PV) := x.set row ((x.getD row []).take c ++ news ++ (x.getD row []).drop (c + news.length))
theorem storeRow_inl {id row col ver k : Nat} {news : List V} {rows : List (List PV)} {l : List PV} (h1 : row < rows.length) (h2 : mapO V.purec news = some l) (h3 : col + news.length ≤ k) (h4 : news.all V.calm = true) :
    storeRow id row col news ⟨ver, k, .inl rows⟩ = some { ar := some (id, ⟨ver, k, .inl (over row col l rows)⟩) } := by
  have hl : l.length = news.length := mapO_len2 h2
  have : row < (⟨ver, k, .inl rows⟩ : Arr).size := h1
  simp only [storeRow, this, h3, h4, true_and, if_true, setBody, h2, over, hl]
theorem storeRow_one {id row ver : Nat} {p : PV} {rows : List (List PV)} (h1 : row < rows.length) (h2 : p.perm = true) (h3 : rows[row]? = none ∨ ∃ q, rows[row]? = some [q]) (h4 : (V.pv p).calm = true) :
    storeRow id row 0 [.pv p] ⟨ver, 1, .inl rows⟩ = some { ar := some (id, ⟨ver, 1, .inl (rows.set row [p])⟩) } := by
  rw [storeRow_inl (l := [p]) h1 (by simp [mapO, V.purec, h2]) (by simp) (by simp [h4])]
  have : rows.getD row [] = [] ∨ ∃ q, rows.getD row [] = [q] := by
    rcases h3 with h | ⟨q, h⟩
    · exact .inl (by simp [h])
    · exact .inr ⟨q, by simp [h]⟩
  unfold over
  rcases this with h | ⟨q, h⟩ <;> rw [h] <;> rfl
@[go_sem] theorem fldV_ro (off t : Nat) (cs : List PV) : fldV off (.pv (.ro t cs)) = some (.pv (.ro t (cs.drop off))) := rfl
@[go_sem] theorem fldV_ptr (off s o : Nat) : fldV off (.ptr s o) = some (.ptr s (o + off)) := rfl
@[go_sem] theorem fldV_aptr (off i v r c : Nat) : fldV off (.aptr i v r c) = some (.aptr i v r (c + off)) := rfl
@[go_sem] theorem nilckV_func (f : Nat) (cap : List V) : nilckV (.func f cap) = some (.func f cap) := rfl
@[go_sem] theorem nilckV_pfunc (f : Nat) (cap : List PV) : nilckV (.pv (.func f cap)) = some (.pv (.func f cap)) := rfl
@[go_sem] theorem nilckV_ptr (s o : Nat) : nilckV (.ptr s o) = some (.ptr s o) := rfl
@[go_sem] theorem nilckV_ro (t : Nat) (cs : List PV) : nilckV (.pv (.ro t cs)) = some (.pv (.ro t cs)) := rfl
@[go_sem] theorem nilckV_aptr (i v r c : Nat) : nilckV (.aptr i v r c) = some (.aptr i v r c) := rfl
@[go_sem] theorem funcOf_func (f : Nat) (cap : List V) : funcOf (.func f cap) = some (f, cap) := rfl
@[go_sem] theorem funcOf_pfunc (f : Nat) (cap : List PV) : funcOf (.pv (.func f cap)) = some (f, cap.map .pv) := rfl
@[go_sem] theorem ownArr_mk (bx : List (Nat × List V)) (ar : List Arr) (mp : List (List (PV × PV))) (id ver : Nat) : ownArr ⟨bx, ar, mp⟩ id ver = (ar[id]?).bind fun a => if a.ver = ver then some a else none := by
  simp only [ownArr]
  cases ar[id]? <;> rfl

-- equality
@[go_sem] theorem plainCells_pv (p : PV) : plainCells false (.pv p) = some [p] := rfl
@[go_sem] theorem plainCells_agg (cs : List V) : plainCells true (.agg cs) = mapO pvOf cs := rfl
@[go_sem] theorem pvOf_pv (p : PV) : pvOf (.pv p) = some p := rfl
@[go_sem] theorem mapO_nil {α β : Type} (f : α → Option β) : mapO f [] = some [] := rfl
theorem mapO_cons' {α β : Type} (f : α → Option β) (x : α) (r : List α) : mapO f (x :: r) = (f x).bind fun y => (mapO f r).bind fun l => some (y :: l) := by
  simp only [mapO]
  cases f x with
  | none => rfl
  | some y => cases mapO f r <;> rfl
attribute [go_sem] mapO_cons'
@[go_sem] theorem keyOf_pv (p : PV) : keyOf false (.pv p) = some p := rfl
theorem keyOf_agg (cs : List V) : keyOf true (.agg cs) = (mapO pvOf cs).map .agg := by
  simp only [keyOf, plainCells]
  cases mapO pvOf cs <;> rfl
attribute [go_sem] keyOf_agg
/-- Equality of cells, as a truth value. -/
def eqB (ks : List Nat) (a b : List PV) : Option Bool := eqsAll ks a b
@[go_sem] theorem eqsAll_nil : eqsAll [] [] [] = some true := rfl
theorem eqsAll_cons (k : Nat) (ks : List Nat) (a b : PV) (x y : List PV) : eqsAll (k :: ks) (a :: x) (b :: y) = (PV.eqs k a b).bind fun p => (eqsAll ks x y).bind fun q => some (p && q) := by
  simp only [eqsAll]
  cases PV.eqs k a b with
  | none => rfl
  | some p => cases eqsAll ks x y <;> rfl
attribute [go_sem] eqsAll_cons
@[go_sem] theorem eqs_bool (a b : Bool) : PV.eqs 0 (.bool a) (.bool b) = some (decide (a = b)) := by simp [PV.eqs, beq_dec]
@[go_sem] theorem eqs_int (k : IntKind) (a b : Int) : PV.eqs 1 (.int k a) (.int k b) = some (decide (a = b)) := by simp [PV.eqs, beq_dec]
@[go_sem] theorem eqs_str (a b : ByteArray) : PV.eqs 2 (.str a) (.str b) = some (decide (a = b)) := by simp only [PV.eqs, list_beq]
theorem eqaV_eq (ag : Bool) (ks : List Nat) (neg : Bool) (x y : V) : eqaV ag ks neg x y = (plainCells ag x).bind fun a => (plainCells ag y).bind fun b => (eqsAll ks a b).bind fun r => some (.pv (.bool (if neg then !r else r))) := by
  simp only [eqaV]
  cases plainCells ag x with
  | none => rfl
  | some a =>
    cases plainCells ag y with
    | none => rfl
    | some b =>
      simp only [Option.bind_some]
      cases eqsAll ks a b <;> rfl
attribute [go_sem] eqaV_eq

-- slices
theorem idxR_nat (k t : Nat) (rows : List (List PV)) (j : Nat) : idxR k t rows (some (j : Int)) = (rows[j]?).bind fun r => if r.length = k then some (.pv (.ro t r)) else none := by
  simp only [idxR, inRange]
  by_cases h : j < rows.length
  · rw [if_pos ⟨by omega, by omega⟩]
    simp only [Int.toNat_natCast]
    cases rows[j]? <;> rfl
  · rw [if_neg (by omega)]
    rw [List.getElem?_eq_none (by omega)]
    rfl
theorem idxR_int (k t : Nat) (rows : List (List PV)) {i : Int} (h : 0 ≤ i) : idxR k t rows (some i) = (rows[i.toNat]?).bind fun r => if r.length = k then some (.pv (.ro t r)) else none := by
  obtain ⟨j, rfl⟩ := Int.eq_ofNat_of_zero_le h
  exact idxR_nat k t rows j
attribute [go_sem] idxR_nat
@[go_sem] theorem idxV_lst (h : Heap) (k t : Nat) (rows : List (List PV)) (i : Option Int) : idxV h k (.pv (.lst t rows)) i = (idxR k t rows i).map fun v => (v, {}) := rfl
@[go_sem] theorem idxV_tl (h : Heap) (k : Nat) (rows : List (List PV)) (i : Option Int) : idxV h k (.tl rows) i = (idxR k 0 rows i).map fun v => (v, {}) := rfl
theorem idxV_own (h : Heap) (k id ver off len : Nat) (i : Option Int) : idxV h k (.own id ver off len) i = (inRange i len).bind fun j => (ownArr h id ver).bind fun a => if a.k = k then some (.aptr id ver (off + j) 0, { ra := some id }) else none := by
  simp only [idxV]
  cases inRange i len with
  | none => rfl
  | some j => cases ownArr h id ver <;> rfl
attribute [go_sem] idxV_own
@[go_sem] theorem lenV_lst (h : Heap) (t : Nat) (rows : List (List PV)) : lenV h 0 (.pv (.lst t rows)) = some (rows.length, {}) := rfl
@[go_sem] theorem lenV_tl (h : Heap) (rows : List (List PV)) : lenV h 0 (.tl rows) = some (rows.length, {}) := rfl
@[go_sem] theorem lenV_own (h : Heap) (a b c d : Nat) : lenV h 0 (.own a b c d) = some (d, {}) := rfl
@[go_sem] theorem lenV_str (h : Heap) (s : ByteArray) : lenV h 1 (.pv (.str s)) = some (s.size, {}) := rfl
theorem lenV_map (h : Heap) (id : Nat) : lenV h 2 (.map id) = (h.mp[id]?).map fun m => (m.length, { rm := some id }) := by
  simp only [lenV]
  cases h.mp[id]? <;> rfl
attribute [go_sem] lenV_map
@[go_sem] theorem lenV_nilm (h : Heap) : lenV h 2 .nilm = some (0, {}) := rfl

-- lending and keeping
@[go_sem] theorem ofArg_agg (cs : List PV) : V.ofArg (.agg cs) = .agg (cs.map .pv) := rfl
@[go_sem] theorem ofArg_bool (b : Bool) : V.ofArg (.bool b) = .pv (.bool b) := rfl
@[go_sem] theorem ofArg_int (k : IntKind) (n : Int) : V.ofArg (.int k n) = .pv (.int k n) := rfl
@[go_sem] theorem ofArg_str (s : ByteArray) : V.ofArg (.str s) = .pv (.str s) := rfl
@[go_sem] theorem ofArg_lst (t : Nat) (r : List (List PV)) : V.ofArg (.lst t r) = .pv (.lst t r) := rfl
@[go_sem] theorem ofArg_ro (t : Nat) (r : List PV) : V.ofArg (.ro t r) = .pv (.ro t r) := rfl
@[go_sem] theorem ofArg_func (f : Nat) (r : List PV) : V.ofArg (.func f r) = .pv (.func f r) := rfl
@[go_sem] theorem ofArg_fr (k : Nat) (r : List (List PV)) : V.ofArg (.fr k r) = .own 0 0 0 r.length := rfl
@[go_sem] theorem entry_nil (n : Nat) : entry n [] = [] := rfl
@[go_sem] theorem entry_cons (n : Nat) (p : PV) (r : List PV) : entry n (p :: r) = (n, V.ofArg p) :: entry (n + 1) r := rfl
@[go_sem] theorem entryHeap_nil : entryHeap [] = ⟨[], [], []⟩ := rfl
@[go_sem] theorem entryHeap_fr (k : Nat) (rows : List (List PV)) (r : List PV) : entryHeap (.fr k rows :: r) = ⟨[], [⟨0, k, .inl rows⟩], []⟩ := rfl
@[go_sem] theorem entryHeap_agg (cs : List PV) (r : List PV) : entryHeap (.agg cs :: r) = ⟨[], [], []⟩ := rfl
@[go_sem] theorem entryHeap_bool (b : Bool) (r : List PV) : entryHeap (.bool b :: r) = ⟨[], [], []⟩ := rfl
@[go_sem] theorem entryHeap_int (k : IntKind) (n : Int) (r : List PV) : entryHeap (.int k n :: r) = ⟨[], [], []⟩ := rfl
@[go_sem] theorem entryHeap_str (s : ByteArray) (r : List PV) : entryHeap (.str s :: r) = ⟨[], [], []⟩ := rfl
@[go_sem] theorem entryHeap_lst (t : Nat) (rows : List (List PV)) (r : List PV) : entryHeap (.lst t rows :: r) = ⟨[], [], []⟩ := rfl
@[go_sem] theorem entryHeap_ro (t : Nat) (rows : List PV) (r : List PV) : entryHeap (.ro t rows :: r) = ⟨[], [], []⟩ := rfl
@[go_sem] theorem entryHeap_func (t : Nat) (rows : List PV) (r : List PV) : entryHeap (.func t rows :: r) = ⟨[], [], []⟩ := rfl

@[go_sem] theorem resultOf_tmp (s : St) (t : Nat) : resultOf s (.tmp t) = some (get s.env t) := rfl
theorem resultOf_cell (s : St) (t n : Nat) (b : Bool) : resultOf s (.cell t n b) = (loadAt s.h n (get s.env t)).bind fun r => cellsV b r.1 := by
  simp only [resultOf]
  cases loadAt s.h n (get s.env t) <;> rfl
attribute [go_sem] resultOf_cell
@[go_sem] theorem leaveL_false (s : St) (rs : List RVar) : leaveL s rs false = (mapO (resultOf s) rs).bind fun vs => mapO (keep s.h false) vs := by
  simp [leaveL]
theorem leaveL_true (s : St) (rs : List RVar) : leaveL s rs true = (mapO (resultOf s) rs).bind fun vs => if distinct (ownIds vs) then mapO (keep s.h true) vs else none := by
  simp [leaveL]
attribute [go_sem] leaveL_true
@[go_sem] theorem keep_agg (h : Heap) (cs : List V) : keep h false (.agg cs) = (mapO (keepc h 4) cs).map .agg := by
  simp only [keep, Bool.false_eq_true, if_false]
  cases mapO (keepc h 4) cs <;> rfl
@[go_sem] theorem keep_pv (h : Heap) (p : PV) : keep h false (.pv p) = keepc h 4 (.pv p) := rfl
@[go_sem] theorem keep_tl (h : Heap) (r : List (List PV)) : keep h false (.tl r) = keepc h 4 (.tl r) := rfl
@[go_sem] theorem keep_own (h : Heap) (a b c d : Nat) : keep h false (.own a b c d) = keepc h 4 (.own a b c d) := rfl
@[go_sem] theorem keep_func (h : Heap) (a : Nat) (c : List V) : keep h false (.func a c) = keepc h 4 (.func a c) := rfl
@[go_sem] theorem keepc_pv (h : Heap) (d : Nat) (p : PV) : keepc h d (.pv p) = if p.perm then some p else none := by cases d <;> rfl
@[go_sem] theorem keepc_tl (h : Heap) (d : Nat) (r : List (List PV)) : keepc h d (.tl r) = some (.lst 0 r) := by cases d <;> rfl
@[go_sem] theorem perm_bool (b : Bool) : PV.perm (.bool b) = true := rfl
@[go_sem] theorem perm_int (k : IntKind) (n : Int) : PV.perm (.int k n) = true := rfl
@[go_sem] theorem perm_str (s : ByteArray) : PV.perm (.str s) = true := rfl
@[go_sem] theorem perm_nilp : PV.perm .nilp = true := rfl
@[go_sem] theorem perm_lst (t : Nat) (r : List (List PV)) : PV.perm (.lst t r) = (t == 0) := rfl
@[go_sem] theorem cutRows_inl (off len : Nat) (x : List (List PV)) : cutRows off len (.inl x) = .inl ((x.drop off).take len) := rfl
@[go_sem] theorem cutRows_inr (off len : Nat) (x : List (List V)) : cutRows off len (.inr x) = .inr ((x.drop off).take len) := rfl
/-- What is kept of an array. -/
def keepRows (f : V → Option PV) : Sum (List (List PV)) (List (List V)) → Option PV
  | .inl rows => some (.lst 0 rows)
  | .inr rows => (mapO (mapO f) rows).map (.lst 0)
@[go_sem] theorem keepRows_inl (f : V → Option PV) (rows : List (List PV)) : keepRows f (.inl rows) = some (.lst 0 rows) := rfl
@[go_sem] theorem keepRows_inr (f : V → Option PV) (rows : List (List V)) : keepRows f (.inr rows) = (mapO (mapO f) rows).map (.lst 0) := rfl
theorem keepc_own (h : Heap) (d id ver off len : Nat) : keepc h (d + 1) (.own id ver off len) = (ownArr h id ver).bind fun a => keepRows (keepc h d) (cutRows off len a.body) := by
  simp only [keepc]
  cases ownArr h id ver with
  | none => rfl
  | some a =>
    simp only [Option.bind_some]
    cases cutRows off len a.body with
    | inl r => rfl
    | inr r =>
      simp only [keepRows]
      cases mapO (mapO (keepc h d)) r <;> rfl
@[go_sem] theorem keepc_own4 (h : Heap) (id ver off len : Nat) : keepc h 4 (.own id ver off len) = (ownArr h id ver).bind fun a => keepRows (keepc h 3) (cutRows off len a.body) := keepc_own h 3 id ver off len
@[go_sem] theorem keepc_own3 (h : Heap) (id ver off len : Nat) : keepc h 3 (.own id ver off len) = (ownArr h id ver).bind fun a => keepRows (keepc h 2) (cutRows off len a.body) := keepc_own h 2 id ver off len
@[go_sem] theorem keepc_own2 (h : Heap) (id ver off len : Nat) : keepc h 2 (.own id ver off len) = (ownArr h id ver).bind fun a => keepRows (keepc h 1) (cutRows off len a.body) := keepc_own h 1 id ver off len
/-- What is lent of an array. -/
def lendRows (f : V → Option PV) : Sum (List (List PV)) (List (List V)) → Option PV
  | .inl rows => some (.lst 1 rows)
  | .inr rows => (mapO (mapO f) rows).map (.lst 2)
@[go_sem] theorem lendRows_inl (f : V → Option PV) (rows : List (List PV)) : lendRows f (.inl rows) = some (.lst 1 rows) := rfl
@[go_sem] theorem lendRows_inr (f : V → Option PV) (rows : List (List V)) : lendRows f (.inr rows) = (mapO (mapO f) rows).map (.lst 2) := rfl
@[go_sem] theorem lendAll_false (h : Heap) (vs : List V) : lendAll h false vs = (mapO (lend h) vs).bind fun l => some (l, none) := by
  simp only [lendAll, Bool.false_eq_true, if_false]
  cases mapO (lend h) vs <;> rfl
@[go_sem] theorem lend_bool (h : Heap) (b : Bool) : lend h (.pv (.bool b)) = some (.bool b) := rfl
@[go_sem] theorem lend_int (h : Heap) (k : IntKind) (n : Int) : lend h (.pv (.int k n)) = some (.int k n) := rfl
@[go_sem] theorem lend_str (h : Heap) (s : ByteArray) : lend h (.pv (.str s)) = some (.str s) := rfl
@[go_sem] theorem lend_lst (h : Heap) (t : Nat) (r : List (List PV)) : lend h (.pv (.lst t r)) = some (.lst t r) := rfl
@[go_sem] theorem lend_ro (h : Heap) (t : Nat) (r : List PV) : lend h (.pv (.ro t r)) = some (.ro t r) := rfl
@[go_sem] theorem lend_pfunc (h : Heap) (t : Nat) (r : List PV) : lend h (.pv (.func t r)) = some (.func t r) := rfl
@[go_sem] theorem lend_pagg (h : Heap) (r : List PV) : lend h (.pv (.agg r)) = some (.agg r) := rfl
@[go_sem] theorem lend_tl (h : Heap) (r : List (List PV)) : lend h (.tl r) = some (.lst 0 r) := rfl
@[go_sem] theorem lend_agg (h : Heap) (cs : List V) : lend h (.agg cs) = (mapO (lendc h 4) cs).map .agg := by
  simp only [lend]
  cases mapO (lendc h 4) cs <;> rfl
theorem lendc_own (h : Heap) (d id ver off len : Nat) : lendc h (d + 1) (.own id ver off len) = (ownArr h id ver).bind fun a => lendRows (lendc h d) (cutRows off len a.body) := by
  simp only [lendc]
  cases ownArr h id ver with
  | none => rfl
  | some a =>
    simp only [Option.bind_some]
    cases cutRows off len a.body with
    | inl r => rfl
    | inr r =>
      simp only [lendRows]
      cases mapO (mapO (lendc h d)) r <;> rfl
@[go_sem] theorem lend_own (h : Heap) (id ver off len : Nat) : lend h (.own id ver off len) = (ownArr h id ver).bind fun a => lendRows (lendc h 3) (cutRows off len a.body) := lendc_own h 3 id ver off len
@[go_sem] theorem lendc_own4 (h : Heap) (id ver off len : Nat) : lendc h 4 (.own id ver off len) = (ownArr h id ver).bind fun a => lendRows (lendc h 3) (cutRows off len a.body) := lendc_own h 3 id ver off len
@[go_sem] theorem lendc_own3 (h : Heap) (id ver off len : Nat) : lendc h 3 (.own id ver off len) = (ownArr h id ver).bind fun a => lendRows (lendc h 2) (cutRows off len a.body) := lendc_own h 2 id ver off len
@[go_sem] theorem lendc_own2 (h : Heap) (id ver off len : Nat) : lendc h 2 (.own id ver off len) = (ownArr h id ver).bind fun a => lendRows (lendc h 1) (cutRows off len a.body) := lendc_own h 1 id ver off len
theorem lendc_ptr (h : Heap) (d slot off : Nat) : lendc h (d + 1) (.ptr slot off) = (look1 slot h.bx).bind fun cs => (mapO (lendc h d) (cs.drop off)).map (.ro 2) := by
  simp only [lendc]
  cases look1 slot h.bx with
  | none => rfl
  | some cs =>
    simp only [Option.bind_some]
    cases mapO (lendc h d) (cs.drop off) <;> rfl
@[go_sem] theorem lend_ptr (h : Heap) (slot off : Nat) : lend h (.ptr slot off) = (look1 slot h.bx).bind fun cs => (mapO (lendc h 3) (cs.drop off)).map (.ro 2) := lendc_ptr h 3 slot off
@[go_sem] theorem lendc_ptr4 (h : Heap) (slot off : Nat) : lendc h 4 (.ptr slot off) = (look1 slot h.bx).bind fun cs => (mapO (lendc h 3) (cs.drop off)).map (.ro 2) := lendc_ptr h 3 slot off
@[go_sem] theorem lendc_ptr3 (h : Heap) (slot off : Nat) : lendc h 3 (.ptr slot off) = (look1 slot h.bx).bind fun cs => (mapO (lendc h 2) (cs.drop off)).map (.ro 2) := lendc_ptr h 2 slot off
theorem lendc_func (h : Heap) (d f : Nat) (cap : List V) : lendc h (d + 1) (.func f cap) = (mapO (lendc h d) cap).map (.func f) := by
  simp only [lendc]
  cases mapO (lendc h d) cap <;> rfl
@[go_sem] theorem lend_func (h : Heap) (f : Nat) (cap : List V) : lend h (.func f cap) = (mapO (lendc h 3) cap).map (.func f) := lendc_func h 3 f cap
@[go_sem] theorem lendc_func3 (h : Heap) (f : Nat) (cap : List V) : lendc h 3 (.func f cap) = (mapO (lendc h 2) cap).map (.func f) := lendc_func h 2 f cap
@[go_sem] theorem lendc_func4 (h : Heap) (f : Nat) (cap : List V) : lendc h 4 (.func f cap) = (mapO (lendc h 3) cap).map (.func f) := lendc_func h 3 f cap
@[go_sem] theorem lendc_bool (h : Heap) (d : Nat) (b : Bool) : lendc h d (.pv (.bool b)) = some (.bool b) := by cases d <;> rfl
@[go_sem] theorem lendc_int (h : Heap) (d : Nat) (k : IntKind) (n : Int) : lendc h d (.pv (.int k n)) = some (.int k n) := by cases d <;> rfl
@[go_sem] theorem lendc_str (h : Heap) (d : Nat) (s : ByteArray) : lendc h d (.pv (.str s)) = some (.str s) := by cases d <;> rfl
@[go_sem] theorem lendc_lst (h : Heap) (d t : Nat) (r : List (List PV)) : lendc h d (.pv (.lst t r)) = some (.lst t r) := by cases d <;> rfl
@[go_sem] theorem lendc_ro (h : Heap) (d t : Nat) (r : List PV) : lendc h d (.pv (.ro t r)) = some (.ro t r) := by cases d <;> rfl
@[go_sem] theorem lendc_pfunc (h : Heap) (d t : Nat) (r : List PV) : lendc h d (.pv (.func t r)) = some (.func t r) := by cases d <;> rfl
@[go_sem] theorem lendc_tl (h : Heap) (d : Nat) (r : List (List PV)) : lendc h d (.tl r) = some (.lst 0 r) := by cases d <;> rfl

-- what a call gives
/-- No arrays come with such cells. -/
def PV.still : PV → Bool
  | .fr _ _ => false
  | _ => true
@[go_sem] theorem takec_nil (n : Nat) : takec n [] = ([], []) := rfl
@[go_sem] theorem takec_fr (n k : Nat) (rows : List (List PV)) (r : List PV) : takec n (.fr k rows :: r) = (.own n 0 0 rows.length :: (takec (n + 1) r).1, ⟨0, k, .inl rows⟩ :: (takec (n + 1) r).2) := rfl
@[go_sem] theorem takec_bool (n : Nat) (b : Bool) (r : List PV) : takec n (.bool b :: r) = (.pv (.bool b) :: (takec n r).1, (takec n r).2) := rfl
@[go_sem] theorem takec_int (n : Nat) (k : IntKind) (i : Int) (r : List PV) : takec n (.int k i :: r) = (.pv (.int k i) :: (takec n r).1, (takec n r).2) := rfl
@[go_sem] theorem takec_str (n : Nat) (s : ByteArray) (r : List PV) : takec n (.str s :: r) = (.pv (.str s) :: (takec n r).1, (takec n r).2) := rfl
@[go_sem] theorem takec_lst (n t : Nat) (l : List (List PV)) (r : List PV) : takec n (.lst t l :: r) = (.pv (.lst t l) :: (takec n r).1, (takec n r).2) := rfl
@[go_sem] theorem takev_agg (n : Nat) (cs : List PV) : takev n (.agg cs) = (.agg (takec n cs).1, (takec n cs).2) := rfl
@[go_sem] theorem takev_fr (n k : Nat) (rows : List (List PV)) : takev n (.fr k rows) = (.own n 0 0 rows.length, [⟨0, k, .inl rows⟩]) := rfl
@[go_sem] theorem takev_bool (n : Nat) (b : Bool) : takev n (.bool b) = (.pv (.bool b), []) := rfl
@[go_sem] theorem takev_int (n : Nat) (k : IntKind) (i : Int) : takev n (.int k i) = (.pv (.int k i), []) := rfl
@[go_sem] theorem takev_str (n : Nat) (s : ByteArray) : takev n (.str s) = (.pv (.str s), []) := rfl
@[go_sem] theorem takev_lst (n t : Nat) (l : List (List PV)) : takev n (.lst t l) = (.pv (.lst t l), []) := rfl
@[go_sem] theorem takeAll_nil (n : Nat) : takeAll n [] = ([], []) := rfl
@[go_sem] theorem takeAll_step (n : Nat) (p : PV) (r : List PV) : takeAll n (p :: r) = ((takev n p).1 :: (takeAll (n + (takev n p).2.length) r).1, (takev n p).2 ++ (takeAll (n + (takev n p).2.length) r).2) := rfl
@[go_sem] theorem tuple1_one (v : V) : tuple1 [v] = v := rfl
@[go_sem] theorem tuple1_two (v w : V) (r : List V) : tuple1 (v :: w :: r) = .tup (v :: w :: r) := rfl
@[go_sem] theorem tuple1_nil : tuple1 [] = .tup [] := rfl


/-- A call of a function that is known by its own code. -/
def CN (A : Nat → Option AFunc) (Pr : Prims) (t : Bool) (fn : Nat) (vs : List V) (h : Heap) (K : V → Tn → Prop) (_t : Tie K := .mk) : Prop :=
  optK (lendAll h t vs) fun q => optK (res A Pr fn q.1) fun rs => K (tuple1 (takeAll h.ar.length rs).1) { ar := q.2, push := (takeAll h.ar.length rs).2, rall := !(vs.all V.isPv), base := if (takeAll h.ar.length rs).2.isEmpty then 0 else h.ar.length }
theorem CW_CN {fn : Nat} (hp : Pr fn = none) {t : Bool} (ht : takes A fn = t) (vs : List V) (h : Heap) (K : V → Tn → Prop) : CW A Pr fn vs h K = CN A Pr t fn vs h K := CW_none hp ht vs h K
@[go_sem] theorem CN_eq (t : Bool) (fn : Nat) (vs : List V) (h : Heap) (K : V → Tn → Prop) : CN A Pr t fn vs h K = optK (lendAll h t vs) fun q => optK (res A Pr fn q.1) fun rs => K (tuple1 (takeAll h.ar.length rs).1) { ar := q.2, push := (takeAll h.ar.length rs).2, rall := !(vs.all V.isPv), base := if (takeAll h.ar.length rs).2.isEmpty then 0 else h.ar.length } := rfl
@[go_sem] theorem isPv_pv (p : PV) : V.isPv (.pv p) = true := rfl
@[go_sem] theorem isPv_tl (r : List (List PV)) : V.isPv (.tl r) = true := rfl
@[go_sem] theorem isPv_own (a b c d : Nat) : V.isPv (.own a b c d) = false := rfl
@[go_sem] theorem isPv_ptr (a b : Nat) : V.isPv (.ptr a b) = false := rfl
@[go_sem] theorem isPv_func (f : Nat) (cap : List V) : V.isPv (.func f cap) = cap.isEmpty := rfl
/-- Are all cells plain? -/
def pvTl : V → Bool
  | .pv _ => true
  | .tl _ => true
  | _ => false
@[go_sem] theorem pvTl_pv (p : PV) : pvTl (.pv p) = true := rfl
@[go_sem] theorem pvTl_tl (r : List (List PV)) : pvTl (.tl r) = true := rfl
@[go_sem] theorem pvTl_own (a b c d : Nat) : pvTl (.own a b c d) = false := rfl
@[go_sem] theorem isPv_agg (cs : List V) : V.isPv (.agg cs) = cs.all pvTl := by
  show (cs.all fun | .pv _ => true | .tl _ => true | _ => false) = _
  congr 1

-- drawn regions: what is held against what
@[go_sem] theorem held_cons (j : Nat) (un : List Nat) (t : Tn) (done : List Tn) (X : Prop) : held (j :: un) t done X = reqK (((done[j]?).map fun u => u.apart t) = some true) (held un t done X) := by
  unfold held reqK holdAgainst
  simp only [List.all_cons, Bool.and_eq_true]
  apply propext
  cases done[j]? with
  | none => simp
  | some u => simp [and_assoc]
@[go_sem] theorem apart_eq (a b : Tn) : a.apart b = (a.off b && b.off a) := rfl
@[go_sem] theorem off_eq (a b : Tn) : a.off b = (off2 (a.bx.map (·.1)) (b.bx.map (·.1)) (· == ·) && off2 (a.bx.map (·.1)) b.rb (· == ·) &&
  off2 (a.ar.map (·.1)) (b.ar.map (·.1)) (· == ·) && off2 (a.ar.map (·.1)) b.ra (· == ·) && off2 (a.ar.map (·.1)) b.ra2 (· == ·) &&
  (a.push.isEmpty || (b.push.isEmpty && b.old a.base)) && a.mp.isNone && !a.pushm &&
  (!b.rall || (a.bx.isNone && a.ar.isNone && a.push.isEmpty))) := rfl
@[go_sem] theorem old_eq (a : Tn) (n : Nat) : a.old n = (a.ar.all (·.1 < n) && a.ra.all (· < n) && a.ra2.all (· < n)) := rfl
@[go_sem] theorem off2_some {α : Type} (a b : α) (eq : α → α → Bool) : off2 (some a) (some b) eq = !eq a b := rfl
@[go_sem] theorem off2_none {α : Type} (p : Option α) (eq : α → α → Bool) : off2 none p eq = true := rfl
@[go_sem] theorem off2_none' {α : Type} (a : α) (eq : α → α → Bool) : off2 (some a) none eq = true := rfl
attribute [go_sem] Option.all_some Option.all_none

-- slices of parts that are given
theorem litV_eq (h : Heap) (k len : Nat) (cs : List V) : litV h k len cs = match mkRows (chop k len cs) with
  | .inl rows => some (.tl rows, {})
  | .inr rows => if cs.all V.calm then some (.own h.ar.length 0 0 len, { push := [⟨0, k, .inr rows⟩], base := h.ar.length }) else none := rfl
/-- Rows of plain values, if they all are. -/
def rowsO (r : Option (List (List PV))) (h : Heap) (k len : Nat) (cs : List V) : Option (V × Tn) :=
  match r with
  | some rows => some (.tl rows, {})
  | none => if cs.all V.calm then some (.own h.ar.length 0 0 len, { push := [⟨0, k, .inr (chop k len cs)⟩], base := h.ar.length }) else none
@[go_sem] theorem rowsO_some (rows : List (List PV)) (h : Heap) (k len : Nat) (cs : List V) : rowsO (some rows) h k len cs = some (.tl rows, {}) := rfl
@[go_sem] theorem rowsO_none (h : Heap) (k len : Nat) (cs : List V) : rowsO none h k len cs = if cs.all V.calm then some (.own h.ar.length 0 0 len, { push := [⟨0, k, .inr (chop k len cs)⟩], base := h.ar.length }) else none := rfl
@[go_sem] theorem litV_rows (h : Heap) (k len : Nat) (cs : List V) : litV h k len cs = rowsO (mapO (mapO V.purec) (chop k len cs)) h k len cs := by
  unfold litV mkRows rowsO
  cases mapO (mapO V.purec) (chop k len cs) <;> rfl
@[go_sem] theorem chop_zero {α : Type} (k : Nat) (l : List α) : chop k 0 l = [] := rfl
@[go_sem] theorem chop_succ {α : Type} (k n : Nat) (l : List α) : chop k (n + 1) l = l.take k :: chop k n (l.drop k) := rfl
@[go_sem] theorem purec_pv (p : PV) : V.purec (.pv p) = if p.perm then some p else none := rfl
@[go_sem] theorem purec_tl (r : List (List PV)) : V.purec (.tl r) = none := rfl
@[go_sem] theorem purec_own (a b c d : Nat) : V.purec (.own a b c d) = none := rfl
@[go_sem] theorem purec_nilp : V.purec .nilm = none := rfl

-- lists that are given in full
attribute [go_sem] List.map_cons List.map_nil List.length_cons List.length_nil List.all_cons List.all_nil Option.isNone_none Option.isNone_some Bool.and_true Bool.true_and Bool.and_false Bool.false_and Bool.or_true Bool.true_or Bool.or_false Bool.false_or Bool.not_true Bool.not_false and_self and_true true_and and_false false_and Bool.and_self
  List.drop_zero List.drop_succ_cons List.drop_nil List.take_zero List.take_succ_cons List.take_nil List.nil_append List.cons_append List.append_nil Option.bind_some Option.bind_none Option.map_some Option.map_none List.contains_cons List.contains_nil Nat.reduceBEq beq_self_eq_true List.isEmpty_nil List.isEmpty_cons List.length_map List.getElem?_map
  decide_true decide_false Bool.false_eq_true if_true if_false List.length_append Nat.zero_add Nat.add_zero List.getElem?_cons_zero List.getElem?_cons_succ List.set_cons_zero List.set_cons_succ List.map_drop List.map_take beq_true beq_false List.getElem?_nil
attribute [go_sem] Nat.reduceAdd Nat.reduceSub Nat.reduceMul Nat.reduceDiv Nat.reduceMod Nat.reduceLeDiff Nat.reduceEqDiff Nat.reduceLT Int.reduceAdd Int.reduceSub Int.reduceMul Int.reduceNeg Int.reduceLT Int.reduceLE Int.reduceEq Int.reduceToNat Int.toNat_natCast Int.toNat_zero Int.toNat_one
attribute [go_sem] List.range_succ List.range_zero List.range_eq_range' List.range'_succ List.range'_zero List.getD_cons_zero List.getD_cons_succ
attribute [go_sem ↓] reduceIte

end Go.Pv

/-
  A library function that writes into a row in place: what its contract says, for the interpreter's state.
-/
namespace Go.Pv
open Go.Sort
variable {P : Program} {N : Nat → Nat} {W : Nat → Prop} {L : Lx} {e : Emb} {h : Heap} {w : World}

/-- A value without an address. -/
def scal : PV → Bool
  | .bool _ | .int _ _ | .str _ => true
  | _ => false
def sv : PV → Value
  | .bool b => .bool b
  | .int k n => .int k n
  | .str s => .string s
  | _ => undef

theorem scal_pvr {p : PV} (hp : scal p = true) : PVR N L w p (sv p) := by
  cases p <;> simp [scal] at hp
  · exact .bool _
  · exact .int _ _
  · exact .str _
theorem scal_eq {p : PV} {v : Value} (hp : scal p = true) (h : PVR N L w p v) : v = sv p := by
  cases h <;> simp [scal] at hp <;> rfl
theorem scal_calm {p : PV} (hp : scal p = true) : (V.pv p).calm = true ∧ p.perm = true := by
  cases p <;> simp [scal] at hp <;> exact ⟨rfl, rfl⟩

theorem flat_lt {i j k n : Nat} (hi : i < n) (hj : j < k) : i * k + j < n * k := by
  have := Nat.mul_le_mul_right k (show i + 1 ≤ n from hi)
  rw [Nat.add_mul, Nat.one_mul] at this
  omega

/-- Rows of an array, written in place; new blocks behind. -/
theorem inplace (hr : HR N L e W h w) {id0 : Nat} {a : Arr} {rows : List (List PV)} {off len : Nat} (h0 : h.ar[id0]? = some a) (hb : a.body = .inl rows) (hk : a.k ≠ 0) (hol : off + len ≤ rows.length)
    {news : List (List PV)} (hn : news.length = len) (hnk : ∀ r ∈ news, r.length = a.k ∧ ∀ c ∈ r, scal c = true) (F : Array Value) (hF : F.size = len * a.k)
    (hFv : ∀ i j c, at2 news i j = some c → F[i * a.k + j]! = sv c) (n : Nat) (os : Array Obj) (F0 : Array Value) (hF0 : Holds id w (e.ar id0) (e.ad id0 + off * a.k) F0) (hF0s : F0.size = F.size) :
    ∃ e', Nx N W L e w L e' { h with ar := h.ar.set id0 ⟨a.ver, a.k, .inl (rows.take off ++ news ++ rows.drop (off + len))⟩ } (grow (putRow id (Sort.ahead w n) (e.ar id0) (e.ad id0 + off * a.k) F) os) := by
  have hid : id0 < e.na := by rw [hr.na]; exact (List.getElem?_eq_some_iff.1 h0).1
  obtain ⟨v1, v2, v3, _⟩ := hr.ver id0 a h0
  have hak : e.ak id0 ≠ 0 := by rw [v2]; exact hk
  have hown := hr.war id0 hid hak
  have hlt := hr.lt_ar hid hak
  obtain ⟨c1, c2, c3, c4, c5⟩ := hr.ar id0 a h0 hk
  have hsz : a.size = rows.length := by simp [Arr.size, hb]
  have hrw : a.rows = rows.map (·.map .pv) := by simp [Arr.rows, hb]
  have hlen : (rows.take off ++ news ++ rows.drop (off + len)).length = rows.length := by
    simp only [List.length_append, List.length_take, List.length_drop, hn]
    omega
  have hbig : (putRow id (Sort.ahead w n) (e.ar id0) (e.ad id0 + off * a.k) F).heap.size = w.heap.size := by simp [putRow, mapBlock, Sort.ahead]
  have hother : ∀ g, g < w.heap.size → g ≠ e.ar id0 → (grow (putRow id (Sort.ahead w n) (e.ar id0) (e.ad id0 + off * a.k) F) os).heap[g]? = w.heap[g]? := by
    intro g hg hne
    rw [heap_grow_old _ _ (by rw [hbig]; exact hg)]
    simp only [putRow, mapBlock, Sort.ahead, Array.getElem?_modify]
    rw [if_neg (Ne.symm hne)]
  have hcell : ∀ o, (grow (putRow id (Sort.ahead w n) (e.ar id0) (e.ad id0 + off * a.k) F) os).cell? ⟨e.ar id0, o, none⟩ = (putRow id (Sort.ahead w n) (e.ar id0) (e.ad id0 + off * a.k) F).cell? ⟨e.ar id0, o, none⟩ :=
    fun o => cell?_grow _ _ _ (by rw [hbig]; exact hlt)
  refine ⟨_, Nx.setArr hr (b := e.ar id0) (d := e.ad id0) (c := e.cap id0) ⟨a.ver, a.k, .inl (rows.take off ++ news ++ rows.drop (off + len))⟩ h0 hk hother (by simp [hbig]) ?_ (.inr ⟨rfl, rfl, rfl, rfl, rfl, by rw [hsz]; exact hlen⟩) (.inl rfl) hk (by
    show (rows.take off ++ news ++ rows.drop (off + len)).length ≤ _
    rw [hlen, ← hsz]; exact c1) ?_ ?_ ?_ ?_⟩
  · refine ⟨rfl, rfl, rfl, by simp [hbig], fun g hg hw => hother g hg (fun he => hw (he ▸ hown.1)), ?_⟩
    show w.drawn ≤ w.drawn + n
    omega
  · obtain ⟨arr, ty, h1, h2⟩ := c2.out
    refine ⟨putCells id (e.ad id0 + off * a.k) F arr, ty, ?_, by simpa [putCells] using h2⟩
    rw [heap_grow_old _ _ (by rw [hbig]; exact hlt)]
    simp only [putRow, mapBlock, Sort.ahead, Array.getElem?_modify, if_true, h1]
    rfl
  · intro r hr'
    simp only [Arr.rows] at hr'
    obtain ⟨q, hq, rfl⟩ := List.mem_map.1 hr'
    simp only [List.length_map]
    rcases List.mem_append.1 hq with hq | hq
    · rcases List.mem_append.1 hq with hq | hq
      · have := c3 (q.map .pv) (by rw [hrw]; exact List.mem_map.2 ⟨q, List.mem_of_mem_take hq, rfl⟩)
        simpa using this
      · exact (hnk q hq).1
    · have := c3 (q.map .pv) (by rw [hrw]; exact List.mem_map.2 ⟨q, List.mem_of_mem_drop hq, rfl⟩)
      simpa using this
  · intro i r hi j x hj
    simp only [Arr.rows] at hi
    rw [List.getElem?_map] at hi
    obtain ⟨q, hq, rfl⟩ := Option.map_eq_some_iff.1 hi
    obtain ⟨p, hp, rfl⟩ := map_pv_get hj
    rw [hcell]
    have old : ∀ i', rows[i']? = some q → (i' < off ∨ off + len ≤ i') → i' = i → (V.pv p).calm = true ∧ ∃ v, (putRow id (Sort.ahead w n) (e.ar id0) (e.ad id0 + off * a.k) F).cell? ⟨e.ar id0, e.ad id0 + i * a.k + j, none⟩ = some v ∧ VR N L e w (.pv p) v := by
      rintro i' hq' hor rfl
      have hrow : a.rows[i']? = some (q.map .pv) := by rw [hrw, List.getElem?_map, hq']; rfl
      obtain ⟨g1, v, g2, g3⟩ := c4 i' _ hrow j (.pv p) (by rw [List.getElem?_map, hp]; rfl)
      refine ⟨g1, v, ?_, g3⟩
      have hjk : j < a.k := by
        have h1 := c3 (q.map .pv) (List.mem_of_getElem? hrow)
        have h2 := (List.getElem?_eq_some_iff.1 hp).1
        simp at h1
        omega
      rw [cell?_putRow_other id _ _ _ _ _ (.inr ?_)]
      · exact g2
      · rw [hF]
        show e.ad id0 + i' * a.k + j < _ ∨ _ ≤ e.ad id0 + i' * a.k + j
        rcases hor with hlt' | hge
        · left
          have := flat_lt (k := a.k) hlt' hjk
          omega
        · right
          have := Nat.mul_le_mul_right a.k hge
          rw [Nat.add_mul] at this
          omega
    rcases Nat.lt_or_ge i off with h1 | h1
    · refine old i ?_ (.inl h1) rfl
      rw [List.append_assoc, List.getElem?_append_left (by rw [List.length_take]; omega), List.getElem?_take, if_pos h1] at hq
      exact hq
    · rcases Nat.lt_or_ge i (off + len) with h2 | h2
      · have htl : (rows.take off).length = off := by rw [List.length_take]; omega
        rw [List.getElem?_append_left (by simp only [List.length_append, htl, hn]; omega), List.getElem?_append_right (by rw [htl]; exact h1), htl] at hq
        have hmem := hnk q (List.mem_of_getElem? hq)
        have hpm := hmem.2 p (List.mem_of_getElem? hp)
        have hjk : j < a.k := by rw [← hmem.1]; exact (List.getElem?_eq_some_iff.1 hp).1
        refine ⟨(scal_calm hpm).1, sv p, ?_, .pv _ _ (scal_pvr hpm)⟩
        have hf := hFv (i - off) j p (by simp [at2, hq, hp])
        have hlt2 := flat_lt (k := a.k) (show i - off < len by omega) hjk
        have hadd : i * a.k = off * a.k + (i - off) * a.k := by rw [← Nat.add_mul]; congr 1; omega
        have := cell?_putRow id (Sort.ahead w n) (e.ar id0) (e.ad id0 + off * a.k) F0 F (holds_ahead id w n _ _ F0 hF0) hF0s.symm ((i - off) * a.k + j) (by rw [hF]; exact hlt2)
        rw [show e.ad id0 + i * a.k + j = e.ad id0 + off * a.k + ((i - off) * a.k + j) by omega, this, hf]
        rfl
      · refine old i ?_ (.inr h2) rfl
        have hl2 : (rows.take off ++ news).length = off + len := by simp only [List.length_append, List.length_take, hn]; omega
        rw [List.getElem?_append_right (by rw [hl2]; exact h2), hl2, List.getElem?_drop] at hq
        rw [show off + len + (i - (off + len)) = i by omega] at hq
        exact hq
  · intro r hr' c hc
    rcases List.mem_append.1 hr' with hq | hq
    · rcases List.mem_append.1 hq with hq | hq
      · have := c5
        rw [hb] at this
        exact this r (List.mem_of_mem_take hq) c hc
      · exact (scal_calm ((hnk r hq).2 c hc)).2
    · have := c5
      rw [hb] at this
      exact this r (List.mem_of_mem_drop hq) c hc

/-- What a row of plain cells holds. -/
theorem holds_row (hr : HR N L e W h w) {id0 : Nat} {a : Arr} {rows : List (List PV)} {off len : Nat} (h0 : h.ar[id0]? = some a) (hb : a.body = .inl rows) (hk : a.k ≠ 0) (hol : off + len ≤ rows.length)
    (hs : ∀ r ∈ (rows.drop off).take len, ∀ c ∈ r, scal c = true) (F : Array Value) (hF : F.size = len * a.k) (hFv : ∀ i j c, at2 ((rows.drop off).take len) i j = some c → F[i * a.k + j]! = sv c) :
    Holds id w (e.ar id0) (e.ad id0 + off * a.k) F := by
  obtain ⟨c1, c2, c3, c4, c5⟩ := hr.ar id0 a h0 hk
  have hrw : a.rows = rows.map (·.map .pv) := by simp [Arr.rows, hb]
  have kp : 0 < a.k := Nat.pos_of_ne_zero hk
  intro t ht
  rw [hF] at ht
  have hi : t / a.k < len := Nat.div_lt_of_lt_mul (by rw [Nat.mul_comm]; exact ht)
  have hj : t % a.k < a.k := Nat.mod_lt _ kp
  have hq : rows[off + t / a.k]? = some rows[off + t / a.k] := List.getElem?_eq_getElem (by omega)
  generalize rows[off + t / a.k]'(by omega) = q at hq
  have hrow : a.rows[off + t / a.k]? = some (q.map .pv) := by rw [hrw, List.getElem?_map, hq]; rfl
  have hql : q.length = a.k := by
    have := c3 _ (List.mem_of_getElem? hrow)
    simpa using this
  have hp : q[t % a.k]? = some (q[t % a.k]'(by omega)) := List.getElem?_eq_getElem (by omega)
  generalize q[t % a.k]'(by omega) = p at hp
  have hin : ((rows.drop off).take len)[t / a.k]? = some q := by
    rw [List.getElem?_take, if_pos hi, List.getElem?_drop]
    exact hq
  have hsc := hs q (List.mem_of_getElem? hin) p (List.mem_of_getElem? hp)
  obtain ⟨g1, v, g2, g3⟩ := c4 _ _ hrow (t % a.k) (.pv p) (by rw [List.getElem?_map, hp]; rfl)
  have hv : v = sv p := by
    cases g3 with
    | pv _ _ g => exact scal_eq hsc g
  have hdm : off * a.k + t = (off + t / a.k) * a.k + t % a.k := by
    rw [Nat.add_mul]
    have := Nat.div_add_mod t a.k
    rw [Nat.mul_comm] at this
    omega
  have hft : F[t]! = sv p := by
    have := hFv (t / a.k) (t % a.k) p (by simp [at2, hin, hp])
    rw [Nat.mul_comm, Nat.div_add_mod] at this
    exact this
  refine ⟨?_, ?_⟩
  · rw [show e.ad id0 + off * a.k + t = e.ad id0 + (off + t / a.k) * a.k + t % a.k by omega, g2, hv, hft]
    rfl
  · obtain ⟨arr, ty, h1, _⟩ := c2.out
    simp [World.frozen?, h1]

end Go.Pv

/-
  A sort of a library by a function that compares: what it does, for the interpreter.
-/
namespace Go.Pv
open Go.Sort

/-- Put where it belongs. -/
def ins {α : Type} (lt : α → α → Bool) (x : α) : List α → List α
  | [] => [x]
  | y :: r => if lt y x then y :: ins lt x r else x :: y :: r
def isort {α : Type} (lt : α → α → Bool) : List α → List α
  | [] => []
  | x :: r => ins lt x (isort lt r)
/-- Each is less than the next. -/
def rising {α : Type} (lt : α → α → Bool) : List α → Bool
  | [] => true
  | [_] => true
  | x :: y :: r => lt x y && rising lt (y :: r)

theorem ins_perm {α : Type} (lt : α → α → Bool) (x : α) : ∀ l, (ins lt x l).Perm (x :: l)
  | [] => List.Perm.refl _
  | y :: r => by
    unfold ins
    split
    · exact ((ins_perm lt x r).cons y).trans (List.Perm.swap x y r)
    · exact List.Perm.refl _
theorem isort_perm {α : Type} (lt : α → α → Bool) : ∀ l, (isort lt l).Perm l
  | [] => List.Perm.refl _
  | x :: r => (ins_perm lt x _).trans ((isort_perm lt r).cons x)

theorem rising_all {α : Type} {lt : α → α → Bool} (ht : ∀ x y z, lt x y = true → lt y z = true → lt x z = true) : ∀ l, rising lt l = true → l.Pairwise (fun a b => lt a b = true)
  | [], _ => List.Pairwise.nil
  | [x], _ => List.pairwise_singleton _ _
  | x :: y :: r, h => by
    simp only [rising, Bool.and_eq_true] at h
    have h2 := rising_all ht (y :: r) h.2
    refine List.Pairwise.cons (fun z hz => ?_) h2
    rcases List.mem_cons.1 hz with rfl | hz
    · exact h.1
    · exact ht _ _ _ h.1 ((List.pairwise_cons.1 h2).1 z hz)

theorem sorted_uniq {α : Type} {lt : α → α → Bool} : ∀ (m d : List α), m.Pairwise (fun a b => lt a b = true) → d.Pairwise (fun a b => lt b a = false) → d.Perm m → d = m
  | [], d, _, _, hp => List.Perm.eq_nil hp
  | x :: m, [], _, _, hp => by simp at hp
  | x :: m, y :: d, hm, hd, hp => by
    have hxy : y = x := by
      have hy : y ∈ x :: m := hp.subset (List.mem_cons_self ..)
      have hx : x ∈ y :: d := hp.symm.subset (List.mem_cons_self ..)
      rcases List.mem_cons.1 hy with h | h
      · exact h
      · rcases List.mem_cons.1 hx with h' | h'
        · exact h'.symm
        · have h1 := (List.pairwise_cons.1 hm).1 y h
          have h2 := (List.pairwise_cons.1 hd).1 x h'
          rw [h1] at h2
          cases h2
    subst hxy
    rw [sorted_uniq m d (List.pairwise_cons.1 hm).2 (List.pairwise_cons.1 hd).2 (List.Perm.cons_inv hp)]

variable {P : Program} {N : Nat → Nat} {W : Nat → Prop} {L : Lx} {e : Emb} {h : Heap} {w : World} {α : Type} [Inhabited α]

/-- The sort of rows whose cells are plain; all must be apart. -/
def sortRows (enc : α → List PV) (dec : List PV → Option α) (lt : α → α → Bool) (rows : List (List PV)) : Option (List (List PV)) :=
  match mapO dec rows with
  | some l => if rising lt (isort lt l) = true then some ((isort lt l).map enc) else none
  | none => none

def sortP (k : Nat) (f : List (List PV) → Option (List (List PV))) (g : Nat) : List V → Heap → Option (V × Tn)
  | [x, .func g' []], h => if g' = g then (match x with
    | .tl [] => some (.tup [], {})
    | .own id ver off len => match ownArr h id ver with
      | some a => if len = 0 then some (.tup [], { ra := some id }) else (match a.body with
        | .inl rows => if a.k = k ∧ off + len ≤ rows.length ∧ len ≤ mostRows then (match f ((rows.drop off).take len) with
          | some news => some (.tup [], { ar := some (id, ⟨ver, k, .inl (rows.take off ++ news ++ rows.drop (off + len))⟩) })
          | none => none) else none
        | .inr _ => none)
      | none => none
    | _ => none) else none
  | _, _ => none

theorem mapO_some {β γ : Type} {f : β → Option γ} : ∀ {l : List β} {r : List γ}, mapO f l = some r → r.length = l.length ∧ ∀ (i : Nat) (x : β) (y : γ), l[i]? = some x → r[i]? = some y → f x = some y
  | [], r, h => by cases h; exact ⟨rfl, fun i x y hx => by simp at hx⟩
  | b :: l, r, h => by
    simp only [mapO] at h
    split at h
    · rename_i y l' h1 h2
      cases h
      obtain ⟨k1, k2⟩ := mapO_some h2
      refine ⟨by simp [k1], fun i x z hx hz => ?_⟩
      cases i with
      | zero => simp at hx hz; subst hx; subst hz; exact h1
      | succ i => exact k2 i x z (by simpa using hx) (by simpa using hz)
    · cases h

/-- Values of an element. -/
def venc (enc : α → List PV) (x : α) : List Value := (enc x).map sv

theorem flat_enc {enc : α → List PV} {k : Nat} (hk : ∀ x, (enc x).length = k) (l : List α) (i j : Nat) (c : PV) (hc : at2 (l.map enc) i j = some c) : (flatK (venc enc) k l.toArray)[i * k + j]! = sv c := by
  unfold at2 at hc
  rw [List.getElem?_map] at hc
  cases hx : l[i]? with
  | none => simp [hx] at hc
  | some x =>
    simp only [hx, Option.map_some, Option.bind_some] at hc
    have hi := (List.getElem?_eq_some_iff.1 hx).1
    have hj : j < k := by rw [← hk x]; exact (List.getElem?_eq_some_iff.1 hc).1
    have hlt : i * k + j < l.toArray.size * k := flat_lt (by simpa using hi) hj
    rw [get_flatK _ _ _ _ hlt]
    have h1 : (i * k + j) / k = i := by
      rw [Nat.mul_comm, Nat.mul_add_div (by omega), Nat.div_eq_of_lt hj, Nat.add_zero]
    have h2 : (i * k + j) % k = j := by
      rw [Nat.mul_comm, Nat.mul_add_mod, Nat.mod_eq_of_lt hj]
    rw [h1, h2]
    have h3 : l.toArray[i]! = x := by
      rw [getElem!_pos _ i (by simpa using hi)]
      have := (List.getElem?_eq_some_iff.1 hx).2
      simpa using this
    rw [h3]
    have h4 : (venc enc x)[j]? = some (sv c) := by simp [venc, hc]
    rw [List.getElem!_eq_getElem?_getD, h4]
    rfl

theorem apply_arr0 (i : Nat) (a : Arr) (h : Heap) : Tn.apply { ar := some (i, a) } h = { h with ar := h.ar.set i a } := by
  cases h
  simp [Tn.apply]

theorem sortP_ok {k : Nat} (hk0 : k ≠ 0) {enc : α → List PV} {dec : List PV → Option α} (hde : ∀ r x, dec r = some x → enc x = r) (hk : ∀ x, (enc x).length = k) (hsc : ∀ x, ∀ c ∈ enc x, scal c = true)
    {lt : α → α → Bool} (hO : SWO lt) {fn g : Nat}
    (hent : ∀ args w, (callFunc (N fn) args).run P w = .ok (.enter (N fn) args) w)
    (hnone : ∀ (a : Option Addr) (cap : Nat) (w : World), Calls P (N fn) #[.slice a 0 cap, .func (.func (N g)) #[] #[]] w fun e w' => e = .returned (.tuple #[]) ∧ w' = w)
    (hcon : ∀ (blk off cap : Nat) (d : Array α) (w : World), HoldsK (venc enc) k w blk off d → blk < w.heap.size → d.size < 4611686018427387904 →
      Calls P (N fn) #[.slice (some ⟨blk, off, none⟩) d.size cap, .func (.func (N g)) #[] #[]] w fun e w' => e = .returned (.tuple #[]) ∧ ∃ d' n os, PermIn 0 d.size d d' ∧ SortedIn lt 0 d.size d' ∧ w' = Go.Proofs.sortWorldK (venc enc) k w blk off n d' os)
    {vs : List V} {args : Array Value} {v : V} {tn : Tn} (hp : sortP k (sortRows enc dec lt) g vs h = some (v, tn)) (hr : HR N L e W h w)
    (hs : args.size = vs.length) (hv : ∀ (j : Nat) (x : V), vs[j]? = some x → VR N L e w x (args.getD j undef)) :
    CallGood P (N fn) args w fun v' w' => ∃ L' e', Nx N W L e w L' e' (tn.apply h) w' ∧ VR N L' e' w' v v' := by
  have key : ∀ (x : V) (g' : Nat), vs = [x, .func g' []] → g' = g → ∃ v0, args = #[v0, .func (.func (N g)) #[] #[]] ∧ VR N L e w x v0 := by
    rintro x g' rfl rfl
    have h0 := hv 0 x rfl
    have h1 := hv 1 (.func g' []) rfl
    have hsz : args.size = 2 := hs
    obtain ⟨l⟩ := args
    match l, hsz with
    | [v0, v1], _ =>
      refine ⟨v0, ?_, h0⟩
      have h1' : VR N L e w (.func g' []) v1 := h1
      cases h1' with
      | func _ _ arr ha _ =>
        have : arr = #[] := Array.eq_empty_of_size_eq_zero ha
        subst this
        rfl
  have fin0 : ∀ (a : Option Addr) (cap : Nat), args = #[.slice a 0 cap, .func (.func (N g)) #[] #[]] → tn.apply h = h → v = .tup [] → CallGood P (N fn) args w fun v' w' => ∃ L' e', Nx N W L e w L' e' (tn.apply h) w' ∧ VR N L' e' w' v v' := by
    rintro a cap rfl ht rfl
    refine .inr ⟨hent _ _, (hnone a cap w).mono ?_⟩
    rintro en w' ⟨rfl, rfl⟩
    exact ⟨L, e, by rw [ht]; exact Nx.refl hr, .tup [] #[] rfl (fun j c hj => by simp at hj)⟩
  unfold sortP at hp
  split at hp <;> first | (cases hp; done) | skip
  rename_i _ x g'
  split at hp <;> first | (cases hp; done) | skip
  rename_i hg
  obtain ⟨v0, hargs, hv0⟩ := key x g' rfl hg
  split at hp <;> first | (cases hp; done) | skip
  · injection hp with hp
    injection hp with e1 e2
    subst e1
    subst e2
    cases hv0 with
    | tl rows a hh => exact fin0 a 0 hargs (by cases h; simp [Tn.apply]) rfl
  · rename_i id0 ver off len
    split at hp <;> first | (cases hp; done) | skip
    rename_i a ha
    obtain ⟨ha1, ha2⟩ := ownArr_spec ha
    split at hp
    · rename_i hl
      subst hl
      injection hp with hp
      injection hp with e1 e2
      subst e1
      subst e2
      cases hv0 with
      | own _ _ _ _ a' cap _ _ _ _ => exact fin0 a' cap hargs (by cases h; simp [Tn.apply]) rfl
    · rename_i hl
      split at hp <;> first | (cases hp; done) | skip
      rename_i rows hb
      split at hp <;> first | (cases hp; done) | skip
      rename_i hc
      obtain ⟨hak, hol, hm⟩ := hc
      split at hp <;> first | (cases hp; done) | skip
      rename_i news hnews
      injection hp with hp
      injection hp with e1 e2
      subst e1
      subst e2
      unfold sortRows at hnews
      split at hnews <;> first | (cases hnews; done) | skip
      rename_i l hl2
      split at hnews <;> first | (cases hnews; done) | skip
      rename_i hris
      injection hnews with hnews
      subst hnews
      obtain ⟨m1, m2⟩ := mapO_some hl2
      have hcut : ((rows.drop off).take len).length = len := by simp only [List.length_take, List.length_drop]; omega
      have hrl : (rows.drop off).take len = l.map enc := by
        apply List.ext_getElem?
        intro i
        rw [List.getElem?_map]
        rcases Nat.lt_or_ge i len with hi | hi
        · have h1 : ((rows.drop off).take len)[i]? = some (((rows.drop off).take len)[i]'(by omega)) := List.getElem?_eq_getElem (by omega)
          have h2 : l[i]? = some (l[i]'(by omega)) := List.getElem?_eq_getElem (by omega)
          rw [h2, h1]
          exact congrArg some (hde _ _ (m2 i _ _ h1 h2)).symm
        · rw [List.getElem?_eq_none (by omega), List.getElem?_eq_none (by omega)]
          rfl
      have hll : l.length = len := by omega
      have hk' : a.k ≠ 0 := by rw [hak]; exact hk0
      obtain ⟨v1, v2, v3, _⟩ := hr.ver id0 a ha1
      have hid : id0 < e.na := by rw [hr.na]; exact (List.getElem?_eq_some_iff.1 ha1).1
      cases hv0 with
      | own _ _ _ _ a' cap g0 g1 g2 g3 =>
        obtain ⟨k1, k2, k3, k4⟩ := g3 (by rw [v1, ha2])
        have ha' := k4 (by omega)
        subst ha'
        have hH : Holds id w (e.ar id0) (e.ad id0 + off * a.k) (flatK (venc enc) k l.toArray) := by
          refine holds_row hr ha1 hb hk' hol ?_ _ (by simp [hll, hak]) ?_
          · intro r hr' c hc
            rw [hrl] at hr'
            obtain ⟨y, _, rfl⟩ := List.mem_map.1 hr'
            exact hsc y c hc
          · intro i j c hc
            rw [hrl] at hc
            rw [hak]
            exact flat_enc hk l i j c hc
        have hblk := hr.lt_ar hid (by rw [v2]; exact hk')
        rw [hargs]
        refine .inr ⟨hent _ _, ?_⟩
        have hcall := hcon (e.ar id0) (e.ad id0 + off * e.ak id0) cap l.toArray w (by rw [v2]; exact hH) hblk (by simp [hll]; unfold mostRows at hm; omega)
        rw [show l.toArray.size = len by simp [hll]] at hcall
        refine hcall.mono ?_
        rintro en w' ⟨rfl, d', n, os, hp1, hp2, rfl⟩
        have hd' : d' = (isort lt l).toArray := by
          obtain ⟨p1, p2, p3⟩ := hp1
          have hsz : d'.size = len := by simpa [hll] using p1
          have hperm : d'.toList.Perm l := by
            have e1 : d'.extract 0 len = d' := by rw [← hsz]; exact Array.extract_size
            have e2 : l.toArray.extract 0 len = l.toArray := by rw [show len = l.toArray.size by simp [hll]]; exact Array.extract_size
            rw [e1, e2] at p3
            simpa using p3
          have hsort : d'.toList.Pairwise (fun a b => lt b a = false) := by
            rw [List.pairwise_iff_getElem]
            intro i j hi hj hij
            have := hp2 i j (Nat.zero_le _) hij (by rw [← hsz]; simpa using hj)
            rw [getElem!_pos d' i (by simpa using hi), getElem!_pos d' j (by simpa using hj)] at this
            simpa using this
          have := sorted_uniq (isort lt l) d'.toList (rising_all hO.trans _ hris) hsort (hperm.trans (isort_perm lt l).symm)
          rw [← this]
        subst hd'
        have hlen2 : (isort lt l).length = len := by rw [(isort_perm lt l).length_eq, hll]
        obtain ⟨e', hnx⟩ := inplace hr ha1 hb hk' hol (news := (isort lt l).map enc) (by simp [hlen2]) (by
          intro r hr'
          obtain ⟨y, _, rfl⟩ := List.mem_map.1 hr'
          exact ⟨by rw [hak]; exact hk y, hsc y⟩) (flatK (venc enc) k (isort lt l).toArray) (by simp [hlen2, hak]) (by
          intro i j c hc
          rw [hak]
          exact flat_enc hk _ i j c hc) n os _ hH (by simp [hll, hlen2])
        refine ⟨L, e', ?_, .tup [] #[] rfl (fun j c hj => by simp at hj)⟩
        rw [apply_arr0, ← ha2, ← hak]
        have : Go.Proofs.sortWorldK (venc enc) a.k w (e.ar id0) (e.ad id0 + off * e.ak id0) n (isort lt l).toArray os = grow (putRow id (Sort.ahead w n) (e.ar id0) (e.ad id0 + off * a.k) (flatK (venc enc) k (isort lt l).toArray)) os := by
          rw [v2, hak]
          rfl
        rw [this]
        exact hnx

end Go.Pv

/-
  A function that compares, called by a sort: its contract in the sort's own words.
-/
namespace Go.Pv
open Go.Sort
variable {P : Program} {N : Nat → Nat} {W : Nat → Prop} {L : Lx} {e : Emb} {h : Heap} {w w' : World}

/-- A world that has only grown. -/
theorem Fr.grown (hf : Fr (Wc w none) w w') : ∃ q os, w' = grow (w.drewN q) os := by
  refine ⟨w'.drawn - w.drawn, w'.heap.extract w.heap.size w'.heap.size, ?_⟩
  obtain ⟨h1, h2, h3, h4, h5, h6⟩ := hf
  have hh : w'.heap = w.heap ++ w'.heap.extract w.heap.size w'.heap.size := by
    apply Array.ext_getElem?
    intro i
    rcases Nat.lt_or_ge i w.heap.size with hi | hi
    · rw [Array.getElem?_append_left hi]
      exact h5 i hi (fun hc => by rcases hc with hc | hc <;> first | omega | cases hc)
    · rw [Array.getElem?_append_right hi, Array.getElem?_extract]
      rcases Nat.lt_or_ge i w'.heap.size with hi2 | hi2
      · rw [if_pos (by omega)]
        congr 1
        omega
      · rw [Array.getElem?_eq_none hi2, if_neg (by omega)]
  obtain ⟨heap, tape, drawn, os, output⟩ := w
  obtain ⟨heap', tape', drawn', os', output'⟩ := w'
  simp only at h1 h2 h3 h4 h5 h6 hh
  subst h1
  subst h2
  subst h3
  show _ = grow (Sort.ahead _ _) _
  simp only [grow, Sort.ahead]
  rw [← hh]
  congr 1
  show drawn' = drawn + (drawn' - drawn)
  omega

theorem scal_one {p : PV} (hp : scal p = true) : p.one = true := by
  cases p <;> simp [scal] at hp <;> rfl

theorem plain_args {ps : List PV} (hp : ∀ c ∈ ps, scal c = true) : PVR N L w (.agg ps) (.agg (ps.map sv).toArray) := by
  refine .agg _ _ (by simp) (fun j c hj => ?_) (fun c hc => scal_one (hp c hc))
  have : (ps.map sv).toArray.getD j undef = sv c := by
    simp [Array.getD_eq_getD_getElem?, hj]
  rw [this]
  exact scal_pvr (hp c (List.mem_of_getElem? hj))

/-- What a function that makes nothing but new blocks gives. -/
theorem fnr_calls {g : Nat} {ps : List PV} {k : IntKind} {n : Int} (hF : FnR P N g ps [.int k n]) {args : Array Value} (w : World)
    (eg : ∀ args w, (callFunc (N g) args).run P w = .ok (.enter (N g) args) w) (hl : args.toList.length = ps.length) (ha : ∀ (j : Nat) (p : PV), ps[j]? = some p → ∃ v, args.toList[j]? = some v ∧ PVR N (fun _ _ => False) w p v) :
    Calls P (N g) args w fun e w' => e = .returned (.int k n) ∧ ∃ q os', w' = grow (w.drewN q) os' := by
  have hc := hF (fun _ _ => False) w none args (fun _ _ h => h.elim) (.plain _ _ hl ha)
  rcases hc with ⟨v, w', h1, h2⟩ | ⟨h1, h2⟩
  · rw [eg] at h1
    cases h1
  · refine h2.mono fun en w' hh => ?_
    cases en with
    | returned v =>
      obtain ⟨L1, bs, vals, f1, f2, f3, f4, f5, f6, f7, rfl⟩ := hh
      refine ⟨?_, f1.grown⟩
      cases f5 with
      | cons p u b1 ps vs b2 q1 q2 =>
        cases q2
        cases q1 with
        | cell _ _ _ q =>
          cases q with
          | keep _ _ _ q => cases q; rfl
    | panicked => exact hh.elim
    | outgrown => exact hh.elim

theorem fnr_lays {α : Type} [Inhabited α] {g : Nat} {enc : α → List PV} (hsc : ∀ x, ∀ c ∈ enc x, scal c = true) {cf : α → α → Int} (hF : ∀ x y, FnR P N g [.agg (enc x), .agg (enc y)] [.int .i64 (cf x y)])
    (eg : ∀ args w, (callFunc (N g) args).run P w = .ok (.enter (N g) args) w) (k blk off size : Nat) (w : World) : Go.Proofs.CmpLays P (N g) #[] (venc enc) k cf blk off size w := by
  intro m os dk hs x y
  refine fnr_calls (hF x y) _ eg rfl fun j p hj => ?_
  match j, hj with
  | 0, hj =>
    cases hj
    exact ⟨_, rfl, plain_args (hsc x)⟩
  | 1, hj =>
    cases hj
    exact ⟨_, rfl, plain_args (hsc y)⟩
  | j + 2, hj => simp at hj

end Go.Pv

/-
  slices.Clone: what it does, for the interpreter.
-/
namespace Go.Proofs
open Go.Shelf Go.RowKit Go.Lib
variable {P : Program} {ρ : Ren}

theorem pv_append_zero {ops : Array Oper} {rest : List Oper} {o : Oper} {a : Act} {w : World} {Q : Exit → Act → World → Prop} (hgd : o.guard = none) (s x : Operand) (t : TypeId)
    (ho : o.op = .call { callee := .builtin .append, args := #[s, x], argTypes := #[t, t] }) (e : TypeId) (i : TypeInfo) (ht : P.underlying t = some (.slice e)) (hi : P.info? e = some i)
    (g : Nat) (hg : w.heap[g]? = some (.cells #[] e (0, 0))) (hs : a.eval s = .slice (some ⟨g, 0, none⟩) 0 0) (ad : Addr) (c : Nat) (hx : a.eval x = .slice (some ad) 0 c)
    (h : wpList P ops Q rest (a.put o.dst (.slice (some ⟨g, 0, none⟩) 0 0)) w) : wpList P ops Q (o :: rest) a w := by
  refine wpList_plain hgd fun K hK => ?_
  have hr := run_append_room (P := P) w t o.type e i ht hi g 0 0 #[] hg ad 0 c [] (by simp) (fun j u hj => by simp at hj) (fun u hu => by simp at hu) (Nat.le_refl _) (by simp)
  have hw : w.setRow g (([] : List Value).take (0 * i.size) ++ [] ++ ([] : List Value).drop (0 * i.size + ([] : List Value).length)).toArray = w := by
    simp only [List.take_nil, List.drop_nil, List.append_nil]
    unfold World.setRow
    have : w.heap.modify g (fun | .cells _ t f => .cells #[] t f | o => o) = w.heap := by
      apply Array.ext_getElem?
      intro k
      rw [Array.getElem?_modify]
      split
      · rename_i hk
        subst hk
        rw [hg]
        rfl
      · rfl
    first | rw [this] | (congr 1)
  rw [show (#[] : Array Value).toList = [] from rfl, hw] at hr
  unfold Oper.wp execOp
  simp only [ho, resolve, invoke, builtin, Sem.run_bind, Sem.run_pure, Result.andThen_ok, List.map_toArray, List.map_cons, List.map_nil, hs, hx, hr]
  exact hK _ _ h

set_option maxHeartbeats 1000000 in
/-- slices.Clone of an empty slice that is not nil. -/
theorem pv_clone_empty (L : SlLaysE0.n41 P ρ) (i0 : TypeInfo) (z : Value) (hi : P.info? (ρ.t 23) = some i0) (hz0 : i0.zero = some z)
    (z23 : ∀ w, (Go.sizeOf (ρ.t 23)).run P w = .ok i0.size w) (ad : Addr) (c : Nat) (w : World) :
    Calls P (ρ.f 41) #[.slice (some ad) 0 c] w fun e w' => ∃ g, e = .returned (.slice (some ⟨g, 0, none⟩) 0 0) ∧ w' = w.alloc (.cells #[] (ρ.t 23)) := by
  have mixed := L.mixed; have t4 := L.t4; have a4 := L.a4; have z4 := L.z4; have v4 := L.v4; have t22 := L.t22; have a22 := L.a22; have z22 := L.z22; have v22 := L.v22
  have q22 : ∀ (w : World) (a : Option Addr) (n c n' c' : Nat), (binOp .eql (ρ.t 22) (.slice a n c) (.slice none n' c')).run P w = .ok (.bool a.isNone) w := fun w a n c n' c' => Lib.run_eql_slice_nil w _ _ a n c n' c' L.t22
  have u22 : ∀ w, Sem.run P (underlying (ρ.t 22)) w = .ok (TypeDesc.slice (ρ.t 23)) w := run_underlying t22
  obtain ⟨_, _, FG⟩ := L.f41
  go_enter FG, SlBodyN.n41_ntmps ρ
  go_wp2_with (at_builtin; refine pv_append_zero rfl _ _ (ρ.t 22) rfl (ρ.t 23) i0 t22 hi w.heap.size ?qc1 rfl ad c rfl ?_)
  case qc1 => exact heap_alloc_new w _
  go_wp2
  go_ret
  exact ⟨_, rfl, rfl⟩

theorem pv_append_grow {ops : Array Oper} {rest : List Oper} {o : Oper} {a : Act} {w : World} {Q : Exit → Act → World → Prop} (hgd : o.guard = none) (s x : Operand) (t : TypeId)
    (ho : o.op = .call { callee := .builtin .append, args := #[s, x], argTypes := #[t, t] }) (e : TypeId) (i : TypeInfo) (z : Value) (ht : P.underlying t = some (.slice e)) (hi : P.info? e = some i) (hz : i.zero = some z) (zc : Array Value) (hzc : z.cells = zc)
    (g : Nat) (hs : a.eval s = .slice (some ⟨g, 0, none⟩) 0 0) (ad : Addr) (n c : Nat) (hx : a.eval x = .slice (some ad) n c) (news : List Value) (hl : news.length = n * i.size) (hnews : ∀ j v, news[j]? = some v → w.cell? (ad.add j) = some v)
    (hn : 0 < n) (hm : n ≤ maxLen) (hb : n * i.bytes ≤ 140737488355328)
    (h : wpList P ops Q rest (a.put o.dst (.slice (some ⟨w.heap.size, 0, none⟩) n (grownCap w n 0 e))) (w.drew.alloc (.cells (news.toArray ++ Builtin.zeroCells zc (grownCap w n 0 e - n)) e))) : wpList P ops Q (o :: rest) a w := by
  subst hzc
  refine wpList_plain hgd fun K hK => ?_
  have hr := run_append_grow (P := P) w t o.type e i z ht hi hz ⟨g, 0, none⟩ 0 0 [] (by simp) (fun j v hj => by simp at hj) ad n c news hl hnews (by omega) (by unfold maxLen at hm; omega) (by rw [Nat.zero_add, nextslicecap_zero hn]; omega)
  simp only [Nat.zero_add, List.nil_append, Array.empty_append] at hr
  unfold Oper.wp execOp
  simp only [ho, resolve, invoke, builtin, Sem.run_bind, Sem.run_pure, Result.andThen_ok, List.map_toArray, List.map_cons, List.map_nil, hs, hx, hr]
  exact hK _ _ h

/-- What slices.Clone makes of n elements. -/
def cloneWorld (w : World) (e : TypeId) (zc : Array Value) (n : Nat) (news : List Value) : World :=
  (w.alloc (.cells #[] e)).drew.alloc (.cells (news.toArray ++ Builtin.zeroCells zc (grownCap (w.alloc (.cells #[] e)) n 0 e - n)) e)

set_option maxHeartbeats 1000000 in
/-- slices.Clone of a slice that is not empty. -/
theorem pv_clone_some (L : SlLaysE0.n41 P ρ) (i0 : TypeInfo) (z : Value) (hi : P.info? (ρ.t 23) = some i0) (hz0 : i0.zero = some z) (zc : Array Value) (hzc : z.cells = zc)
    (z23 : ∀ w, (Go.sizeOf (ρ.t 23)).run P w = .ok i0.size w) (ad : Addr) (n c : Nat) (news : List Value) (w : World) (hl : news.length = n * i0.size) (hn0 : 0 < n) (hn : n ≤ maxLen) (hbig : n * i0.bytes ≤ 140737488355328)
    (hc : ∀ j u, news[j]? = some u → w.cell? (ad.add j) = some u) :
    Calls P (ρ.f 41) #[.slice (some ad) n c] w fun e w' => e = .returned (.slice (some ⟨w.heap.size + 1, 0, none⟩) n (grownCap (w.alloc (.cells #[] (ρ.t 23))) n 0 (ρ.t 23))) ∧ w' = cloneWorld w (ρ.t 23) zc n news := by
  have mixed := L.mixed; have t4 := L.t4; have a4 := L.a4; have z4 := L.z4; have v4 := L.v4; have t22 := L.t22; have a22 := L.a22; have z22 := L.z22; have v22 := L.v22
  have q22 : ∀ (w : World) (a : Option Addr) (n c n' c' : Nat), (binOp .eql (ρ.t 22) (.slice a n c) (.slice none n' c')).run P w = .ok (.bool a.isNone) w := fun w a n c n' c' => Lib.run_eql_slice_nil w _ _ a n c n' c' L.t22
  have u22 : ∀ w, Sem.run P (underlying (ρ.t 22)) w = .ok (TypeDesc.slice (ρ.t 23)) w := run_underlying t22
  have A : Aside (∀ j u, news[j]? = some u → w.cell? (ad.add j) = some u) := hc
  clear hc
  unfold cloneWorld
  obtain ⟨_, _, FG⟩ := L.f41
  go_enter FG, SlBodyN.n41_ntmps ρ
  go_wp2_with (at_builtin; refine pv_append_grow rfl _ _ (ρ.t 22) rfl (ρ.t 23) i0 z t22 hi hz0 zc hzc w.heap.size rfl ad n c rfl news ?qc1 ?qc2 ?qc3 ?qc4 ?qc5 ?_)
  case qc1 => exact hl
  case qc2 =>
    intro j u hj
    exact Lib.cell?_alloc_some _ (A.out j u hj)
  case qc3 => exact hn0
  case qc4 => exact hn
  case qc5 => exact hbig
  go_wp2
  go_ret
  exact ⟨by simp, rfl⟩

end Go.Proofs

/-
  slices.Clone, for the interpreter's state.
-/
namespace Go.Pv
open Go.Shelf
variable {P : Program} {N : Nat → Nat} {W : Nat → Prop} {L : Lx} {e : Emb} {h : Heap} {w : World}

def cloneP (k : Nat) : List V → Heap → Option (V × Tn)
  | [x], h => match srcRows h x with
    | some (.inl rows, rd) => if rowsFit k (.inl rows) = true ∧ rows.length ≤ mostRows then
        (if rows.length = 0 then some (.tl [], { ra := rd }) else some (.own h.ar.length 0 0 rows.length, { push := [⟨0, k, .inl rows⟩], ra := rd, base := h.ar.length })) else none
    | _ => none
  | _, _ => none

theorem PVR.nil (a : Option Addr) : PVR N L w (.lst 0 []) (.slice a 0 0) :=
  .lst 0 [] a ⟨0, 0, none⟩ 0 0 (fun _ _ => undef) (fun r hr => by simp at hr) (Nat.le_refl _) (fun h => by simp at h) (fun i j c hc => by simp [at2] at hc) (fun i j c hc => by simp [at2] at hc) (fun _ i j c hc => by simp [at2] at hc) (fun i j c hc => by simp [at2] at hc)

theorem cloneP_ok {ρ : Ren} (LL : Go.Proofs.SlLaysE0.n41 P ρ) {fn : Nat} (hfn : N fn = ρ.f 41) {k : Nat} (hk : k ≠ 0) (i0 : TypeInfo) (z : Value) (hi : P.info? (ρ.t 23) = some i0) (hz0 : i0.zero = some z) (hzs : z.cells.size = k) (his : i0.size = k) (hby : i0.bytes ≤ 32768)
    (z23k : ∀ w, (Go.sizeOf (ρ.t 23)).run P w = .ok k w) (hent : ∀ args w, (callFunc (N fn) args).run P w = .ok (.enter (N fn) args) w)
    {vs : List V} {args : Array Value} {v : V} {tn : Tn} (hp : cloneP k vs h = some (v, tn)) (hr : HR N L e W h w)
    (hs : args.size = vs.length) (hv : ∀ (j : Nat) (x : V), vs[j]? = some x → VR N L e w x (args.getD j undef)) :
    CallGood P (N fn) args w fun v' w' => ∃ L' e', Nx N W L e w L' e' (tn.apply h) w' ∧ VR N L' e' w' v v' := by
  have z23 : ∀ w, (Go.sizeOf (ρ.t 23)).run P w = .ok i0.size w := fun w => by rw [his]; exact z23k w
  unfold cloneP at hp
  split at hp <;> first | (cases hp; done) | skip
  rename_i x
  split at hp <;> first | (cases hp; done) | skip
  rename_i rows rd hsrc
  split at hp <;> first | (cases hp; done) | skip
  rename_i hc
  obtain ⟨hfit, hmost⟩ := hc
  have hargs : ∃ v0, args = #[v0] ∧ VR N L e w x v0 := by
    have h0 := hv 0 x rfl
    have hsz : args.size = 1 := hs
    obtain ⟨l⟩ := args
    match l, hsz with
    | [v0], _ => exact ⟨v0, rfl, h0⟩
  obtain ⟨v0, rfl, hv0⟩ := hargs
  obtain ⟨B, c, ad, vals, rfl, s1, s2, s3, s4, s5⟩ := src_rows hr hv0 hsrc hfit hk
  have hlen : rowsLen (.inl rows : Sum (List (List PV)) (List (List V))) = rows.length := rfl
  rw [hlen] at s1 ⊢
  split at hp
  · rename_i h0
    injection hp with hp
    injection hp with e1 e2
    subst e1
    subst e2
    rw [h0]
    have hap : Tn.apply { ra := rd } h = h := by cases h; simp [Tn.apply]
    rw [hap]
    have h2 : VR N L e w (.tl []) (.slice none 0 0) := .tl [] none (PVR.nil _)
    cases B with
    | none =>
      refine .inr ⟨hent _ _, ?_⟩
      rw [hfn]
      refine (Go.Proofs.AnyE.slices_Clone_nil LL 0 c w).mono ?_
      rintro en w' ⟨rfl, rfl⟩
      exact ⟨L, e, Nx.refl hr, h2⟩
    | some a =>
      refine .inr ⟨hent _ _, ?_⟩
      rw [hfn]
      refine (Go.Proofs.pv_clone_empty LL i0 z hi hz0 z23 a c w).mono ?_
      rintro en w' ⟨g, rfl, rfl⟩
      exact ⟨L, e, Nx.idle hr _, .tl [] _ (PVR.nil _)⟩
  · rename_i h0
    injection hp with hp
    injection hp with e1 e2
    subst e1
    subst e2
    have hB := s1 (by omega)
    subst hB
    refine .inr ⟨hent _ _, ?_⟩
    rw [hfn]
    have hvl : vals.length = rows.length * k := by rw [s2.1, rowsOf_len]; rfl
    refine (Go.Proofs.pv_clone_some LL i0 z hi hz0 z.cells rfl z23 ad rows.length c vals w (by rw [his]; exact hvl) (by omega) (by unfold maxLen; unfold mostRows at hmost; omega) (by
      have : rows.length * i0.bytes ≤ 2147483648 * 32768 := Nat.mul_le_mul hmost hby
      omega) s3).mono ?_
    rintro en w' ⟨rfl, rfl⟩
    unfold Go.Proofs.cloneWorld
    have n1 := Nx.idle hr (.cells #[] (ρ.t 23))
    have n2 := Nx.drew n1.hr
    have n12 := n1.trans n2
    have hG := grownCap_ge (w.alloc (.cells #[] (ρ.t 23))) rows.length 0 (ρ.t 23)
    generalize grownCap (w.alloc (.cells #[] (ρ.t 23))) rows.length 0 (ρ.t 23) = G at hG ⊢
    have hsz : (vals.toArray ++ Builtin.zeroCells z.cells (G - rows.length)).size = G * k := by
      simp only [Array.size_append, List.size_toArray, size_zeroCells, hzs, hvl, ← Nat.add_mul]
      congr 1
      omega
    obtain ⟨n3, v3⟩ := new_arr n2.hr hk (n := rows.length) (c := G) (body := .inl rows) (arr := vals.toArray ++ Builtin.zeroCells z.cells (G - rows.length)) (el := ρ.t 23) (by
      rw [Array.toList_append, List.take_append_of_le_length (by simp [hvl])]
      rw [show (vals.toArray.toList).take (rows.length * k) = vals by simp [← hvl]]
      exact s2.mono n12.ext) rfl hG (by rw [hsz]; exact Nat.le_refl _) s4
    refine ⟨L, _, by rw [Tn.apply_push]; exact n12.trans n3, ?_⟩
    have hheap : ((w.alloc (.cells #[] (ρ.t 23))).drew).heap.size = w.heap.size + 1 := by simp [World.drew]
    rw [← hheap]
    exact v3

end Go.Pv

/-
  Functions that are taken by contracts of their own: what is asked of each, and a table of them.
-/
namespace Go.Pv

abbrev Prim := List V → Heap → Option (V × Tn)

/-- It looks at what it names alone, and lays what is new behind the rest. -/
structure Prim.Law (pr : Prim) : Prop where
  loc : ∀ vs h1 h2 v t, pr vs h1 = some (v, t) → Agree t h1 h2 → pr vs h2 = some (v, t)
  fit : ∀ vs h v t, pr vs h = some (v, t) → t.fit h

/-- What a function of the program does is what is said of it. -/
def Prim.Ok (P : Program) (N : Nat → Nat) (fn : Nat) (pr : Prim) : Prop :=
  ∀ (L : Lx) (e : Emb) (W : Nat → Prop) (h : Heap) (w : World) (vs : List V) (args : Array Value) (v : V) (tn : Tn), pr vs h = some (v, tn) → HR N L e W h w →
    args.size = vs.length → (∀ (j : Nat) (x : V), vs[j]? = some x → VR N L e w x (args.getD j undef)) →
    CallGood P (N fn) args w fun v' w' => ∃ L' e', Nx N W L e w L' e' (tn.apply h) w' ∧ VR N L' e' w' v v'

theorem look1_mem {α : Type} {n : Nat} {x : α} : ∀ {l : List (Nat × α)}, look1 n l = some x → (n, x) ∈ l
  | [], h => by cases h
  | (m, y) :: r, h => by
    simp only [look1] at h
    split at h
    · rename_i hm
      cases h
      subst hm
      exact List.mem_cons_self ..
    · exact List.mem_cons_of_mem _ (look1_mem h)

theorem prims_law {l : List (Nat × Prim)} (hl : ∀ x ∈ l, Prim.Law x.2) : PrimLaw (fun n => look1 n l) :=
  ⟨fun fn pr hf => (hl _ (look1_mem hf)).loc, fun fn pr hf => (hl _ (look1_mem hf)).fit⟩

theorem prims_ok {P : Program} {N : Nat → Nat} {l : List (Nat × Prim)} (hl : ∀ x ∈ l, Prim.Ok P N x.1 x.2) : PrimOk P N (fun n => look1 n l) :=
  fun fn pr hf => hl _ (look1_mem hf)

theorem sortP_law (k : Nat) (f : List (List PV) → Option (List (List PV))) (g : Nat) : Prim.Law (sortP k f g) where
  loc := by
    intro vs h1 h2 v t hh ha
    unfold sortP at hh ⊢
    split at hh <;> first | (cases hh; done) | skip
    split at hh <;> first | (cases hh; done) | skip
    rename_i hg
    simp only [hg, if_true]
    split at hh <;> first | (cases hh; done) | skip
    · exact hh
    · rename_i id ver off len
      split at hh <;> first | (cases hh; done) | skip
      rename_i a ho
      have : (t.ra = some id ∨ t.ra2 = some id ∨ ∃ a, t.ar = some (id, a)) → ownArr h2 id ver = some a := fun hi => (ha.own hi).trans ho
      split at hh
      · rename_i h0
        injection hh with hh
        injection hh with e1 e2
        subst e1
        subst e2
        rw [this (.inl rfl)]
        simp only [h0, if_true]
      · rename_i h0
        split at hh <;> first | (cases hh; done) | skip
        rename_i rows hb
        split at hh <;> first | (cases hh; done) | skip
        rename_i hc
        split at hh <;> first | (cases hh; done) | skip
        rename_i news hn
        injection hh with hh
        injection hh with e1 e2
        subst e1
        subst e2
        rw [this (.inr (.inr ⟨_, rfl⟩))]
        simp only [h0, if_false, hb, hn]
        rw [if_pos hc]
  fit := by
    intro vs h v t hh
    unfold sortP at hh
    split at hh <;> first | (cases hh; done) | skip
    split at hh <;> first | (cases hh; done) | skip
    split at hh <;> first | (cases hh; done) | skip
    · injection hh with hh
      injection hh with e1 e2
      subst e2
      exact ⟨fun hp => absurd rfl hp, fun i a hia => by cases hia⟩
    · split at hh <;> first | (cases hh; done) | skip
      rename_i a ho
      split at hh
      · injection hh with hh
        injection hh with e1 e2
        subst e2
        exact ⟨fun hp => absurd rfl hp, fun i a hia => by cases hia⟩
      · split at hh <;> first | (cases hh; done) | skip
        split at hh <;> first | (cases hh; done) | skip
        split at hh <;> first | (cases hh; done) | skip
        injection hh with hh
        injection hh with e1 e2
        subst e2
        refine ⟨fun hp => absurd rfl hp, fun i a' hia => ?_⟩
        cases hia
        exact ownArr_lt ho

theorem cloneP_law (k : Nat) : Prim.Law (cloneP k) where
  loc := by
    intro vs h1 h2 v t hh ha
    unfold cloneP at hh ⊢
    split at hh <;> first | (cases hh; done) | skip
    split at hh <;> first | (cases hh; done) | skip
    rename_i rows rd hs
    split at hh <;> first | (cases hh; done) | skip
    rename_i hc
    split at hh
    · rename_i h0
      injection hh with hh
      injection hh with e1 e2
      subst e1
      subst e2
      rw [srcRows_loc hs (fun i hi => ha.ar i (.inl hi))]
      simp only
      rw [if_pos hc, if_pos h0]
    · rename_i h0
      injection hh with hh
      injection hh with e1 e2
      subst e1
      subst e2
      rw [srcRows_loc hs (fun i hi => ha.ar i (.inl hi))]
      simp only
      rw [if_pos hc, if_neg h0, ha.len (by simp)]
  fit := by
    intro vs h v t hh
    unfold cloneP at hh
    split at hh <;> first | (cases hh; done) | skip
    split at hh <;> first | (cases hh; done) | skip
    split at hh <;> first | (cases hh; done) | skip
    split at hh
    all_goals
      injection hh with hh
      injection hh with e1 e2
      subst e2
      refine ⟨fun hp => ?_, fun i a hia => by cases hia⟩
      first | rfl | exact absurd rfl hp

end Go.Pv

/-
  The program's data as structures, and their cells.
-/
namespace Go.Pv

structure Edge where
  fr : Int
  send : Bool
  label : Int
  to : Int
  deriving DecidableEq, Inhabited
structure Auto where
  states : Int
  start : Int
  edges : List Edge
  deriving DecidableEq, Inhabited

def Edge.c (e : Edge) : List PV := [.int .i64 e.fr, .bool e.send, .int .i64 e.label, .int .i64 e.to]
@[go_sem] theorem Edge.c_eq (e : Edge) : e.c = [.int .i64 e.fr, .bool e.send, .int .i64 e.label, .int .i64 e.to] := rfl
def Edge.dec : List PV → Option Edge
  | [.int .i64 a, .bool b, .int .i64 c, .int .i64 d] => some ⟨a, b, c, d⟩
  | _ => none
theorem Edge.dec_enc (r : List PV) (x : Edge) (h : Edge.dec r = some x) : x.c = r := by
  unfold Edge.dec at h
  split at h
  · cases h
    rfl
  · cases h
/-- An automaton, its list with a tag. -/
def Auto.p (t : Nat) (a : Auto) : PV := .agg [.int .i64 a.states, .int .i64 a.start, .lst t (a.edges.map Edge.c)]
@[go_sem] theorem Auto.p_eq (t : Nat) (a : Auto) : a.p t = .agg [.int .i64 a.states, .int .i64 a.start, .lst t (a.edges.map Edge.c)] := rfl

/-- Numbers, each a row. -/
def ints (l : List Int) : List (List PV) := l.map fun x => [.int .i64 x]
@[go_sem] theorem ints_length (l : List Int) : (ints l).length = l.length := by simp [ints]
@[go_sem] theorem ints_get (l : List Int) (i : Nat) : (ints l)[i]? = l[i]?.map fun x => [.int .i64 x] := by simp [ints]
@[go_sem] theorem ints_append (l r : List Int) : ints l ++ ints r = ints (l ++ r) := by simp [ints]
@[go_sem] theorem ints_set (l : List Int) (i : Nat) (x : Int) : (ints l).set i [.int .i64 x] = ints (l.set i x) := by simp [ints, List.map_set]

theorem ints_store {id row ver : Nat} {k : IntKind} {x : Int} {l : List Int} (h1 : row < l.length) (hk : k = .i64) : storeRow id row 0 [.pv (.int k x)] ⟨ver, 1, .inl (ints l)⟩ = some { ar := some (id, ⟨ver, 1, .inl (ints (l.set row x))⟩) } := by
  subst hk
  rw [storeRow_one (by rw [ints_length]; exact h1) rfl (.inr ⟨.int .i64 l[row], by simp [ints, h1]⟩) rfl, ints_set]
@[go_sem] theorem ints_store64 {id row ver : Nat} {x : Int} {l : List Int} (h1 : row < l.length) : storeRow id row 0 [.pv (.int .i64 x)] ⟨ver, 1, .inl (ints l)⟩ = some { ar := some (id, ⟨ver, 1, .inl (ints (l.set row x))⟩) } := ints_store h1 rfl
@[go_sem] theorem ints_made (n : Nat) (x : Int) : sameRows n [.pv (.int .i64 x)] = .inl (ints (List.replicate n x)) := by
  simp [sameRows, mapO, V.purec, PV.perm, ints]
@[go_sem] theorem ints_take (l : List Int) (n : Nat) : (ints l).take n = ints (l.take n) := by simp [ints]
@[go_sem] theorem ints_drop (l : List Int) (n : Nat) : (ints l).drop n = ints (l.drop n) := by simp [ints]

-- the order of edges
def Edge.side (e : Edge) : Int := if e.send = true then 1 else 0
def cmpI (x y : Int) : Int := if x < y then -1 else if y < x then 1 else 0
def Edge.cmp (a b : Edge) : Int := if cmpI a.fr b.fr ≠ 0 then cmpI a.fr b.fr else if cmpI a.side b.side ≠ 0 then cmpI a.side b.side else cmpI a.label b.label
def Edge.lt (a b : Edge) : Bool := if a.fr ≠ b.fr then decide (a.fr < b.fr) else if a.send ≠ b.send then b.send else decide (a.label < b.label)

theorem Edge.cmp_lt (a b : Edge) : decide (Edge.cmp a b < 0) = Edge.lt a b := by
  unfold Edge.cmp Edge.lt cmpI Edge.side
  by_cases h1 : a.fr = b.fr
  · simp only [h1, Int.lt_irrefl, if_false, ne_eq, not_true_eq_false]
    cases ha : a.send <;> cases hb : b.send <;> simp <;> (repeat' split) <;> simp <;> omega
  · rcases Int.lt_or_gt_of_ne h1 with h | h
    · simp [h, h1]
    · have : ¬ a.fr < b.fr := by omega
      simp [h, h1, this]
theorem Edge.cmp_ge (a b : Edge) : decide (0 ≤ Edge.cmp a b) = !Edge.lt a b := by
  rw [← Edge.cmp_lt]
  by_cases h : 0 ≤ Edge.cmp a b
  · have : ¬ Edge.cmp a b < 0 := by omega
    simp [h, this]
  · have : Edge.cmp a b < 0 := by omega
    simp [h, this]

theorem Edge.swo : Go.Sort.SWO Edge.lt where
  irrefl x := by simp [Edge.lt]
  trans x y z h1 h2 := by
    unfold Edge.lt at *
    by_cases a1 : x.fr = y.fr <;> by_cases a2 : y.fr = z.fr <;> by_cases b1 : x.send = y.send <;> by_cases b2 : y.send = z.send <;> simp_all <;> (try omega)
    all_goals (try (have : ¬ x.fr = z.fr := by omega); simp_all; omega)
  ntrans x y z h1 h2 := by
    unfold Edge.lt at *
    by_cases a1 : x.fr = y.fr <;> by_cases a2 : y.fr = z.fr <;> by_cases b1 : x.send = y.send <;> by_cases b2 : y.send = z.send <;> simp_all <;> (try omega)
    all_goals (try (have : ¬ x.fr = z.fr := by omega); simp_all; omega)

end Go.Pv

/-
  Automata: plain laws.
-/
namespace Go.Pv

/-- An edge of an automaton with n states. -/
def Edge.fits (e : Edge) (n : Int) : Bool := decide (0 ≤ e.fr) && decide (e.fr < n) && decide (0 ≤ e.to) && decide (e.to < n) && decide (1 ≤ e.label) && decide (e.label ≤ 1000)
/-- Edges fit and ascend. -/
def chk (n : Int) : Option Edge → List Edge → Bool
  | _, [] => true
  | p, e :: r => e.fits n && (match p with | none => true | some q => Edge.lt q e) && chk n (some e) r
/-- The error of an automaton. -/
def Auto.err (a : Auto) : Int := if 12 < a.states ∨ 100 < a.edges.length then 3 else if 0 ≤ a.start ∧ a.start < a.states then (if chk a.states none a.edges = true then 0 else 1) else 1
/-- What stands ahead of a place. -/
def ahead1 (l : List Edge) (k : Nat) : Option Edge := if k = 0 then none else l[k - 1]?
theorem ahead1_succ {l : List Edge} {k : Nat} : ahead1 l (k + 1) = l[k]? := by simp [ahead1]

end Go.Pv

/-
  Numbers of lists of actions: plain laws.
-/
namespace Go.Pv

theorem chk_fits {n : Int} : ∀ {p : Option Edge} {l : List Edge}, chk n p l = true → ∀ e ∈ l, e.fits n = true
  | _, [], _, e, he => by simp at he
  | p, x :: r, h, e, he => by
    simp only [chk, Bool.and_eq_true] at h
    rcases List.mem_cons.1 he with rfl | he
    · exact h.1.1
    · exact chk_fits h.2 e he
theorem fits_iff {e : Edge} {n : Int} : e.fits n = true ↔ 0 ≤ e.fr ∧ e.fr < n ∧ 0 ≤ e.to ∧ e.to < n ∧ 1 ≤ e.label ∧ e.label ≤ 1000 := by
  simp [Edge.fits, and_assoc]
/-- What an automaton without an error has. -/
theorem Auto.err_zero {a : Auto} (h : a.err = 0) : a.states ≤ 12 ∧ a.edges.length ≤ 100 ∧ 0 ≤ a.start ∧ a.start < a.states ∧ chk a.states none a.edges = true := by
  unfold Auto.err at h
  split at h
  · cases h
  · split at h
    · split at h
      · rename_i h1 h2 h3
        exact ⟨by omega, by omega, h2.1, h2.2, h3⟩
      · cases h
    · cases h

/-- One edge counted. -/
def cntE (l nx : List Int) (e : Edge) : List Int := nx.set e.fr.toNat (min (nx.getD e.fr.toNat 0 + l.getD e.to.toNat 0) 1000000000000001)
def cntS (n : Nat) (es : List Edge) (l : List Int) : List Int := es.foldl (cntE l) (List.replicate n 0)
/-- The numbers of lists of k actions from each state, cut. -/
def cntN (n : Nat) (es : List Edge) : Nat → List Int
  | 0 => List.replicate n 1
  | k + 1 => cntS n es (cntN n es k)

def small (l : List Int) : Prop := ∀ i, 0 ≤ l.getD i 0 ∧ l.getD i 0 ≤ 1000000000000001
theorem getD_set {l : List Int} {i j : Nat} {x : Int} : (l.set i x).getD j 0 = if i = j ∧ i < l.length then x else l.getD j 0 := by
  simp only [List.getD_eq_getElem?_getD, List.getElem?_set]
  by_cases h : i = j
  · subst h
    by_cases h2 : i < l.length
    · simp [h2]
    · simp [h2]
  · simp [h]
theorem small_rep (n : Nat) {x : Int} (h : 0 ≤ x ∧ x ≤ 1000000000000001) : small (List.replicate n x) := by
  intro i
  simp only [List.getD_eq_getElem?_getD, List.getElem?_replicate]
  split <;> simp <;> omega
theorem cntE_len (l nx : List Int) (e : Edge) : (cntE l nx e).length = nx.length := by simp [cntE]
theorem cntE_small {l nx : List Int} {e : Edge} (hl : small l) (hn : small nx) : small (cntE l nx e) := by
  intro i
  unfold cntE
  rw [getD_set]
  have h1 := hl e.to.toNat
  have h2 := hn e.fr.toNat
  have h3 := hn i
  split <;> omega
theorem fold_len {l : List Int} : ∀ (es : List Edge) (nx : List Int), (es.foldl (cntE l) nx).length = nx.length
  | [], _ => rfl
  | e :: r, nx => by rw [List.foldl_cons, fold_len r, cntE_len]
theorem fold_small {l : List Int} (hl : small l) : ∀ (es : List Edge) (nx : List Int), small nx → small (es.foldl (cntE l) nx)
  | [], _, h => h
  | e :: r, nx, h => fold_small hl r _ (cntE_small hl h)
theorem cntN_len (n : Nat) (es : List Edge) : ∀ k, (cntN n es k).length = n
  | 0 => by simp [cntN]
  | k + 1 => by simp [cntN, cntS, fold_len]
theorem cntN_small (n : Nat) (es : List Edge) : ∀ k, small (cntN n es k)
  | 0 => small_rep n (by omega)
  | k + 1 => fold_small (cntN_small n es k) es _ (small_rep n (by omega))
/-- The part of a count that some edges make. -/
def cntP (n : Nat) (es : List Edge) (l : List Int) (j : Nat) : List Int := (es.take j).foldl (cntE l) (List.replicate n 0)
theorem cntP_succ {n : Nat} {es : List Edge} {l : List Int} {j : Nat} {e : Edge} (h : es[j]? = some e) : cntP n es l (j + 1) = cntE l (cntP n es l j) e := by
  unfold cntP
  rw [List.take_add_one, h]
  simp [List.foldl_append]
theorem cntP_all {n : Nat} {es : List Edge} {l : List Int} {j : Nat} (h : es.length ≤ j) : cntP n es l j = cntS n es l := by
  unfold cntP cntS
  rw [List.take_of_length_le h]
theorem cntP_len (n : Nat) (es : List Edge) (l : List Int) (j : Nat) : (cntP n es l j).length = n := by simp [cntP, fold_len]
theorem cntP_small {n : Nat} {es : List Edge} {l : List Int} (hl : small l) (j : Nat) : small (cntP n es l j) := fold_small hl _ _ (small_rep n (by omega))
theorem getD_some {l : List Int} {i : Nat} (h : i < l.length) : l[i]? = some (l.getD i 0) := by simp [h]

/-- The number and the error. -/
def Auto.count (a : Auto) (n : Int) : Int × Int :=
  if a.err ≠ 0 then (0, a.err) else if n < 0 ∨ 1000 < n then (0, 7) else
    let v := (cntN a.states.toNat a.edges n.toNat).getD a.start.toNat 0
    if 1000000000000000 < v then (0, 3) else (v, 0)

theorem Auto.count_err {a : Auto} {n : Int} (h : ¬ a.err = 0) : a.count n = (0, a.err) := by
  unfold Auto.count
  rw [if_pos h]
theorem Auto.count_range {a : Auto} {n : Int} (h : a.err = 0) (h2 : n < 0 ∨ 1000 < n) : a.count n = (0, 7) := by
  unfold Auto.count
  rw [if_neg (by simp [h]), if_pos h2]
theorem Auto.count_val {a : Auto} {n : Int} (h : a.err = 0) (h2 : ¬ n < 0) (h3 : ¬ 1000 < n) {v : Int} (hv : (cntN a.states.toNat a.edges n.toNat).getD a.start.toNat 0 = v) : a.count n = if 1000000000000000 < v then (0, 3) else (v, 0) := by
  unfold Auto.count
  rw [if_neg (by simp [h]), if_neg (by omega)]
  simp only [hv]
/-- The first k are one. -/
def onesTo (n k : Nat) : List Int := List.replicate k 1 ++ List.replicate (n - k) 0
theorem onesTo_zero (n : Nat) : onesTo n 0 = List.replicate n 0 := by simp [onesTo]
theorem onesTo_all (n : Nat) : onesTo n n = List.replicate n 1 := by simp [onesTo]
@[go_sem] theorem onesTo_len {n k : Nat} (h : k ≤ n) : (onesTo n k).length = n := by simp [onesTo]; omega
theorem onesTo_succ {n k : Nat} (h : k < n) : (onesTo n k).set k 1 = onesTo n (k + 1) := by
  unfold onesTo
  rw [List.set_append_right _ _ (by simp)]
  obtain ⟨m, hm⟩ : ∃ m, n - k = m + 1 := ⟨n - k - 1, by omega⟩
  have : n - (k + 1) = m := by omega
  rw [hm, this, List.replicate_succ' (n := k), List.append_assoc]
  simp [List.replicate_succ]

/-- The arrays of a count after k rounds. -/
def cntA (n : Nat) (es : List Edge) (k : Nat) : List Arr := (List.range (k + 1)).map fun i => ⟨0, 1, .inl (ints (cntN n es i))⟩
@[go_sem] theorem cntA_len (n : Nat) (es : List Edge) (k : Nat) : (cntA n es k).length = k + 1 := by simp [cntA]
theorem cntA_get (n : Nat) (es : List Edge) (k : Nat) : (cntA n es k)[k]? = some ⟨0, 1, .inl (ints (cntN n es k))⟩ := by simp [cntA]
theorem cntA_new (n : Nat) (es : List Edge) (k : Nat) (x : Arr) : (cntA n es k ++ [x])[k + 1]? = some x := by
  rw [List.getElem?_append_right (by simp [cntA_len])]
  simp [cntA_len]
theorem cntA_old (n : Nat) (es : List Edge) (k : Nat) (x : Arr) : (cntA n es k ++ [x])[k]? = some ⟨0, 1, .inl (ints (cntN n es k))⟩ := by
  rw [List.getElem?_append_left (by simp [cntA_len]), cntA_get]
theorem cntA_set (n : Nat) (es : List Edge) (k : Nat) (x y : Arr) : (cntA n es k ++ [x]).set (k + 1) y = cntA n es k ++ [y] := by
  rw [List.set_append_right _ _ (by simp [cntA_len])]
  simp [cntA_len]
theorem cntA_succ (n : Nat) (es : List Edge) (k : Nat) : cntA n es k ++ [⟨0, 1, .inl (ints (cntS n es (cntN n es k)))⟩] = cntA n es (k + 1) := by
  unfold cntA
  rw [List.range_succ (n := k + 1), List.map_append]
  rfl

end Go.Pv

/-
  Plain data that a law is given, as structures.
-/
namespace Go.Pv
variable {P : Program}

theorem typed_int {n : Nat} {t : TypeId} {k : IntKind} {cs : List PV} (hu : P.underlying t = some (.int k)) (h : typed P (n + 1) t cs) : ∃ x, cs = [.int k x] ∧ k.min ≤ x ∧ x ≤ k.max := by
  simpa only [typed, hu] using h
theorem typed_bool {n : Nat} {t : TypeId} {cs : List PV} (hu : P.underlying t = some .bool) (h : typed P (n + 1) t cs) : ∃ b, cs = [.bool b] := by
  simpa only [typed, hu] using h
theorem typed_str {n : Nat} {t : TypeId} {cs : List PV} (hu : P.underlying t = some .string) (h : typed P (n + 1) t cs) : ∃ s, cs = [.str s] ∧ s.size ≤ maxLen := by
  simpa only [typed, hu] using h
theorem typed_slice {n : Nat} {t el : TypeId} {cs : List PV} (hu : P.underlying t = some (.slice el)) (h : typed P (n + 1) t cs) : ∃ rows, cs = [.lst 0 rows] ∧ rows.length ≤ maxLen ∧ ∀ r ∈ rows, typed P n el r := by
  simpa only [typed, hu] using h

/-- Cells of some types, one behind the other. -/
def typesOk (P : Program) (n : Nat) : List TypeId → List PV → Prop
  | [], cs => cs = []
  | t :: ts, cs => ∃ r q, cs = r ++ q ∧ typed P n t r ∧ typesOk P n ts q

theorem typed_struct {n : Nat} {t : TypeId} {fs : Array Field} {ts : List TypeId} {cs : List PV} (hu : P.underlying t = some (.struct fs)) (hts : fs.toList.map (·.type) = ts) (h : typed P (n + 1) t cs) : typesOk P n ts cs := by
  simp only [typed, hu] at h
  obtain ⟨parts, h1, rfl, h3⟩ := h
  subst hts
  have key : ∀ (l : List Field) (parts : List (List PV)), parts.length = l.length → (∀ (i : Nat) (f : Field) (r : List PV), l[i]? = some f → parts[i]? = some r → typed P n f.type r) → typesOk P n (l.map (·.type)) parts.flatten := by
    intro l
    induction l with
    | nil => intro parts hl _; simp [List.eq_nil_of_length_eq_zero hl, typesOk]
    | cons f l ih =>
      intro parts hl hp
      match parts, hl with
      | r :: parts, hl => exact ⟨r, parts.flatten, rfl, hp 0 f r rfl rfl, ih parts (by simpa using hl) (fun i g q hg hq => hp (i + 1) g q (by simpa using hg) (by simpa using hq))⟩
  exact key fs.toList parts (by simpa using h1) (fun i f r hf hr => h3 i f r (by simpa using hf) hr)

theorem typed_array {n m : Nat} {t el : TypeId} {cs : List PV} (hu : P.underlying t = some (.array m el)) (h : typed P (n + 1) t cs) : typesOk P n (List.replicate m el) cs := by
  simp only [typed, hu] at h
  obtain ⟨parts, h1, rfl, h3⟩ := h
  subst h1
  clear hu
  induction parts with
  | nil => rfl
  | cons r parts ih => exact ⟨r, parts.flatten, rfl, h3 r (by simp), ih (fun q hq => h3 q (by simp [hq]))⟩

theorem rows_map {α : Type} {c : α → List PV} : ∀ {rows : List (List PV)}, (∀ r ∈ rows, ∃ x, r = c x) → ∃ l : List α, rows = l.map c
  | [], _ => ⟨[], rfl⟩
  | r :: rows, h => by
    obtain ⟨x, rfl⟩ := h r (by simp)
    obtain ⟨l, rfl⟩ := rows_map (rows := rows) (fun q hq => h q (by simp [hq]))
    exact ⟨x :: l, rfl⟩

theorem i64_min : IntKind.min .i64 = -9223372036854775808 := by decide
theorem i64_max : IntKind.max .i64 = 9223372036854775807 := by decide

/-- An edge's type, and an automaton's. -/
structure AutoT (P : Program) (ta tl te ti tb : TypeId) : Prop where
  fa : ∃ fs, P.underlying ta = some (.struct fs) ∧ fs.toList.map (·.type) = [ti, ti, tl]
  fe : ∃ fs, P.underlying te = some (.struct fs) ∧ fs.toList.map (·.type) = [ti, tb, ti, ti]
  l : P.underlying tl = some (.slice te)
  i : P.underlying ti = some (.int .i64)
  b : P.underlying tb = some .bool

/-- Numbers fit. -/
def Edge.r64 (e : Edge) : Prop := (-9223372036854775808 ≤ e.fr ∧ e.fr ≤ 9223372036854775807) ∧ (-9223372036854775808 ≤ e.label ∧ e.label ≤ 9223372036854775807) ∧ (-9223372036854775808 ≤ e.to ∧ e.to ≤ 9223372036854775807)
def Auto.r64 (a : Auto) : Prop := (-9223372036854775808 ≤ a.states ∧ a.states ≤ 9223372036854775807) ∧ (-9223372036854775808 ≤ a.start ∧ a.start ≤ 9223372036854775807) ∧ a.edges.length ≤ 2 ^ 63 - 1 ∧ ∀ e ∈ a.edges, e.r64

theorem edge_typed {ta tl te ti tb : TypeId} (T : AutoT P ta tl te ti tb) {n : Nat} {cs : List PV} (h : typed P (n + 2) te cs) : ∃ e : Edge, cs = e.c ∧ e.r64 := by
  obtain ⟨fs, hu, hts⟩ := T.fe
  obtain ⟨r0, q0, rfl, h0, r1, q1, rfl, h1, r2, q2, rfl, h2, r3, q3, rfl, h3, rfl⟩ := typed_struct hu hts h
  obtain ⟨x, rfl, hx⟩ := typed_int T.i h0
  obtain ⟨b, rfl⟩ := typed_bool T.b h1
  obtain ⟨y, rfl, hy⟩ := typed_int T.i h2
  obtain ⟨z, rfl, hz⟩ := typed_int T.i h3
  rw [i64_min, i64_max] at hx hy hz
  exact ⟨⟨x, b, y, z⟩, rfl, hx, hy, hz⟩

theorem auto_typed {ta tl te ti tb : TypeId} (T : AutoT P ta tl te ti tb) {n : Nat} {cs : List PV} (h : typed P (n + 4) ta cs) : ∃ a : Auto, cs = [.int .i64 a.states, .int .i64 a.start, .lst 0 (a.edges.map Edge.c)] ∧ a.r64 := by
  obtain ⟨fs, hu, hts⟩ := T.fa
  obtain ⟨r0, q0, rfl, h0, r1, q1, rfl, h1, r2, q2, rfl, h2, rfl⟩ := typed_struct hu hts h
  obtain ⟨x, rfl, hx⟩ := typed_int T.i h0
  obtain ⟨y, rfl, hy⟩ := typed_int T.i h1
  obtain ⟨rows, rfl, hl, hr⟩ := typed_slice T.l h2
  rw [i64_min, i64_max] at hx hy
  obtain ⟨l, rfl⟩ := rows_map (c := fun e : {e : Edge // e.r64} => e.1.c) (rows := rows) (fun r hr' => by
    obtain ⟨e, rfl, he⟩ := edge_typed T (hr r hr')
    exact ⟨⟨e, he⟩, rfl⟩)
  refine ⟨⟨x, y, l.map (·.1)⟩, by simp [Function.comp_def], hx, hy, by simpa [maxLen] using hl, ?_⟩
  intro e he
  obtain ⟨e', _, rfl⟩ := List.mem_map.1 he
  exact e'.2

/-- A parameter of a law: what it may be. -/
structure Arg (P : Program) (t : TypeId) (α : Type) where
  pv : α → PV
  ok : α → Prop
  dec : ∀ cs, typed P 12 t cs → ∃ x : α, ok x ∧ argPV P t cs = pv x

theorem isAgg_struct {t : TypeId} {fs : Array Field} (hu : P.underlying t = some (.struct fs)) : isAggT P t = some true := by simp [isAggT, hu]

def autoArg {ta tl te ti tb : TypeId} (T : AutoT P ta tl te ti tb) : Arg P ta Auto where
  pv a := .agg [.int .i64 a.states, .int .i64 a.start, .lst 0 (a.edges.map Edge.c)]
  ok := Auto.r64
  dec cs h := by
    obtain ⟨a, rfl, ha⟩ := auto_typed (n := 8) T h
    obtain ⟨fs, hu, _⟩ := T.fa
    exact ⟨a, ha, by simp only [argPV, isAgg_struct hu, if_true]⟩
def intArg {t : TypeId} {k : IntKind} (hu : P.underlying t = some (.int k)) : Arg P t Int where
  pv n := .int k n
  ok n := k.min ≤ n ∧ n ≤ k.max
  dec cs h := by
    obtain ⟨x, rfl, hx⟩ := typed_int (n := 11) hu h
    have : isAggT P t = some false := by simp [isAggT, hu]
    exact ⟨x, hx, by simp [argPV, this]⟩
def boolArg {t : TypeId} (hu : P.underlying t = some .bool) : Arg P t Bool where
  pv n := .bool n
  ok _ := True
  dec cs h := by
    obtain ⟨x, rfl⟩ := typed_bool (n := 11) hu h
    have : isAggT P t = some false := by simp [isAggT, hu]
    exact ⟨x, trivial, by simp [argPV, this]⟩

theorem law1 {N : Nat → Nat} {f : Nat} {t1 : TypeId} {α : Type} (A1 : Arg P t1 α) (hF : ∀ x, A1.ok x → FnR P N f [A1.pv x] [.bool true]) (css : List (List PV)) (hl : css.length = [t1].length)
    (ht : ∀ (j : Nat) (t : TypeId) (cs : List PV), [t1][j]? = some t → css[j]? = some cs → typed P 12 t cs) : FnR P N f (List.zipWith (argPV P) [t1] css) [.bool true] := by
  match css, hl with
  | [c1], _ =>
    obtain ⟨x, hx, e1⟩ := A1.dec c1 (ht 0 t1 c1 rfl rfl)
    simp only [List.zipWith, e1]
    exact hF x hx
theorem law2 {N : Nat → Nat} {f : Nat} {t1 t2 : TypeId} {α β : Type} (A1 : Arg P t1 α) (A2 : Arg P t2 β) (hF : ∀ x y, A1.ok x → A2.ok y → FnR P N f [A1.pv x, A2.pv y] [.bool true]) (css : List (List PV)) (hl : css.length = [t1, t2].length)
    (ht : ∀ (j : Nat) (t : TypeId) (cs : List PV), [t1, t2][j]? = some t → css[j]? = some cs → typed P 12 t cs) : FnR P N f (List.zipWith (argPV P) [t1, t2] css) [.bool true] := by
  match css, hl with
  | [c1, c2], _ =>
    obtain ⟨x, hx, e1⟩ := A1.dec c1 (ht 0 t1 c1 rfl rfl)
    obtain ⟨y, hy, e2⟩ := A2.dec c2 (ht 1 t2 c2 rfl rfl)
    simp only [List.zipWith, e1, e2]
    exact hF x y hx hy
theorem law3 {N : Nat → Nat} {f : Nat} {t1 t2 t3 : TypeId} {α β γ : Type} (A1 : Arg P t1 α) (A2 : Arg P t2 β) (A3 : Arg P t3 γ) (hF : ∀ x y z, A1.ok x → A2.ok y → A3.ok z → FnR P N f [A1.pv x, A2.pv y, A3.pv z] [.bool true]) (css : List (List PV)) (hl : css.length = [t1, t2, t3].length)
    (ht : ∀ (j : Nat) (t : TypeId) (cs : List PV), [t1, t2, t3][j]? = some t → css[j]? = some cs → typed P 12 t cs) : FnR P N f (List.zipWith (argPV P) [t1, t2, t3] css) [.bool true] := by
  match css, hl with
  | [c1, c2, c3], _ =>
    obtain ⟨x, hx, e1⟩ := A1.dec c1 (ht 0 t1 c1 rfl rfl)
    obtain ⟨y, hy, e2⟩ := A2.dec c2 (ht 1 t2 c2 rfl rfl)
    obtain ⟨z, hz, e3⟩ := A3.dec c3 (ht 2 t3 c3 rfl rfl)
    simp only [List.zipWith, e1, e2, e3]
    exact hF x y z hx hy hz

end Go.Pv

