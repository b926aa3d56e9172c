/-
  What the functions of the law give.
-/
import Derived.Test.YthpgcipmnblhpaaDoorC3
set_option linter.unusedSimpArgs false
set_option linter.unusedVariables false
/-
  The text of a configuration: pieces of its code, as they run.
-/
namespace Go.Pv
variable {A : Nat → Option AFunc} {Pr : Prims}

theorem runs_W {c : AC} {s t : St} {x : Ex} (h : W A Pr c s (fun ex s' => ex = x ∧ s' = t)) : Runs A Pr c s x t := by
  obtain ⟨ex, s', h1, rfl, rfl⟩ := h
  exact h1
theorem runs_WO {l : List AOper} {s t : St} (h : WO A Pr l s (fun s' => s' = t)) : RunsOps A Pr l s t := by
  obtain ⟨s', h1, rfl⟩ := h
  exact h1
def key0 : AC := .region [⟨some 1, .box 1 4 (.tmp 0), none⟩, ⟨some 2, .mov (.val (.pv (.str ⟨#[]⟩))), none⟩] [1] [1]
def key2 : AC := .region [⟨some 8, .fld 0 (.tmp 1), none⟩, ⟨some 9, .load 1 false (.tmp 8), none⟩, ⟨some 10, .fld 1 (.tmp 1), none⟩, ⟨some 11, .load 1 false (.tmp 10), none⟩, ⟨some 12, .lit 1 [.pv (.int .i64 0)] 2 [(0, 1, .tmp 9), (1, 1, .tmp 11)], none⟩, ⟨some 13, .fld 2 (.tmp 1), none⟩, ⟨some 14, .load 1 false (.tmp 13), none⟩, ⟨some 15, .fld 3 (.tmp 1), none⟩, ⟨some 16, .load 1 false (.tmp 15), none⟩, ⟨some 17, .lit 1 [.tl []] 3 [(0, 1, .tmp 12), (1, 1, .tmp 14), (2, 1, .tmp 16)], none⟩, ⟨some 18, .len 0 (.tmp 17), none⟩, ⟨some 19, .mov (.val (.pv (.int .i64 0))), none⟩] [3, 17, 18, 19] []
def key3 : AC := .region [⟨some 20, .bin .lss (.tmp 19) (.tmp 18), none⟩] [3, 17, 18, 19, 20] []
def key20 : AC := .cond (.tmp 20) .skip (.exit 0)
def key4 : AC := .region [⟨some 21, .idx 1 (.tmp 17) (.tmp 19), none⟩, ⟨some 22, .load 1 false (.tmp 21), none⟩, ⟨some 5, .mov (.tmp 22), none⟩] [3, 5, 17, 18, 19] []
def key5 : AC := .region [⟨some 23, .mov (.tmp 5), none⟩, ⟨some 24, .len 0 (.tmp 23), none⟩, ⟨some 25, .mov (.val (.pv (.int .i64 0))), none⟩] [3, 17, 18, 19, 23, 24, 25] []
def key6 : AC := .region [⟨some 26, .bin .lss (.tmp 25) (.tmp 24), none⟩] [3, 17, 18, 19, 23, 24, 25, 26] []
def key26 : AC := .cond (.tmp 26) .skip (.exit 2)
def key7 : AC := .region [⟨some 27, .idx 1 (.tmp 23) (.tmp 25), none⟩, ⟨some 28, .load 1 false (.tmp 27), none⟩, ⟨some 7, .mov (.tmp 28), none⟩] [3, 7, 17, 18, 19, 23, 24, 25] []
def key8 : List AOper := [⟨some 29, .mov (.tmp 7), none⟩, ⟨some 30, .call (.val (.func 194 [])) [.tmp 29], none⟩, ⟨some 31, .bin .add (.tmp 30) (.val (.pv (.str ⟨#[44]⟩))), none⟩]
def key9 : AC := .region [⟨some 33, .bin .add (.tmp 25) (.val (.pv (.int .i64 1))), none⟩, ⟨some 25, .mov (.tmp 33), none⟩] [3, 17, 18, 19, 23, 24, 25] []
def key11 : AC := .region [⟨some 35, .bin .add (.tmp 19) (.val (.pv (.int .i64 1))), none⟩, ⟨some 19, .mov (.tmp 35), none⟩] [3, 17, 18, 19] []
def key12 : List AOper := [⟨some 2, .mov (.tmp 36), none⟩]

section
variable (a b : Int) (l m : List Int) (t u : Nat)
def keyX (k : Nat) : V := if k = 0 then .tl (ints [a, b]) else if k = 1 then .pv (.lst t (ints l)) else .pv (.lst u (ints m))
def keyXL (k : Nat) : List Int := if k = 0 then [a, b] else if k = 1 then l else m
def keyH : Heap := ⟨[], [tomb, ⟨0, 1, .inr [[keyX a b l m t u 0], [keyX a b l m t u 1], [keyX a b l m t u 2]]⟩], []⟩
def keyO (k : Nat) : List (Nat × V) := [(3, .aptr 0 0 0 0), (17, .own 1 0 0 3), (18, .pv (.int .i64 3)), (19, .pv (.int .i64 k))]
def keyI (k j : Nat) : List (Nat × V) := [(3, .aptr 0 0 0 0), (17, .own 1 0 0 3), (18, .pv (.int .i64 3)), (19, .pv (.int .i64 k)), (23, keyX a b l m t u k), (24, .pv (.int .i64 (keyXL a b l m k).length)), (25, .pv (.int .i64 j))]
end
variable {a b : Int} {l m : List Int} {t u : Nat}
def keyN (a b : Int) (l m : List Int) (t u : Nat) (k j : Nat) (n : Int) : List (Nat × V) := [(3, .aptr 0 0 0 0), (7, .pv (.int .i64 n)), (17, .own 1 0 0 3), (18, .pv (.int .i64 3)), (19, .pv (.int .i64 k)), (23, keyX a b l m t u k), (24, .pv (.int .i64 (keyXL a b l m k).length)), (25, .pv (.int .i64 j))]
theorem run0 : Runs A Pr key0 ⟨[(0, .agg [.pv (.int .i64 a), .pv (.int .i64 b), .pv (.lst t (ints l)), .pv (.lst u (ints m))])], ⟨[], [], []⟩⟩ .normal ⟨[(1, .ptr 1 0)], ⟨[(1, [.pv (.int .i64 a), .pv (.int .i64 b), .pv (.lst t (ints l)), .pv (.lst u (ints m))])], [], []⟩⟩ := by
  refine runs_W ?_
  unfold key0
  simp (disch := omega) only [go_sem]
  try first | rfl | exact ⟨rfl, rfl⟩ | (constructor <;> rfl)
theorem run2 : Runs A Pr key2 ⟨[(3, .aptr 0 0 0 0), (1, .ptr 1 0)], ⟨[(1, [.pv (.int .i64 a), .pv (.int .i64 b), .pv (.lst t (ints l)), .pv (.lst u (ints m))])], [tomb], []⟩⟩ .normal ⟨keyO 0, keyH a b l m t u⟩ := by
  refine runs_W ?_
  unfold key2
  simp (disch := omega) only [go_sem]
  try first | rfl | exact ⟨rfl, rfl⟩ | (constructor <;> rfl)
theorem run3 {k : Nat} : Runs A Pr key3 ⟨keyO k, keyH a b l m t u⟩ .normal ⟨keyO k ++ [(20, .pv (.bool (decide ((k : Int) < 3))))], keyH a b l m t u⟩ := by
  refine runs_W ?_
  unfold key3 keyO
  simp (disch := omega) only [go_sem]
  try first | rfl | exact ⟨rfl, rfl⟩ | (constructor <;> rfl)
theorem run20t {k : Nat} : Runs A Pr key20 ⟨keyO k ++ [(20, .pv (.bool true))], keyH a b l m t u⟩ .normal ⟨keyO k ++ [(20, .pv (.bool true))], keyH a b l m t u⟩ := by
  refine runs_W ?_
  unfold key20 keyO
  simp (disch := omega) only [go_sem]
  try first | rfl | exact ⟨rfl, rfl⟩ | (constructor <;> rfl)
theorem run20f {k : Nat} : Runs A Pr key20 ⟨keyO k ++ [(20, .pv (.bool false))], keyH a b l m t u⟩ (.exit 0) ⟨keyO k ++ [(20, .pv (.bool false))], keyH a b l m t u⟩ := by
  refine runs_W ?_
  unfold key20 keyO
  simp (disch := omega) only [go_sem]
  try first | rfl | exact ⟨rfl, rfl⟩ | (constructor <;> rfl)
theorem run4 {k : Nat} (hk : k < 3) : Runs A Pr key4 ⟨keyO k ++ [(20, .pv (.bool true))], keyH a b l m t u⟩ .normal ⟨[(3, .aptr 0 0 0 0), (5, keyX a b l m t u k), (17, .own 1 0 0 3), (18, .pv (.int .i64 3)), (19, .pv (.int .i64 k))], keyH a b l m t u⟩ := by
  refine runs_W ?_
  unfold key4 keyO keyH
  obtain rfl | rfl | rfl : k = 0 ∨ k = 1 ∨ k = 2 := by omega
  all_goals
    simp (disch := omega) only [go_sem]
    try first | rfl | exact ⟨rfl, rfl⟩ | (constructor <;> rfl)
theorem run5 {k : Nat} (hk : k < 3) : Runs A Pr key5 ⟨[(3, .aptr 0 0 0 0), (5, keyX a b l m t u k), (17, .own 1 0 0 3), (18, .pv (.int .i64 3)), (19, .pv (.int .i64 k))], keyH a b l m t u⟩ .normal ⟨keyI a b l m t u k 0, keyH a b l m t u⟩ := by
  refine runs_W ?_
  unfold key5 keyI
  obtain rfl | rfl | rfl : k = 0 ∨ k = 1 ∨ k = 2 := by omega
  all_goals
    simp (disch := omega) only [go_sem, keyX, keyXL]
    try first | rfl | exact ⟨rfl, rfl⟩ | (constructor <;> rfl)
theorem run6 {k j : Nat} (hk : k < 3) : Runs A Pr key6 ⟨keyI a b l m t u k j, keyH a b l m t u⟩ .normal ⟨keyI a b l m t u k j ++ [(26, .pv (.bool (decide ((j : Int) < (keyXL a b l m k).length))))], keyH a b l m t u⟩ := by
  refine runs_W ?_
  unfold key6 keyI
  obtain rfl | rfl | rfl : k = 0 ∨ k = 1 ∨ k = 2 := by omega
  all_goals
    simp (disch := omega) only [go_sem, keyX, keyXL]
    try first | rfl | exact ⟨rfl, rfl⟩ | (constructor <;> rfl)
theorem run26t {k j : Nat} : Runs A Pr key26 ⟨keyI a b l m t u k j ++ [(26, .pv (.bool true))], keyH a b l m t u⟩ .normal ⟨keyI a b l m t u k j ++ [(26, .pv (.bool true))], keyH a b l m t u⟩ := by
  refine runs_W ?_
  unfold key26 keyI
  simp (disch := omega) only [go_sem]
  try first | rfl | exact ⟨rfl, rfl⟩ | (constructor <;> rfl)
theorem run26f {k j : Nat} : Runs A Pr key26 ⟨keyI a b l m t u k j ++ [(26, .pv (.bool false))], keyH a b l m t u⟩ (.exit 2) ⟨keyI a b l m t u k j ++ [(26, .pv (.bool false))], keyH a b l m t u⟩ := by
  refine runs_W ?_
  unfold key26 keyI
  simp (disch := omega) only [go_sem]
  try first | rfl | exact ⟨rfl, rfl⟩ | (constructor <;> rfl)
theorem run5x {k : Nat} {x : V} (hk : k < 3) : Runs A Pr key11 ⟨(34, x) :: (keyI a b l m t u k (keyXL a b l m k).length ++ [(26, .pv (.bool false))]), keyH a b l m t u⟩ .normal ⟨keyO (k + 1), keyH a b l m t u⟩ := by
  refine runs_W ?_
  unfold key11 keyI
  obtain rfl | rfl | rfl : k = 0 ∨ k = 1 ∨ k = 2 := by omega
  all_goals
    simp (disch := omega) only [go_sem]
    try first | rfl | exact ⟨rfl, rfl⟩ | (constructor <;> rfl)
theorem run7 {k j : Nat} {n : Int} (hk : k < 3) (hn : (keyXL a b l m k)[j]? = some n) (_hl : l.length ≤ 1000) (_hm : m.length ≤ 1000) : Runs A Pr key7 ⟨keyI a b l m t u k j ++ [(26, .pv (.bool true))], keyH a b l m t u⟩ .normal ⟨keyN a b l m t u k j n, keyH a b l m t u⟩ := by
  refine runs_W ?_
  unfold key7 keyI keyN
  obtain rfl | rfl | rfl : k = 0 ∨ k = 1 ∨ k = 2 := by omega
  · have hn : [a, b][j]? = some n := hn
    simp (disch := omega) only [go_sem, keyX, keyXL]
    simp only [hn, Option.map_some, Option.bind_some, List.length_singleton, if_true, optK]
    refine ⟨_, rfl, ?_⟩
    simp (disch := omega) only [go_sem]
    try first | rfl | exact ⟨rfl, rfl⟩ | (constructor <;> rfl)
  · have hn : l[j]? = some n := hn
    simp (disch := omega) only [go_sem, keyX, keyXL]
    simp only [hn, Option.map_some, Option.bind_some, List.length_singleton, if_true, optK]
    refine ⟨_, rfl, ?_⟩
    simp (disch := omega) only [go_sem]
    try first | rfl | exact ⟨rfl, rfl⟩ | (constructor <;> rfl)
  · have hn : m[j]? = some n := hn
    simp (disch := omega) only [go_sem, keyX, keyXL]
    simp only [hn, Option.map_some, Option.bind_some, List.length_singleton, if_true, optK]
    refine ⟨_, rfl, ?_⟩
    simp (disch := omega) only [go_sem]
    try first | rfl | exact ⟨rfl, rfl⟩ | (constructor <;> rfl)
theorem run9 {k j : Nat} {n : Int} {x y z v : V} (hk : k < 3) (hj : j < 1000) : Runs A Pr key9 ⟨(32, x) :: (31, y) :: (30, z) :: (29, v) :: keyN a b l m t u k j n, keyH a b l m t u⟩ .normal ⟨keyI a b l m t u k (j + 1), keyH a b l m t u⟩ := by
  refine runs_W ?_
  unfold key9 keyI keyN
  obtain rfl | rfl | rfl : k = 0 ∨ k = 1 ∨ k = 2 := by omega
  all_goals
    simp (disch := omega) only [go_sem, keyX]
    try first | rfl | exact ⟨rfl, rfl⟩ | (constructor <;> rfl)
theorem run8 {k j : Nat} {n : Int} {x : ByteArray} (hI : res A Pr 194 [.int .i64 n] = some [.str x]) (h1 : inls A 194 = false) (h2 : Pr 194 = none) (h3 : takes A 194 = false) (hz : x.size ≤ 100) : RunsOps A Pr key8 ⟨keyN a b l m t u k j n, keyH a b l m t u⟩ ⟨(31, .pv (.str (x ++ ⟨#[44]⟩))) :: (30, .pv (.str x)) :: (29, .pv (.int .i64 n)) :: keyN a b l m t u k j n, keyH a b l m t u⟩ := by
  refine runs_WO ?_
  unfold key8 keyN
  simp (disch := omega) only [go_sem]
  rw [CW_CN h1 h2 h3]
  simp (disch := omega) only [go_sem, hI]
  rw [binV_sadd (by simp only [ByteArray.size, List.size_toArray, List.length_cons, List.length_nil] at hz ⊢; omega)]
  simp (disch := omega) only [go_sem]
  try first | rfl | exact ⟨rfl, rfl⟩ | (constructor <;> rfl)
theorem run12 {x : V} {h : Heap} {env : List (Nat × V)} : RunsOps A Pr key12 ⟨(36, x) :: env, h⟩ ⟨(2, x) :: (36, x) :: env, h⟩ := by
  refine runs_WO ?_
  unfold key12
  simp (disch := omega) only [go_sem]
  try first | rfl | exact ⟨rfl, rfl⟩ | (constructor <;> rfl)
end Go.Pv

/-
  The text of a configuration: the whole walk, over the pieces of its code.
-/
namespace Go.Pv
open Go.Shelf Go.RowKit Go.Proofs
variable {P : Program} {N M : Nat → Nat} {W : Nat → Prop} {L0 : Lx} {e0 : Emb} {w w0 : World} {ρ ρ' : Ren} {A : Nat → Option AFunc} {Pr : Prims}

theorem FSp.toFS {G : List Nat} {nt b : Nat} {s : St} {a : Act} (hs : FSp N W G nt L0 e0 w0 b s a w) : FrS N W nt L0 e0 w0 s a w := by
  obtain ⟨L, e, hsr, hf, h1, h2, hx, _⟩ := hs
  have hr := hsr.hr
  exact ⟨L, e, ⟨{ hr with wbx := fun s hs => ⟨(hr.wbx s hs).1.1, (hr.wbx s hs).2⟩, war := fun id hi hk => ⟨(hr.war id hi hk).1.1, (hr.war id hi hk).2⟩, wmp := fun id hi => ⟨(hr.wmp id hi).1.1, (hr.wmp id hi).2⟩, wide := fun b hb => (hr.wide b hb).1 }, hsr.env, hsr.size, hsr.defers⟩, hf, h1, h2, hx⟩
structure KCode (P : Program) (N M : Nat → Nat) (A : Nat → Option AFunc) (ρ ρ' : Ren) (nt : Nat) (c : Nat → Code) (o : Nat → Array Oper) : Prop where
  codes : ∀ n, CodeOk P N M A (fun _ => none) n
  fns : ∀ n, FnsOk P N A (fun _ => none) n
  nopr : PrimOk P N (fun _ => none)
  fn : ∀ f fn, A f = some fn → ∃ an, FnOk P N M (N f) an fn
  lw : Lays.n166 P ρ
  ls : Lays.n169 P ρ'
  ex : Builder.Extra P ρ
  ex' : Builder.Extra P ρ'
  e72 : ρ'.t 72 = ρ.t 72
  e5 : ρ'.t 5 = ρ.t 5
  entw : ∀ args w, (callFunc (ρ.f 166) args).run P w = .ok (.enter (ρ.f 166) args) w
  ents : ∀ args w, (callFunc (ρ'.f 169) args).run P w = .ok (.enter (ρ'.f 169) args) w
  big : 36 < nt
  itoa : ∀ n, smallI n = true → res A (fun _ => none) 194 [.int .i64 n] = some [.str ⟨(encN n).toArray⟩]
  inl : inls A 194 = false
  tk : takes A 194 = false
  p0 : Piece P N M nt (c 0) key0
  p2 : Piece P N M nt (c 2) key2
  p3 : Piece P N M nt (c 3) key3
  p20 : Piece P N M nt (c 20) key20
  p4 : Piece P N M nt (c 4) key4
  p5 : Piece P N M nt (c 5) key5
  p6 : Piece P N M nt (c 6) key6
  p26 : Piece P N M nt (c 26) key26
  p7 : Piece P N M nt (c 7) key7
  p9 : Piece P N M nt (c 9) key9
  p11 : Piece P N M nt (c 11) key11
  o8 : ∃ pb, mapO (trOper P N M nt pb (o 8)) ((o 8).toList.take 3) = some key8
  z8 : (o 8).size = 4
  w8 : ∃ ot ats, (o 8)[3]? = some ot ∧ ot.guard = .none ∧ ot.op = .call { callee := .value (.func (ρ.f 166)), args := #[.tmp 3, .tmp 31], argTypes := ats } ∧ ot.dst = some 32
  z10 : (o 10).size = 1
  w10 : ∃ ot ats x, (o 10)[0]? = some ot ∧ ot.guard = .none ∧ ot.op = .call { callee := .value (.func (ρ.f 166)), args := #[.tmp 3, x], argTypes := ats } ∧ ot.dst = some 34 ∧ ∀ a : Act, a.eval x = .string ⟨#[59]⟩
  z12 : (o 12).size = 2
  w12 : ∃ ot ats, (o 12)[0]? = some ot ∧ ot.guard = .none ∧ ot.op = .call { callee := .value (.func (ρ'.f 169)), args := #[.tmp 3], argTypes := ats } ∧ ot.dst = some 36
  o12 : ∃ pb ot, (o 12)[1]? = some ot ∧ trOper P N M nt pb (o 12) ot = some ⟨some 2, .mov (.tmp 36), .none⟩
  z1 : (o 1).size = 1
  w1 : ∃ ot, (o 1)[0]? = some ot ∧ ot.guard = .none ∧ ot.dst = some 3 ∧ ∀ (a : Act) (w : World), (execOp a.eval ot).run P w = .ok (.value (.pointer (some ⟨w.heap.size, 0, .none⟩))) (w.alloc (.cells #[.pointer .none, .slice .none 0 0] (ρ.t 72)))
variable {nt : Nat} {c : Nat → Code} {o : Nat → Array Oper}
def keyB (c : Nat → Code) (o : Nat → Array Oper) (i : Nat → Nat) : Code :=
  .seq (c 6) (.seq (c 26) (.seq (.block 3 (.seq (c 7) (.region (i 8) (o 8) false))) (c 9)))
def keyC (c : Nat → Code) (o : Nat → Array Oper) (i : Nat → Nat) : Code :=
  .seq (c 3) (.seq (c 20) (.seq (.block 1 (.seq (c 4) (.seq (.seq (c 5) (.block 2 (.loop (keyB c o i)))) (.region (i 10) (o 10) false)))) (c 11)))
def keyD (c : Nat → Code) (o : Nat → Array Oper) (i : Nat → Nat) : Code :=
  .seq (c 0) (.seq (.region (i 1) (o 1) false) (.seq (.seq (c 2) (.block 0 (.loop (keyC c o i)))) (.seq (.region (i 12) (o 12) false) .ret)))
section
variable {a b : Int} {l m : List Int} {t u : Nat}
theorem strCells_enc (xs ys : List UInt8) : Lib.strCells (⟨xs.toArray⟩ ++ ⟨ys.toArray⟩ : ByteArray) = Lib.byteCells (xs ++ ys) := by
  simp [Lib.strCells, Lib.byteCells, ByteArray.data_append]
theorem KCode.write8 (K : KCode P N M A ρ ρ' nt c o) {i : Nat} {bb k j : Nat} {n : Int} {bs : List UInt8} {aa : Act} {Q : Exit → Act → World → Prop} (hn : smallI n = true) (hl : bs.length ≤ 100000000)
    (hs : FB N W (ρ.t 72) (ρ.t 5) nt L0 e0 w0 bb ⟨keyN a b l m t u k j n, keyH a b l m t u⟩ (Lib.byteCells bs) aa w)
    (hK : ∀ a' w' x y z v, FB N W (ρ.t 72) (ρ.t 5) nt L0 e0 w0 bb ⟨(32, x) :: (31, y) :: (30, z) :: (29, v) :: keyN a b l m t u k j n, keyH a b l m t u⟩ (Lib.byteCells (bs ++ (encN n ++ [44]))) a' w' → Q .normal a' w') :
    (Code.region i (o 8) false).wp P Q aa w := by
  obtain ⟨n0, he⟩ := run8 (A := A) (Pr := fun _ => none) (a := a) (b := b) (l := l) (m := m) (t := t) (u := u) (k := k) (j := j) (K.itoa n hn) K.inl rfl K.tk (by unfold encN; split <;> simp [ByteArray.size])
  obtain ⟨pb, ho⟩ := K.o8
  obtain ⟨ot, ats, h1, h2, h3, h4⟩ := K.w8
  obtain ⟨G, g1, g2⟩ := hs
  refine wp_region ?_
  rw [List.range_eq_range', K.z8]
  refine prefix_wp (pb := pb) (M := M) (K.fns n0) (withInl_ok K.nopr (K.codes n0) K.fn) 1 0 key8 (fun i q hi => ?_) he rfl rfl g1 g2 fun a' w' k1 k2 => ?_
  · obtain ⟨oo, q1, q2⟩ := mapO_get ho i q hi
    refine ⟨oo, ?_, q2⟩
    rw [List.getElem?_take] at q1
    split at q1
    · simpa using q1
    · cases q1
  · rw [List.range'_succ, wpOps_cons]
    have hx : a'.eval (.tmp 31) = .string (⟨(encN n).toArray⟩ ++ ⟨#[44]⟩) := k1.str rfl
    have hsz : (⟨(encN n).toArray⟩ ++ ⟨#[44]⟩ : ByteArray).size ≤ 3 := by
      unfold encN
      split <;> simp [ByteArray.size]
    refine write_wp K.lw K.ex K.entw h1 h2 h3 h4 (by have := K.big; omega) k1 k2 rfl rfl hx (by rw [show (Lib.byteCells bs).length = bs.length by simp [Lib.byteCells]]; omega) fun a2 w2 G' r1 r2 => ?_
    refine hK a2 w2 _ _ _ _ ⟨G', r1, ?_⟩
    rw [strCells_enc] at r2
    rw [show Lib.byteCells (bs ++ (encN n ++ [44])) = Lib.byteCells bs ++ Lib.byteCells (encN n ++ [44]) by simp [Lib.byteCells]]
    exact r2
theorem KCode.write10 (K : KCode P N M A ρ ρ' nt c o) {i : Nat} {bb k : Nat} {bs : List UInt8} {aa : Act} {Q : Exit → Act → World → Prop} (hl : bs.length ≤ 100000000)
    (hs : FB N W (ρ.t 72) (ρ.t 5) nt L0 e0 w0 bb ⟨keyI a b l m t u k (keyXL a b l m k).length ++ [(26, .pv (.bool false))], keyH a b l m t u⟩ (Lib.byteCells bs) aa w)
    (hK : ∀ a' w' x, FB N W (ρ.t 72) (ρ.t 5) nt L0 e0 w0 bb ⟨(34, x) :: (keyI a b l m t u k (keyXL a b l m k).length ++ [(26, .pv (.bool false))]), keyH a b l m t u⟩ (Lib.byteCells (bs ++ [59])) a' w' → Q .normal a' w') :
    (Code.region i (o 10) false).wp P Q aa w := by
  obtain ⟨ot, ats, x, h1, h2, h3, h4, h5⟩ := K.w10
  obtain ⟨G, g1, g2⟩ := hs
  refine wp_region ?_
  rw [List.range_eq_range', K.z10, List.range'_succ, wpOps_cons]
  refine write_wp K.lw K.ex K.entw h1 h2 h3 h4 (by have := K.big; omega) g1 g2 rfl rfl (h5 aa) (by rw [show (Lib.byteCells bs).length = bs.length by simp [Lib.byteCells]]; simp [ByteArray.size]; omega) fun a2 w2 G' r1 r2 => ?_
  refine hK a2 w2 _ ⟨G', r1, ?_⟩
  have := strCells_enc [59] []
  rw [show Lib.byteCells (bs ++ [59]) = Lib.byteCells bs ++ Lib.strCells ⟨#[59]⟩ by simp [Lib.byteCells, Lib.strCells]]
  exact r2
theorem enc_len (l : List Int) : (l.flatMap fun n => encN n ++ [44]).length ≤ 3 * l.length := by
  induction l with
  | nil => simp
  | cons x l ih =>
    rw [List.flatMap_cons, List.length_append, List.length_cons]
    have : (encN x ++ [44]).length ≤ 3 := by
      unfold encN
      split <;> simp
    omega
theorem KCode.inner (K : KCode P N M A ρ ρ' nt c o) {i : Nat → Nat} {bb k : Nat} {Q : Exit → Act → World → Prop} (hk : k < 3) (hl : l.length ≤ 1000) (hm : m.length ≤ 1000) (ha : (keyXL a b l m k).all smallI = true) : ∀ (n j : Nat), j + n = (keyXL a b l m k).length → ∀ (bs : List UInt8) (aa : Act) (w : World), bs.length + 3 * n ≤ 100000000 →
    FB N W (ρ.t 72) (ρ.t 5) nt L0 e0 w0 bb ⟨keyI a b l m t u k j, keyH a b l m t u⟩ (Lib.byteCells bs) aa w →
    (∀ a' w', FB N W (ρ.t 72) (ρ.t 5) nt L0 e0 w0 bb ⟨keyI a b l m t u k (keyXL a b l m k).length ++ [(26, .pv (.bool false))], keyH a b l m t u⟩ (Lib.byteCells (bs ++ ((keyXL a b l m k).drop j).flatMap fun n => encN n ++ [44])) a' w' → Q (.exit 2) a' w') → Code.rounds P (keyB c o i) Q (n + 1) aa w := by
  intro n
  induction n with
  | zero =>
    intro j hj bs aa w hb hs hK
    rw [rounds_succ]
    refine wp_seq (piece_wp K.codes K.p6 (run6 hk) rfl rfl hs fun a1 w1 h1 => ?_)
    have hd : decide ((j : Int) < (keyXL a b l m k).length) = false := by rw [decide_eq_false_iff_not]; omega
    rw [hd] at h1
    refine wp_seq (piece_wp K.codes K.p26 run26f rfl rfl h1 fun a2 w2 h2 => ?_)
    obtain rfl : j = (keyXL a b l m k).length := by omega
    rw [List.drop_length, List.flatMap_nil, List.append_nil] at hK
    exact hK a2 w2 h2
  | succ n ih =>
    intro j hj bs aa w hb hs hK
    have hlt : j < (keyXL a b l m k).length := by omega
    have hlen : (keyXL a b l m k).length ≤ 1000 := by
      unfold keyXL
      split
      · simp
      · split
        · exact hl
        · exact hm
    rw [rounds_succ]
    refine wp_seq (piece_wp K.codes K.p6 (run6 hk) rfl rfl hs fun a1 w1 h1 => ?_)
    have hd : decide ((j : Int) < (keyXL a b l m k).length) = true := by rw [decide_eq_true_iff]; omega
    rw [hd] at h1
    refine wp_seq (piece_wp K.codes K.p26 run26t rfl rfl h1 fun a2 w2 h2 => ?_)
    have hget := List.getElem?_eq_getElem hlt
    have hsm : smallI (keyXL a b l m k)[j] = true := List.all_eq_true.1 ha _ (List.getElem_mem hlt)
    refine wp_seq (wp_block (wp_seq (piece_wp K.codes K.p7 (run7 hk hget hl hm) rfl rfl h2 fun a3 w3 h3 => ?_)))
    refine K.write8 hsm (by omega) h3 fun a4 w4 x y z v h4 => ?_
    refine piece_wp K.codes K.p9 (run9 hk (by omega)) rfl rfl h4 fun a5 w5 h5 => ?_
    refine ih (j + 1) (by omega) _ a5 w5 ?_ h5 fun a6 w6 h6 => hK a6 w6 ?_
    · rw [List.length_append]
      have : (encN (keyXL a b l m k)[j] ++ [44]).length ≤ 3 := by
        unfold encN
        split <;> simp
      omega
    · rw [List.drop_eq_getElem_cons hlt, List.flatMap_cons, ← List.append_assoc]
      exact h6
theorem KCode.outer (K : KCode P N M A ρ ρ' nt c o) {i : Nat → Nat} {bb : Nat} {Q : Exit → Act → World → Prop} (hl : l.length ≤ 1000) (hm : m.length ≤ 1000) (ha : ∀ k, k < 3 → (keyXL a b l m k).all smallI = true) : ∀ (n k : Nat), k + n = 3 → ∀ (bs : List UInt8) (aa : Act) (w : World), bs.length + 3001 * n ≤ 100000 →
    FB N W (ρ.t 72) (ρ.t 5) nt L0 e0 w0 bb ⟨keyO k, keyH a b l m t u⟩ (Lib.byteCells bs) aa w →
    (∀ a' w', FB N W (ρ.t 72) (ρ.t 5) nt L0 e0 w0 bb ⟨keyO 3 ++ [(20, .pv (.bool false))], keyH a b l m t u⟩ (Lib.byteCells (bs ++ ((List.range 3).drop k).flatMap fun k => encL (keyXL a b l m k))) a' w' → Q (.exit 0) a' w') → Code.rounds P (keyC c o i) Q (n + 1) aa w := by
  intro n
  induction n with
  | zero =>
    intro k hk bs aa w hb hs hK
    obtain rfl : k = 3 := by omega
    rw [rounds_succ]
    refine wp_seq (piece_wp K.codes K.p3 run3 rfl rfl hs fun a1 w1 h1 => ?_)
    refine wp_seq (piece_wp K.codes K.p20 run20f rfl rfl h1 fun a2 w2 h2 => ?_)
    rw [show (List.range 3).drop 3 = [] from rfl, List.flatMap_nil, List.append_nil] at hK
    exact hK a2 w2 h2
  | succ n ih =>
    intro k hk bs aa w hb hs hK
    have hk3 : k < 3 := by omega
    have hlen : (keyXL a b l m k).length ≤ 1000 := by
      unfold keyXL
      split
      · simp
      · split
        · exact hl
        · exact hm
    rw [rounds_succ]
    refine wp_seq (piece_wp K.codes K.p3 run3 rfl rfl hs fun a1 w1 h1 => ?_)
    have hd : decide ((k : Int) < 3) = true := by rw [decide_eq_true_iff]; omega
    rw [hd] at h1
    refine wp_seq (piece_wp K.codes K.p20 run20t rfl rfl h1 fun a2 w2 h2 => ?_)
    refine wp_seq (wp_block (wp_seq (piece_wp K.codes K.p4 (run4 hk3) rfl rfl h2 fun a3 w3 h3 => ?_)))
    refine wp_seq (wp_seq (piece_wp K.codes K.p5 (run5 hk3) rfl rfl h3 fun a4 w4 h4 => ?_))
    refine wp_block (wp_loop_rounds ((keyXL a b l m k).length + 1) ?_)
    have hel := enc_len (keyXL a b l m k)
    refine K.inner hk3 hl hm (ha k hk3) (keyXL a b l m k).length 0 (by omega) bs a4 w4 (by omega) h4 fun a5 w5 h5 => ?_
    rw [List.drop_zero] at h5
    refine K.write10 (by rw [List.length_append]; omega) h5 fun a6 w6 x h6 => ?_
    refine piece_wp K.codes K.p11 (run5x hk3) rfl rfl h6 fun a7 w7 h7 => ?_
    refine ih (k + 1) (by omega) _ a7 w7 ?_ h7 fun a8 w8 h8 => hK a8 w8 ?_
    · rw [List.length_append, List.length_append, List.length_singleton]
      omega
    · have : (List.range 3).drop k = k :: (List.range 3).drop (k + 1) := by
        obtain rfl | rfl | rfl : k = 0 ∨ k = 1 ∨ k = 2 := by omega
        all_goals rfl
      rw [this, List.flatMap_cons]
      rw [show encL (keyXL a b l m k) = ((keyXL a b l m k).flatMap fun n => encN n ++ [44]) ++ [59] from rfl]
      simpa [List.append_assoc] using h8
theorem KCode.walk (K : KCode P N M A ρ ρ' nt c o) {i : Nat → Nat} {aa : Act} (h1 : smallI a = true) (h2 : smallI b = true) (h3 : l.all smallI = true) (h4 : m.all smallI = true) (hl : l.length ≤ 1000) (hm : m.length ≤ 1000)
    (hs : FrS N W nt L0 e0 w0 ⟨[(0, .agg [.pv (.int .i64 a), .pv (.int .i64 b), .pv (.lst t (ints l)), .pv (.lst u (ints m))])], ⟨[], [], []⟩⟩ aa w) :
    (keyD c o i).wp P (QQ N W nt L0 e0 w0 .ret ⟨(2, .pv (.str (keyS a b l m))) :: (36, .pv (.str (keyS a b l m))) :: (keyO 3 ++ [(20, .pv (.bool false))]), keyH a b l m t u⟩) aa w := by
  obtain ⟨n0, he0⟩ := run0 (A := A) (Pr := fun _ => none) (a := a) (b := b) (l := l) (m := m) (t := t) (u := u)
  obtain ⟨an, an', htr⟩ := K.p0
  refine wp_seq (wp_mono (K.codes n0 nt _ an _ an' htr W L0 e0 w0 _ _ _ aa w he0 hs) fun x a1 w1 hq => ?_)
  obtain ⟨rfl, hs1⟩ := hq
  refine wp_seq (wp_region ?_)
  obtain ⟨ot, q1, q2, q3, q4⟩ := K.w1
  rw [List.range_eq_range', K.z1, List.range'_succ, wpOps_cons]
  refine new_wp (E := ρ.t 5) q1 q2 (q4 a1) q3 (by have := K.big; omega) hs1 rfl fun a2 w2 bb hs2 hb2 => ?_
  refine wp_seq (wp_seq (piece_wp K.codes K.p2 run2 rfl rfl ⟨[bb], hs2, hb2⟩ fun a3 w3 h3' => ?_))
  refine wp_block (wp_loop_rounds 4 ?_)
  refine K.outer hl hm (fun k hk => ?_) 3 0 rfl [] a3 w3 (by simp) h3' fun a4 w4 h4' => ?_
  · obtain rfl | rfl | rfl : k = 0 ∨ k = 1 ∨ k = 2 := by omega
    · simp [keyXL, h1, h2]
    · exact h3
    · exact h4
  have hkl : ([] ++ ((List.range 3).drop 0).flatMap fun k => encL (keyXL a b l m k)) = keyL a b l m := by
    simp [keyL, keyXL, List.range_succ]
  rw [hkl] at h4'
  obtain ⟨G, g1, g2⟩ := h4'
  refine wp_seq (wp_region ?_)
  obtain ⟨ot, ats, q1, q2, q3, q4⟩ := K.w12
  rw [List.range_eq_range', K.z12, List.range'_succ, wpOps_cons]
  refine string_wp K.ls K.ex' K.ents q1 q2 q3 q4 (by have := K.big; omega) g1 (by rw [K.e72, K.e5]; exact g2) (by simp [keyL, encL]) rfl rfl fun a5 w5 hs5 => ?_
  obtain ⟨n1, he1⟩ := run12 (A := A) (Pr := fun _ => none) (x := .pv (.str (keyS a b l m))) (h := keyH a b l m t u) (env := keyO 3 ++ [(20, .pv (.bool false))])
  obtain ⟨pb, ot, r1, r2⟩ := K.o12
  obtain ⟨L, e, hsr, hf, f1, f2, hx⟩ := hs5.toFS
  refine ops_wp (M := M) (pb := pb) (K.fns n1) (withInl_ok K.nopr (K.codes n1) K.fn) key12 1 L e _ a5 w5 (fun i q hi => ?_) hsr he1 fun a6 w6 L' e' hn hsr' => ?_
  · match i, hi with
    | 0, hi =>
      cases hi
      exact ⟨ot, r1, r2⟩
  · refine wp_ret ⟨rfl, L', e', hsr', hf.trans hn.fr, fun t b hb => hn.ext.sub t b (f1 t b hb), fun t b hb => ?_, hx.trans hn.ext.x⟩
    rcases hn.new t b hb with hb | hb
    · exact f2 t b hb
    · exact .inr hb
theorem KCode.fnr (K : KCode P N M A ρ ρ' nt c o) {i : Nat → Nat} {f : Nat} {go : Func} (f1 : P.funcs[N f]? = some go) (f2 : go.body = some (keyD c o i)) (f3 : (go.name == "runtime.NumGoroutine") = false) (f4 : go.ntmps = nt) (f6 : mapO (trRes P) go.results.toList = some [.tmp 2])
    (h1 : smallI a = true) (h2 : smallI b = true) (h3 : l.all smallI = true) (h4 : m.all smallI = true) (hl : l.length ≤ 1000) (hm : m.length ≤ 1000) :
    FnR P N f [.agg [.int .i64 a, .int .i64 b, .lst t (ints l), .lst u (ints m)]] [.str (keyS a b l m)] := by
  subst f4
  refine fnr_of_wp (fn := ⟨1, .skip, [.tmp 2], false, false, false⟩) f1 f2 f3 (by have := K.big; simp; omega) f6 (fun T L e w a hs => K.walk h1 h2 h3 h4 hl hm hs) ?_
  rfl
end
end Go.Pv

/-
  The text of a configuration: what is said of it is so.
-/
namespace Go.Pv
variable {P : Program} {N M : Nat → Nat}

theorem ints_of_dec : ∀ {rows : List (List PV)} {l : List Int}, mapO intDec rows = some l → rows = ints l
  | [], l, h => by
    simp only [mapO] at h
    cases h
    rfl
  | r :: rows, l, h => by
    simp only [mapO] at h
    split at h <;> first | (cases h; done) | skip
    rename_i x xs hx hxs
    cases h
    have := ints_of_dec hxs
    subst this
    unfold intDec at hx
    split at hx
    · cases hx
      rfl
    · cases hx
theorem keyP_ok {fn : Nat} (hF : ∀ (a b : Int) (l m : List Int) (t u : Nat), smallI a = true → smallI b = true → l.all smallI = true → m.all smallI = true → l.length ≤ 1000 → m.length ≤ 1000 → FnR P N fn [.agg [.int .i64 a, .int .i64 b, .lst t (ints l), .lst u (ints m)]] [.str (keyS a b l m)]) : Prim.Ok P N fn keyP := by
  intro L e W h w vs args v tn hp hr hs hv
  unfold keyP at hp
  split at hp <;> first | (cases hp; done) | skip
  rename_i a b t ra u rb
  split at hp <;> first | (cases hp; done) | skip
  rename_i l m h1 h2
  split at hp <;> first | (cases hp; done) | skip
  rename_i hc
  injection hp with hp
  injection hp with e1 e2
  subst e1
  subst e2
  obtain ⟨c1, c2, c3, c4, c5, c6⟩ := hc
  obtain rfl := ints_of_dec h1
  obtain rfl := ints_of_dec h2
  exact call_sound hr hs hv (tk := false) (ps := [.agg [.int .i64 a, .int .i64 b, .lst t (ints l), .lst u (ints m)]]) (a := none) rfl (hF a b l m t u c1 c2 c3 c4 c5 c6) false 0
end Go.Pv

