/-
  The law ProductLarge: for every input it returns true, and each argument reads as before. No condition.
-/
import Derived.Test.YthpgcipmnblhpaaDoorOk
import Derived.Test.YthpgcipmnblhpaaDoorC4
import Derived.Test.YthpgcipmnblhpaaDoorLay
import Derived.Test.YthpgcipmnblhpaaDoorChecked
import Derived.Test.YthpgcipmnblhpaaDoorRows
import Derived.Test.YthpgcipmnblhpaaDoorTie
import Derived.Test.YthpgcipmnblhpaaDoorCards
import Derived.ProofKit
import Derived.LaidMore
import Derived.LaidLaws
import Derived.SevenTiedAt
set_option linter.unusedSimpArgs false
set_option linter.unusedVariables false
namespace Go.Proofs
open Go.Shelf
def Tryd.layB_ren : Go.Shelf.Ren := ⟨fun | 166 => 67 | 169 => 69 | 240 => 77 | 276 => 82 | n => n, fun | 70 => 100 | 9 => 9 | 0 => 0 | 72 => 103 | 37 => 101 | 3 => 3 | 5 => 5 | 4 => 4 | 20 => 20 | 75 => 106 | 164 => 122 | 127 => 118 | 80 => 110 | n => n, fun | n => n⟩
theorem Tryd.layB166 : Go.Proofs.Lays.n166 Tryd.prog Tryd.layB_ren := {
  mixed := by kernel_rfl
  f166 := Tryd.func67.trans (congrArg some (by kernel_rfl))
  f240 := Tryd.func77.trans (congrArg some (by kernel_rfl))
  f276 := Tryd.func82.trans (congrArg some (by kernel_rfl))
  t0 := Tryd.underlying0
  a0 := Tryd.isAgg0
  z0 := Tryd.sizeOf0
  v0 := Tryd.zeroValue0
  t3 := Tryd.underlying3
  a3 := Tryd.isAgg3
  z3 := Tryd.sizeOf3
  v3 := Tryd.zeroValue3
  t4 := Tryd.underlying4
  a4 := Tryd.isAgg4
  z4 := Tryd.sizeOf4
  v4 := Tryd.zeroValue4
  t9 := Tryd.underlying9
  a9 := Tryd.isAgg9
  z9 := Tryd.sizeOf9
  v9 := Tryd.zeroValue9
  t20 := Tryd.underlying20
  a20 := Tryd.isAgg20
  z20 := Tryd.sizeOf20
  v20 := Tryd.zeroValue20
  t37 := Tryd.underlying101
  a37 := Tryd.isAgg101
  z37 := Tryd.sizeOf101
  v37 := Tryd.zeroValue101
  t70 := Tryd.underlying100
  a70 := Tryd.isAgg100
  z70 := Tryd.sizeOf100
  v70 := Tryd.zeroValue100
  t72 := Tryd.underlying103
  a72 := Tryd.isAgg103
  z72 := Tryd.sizeOf103
  v72 := Tryd.zeroValue103
  t75 := Tryd.underlying106
  a75 := Tryd.isAgg106
  z75 := Tryd.sizeOf106
  v75 := Tryd.zeroValue106
  t164 := Tryd.underlying122
  a164 := Tryd.isAgg122
  z164 := Tryd.sizeOf122
  v164 := Tryd.zeroValue122 }
theorem Tryd.layB169 : Go.Proofs.Lays.n169 Tryd.prog Tryd.layB_ren := {
  mixed := by kernel_rfl
  f169 := Tryd.func69.trans (congrArg some (by kernel_rfl))
  t0 := Tryd.underlying0
  a0 := Tryd.isAgg0
  z0 := Tryd.sizeOf0
  v0 := Tryd.zeroValue0
  t3 := Tryd.underlying3
  a3 := Tryd.isAgg3
  z3 := Tryd.sizeOf3
  v3 := Tryd.zeroValue3
  t9 := Tryd.underlying9
  a9 := Tryd.isAgg9
  z9 := Tryd.sizeOf9
  v9 := Tryd.zeroValue9
  t37 := Tryd.underlying101
  a37 := Tryd.isAgg101
  z37 := Tryd.sizeOf101
  v37 := Tryd.zeroValue101
  t70 := Tryd.underlying100
  a70 := Tryd.isAgg100
  z70 := Tryd.sizeOf100
  v70 := Tryd.zeroValue100
  t72 := Tryd.underlying103
  a72 := Tryd.isAgg103
  z72 := Tryd.sizeOf103
  v72 := Tryd.zeroValue103
  t127 := Tryd.underlying118
  a127 := Tryd.isAgg118
  z127 := Tryd.sizeOf118
  v127 := Tryd.zeroValue118 }
theorem Tryd.layBX : Builder.Extra Tryd.prog Tryd.layB_ren where
  sizeBuilder := by kernel_rfl
  liesBuilder := by kernel_rfl
  t5 := Tryd.underlying5
  a5 := Tryd.isAgg5
  z5 := Tryd.sizeOf5
  v5 := Tryd.zeroValue5
  infoByte := by kernel_rfl
  cellsByte := by kernel_rfl
  sizeByte := by kernel_rfl
  neB5 := by decide


end Go.Proofs
namespace Go.Proofs.YthpgcipmnblhpaaDoor
open Go Go.Pv Go.Proofs Go.RowKit Go.ChangeShapes Go.Sort

theorem mixedOk : Tryd.prog.follows .mixedOrders = true := by kernel_rfl
theorem noLaw : PrimLaw (fun _ => none) := prims_law (l := []) (fun x hx => by cases hx)
theorem noOk : PrimOk Tryd.prog num (fun _ => none) := prims_ok (l := []) (fun x hx => by cases hx)

theorem ent191 : ∀ args w, (callFunc (num 191) args).run Tryd.prog w = .ok (.enter (num 191) args) w := enters_of Tryd.func63 (by kernel_rfl) rfl
theorem inf191 : (Tryd.prog.info? 3).isSome = true := by kernel_rfl
theorem zer191 : (((Tryd.prog.info? 3).get inf191).zero).isSome = true := by kernel_rfl
theorem prim191 : Prim.Ok Tryd.prog num 191 (cloneP 1) := by
  intro L e W h w vs args v tn hp hr hs hv
  exact cloneP_ok (N := num) (fn := 191) Tryd.lay191 rfl (by decide) ((Tryd.prog.info? 3).get inf191) (((Tryd.prog.info? 3).get inf191).zero.get zer191) (Option.some_get inf191).symm (Option.some_get zer191).symm (by kernel_rfl) (by kernel_rfl) (Nat.le_of_ble_eq_true (by kernel_rfl)) Tryd.sizeOf3 ent191 hp hr hs hv

theorem ent196 : ∀ args w, (callFunc (num 196) args).run Tryd.prog w = .ok (.enter (num 196) args) w := enters_of Tryd.func70 (by kernel_rfl) rfl
theorem entc196 : ∀ args w, (callFunc (num 197) args).run Tryd.prog w = .ok (.enter (num 197) args) w := enters_of Tryd.func71 (by kernel_rfl) rfl
theorem fnr196 (x y : Pv.Mov) : FnR Tryd.prog num 197 [.agg x.c, .agg y.c] [.int .i64 (Pv.Mov.cmp x y)] :=
  Gives.sound mixedOk noLaw noOk aOk (res_some.1 (r197 (Pr := fun _ => none) rfl rfl rfl rfl x y))
theorem lt196 : ltOf Pv.Mov.cmp = Pv.Mov.lt := by
  funext x y
  exact Pv.Mov.cmp_lt x y
theorem prim196 : Prim.Ok Tryd.prog num 196 (sortP 3 (sortRows Mov.c Mov.dec Mov.lt) 197) := by
  intro L e W h w vs args v tn hp hr hs hv
  refine sortP_ok (by decide) Pv.Mov.dec_enc (fun _ => rfl) (fun x c hc => by simp only [Go.Pv.Mov.c, List.mem_cons, List.not_mem_nil, or_false] at hc; rcases hc with rfl | rfl | rfl <;> rfl) Pv.Mov.swo ent196 (fun a cap w => AnyF.slices_SortFunc_none Tryd.lay196 a cap _ w) ?_ hp hr hs hv
  intro blk off cap d w hH hblk hsz
  have := AnyQ.slices_SortFunc Tryd.lay196 3 Tryd.isAgg42 Tryd.sizeOf42 (venc Pv.Mov.c) (fun _ => rfl) (fun x v hv => by simp only [venc, Pv.Mov.c, List.map_cons, List.map_nil, List.mem_cons, List.not_mem_nil, or_false] at hv; rcases hv with rfl | rfl | rfl <;> rfl) Pv.Mov.cmp (lt196 ▸ Pv.Mov.swo) (num 197) #[] blk off cap d w entc196
    (fnr_lays (fun x c hc => by simp only [Go.Pv.Mov.c, List.mem_cons, List.not_mem_nil, or_false] at hc; rcases hc with rfl | rfl | rfl <;> rfl) fnr196 entc196 3 blk off d.size w) hH hblk hsz
  rw [lt196] at this
  exact this

def kS1 : Code → Code | .seq a _ => a | _ => .skip
def kS2 : Code → Code | .seq _ b => b | _ => .skip
def kIn : Code → Code | .block _ c => c | .loop c => c | _ => .skip
def kOps : Code → Array Oper | .region _ o _ => o | _ => #[]
def kId : Code → Nat | .region i _ _ => i | _ => 0
noncomputable def kB : Code := Tryd.f51.body.getD .skip
noncomputable def kC : Code := kIn (kIn (kS2 (kS1 (kS2 (kS2 kB)))))
noncomputable def kX : Code := kIn (kS1 (kS2 (kS2 kC)))
noncomputable def kY : Code := kIn (kIn (kS2 (kS1 (kS2 kX))))
noncomputable def kZ : Code := kIn (kS1 (kS2 (kS2 kY)))
noncomputable def kc (n : Nat) : Code := if n = 0 then kS1 kB else if n = 2 then kS1 (kS1 (kS2 (kS2 kB))) else if n = 3 then kS1 kC else if n = 20 then kS1 (kS2 kC) else if n = 11 then kS2 (kS2 (kS2 kC)) else if n = 4 then kS1 kX else if n = 5 then kS1 (kS1 (kS2 kX)) else if n = 6 then kS1 kY else if n = 26 then kS1 (kS2 kY) else if n = 9 then kS2 (kS2 (kS2 kY)) else if n = 7 then kS1 kZ else .skip
noncomputable def kr (n : Nat) : Code := if n = 1 then kS1 (kS2 kB) else if n = 8 then kS2 kZ else if n = 10 then kS2 (kS2 kX) else if n = 12 then kS1 (kS2 (kS2 (kS2 kB))) else .skip
noncomputable def ko (n : Nat) : Array Oper := kOps (kr n)
noncomputable def ki (n : Nat) : Nat := kId (kr n)
def opAt (o : Array Oper) (n : Nat) : Oper := o.getD n ⟨none, .move (.tmp 0), 0, "", #[], none⟩
theorem kAlloc (a : Act) (w : World) : (execOp a.eval (opAt (ko 1) 0)).run Tryd.prog w = .ok (.value (.pointer (some ⟨w.heap.size, 0, none⟩))) (w.alloc (.cells #[.pointer none, .slice none 0 0] 103)) := by
  have hop : (opAt (ko 1) 0).op = .alloc 103 := by kernel_rfl
  have hz := Tryd.zeroValue103 w
  simp [execOp, hop, Instr.alloc, hz, run_newVar, Value.cells]
theorem itoaAll : (List.range 100).map (fun k : Nat => callBy A (exec A (fun _ => none) 60) 194 [.int .i64 (k : Int)]) = (List.range 100).map fun k : Nat => some [.str ⟨(encN (k : Int)).toArray⟩] := by kernel_rfl
theorem itoa (n : Int) (h : smallI n = true) : res A (fun _ => none) 194 [.int .i64 n] = some [.str ⟨(encN n).toArray⟩] := by
  simp only [smallI, Bool.and_eq_true, decide_eq_true_eq] at h
  obtain ⟨k, rfl⟩ : ∃ k : Nat, n = k := ⟨n.toNat, by omega⟩
  have hk : k < 100 := by omega
  have := congrArg (fun l => l[k]?) itoaAll
  simp only [List.getElem?_map, List.getElem?_range hk, Option.map_some] at this
  exact res_some.2 ⟨60, Option.some.inj this⟩
theorem entB166 : ∀ args w, (callFunc (Tryd.layB_ren.f 166) args).run Tryd.prog w = .ok (.enter (Tryd.layB_ren.f 166) args) w := enters_of Tryd.func67 (by kernel_rfl) rfl
theorem entB169 : ∀ args w, (callFunc (Tryd.layB_ren.f 169) args).run Tryd.prog w = .ok (.enter (Tryd.layB_ren.f 169) args) w := enters_of Tryd.func69 (by kernel_rfl) rfl
theorem kp0 : Piece Tryd.prog num our 37 (kc 0) key0 := ⟨[([1], [1])], [], by kernel_rfl⟩
theorem kp2 : Piece Tryd.prog num our 37 (kc 2) key2 := ⟨[([3, 17, 18, 19], [])], [], by kernel_rfl⟩
theorem kp3 : Piece Tryd.prog num our 37 (kc 3) key3 := ⟨[([3, 17, 18, 19, 20], [])], [], by kernel_rfl⟩
theorem kp20 : Piece Tryd.prog num our 37 (kc 20) key20 := ⟨[], [], by kernel_rfl⟩
theorem kp4 : Piece Tryd.prog num our 37 (kc 4) key4 := ⟨[([3, 5, 17, 18, 19], [])], [], by kernel_rfl⟩
theorem kp5 : Piece Tryd.prog num our 37 (kc 5) key5 := ⟨[([3, 17, 18, 19, 23, 24, 25], [])], [], by kernel_rfl⟩
theorem kp6 : Piece Tryd.prog num our 37 (kc 6) key6 := ⟨[([3, 17, 18, 19, 23, 24, 25, 26], [])], [], by kernel_rfl⟩
theorem kp26 : Piece Tryd.prog num our 37 (kc 26) key26 := ⟨[], [], by kernel_rfl⟩
theorem kp7 : Piece Tryd.prog num our 37 (kc 7) key7 := ⟨[([3, 7, 17, 18, 19, 23, 24, 25], [])], [], by kernel_rfl⟩
theorem kp9 : Piece Tryd.prog num our 37 (kc 9) key9 := ⟨[([3, 17, 18, 19, 23, 24, 25], [])], [], by kernel_rfl⟩
theorem kp11 : Piece Tryd.prog num our 37 (kc 11) key11 := ⟨[([3, 17, 18, 19], [])], [], by kernel_rfl⟩
theorem kinl : inls A 194 = false := by kernel_rfl
theorem ktk : takes A 194 = false := by kernel_rfl
theorem ko8 : ∃ pb, mapO (trOper Tryd.prog num our 37 pb (ko 8)) ((ko 8).toList.take 3) = some key8 := ⟨[], by kernel_rfl⟩
theorem kz8 : (ko 8).size = 4 := by kernel_rfl
theorem kz10 : (ko 10).size = 1 := by kernel_rfl
theorem kz12 : (ko 12).size = 2 := by kernel_rfl
theorem kz1 : (ko 1).size = 1 := by kernel_rfl
theorem kw8 : ∃ ot ats, (ko 8)[3]? = some ot ∧ ot.guard = .none ∧ ot.op = .call { callee := .value (.func (Tryd.layB_ren.f 166)), args := #[.tmp 3, .tmp 31], argTypes := ats } ∧ ot.dst = some 32 := ⟨opAt (ko 8) 3, #[103, 9], by kernel_rfl, by kernel_rfl, by kernel_rfl, by kernel_rfl⟩
theorem kw10 : ∃ ot ats x, (ko 10)[0]? = some ot ∧ ot.guard = .none ∧ ot.op = .call { callee := .value (.func (Tryd.layB_ren.f 166)), args := #[.tmp 3, x], argTypes := ats } ∧ ot.dst = some 34 ∧ ∀ a : Act, a.eval x = .string ⟨#[59]⟩ := ⟨opAt (ko 10) 0, #[103, 9], .const (.string ⟨#[59]⟩), by kernel_rfl, by kernel_rfl, by kernel_rfl, by kernel_rfl, fun _ => rfl⟩
theorem kw12 : ∃ ot ats, (ko 12)[0]? = some ot ∧ ot.guard = .none ∧ ot.op = .call { callee := .value (.func (Tryd.layB_ren.f 169)), args := #[.tmp 3], argTypes := ats } ∧ ot.dst = some 36 := ⟨opAt (ko 12) 0, #[103], by kernel_rfl, by kernel_rfl, by kernel_rfl, by kernel_rfl⟩
theorem ko12 : ∃ pb ot, (ko 12)[1]? = some ot ∧ trOper Tryd.prog num our 37 pb (ko 12) ot = some ⟨some 2, .mov (.tmp 36), .none⟩ := ⟨[], opAt (ko 12) 1, by kernel_rfl, by kernel_rfl⟩
theorem kw1 : ∃ ot, (ko 1)[0]? = some ot ∧ ot.guard = .none ∧ ot.dst = some 3 ∧ ∀ (a : Act) (w : World), (execOp a.eval ot).run Tryd.prog w = .ok (.value (.pointer (some ⟨w.heap.size, 0, .none⟩))) (w.alloc (.cells #[.pointer .none, .slice .none 0 0] (Tryd.layB_ren.t 72))) := ⟨opAt (ko 1) 0, by kernel_rfl, by kernel_rfl, by kernel_rfl, kAlloc⟩
theorem kcode : KCode Tryd.prog num our A Tryd.layB_ren Tryd.layB_ren 37 kc ko where
  codes n := (sound mixedOk noLaw noOk aOk n).1 n (Nat.le_refl _)
  fns n := (sound mixedOk noLaw noOk aOk n).2
  nopr := noOk
  fn := aOk
  lw := Tryd.layB166
  ls := Tryd.layB169
  ex := Tryd.layBX
  ex' := Tryd.layBX
  e72 := rfl
  e5 := rfl
  entw := entB166
  ents := entB169
  big := by decide
  itoa := itoa
  inl := kinl
  tk := ktk
  p0 := kp0
  p2 := kp2
  p3 := kp3
  p20 := kp20
  p4 := kp4
  p5 := kp5
  p6 := kp6
  p26 := kp26
  p7 := kp7
  p9 := kp9
  p11 := kp11
  o8 := ko8
  z8 := kz8
  w8 := kw8
  z10 := kz10
  w10 := kw10
  z12 := kz12
  w12 := kw12
  o12 := ko12
  z1 := kz1
  w1 := kw1
theorem prim185 : Prim.Ok Tryd.prog num 185 keyP :=
  keyP_ok fun _ _ _ _ _ _ h1 h2 h3 h4 hl hm => kcode.fnr (i := ki) (go := Tryd.f51) Tryd.func51 (by kernel_rfl) (by kernel_rfl) (by kernel_rfl) (by kernel_rfl) h1 h2 h3 h4 hl hm

theorem prOk : PrimOk Tryd.prog num PrA := prims_ok (by
  unfold prL
  exact List.forall_mem_cons.2 ⟨prim185, List.forall_mem_cons.2 ⟨prim191, List.forall_mem_cons.2 ⟨prim196, fun x hx => by cases hx⟩⟩⟩)
theorem prLaw : PrimLaw PrA := prims_law (by
  unfold prL
  exact List.forall_mem_cons.2 ⟨keyP_law, List.forall_mem_cons.2 ⟨cloneP_law _, List.forall_mem_cons.2 ⟨sortP_law _ _ _, fun x hx => by cases hx⟩⟩⟩)

theorem G {f : Nat} {ps rs : List PV} (h : res A PrA f ps = some rs) : FnR Tryd.prog num f ps rs := Gives.sound mixedOk prLaw prOk aOk (res_some.1 h)
set_option maxRecDepth 100000 in
theorem lawFn (css : List (List PV)) (hl : css.length = Tryd.f9.params.toList.length) (ht : ∀ (j : Nat) (t : TypeId) (cs : List PV), Tryd.f9.params.toList[j]? = some t → css[j]? = some cs → typed Tryd.prog 12 t cs) : FnR Tryd.prog num 147 (List.zipWith (argPV Tryd.prog) Tryd.f9.params.toList css) [.bool true] := by
  have hp : Tryd.f9.params.toList = [5, 5] := by kernel_rfl
  rw [hp] at hl ht ⊢
  exact law2 (intArg (t := (5 : TypeId)) Tryd.underlying5) (intArg (t := (5 : TypeId)) Tryd.underlying5) (fun x y h k => G (r147 r150 x y (by have h : IntKind.min .u8 ≤ x ∧ x ≤ IntKind.max .u8 := h; rwa [u8_min, u8_max] at h) (by have k : IntKind.min .u8 ≤ y ∧ y ≤ IntKind.max .u8 := k; rwa [u8_min, u8_max] at k))) css hl ht
theorem own : ownKnob Tryd.prog.godebug = none := by kernel_rfl
theorem laidOut : laidOutB Tryd.prog = true := by kernel_rfl
theorem parsOk : (Tryd.f9.params.toList.all fun t => Tryd.prog.readableRec t && decide (t < Tryd.prog.types.size) && plainData Tryd.prog 12 t) = true := by kernel_rfl
theorem pars (t : TypeId) (ht : t ∈ Tryd.f9.params.toList) : (Tryd.prog.readableRec t = true ∧ t < Tryd.prog.types.size) ∧ plainData Tryd.prog 12 t = true := by
  have := List.all_eq_true.1 parsOk t ht
  simp only [Bool.and_eq_true, decide_eq_true_eq] at this
  exact ⟨this.1, this.2⟩
noncomputable def zeros : Array Value := Tryd.f9.params.map fun t => ((Tryd.prog.info? t).bind (·.zero)).getD undef
def laidL {H : Type} : List (String × DataW H) := [("math/bits.deBruijn32tab", Rows.laid_math_bits_deBruijn32tab), ("math/bits.deBruijn64tab", Rows.laid_math_bits_deBruijn64tab), ("internal/strconv.uint64pow10", Rows.laid_internal_strconv_uint64pow10)]
set_option maxRecDepth 100000 in
theorem door_met (os : Os) (args : Array Value) : laidMetH Tryd.prog laidL ((World.doorLaid Tryd.prog 4000 os).forCall (fun _ _ => 0) ⟨#[], args, []⟩).memory :=
  laidMetH_of_parts3 (fuel := 8) (laidMet_of_run' 8 (by kernel_rfl) (by kernel_rfl)) (by kernel_rfl) (by kernel_rfl)
set_option maxRecDepth 100000 in
theorem lifted (os : Os) (started : os.Started) (H : Type) (enc : TypeId × Value → H) :
    ReturnsInHanded {} Tryd.checked os 9 .any (fun w args => (Rows.productLargeSpec.pre enc Tryd.prog Tryd.f9 [] false w args ∧ laidMetH Tryd.prog laidL w) ∧ sizedMet enc Tryd.prog Tryd.f9 (OpenSpec.ofChange Rows.productLargeSpec) false w args)
      (Rows.productLargeSpec.post enc Tryd.prog Tryd.f9 false true false false) :=
  law_lifted_laid (C := Tryd.checked) (N := num) (f := 147) (n := 12) enc (fun w => laidMetH Tryd.prog laidL w) (fun _ _ hh h => h.of_heap hh) lawFn own laidOut started (by kernel_rfl) Tryd.func9 (code := Tryd.f9.body.getD .skip) (by kernel_rfl) (by kernel_rfl)
    (ChangeSpec.witness_shaped (enc := enc) (C := Tryd.checked) (os := os) (X := fun w _ => laidMetH Tryd.prog laidL w) false (World.doorLaid Tryd.prog 4000 os) zeros 12 rfl (World.shaped_of_RefB (by kernel_rfl) (by kernel_rfl)) (by kernel_rfl) (by kernel_rfl) (by kernel_rfl) (door_met os _))
    (tb := Tryd.f9.resultTypes.toList.headD 0) (by kernel_rfl) (by kernel_rfl) rfl (fun ds hl => by
      match ds, hl with
      | [_, _], _ => rfl) (fun t ht => (pars t ht).1) (fun t ht => (pars t ht).2)
theorem row_holds : Rows.ProductLargeSaid :=
  OpenClaim.holds_of_wide 9 Tryd.f9 rfl rfl rfl rfl rfl rfl rfl ⟨rfl, rfl, rfl, rfl, rfl⟩ rfl rfl rfl rfl rfl (by kernel_rfl) Tryd.func9 (by kernel_rfl)
    (of_decide_eq_true (by kernel_rfl)) (by unfold Func.isWrapper; first | (rw [if_pos (by decide +kernel)]; kernel_rfl) | (rw [if_neg (by decide +kernel)]; exact ⟨rfl, rfl⟩))
    (fun os started H enc _ => lifted os started H enc)
theorem law_holds : Rows.ProductLargeCardSaid :=
  Claim7.holds_tied_plain_at .later [] [.data, .data, .data] true (true, "ea17cf7437f5870140e2c77e00aca8c253e0374b016c2564e3df0f190c39c864") false
    row_holds (fun _ h => by cases h) (by kernel_rfl) (fun _ h => by cases h) productLarge_row_tie rfl ⟨rfl, rfl⟩ (by kernel_rfl) rfl
    (fun f fn hf hfn => by
      obtain rfl : f = 9 := Option.some.inj ((show Tryd.prog.funcNamed "sheave/sheavelaw29.ProductLarge" = some 9 by kernel_rfl).symm.trans hf) |>.symm
      obtain rfl : fn = Tryd.f9 := (Option.some.inj (Tryd.func9.symm.trans hfn)).symm
      exact ⟨by kernel_rfl, fun j t ht => by
        have hm : t ∈ Tryd.f9.params.toList := by simpa using Array.mem_of_getElem? ht
        have hall : (Tryd.f9.params.toList.all fun u => !Tryd.prog.wantsStandIn u) = true := by kernel_rfl
        exact (show Tryd.prog.wantsStandIn t = false by simpa using List.all_eq_true.1 hall t hm)⟩)
    (by kernel_rfl)
end Go.Proofs.YthpgcipmnblhpaaDoor
