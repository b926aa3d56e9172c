/-
  The law ConverseRun: for every input it returns true, and each argument reads as before. No condition.
-/
import Derived.Test.YtppmbamefnacaaaDoorOk
import Derived.Test.YtppmbamefnacaaaDoorC5
import Derived.Test.YtppmbamefnacaaaDoorLay
import Derived.Test.YtppmbamefnacaaaDoorChecked
import Derived.Test.YtppmbamefnacaaaDoorRows
import Derived.Test.YtppmbamefnacaaaDoorTie
import Derived.Test.YtppmbamefnacaaaDoorCards
import Derived.ProofKit
import Derived.LaidMore
import Derived.LaidLaws
import Derived.SevenTiedAt
set_option linter.unusedSimpArgs false
set_option linter.unusedVariables false
namespace Go.Proofs.YtppmbamefnacaaaDoor
open Go Go.Pv Go.Proofs Go.RowKit Go.ChangeShapes Go.Sort Go.Shelf

theorem mixedOk : Tryd.prog.follows .mixedOrders = true := by kernel_rfl
theorem noLaw : PrimLaw (fun _ => none) := prims_law (l := []) (fun x hx => by cases hx)
theorem noOk : PrimOk Tryd.prog num (fun _ => none) := prims_ok (l := []) (fun x hx => by cases hx)

theorem ent191 : ∀ args w, (callFunc (num 191) args).run Tryd.prog w = .ok (.enter (num 191) args) w := enters_of Tryd.func54 (by kernel_rfl) rfl
theorem inf191 : (Tryd.prog.info? 3).isSome = true := by kernel_rfl
theorem zer191 : (((Tryd.prog.info? 3).get inf191).zero).isSome = true := by kernel_rfl
theorem prim191 : Prim.Ok Tryd.prog num 191 (cloneP 1) := by
  intro L e W h w vs args v tn hp hr hs hv
  exact cloneP_ok (N := num) (fn := 191) Tryd.lay191 rfl (by decide) ((Tryd.prog.info? 3).get inf191) (((Tryd.prog.info? 3).get inf191).zero.get zer191) (Option.some_get inf191).symm (Option.some_get zer191).symm (by kernel_rfl) (by kernel_rfl) (Nat.le_of_ble_eq_true (by kernel_rfl)) Tryd.sizeOf3 ent191 hp hr hs hv

theorem ent196 : ∀ args w, (callFunc (num 196) args).run Tryd.prog w = .ok (.enter (num 196) args) w := enters_of Tryd.func47 (by kernel_rfl) rfl
theorem entc196 : ∀ args w, (callFunc (num 197) args).run Tryd.prog w = .ok (.enter (num 197) args) w := enters_of Tryd.func48 (by kernel_rfl) rfl
theorem fnr196 (x y : Pv.Mov) : FnR Tryd.prog num 197 [.agg x.c, .agg y.c] [.int .i64 (Pv.Mov.cmp x y)] :=
  Gives.sound mixedOk noLaw noOk aOk (res_some.1 (r197 (Pr := fun _ => none) rfl rfl rfl rfl x y))
theorem lt196 : ltOf Pv.Mov.cmp = Pv.Mov.lt := by
  funext x y
  exact Pv.Mov.cmp_lt x y
theorem prim196 : Prim.Ok Tryd.prog num 196 (sortP 3 (sortRows Mov.c Mov.dec Mov.lt) 197) := by
  intro L e W h w vs args v tn hp hr hs hv
  refine sortP_ok (by decide) Pv.Mov.dec_enc (fun _ => rfl) (fun x c hc => by simp only [Go.Pv.Mov.c, List.mem_cons, List.not_mem_nil, or_false] at hc; rcases hc with rfl | rfl | rfl <;> rfl) Pv.Mov.swo ent196 (fun a cap w => AnyF.slices_SortFunc_none Tryd.lay196 a cap _ w) ?_ hp hr hs hv
  intro blk off cap d w hH hblk hsz
  have := AnyQ.slices_SortFunc Tryd.lay196 3 Tryd.isAgg50 Tryd.sizeOf50 (venc Pv.Mov.c) (fun _ => rfl) (fun x v hv => by simp only [venc, Pv.Mov.c, List.map_cons, List.map_nil, List.mem_cons, List.not_mem_nil, or_false] at hv; rcases hv with rfl | rfl | rfl <;> rfl) Pv.Mov.cmp (lt196 ▸ Pv.Mov.swo) (num 197) #[] blk off cap d w entc196
    (fnr_lays (fun x c hc => by simp only [Go.Pv.Mov.c, List.mem_cons, List.not_mem_nil, or_false] at hc; rcases hc with rfl | rfl | rfl <;> rfl) fnr196 entc196 3 blk off d.size w) hH hblk hsz
  rw [lt196] at this
  exact this

theorem prim252 : Prim.Ok Tryd.prog num 252 autoP := by
  obtain ⟨an, h⟩ := ok252
  exact autoP_ok (M := our) mixedOk (show FnOk Tryd.prog num our (num 252) an autoF from h)

theorem prOk : PrimOk Tryd.prog num PrA := prims_ok (by
  unfold prL
  exact List.forall_mem_cons.2 ⟨prim191, List.forall_mem_cons.2 ⟨prim196, List.forall_mem_cons.2 ⟨prim252, fun x hx => by cases hx⟩⟩⟩)
theorem prLaw : PrimLaw PrA := prims_law (by
  unfold prL
  exact List.forall_mem_cons.2 ⟨cloneP_law _, List.forall_mem_cons.2 ⟨sortP_law _ _ _, List.forall_mem_cons.2 ⟨autoP_law, fun x hx => by cases hx⟩⟩⟩)

theorem pdrT : PDrT Tryd.prog 26 24 22 75 5 4 := ⟨⟨⟨_, Tryd.underlying24, rfl⟩, Tryd.underlying22, ⟨_, Tryd.underlying75, rfl⟩, Tryd.underlying5⟩, ⟨_, Tryd.underlying26, rfl⟩, Tryd.underlying4⟩
theorem G {f : Nat} {ps rs : List PV} (h : res A PrA f ps = some rs) : FnR Tryd.prog num f ps rs := Gives.sound mixedOk prLaw prOk aOk (res_some.1 h)
set_option maxRecDepth 100000 in
theorem lawFn (css : List (List PV)) (hl : css.length = Tryd.f4.params.toList.length) (ht : ∀ (j : Nat) (t : TypeId) (cs : List PV), Tryd.f4.params.toList[j]? = some t → css[j]? = some cs → typed Tryd.prog 12 t cs) : FnR Tryd.prog num 233 (List.zipWith (argPV Tryd.prog) Tryd.f4.params.toList css) [.bool true] := by
  have hp : Tryd.f4.params.toList = [26] := by kernel_rfl
  rw [hp] at hl ht ⊢
  exact law1 (pdrArg pdrT) (fun d h => G (r233 r235 d h)) css hl ht
theorem own : ownKnob Tryd.prog.godebug = none := by kernel_rfl
theorem laidOut : laidOutB Tryd.prog = true := by kernel_rfl
theorem parsOk : (Tryd.f4.params.toList.all fun t => Tryd.prog.readableRec t && decide (t < Tryd.prog.types.size) && plainData Tryd.prog 12 t) = true := by kernel_rfl
theorem pars (t : TypeId) (ht : t ∈ Tryd.f4.params.toList) : (Tryd.prog.readableRec t = true ∧ t < Tryd.prog.types.size) ∧ plainData Tryd.prog 12 t = true := by
  have := List.all_eq_true.1 parsOk t ht
  simp only [Bool.and_eq_true, decide_eq_true_eq] at this
  exact ⟨this.1, this.2⟩
noncomputable def zeros : Array Value := Tryd.f4.params.map fun t => ((Tryd.prog.info? t).bind (·.zero)).getD undef
def laidL {H : Type} : List (String × DataW H) := [("math/bits.deBruijn32tab", Rows.laid_math_bits_deBruijn32tab), ("math/bits.deBruijn64tab", Rows.laid_math_bits_deBruijn64tab), ("internal/strconv.uint64pow10", Rows.laid_internal_strconv_uint64pow10)]
set_option maxRecDepth 100000 in
theorem door_met (os : Os) (args : Array Value) : laidMetH Tryd.prog laidL ((World.doorLaid Tryd.prog 4000 os).forCall (fun _ _ => 0) ⟨#[], args, []⟩).memory :=
  laidMetH_of_parts3 (fuel := 8) (laidMet_of_run' 8 (by kernel_rfl) (by kernel_rfl)) (by kernel_rfl) (by kernel_rfl)
set_option maxRecDepth 100000 in
theorem lifted (os : Os) (started : os.Started) (H : Type) (enc : TypeId × Value → H) :
    ReturnsInHanded {} Tryd.checked os 4 .any (fun w args => (Rows.converseRunSpec.pre enc Tryd.prog Tryd.f4 [] false w args ∧ laidMetH Tryd.prog laidL w) ∧ sizedMet enc Tryd.prog Tryd.f4 (OpenSpec.ofChange Rows.converseRunSpec) false w args)
      (Rows.converseRunSpec.post enc Tryd.prog Tryd.f4 false true false false) :=
  law_lifted_laid (C := Tryd.checked) (N := num) (f := 233) (n := 12) enc (fun w => laidMetH Tryd.prog laidL w) (fun _ _ hh h => h.of_heap hh) lawFn own laidOut started (by kernel_rfl) Tryd.func4 (code := Tryd.f4.body.getD .skip) (by kernel_rfl) (by kernel_rfl)
    (ChangeSpec.witness_shaped (enc := enc) (C := Tryd.checked) (os := os) (X := fun w _ => laidMetH Tryd.prog laidL w) false (World.doorLaid Tryd.prog 4000 os) zeros 12 rfl (World.shaped_of_RefB (by kernel_rfl) (by kernel_rfl)) (by kernel_rfl) (by kernel_rfl) (by kernel_rfl) (door_met os _))
    (tb := Tryd.f4.resultTypes.toList.headD 0) (by kernel_rfl) (by kernel_rfl) rfl (fun ds hl => by
      match ds, hl with
      | [_], _ => rfl) (fun t ht => (pars t ht).1) (fun t ht => (pars t ht).2)
theorem row_holds : Rows.ConverseRunSaid :=
  OpenClaim.holds_of_wide 4 Tryd.f4 rfl rfl rfl rfl rfl rfl rfl ⟨rfl, rfl, rfl, rfl, rfl⟩ rfl rfl rfl rfl rfl (by kernel_rfl) Tryd.func4 (by kernel_rfl)
    (of_decide_eq_true (by kernel_rfl)) (by unfold Func.isWrapper; first | (rw [if_pos (by decide +kernel)]; kernel_rfl) | (rw [if_neg (by decide +kernel)]; exact ⟨rfl, rfl⟩))
    (fun os started H enc _ => lifted os started H enc)
theorem law_holds : Rows.ConverseRunCardSaid :=
  Claim7.holds_tied_plain_at .later [] [.data, .data, .data] true (true, "cd51bec7da2cec8415344473713af5d09667f14c253e10ab9f41eafab6e1de77") false
    row_holds (fun _ h => by cases h) (by kernel_rfl) (fun _ h => by cases h) converseRun_row_tie rfl ⟨rfl, rfl⟩ (by kernel_rfl) rfl
    (fun f fn hf hfn => by
      obtain rfl : f = 4 := Option.some.inj ((show Tryd.prog.funcNamed "sheave/sheavelaw30.ConverseRun" = some 4 by kernel_rfl).symm.trans hf) |>.symm
      obtain rfl : fn = Tryd.f4 := (Option.some.inj (Tryd.func4.symm.trans hfn)).symm
      exact ⟨by kernel_rfl, fun j t ht => by
        have hm : t ∈ Tryd.f4.params.toList := by simpa using Array.mem_of_getElem? ht
        have hall : (Tryd.f4.params.toList.all fun u => !Tryd.prog.wantsStandIn u) = true := by kernel_rfl
        exact (show Tryd.prog.wantsStandIn t = false by simpa using List.all_eq_true.1 hall t hm)⟩)
    (by kernel_rfl)
end Go.Proofs.YtppmbamefnacaaaDoor
