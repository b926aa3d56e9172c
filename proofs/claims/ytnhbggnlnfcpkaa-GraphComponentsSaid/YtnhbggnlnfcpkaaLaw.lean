/-
  The law GraphComponents: for every input it returns true, and each argument reads as before. No condition.
-/
import Derived.Test.YtnhbggnlnfcpkaaOk
import Derived.Test.YtnhbggnlnfcpkaaC5
import Derived.Test.YtnhbggnlnfcpkaaLay
import Derived.Test.YtnhbggnlnfcpkaaRows
import Derived.ProofKit
set_option linter.unusedSimpArgs false
set_option linter.unusedVariables false
namespace Go.Proofs.Ytnhbggnlnfcpkaa
open Go Go.Pv Go.Proofs Go.RowKit Go.ChangeShapes Go.Sort

theorem mixedOk : Try.prog.follows .mixedOrders = true := by kernel_rfl
theorem noLaw : PrimLaw (fun _ => none) := prims_law (l := []) (fun x hx => by cases hx)
theorem noOk : PrimOk Try.prog num (fun _ => none) := prims_ok (l := []) (fun x hx => by cases hx)

theorem ent103 : ∀ args w, (callFunc (num 103) args).run Try.prog w = .ok (.enter (num 103) args) w := enters_of Try.func60 (by kernel_rfl) rfl
theorem prim103 : Prim.Ok Try.prog num 103 sortIP := by
  intro L e W h w vs args v tn hp hr hs hv
  exact sortIP_ok (N := num) (fn := 103) Try.lay103 rfl ent103 hp hr hs hv

theorem ent191 : ∀ args w, (callFunc (num 191) args).run Try.prog w = .ok (.enter (num 191) args) w := enters_of Try.func17 (by kernel_rfl) rfl
theorem inf191 : (Try.prog.info? 3).isSome = true := by kernel_rfl
theorem zer191 : (((Try.prog.info? 3).get inf191).zero).isSome = true := by kernel_rfl
theorem prim191 : Prim.Ok Try.prog num 191 (cloneP 1) := by
  intro L e W h w vs args v tn hp hr hs hv
  exact cloneP_ok (N := num) (fn := 191) Try.lay191 rfl (by decide) ((Try.prog.info? 3).get inf191) (((Try.prog.info? 3).get inf191).zero.get zer191) (Option.some_get inf191).symm (Option.some_get zer191).symm (by kernel_rfl) (by kernel_rfl) (Nat.le_of_ble_eq_true (by kernel_rfl)) Try.sizeOf3 ent191 hp hr hs hv

theorem ent347 : ∀ args w, (callFunc (num 347) args).run Try.prog w = .ok (.enter (num 347) args) w := enters_of Try.func14 (by kernel_rfl) rfl
theorem inf347 : (Try.prog.info? 28).isSome = true := by kernel_rfl
theorem zer347 : (((Try.prog.info? 28).get inf347).zero).isSome = true := by kernel_rfl
theorem prim347 : Prim.Ok Try.prog num 347 (cloneP 2) := by
  intro L e W h w vs args v tn hp hr hs hv
  exact cloneP_ok (N := num) (fn := 347) Try.lay347 rfl (by decide) ((Try.prog.info? 28).get inf347) (((Try.prog.info? 28).get inf347).zero.get zer347) (Option.some_get inf347).symm (Option.some_get zer347).symm (by kernel_rfl) (by kernel_rfl) (Nat.le_of_ble_eq_true (by kernel_rfl)) Try.sizeOf28 ent347 hp hr hs hv

theorem prOk : PrimOk Try.prog num PrA := prims_ok (by
  unfold prL
  exact List.forall_mem_cons.2 ⟨prim103, List.forall_mem_cons.2 ⟨prim191, List.forall_mem_cons.2 ⟨prim347, fun x hx => by cases hx⟩⟩⟩)
theorem prLaw : PrimLaw PrA := prims_law (by
  unfold prL
  exact List.forall_mem_cons.2 ⟨sortIP_law, List.forall_mem_cons.2 ⟨cloneP_law _, List.forall_mem_cons.2 ⟨cloneP_law _, fun x hx => by cases hx⟩⟩⟩)

theorem gdrT : GDrT Try.prog 46 44 70 5 := ⟨⟨_, Try.underlying46, rfl⟩, Try.underlying44, Try.underlying70, Try.underlying5⟩
set_option maxRecDepth 100000 in
theorem lawFn (css : List (List PV)) (hl : css.length = Try.f9.params.toList.length) (ht : ∀ (j : Nat) (t : TypeId) (cs : List PV), Try.f9.params.toList[j]? = some t → css[j]? = some cs → typed Try.prog 12 t cs) : FnR Try.prog num 343 (List.zipWith (argPV Try.prog) Try.f9.params.toList css) [.bool true] := by
  have hp : Try.f9.params.toList = [46] := by kernel_rfl
  rw [hp] at hl ht ⊢
  exact law1 (gdrArg gdrT) (fun x hx => Gives.sound mixedOk prLaw prOk aOk (res_some.1 (r343 r345 x hx))) css hl ht


theorem own : ownKnob Try.prog.godebug = none := by kernel_rfl
theorem laidOut : laidOutB Try.prog = true := by kernel_rfl
theorem parsOk : (Try.f9.params.toList.all fun t => Try.prog.readableRec t && decide (t < Try.prog.types.size) && plainData Try.prog 12 t) = true := by kernel_rfl
theorem pars (t : TypeId) (ht : t ∈ Try.f9.params.toList) : (Try.prog.readableRec t = true ∧ t < Try.prog.types.size) ∧ plainData Try.prog 12 t = true := by
  have := List.all_eq_true.1 parsOk t ht
  simp only [Bool.and_eq_true, decide_eq_true_eq] at this
  exact ⟨this.1, this.2⟩
noncomputable def zeros : Array Value := Try.f9.params.map fun t => ((Try.prog.info? t).bind (·.zero)).getD undef

set_option maxRecDepth 100000 in
theorem lifted (os : Os) (started : os.Started) (H : Type) (enc : TypeId × Value → H) :
    ReturnsInHanded {} Try.checked os 9 .any (Rows.graphComponentsSpec.pre6 enc Try.prog Try.f9 Rows.graphComponentsRow.domain false) (Rows.graphComponentsSpec.post enc Try.prog Try.f9 false true false false) :=
  law_lifted (C := Try.checked) (N := num) (f := 343) (n := 12) enc lawFn own laidOut started (by kernel_rfl) Try.func9 (code := Try.f9.body.getD .skip) (by kernel_rfl) (by kernel_rfl)
    (ChangeSpec.witness6 (enc := enc) (C := Try.checked) false ⟨#[], zeros, []⟩ 12 (by kernel_rfl) (by kernel_rfl) (by kernel_rfl) (by kernel_rfl))
    (tb := Try.f9.resultTypes.toList.headD 0) (by kernel_rfl) (by kernel_rfl) rfl (fun ds hl => by
      match ds, hl with
      | [_], _ => rfl) (fun t ht => (pars t ht).1) (fun t ht => (pars t ht).2)

theorem law_holds : Rows.GraphComponentsSaid :=
  OpenClaim.holds_of_wide 9 Try.f9 rfl rfl rfl rfl rfl rfl rfl ⟨rfl, rfl, rfl, rfl, rfl⟩ rfl rfl rfl rfl rfl (by kernel_rfl) Try.func9 (by kernel_rfl)
    (of_decide_eq_true (by kernel_rfl)) (by unfold Func.isWrapper; first | (rw [if_pos (by decide +kernel)]; kernel_rfl) | (rw [if_neg (by decide +kernel)]; exact ⟨rfl, rfl⟩))
    (fun os started H enc _ => lifted os started H enc)

end Go.Proofs.Ytnhbggnlnfcpkaa
