/-
  The law MinimalCount: for every input it returns true, and each argument reads as before. No condition.
-/
import Derived.Test.YtcgkhjdkachckaaOk
import Derived.Test.YtcgkhjdkachckaaC1
import Derived.Test.YtcgkhjdkachckaaLay
import Derived.Test.YtcgkhjdkachckaaRows
import Derived.ProofKit
set_option linter.unusedSimpArgs false
set_option linter.unusedVariables false
namespace Go.Proofs.Ytcgkhjdkachckaa
open Go Go.Pv Go.Proofs Go.RowKit Go.ChangeShapes Go.Sort

theorem mixedOk : Try.prog.follows .mixedOrders = true := by kernel_rfl
theorem noLaw : PrimLaw (fun _ => none) := prims_law (l := []) (fun x hx => by cases hx)
theorem noOk : PrimOk Try.prog num (fun _ => none) := prims_ok (l := []) (fun x hx => by cases hx)

theorem ent51 : ∀ args w, (callFunc (num 51) args).run Try.prog w = .ok (.enter (num 51) args) w := enters_of Try.func54 (by kernel_rfl) rfl
theorem entc51 : ∀ args w, (callFunc (num 47) args).run Try.prog w = .ok (.enter (num 47) args) w := enters_of Try.func50 (by kernel_rfl) rfl
theorem fnr51 (x y : Pv.Edge) : FnR Try.prog num 47 [.agg x.c, .agg y.c] [.int .i64 (Pv.Edge.cmp x y)] :=
  Gives.sound mixedOk noLaw noOk aOk (res_some.1 (r47 (Pr := fun _ => none) rfl rfl rfl rfl x y))
theorem lt51 : ltOf Pv.Edge.cmp = Pv.Edge.lt := by
  funext x y
  exact Pv.Edge.cmp_lt x y
theorem prim51 : Prim.Ok Try.prog num 51 (sortP 4 (sortRows Edge.c Edge.dec Edge.lt) 47) := by
  intro L e W h w vs args v tn hp hr hs hv
  refine sortP_ok (by decide) Pv.Edge.dec_enc (fun _ => rfl) (fun x c hc => by simp only [Go.Pv.Edge.c, List.mem_cons, List.not_mem_nil, or_false] at hc; rcases hc with rfl | rfl | rfl | rfl <;> rfl) Pv.Edge.swo ent51 (fun a cap w => AnyF.slices_SortFunc_none Try.lay51 a cap _ w) ?_ hp hr hs hv
  intro blk off cap d w hH hblk hsz
  have := AnyQ.slices_SortFunc Try.lay51 4 Try.isAgg58 Try.sizeOf58 (venc Pv.Edge.c) (fun _ => rfl) (fun x v hv => by simp only [venc, Pv.Edge.c, List.map_cons, List.map_nil, List.mem_cons, List.not_mem_nil, or_false] at hv; rcases hv with rfl | rfl | rfl | rfl <;> rfl) Pv.Edge.cmp (lt51 ▸ Pv.Edge.swo) (num 47) #[] blk off cap d w entc51
    (fnr_lays (fun x c hc => by simp only [Go.Pv.Edge.c, List.mem_cons, List.not_mem_nil, or_false] at hc; rcases hc with rfl | rfl | rfl | rfl <;> rfl) fnr51 entc51 4 blk off d.size w) hH hblk hsz
  rw [lt51] at this
  exact this

theorem ent57 : ∀ args w, (callFunc (num 57) args).run Try.prog w = .ok (.enter (num 57) args) w := enters_of Try.func60 (by kernel_rfl) rfl
theorem inf57 : (Try.prog.info? 60).isSome = true := by kernel_rfl
theorem zer57 : (((Try.prog.info? 60).get inf57).zero).isSome = true := by kernel_rfl
theorem prim57 : Prim.Ok Try.prog num 57 (cloneP 2) := by
  intro L e W h w vs args v tn hp hr hs hv
  exact cloneP_ok (N := num) (fn := 57) Try.lay57 rfl (by decide) ((Try.prog.info? 60).get inf57) (((Try.prog.info? 60).get inf57).zero.get zer57) (Option.some_get inf57).symm (Option.some_get zer57).symm (by kernel_rfl) (by kernel_rfl) (Nat.le_of_ble_eq_true (by kernel_rfl)) Try.sizeOf60 ent57 hp hr hs hv

theorem ent64 : ∀ args w, (callFunc (num 64) args).run Try.prog w = .ok (.enter (num 64) args) w := enters_of Try.func67 (by kernel_rfl) rfl
theorem inf64 : (Try.prog.info? 58).isSome = true := by kernel_rfl
theorem zer64 : (((Try.prog.info? 58).get inf64).zero).isSome = true := by kernel_rfl
theorem prim64 : Prim.Ok Try.prog num 64 (cloneP 4) := by
  intro L e W h w vs args v tn hp hr hs hv
  exact cloneP_ok (N := num) (fn := 64) Try.lay64 rfl (by decide) ((Try.prog.info? 58).get inf64) (((Try.prog.info? 58).get inf64).zero.get zer64) (Option.some_get inf64).symm (Option.some_get zer64).symm (by kernel_rfl) (by kernel_rfl) (Nat.le_of_ble_eq_true (by kernel_rfl)) Try.sizeOf58 ent64 hp hr hs hv

theorem prOk : PrimOk Try.prog num PrA := prims_ok (by
  unfold prL
  exact List.forall_mem_cons.2 ⟨prim51, List.forall_mem_cons.2 ⟨prim57, List.forall_mem_cons.2 ⟨prim64, fun x hx => by cases hx⟩⟩⟩)
theorem prLaw : PrimLaw PrA := prims_law (by
  unfold prL
  exact List.forall_mem_cons.2 ⟨sortP_law _ _ _, List.forall_mem_cons.2 ⟨cloneP_law _, List.forall_mem_cons.2 ⟨cloneP_law _, fun x hx => by cases hx⟩⟩⟩)

theorem autoT : AutoT Try.prog 24 22 58 3 4 := ⟨⟨_, Try.underlying24, rfl⟩, ⟨_, Try.underlying58, rfl⟩, Try.underlying22, Try.underlying3, Try.underlying4⟩
set_option maxRecDepth 100000 in
theorem lawFn (css : List (List PV)) (hl : css.length = Try.f6.params.toList.length) (ht : ∀ (j : Nat) (t : TypeId) (cs : List PV), Try.f6.params.toList[j]? = some t → css[j]? = some cs → typed Try.prog 12 t cs) : FnR Try.prog num 3 (List.zipWith (argPV Try.prog) Try.f6.params.toList css) [.bool true] := by
  have hp : Try.f6.params.toList = [24, 3] := by kernel_rfl
  rw [hp] at hl ht ⊢
  exact law2 (autoArg autoT) (intArg (t := (3 : TypeId)) Try.underlying3) (fun a n ha _ => Gives.sound mixedOk prLaw prOk aOk (res_some.1 (r3 a n ha.2.2.1))) css hl ht


theorem own : ownKnob Try.prog.godebug = none := by kernel_rfl
theorem laidOut : laidOutB Try.prog = true := by kernel_rfl
theorem parsOk : (Try.f6.params.toList.all fun t => Try.prog.readableRec t && decide (t < Try.prog.types.size) && plainData Try.prog 12 t) = true := by kernel_rfl
theorem pars (t : TypeId) (ht : t ∈ Try.f6.params.toList) : (Try.prog.readableRec t = true ∧ t < Try.prog.types.size) ∧ plainData Try.prog 12 t = true := by
  have := List.all_eq_true.1 parsOk t ht
  simp only [Bool.and_eq_true, decide_eq_true_eq] at this
  exact ⟨this.1, this.2⟩
noncomputable def zeros : Array Value := Try.f6.params.map fun t => ((Try.prog.info? t).bind (·.zero)).getD undef

set_option maxRecDepth 100000 in
theorem lifted (os : Os) (started : os.Started) (H : Type) (enc : TypeId × Value → H) :
    ReturnsInHanded {} Try.checked os 6 .any (Rows.minimalCountSpec.pre6 enc Try.prog Try.f6 Rows.minimalCountRow.domain false) (Rows.minimalCountSpec.post enc Try.prog Try.f6 false true false false) :=
  law_lifted (C := Try.checked) (N := num) (f := 3) (n := 12) enc lawFn own laidOut started (by kernel_rfl) Try.func6 (code := Try.f6.body.getD .skip) (by kernel_rfl) (by kernel_rfl)
    (ChangeSpec.witness6 (enc := enc) (C := Try.checked) false ⟨#[], zeros, []⟩ 12 (by kernel_rfl) (by kernel_rfl) (by kernel_rfl) (by kernel_rfl))
    (tb := Try.f6.resultTypes.toList.headD 0) (by kernel_rfl) (by kernel_rfl) rfl (fun ds hl => by
      match ds, hl with
      | [_, _], _ => rfl) (fun t ht => (pars t ht).1) (fun t ht => (pars t ht).2)

theorem law_holds : Rows.MinimalCountSaid :=
  OpenClaim.holds_of_wide 6 Try.f6 rfl rfl rfl rfl rfl rfl rfl ⟨rfl, rfl, rfl, rfl, rfl⟩ rfl rfl rfl rfl rfl (by kernel_rfl) Try.func6 (by kernel_rfl)
    (of_decide_eq_true (by kernel_rfl)) (by unfold Func.isWrapper; first | (rw [if_pos (by decide +kernel)]; kernel_rfl) | (rw [if_neg (by decide +kernel)]; exact ⟨rfl, rfl⟩))
    (fun os started H enc _ => lifted os started H enc)

end Go.Proofs.Ytcgkhjdkachckaa
