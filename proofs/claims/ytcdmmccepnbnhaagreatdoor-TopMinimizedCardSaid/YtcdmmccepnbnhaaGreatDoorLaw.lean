/-
  The law TopMinimized: for every input it returns true, and each argument reads as before. No condition.
-/
import Derived.Test.YtcdmmccepnbnhaaGreatDoorOk
import Derived.Test.YtcdmmccepnbnhaaGreatDoorC6
import Derived.Test.YtcdmmccepnbnhaaGreatDoorLay
import Derived.Test.YtcdmmccepnbnhaaGreatDoorChecked
import Derived.Test.YtcdmmccepnbnhaaGreatDoorRows
import Derived.Test.YtcdmmccepnbnhaaGreatDoorTie
import Derived.Test.YtcdmmccepnbnhaaGreatDoorCards
import Derived.ProofKit
import Derived.LaidMore
import Derived.LaidLaws
import Derived.SevenTiedAt
set_option linter.unusedSimpArgs false
set_option linter.unusedVariables false
namespace Go.Proofs.YtcdmmccepnbnhaaGreatDoor
open Go Go.Pv Go.Proofs Go.RowKit Go.ChangeShapes Go.Sort Go.Shelf

theorem mixedOk : Tryz.prog.follows .mixedOrders = true := by kernel_rfl
theorem noLaw : PrimLaw (fun _ => none) := prims_law (l := []) (fun x hx => by cases hx)
theorem noOk : PrimOk Tryz.prog num (fun _ => none) := prims_ok (l := []) (fun x hx => by cases hx)

theorem ent51 : ∀ args w, (callFunc (num 51) args).run Tryz.prog w = .ok (.enter (num 51) args) w := enters_of Tryz.func74 (by kernel_rfl) rfl
theorem entc51 : ∀ args w, (callFunc (num 47) args).run Tryz.prog w = .ok (.enter (num 47) args) w := enters_of Tryz.func75 (by kernel_rfl) rfl
theorem fnr51 (x y : Pv.Edge) : FnR Tryz.prog num 47 [.agg x.c, .agg y.c] [.int .i64 (Pv.Edge.cmp x y)] :=
  Gives.sound mixedOk noLaw noOk aOk (res_some.1 (r47 (Pr := fun _ => none) rfl rfl rfl rfl x y))
theorem lt51 : ltOf Pv.Edge.cmp = Pv.Edge.lt := by
  funext x y
  exact Pv.Edge.cmp_lt x y
theorem prim51 : Prim.Ok Tryz.prog num 51 (sortP 4 (sortRows Edge.c Edge.dec Edge.lt) 47) := by
  intro L e W h w vs args v tn hp hr hs hv
  refine sortP_ok (by decide) Pv.Edge.dec_enc (fun _ => rfl) (fun x c hc => by simp only [Go.Pv.Edge.c, List.mem_cons, List.not_mem_nil, or_false] at hc; rcases hc with rfl | rfl | rfl | rfl <;> rfl) Pv.Edge.swo ent51 (fun a cap w => AnyF.slices_SortFunc_none Tryz.lay51 a cap _ w) ?_ hp hr hs hv
  intro blk off cap d w hH hblk hsz
  have := AnyQ.slices_SortFunc Tryz.lay51 4 Tryz.isAgg69 Tryz.sizeOf69 (venc Pv.Edge.c) (fun _ => rfl) (fun x v hv => by simp only [venc, Pv.Edge.c, List.map_cons, List.map_nil, List.mem_cons, List.not_mem_nil, or_false] at hv; rcases hv with rfl | rfl | rfl | rfl <;> rfl) Pv.Edge.cmp (lt51 ▸ Pv.Edge.swo) (num 47) #[] blk off cap d w entc51
    (fnr_lays (fun x c hc => by simp only [Go.Pv.Edge.c, List.mem_cons, List.not_mem_nil, or_false] at hc; rcases hc with rfl | rfl | rfl | rfl <;> rfl) fnr51 entc51 4 blk off d.size w) hH hblk hsz
  rw [lt51] at this
  exact this

theorem ent191 : ∀ args w, (callFunc (num 191) args).run Tryz.prog w = .ok (.enter (num 191) args) w := enters_of Tryz.func57 (by kernel_rfl) rfl
theorem inf191 : (Tryz.prog.info? 3).isSome = true := by kernel_rfl
theorem zer191 : (((Tryz.prog.info? 3).get inf191).zero).isSome = true := by kernel_rfl
theorem prim191 : Prim.Ok Tryz.prog num 191 (cloneP 1) := by
  intro L e W h w vs args v tn hp hr hs hv
  exact cloneP_ok (N := num) (fn := 191) Tryz.lay191 rfl (by decide) ((Tryz.prog.info? 3).get inf191) (((Tryz.prog.info? 3).get inf191).zero.get zer191) (Option.some_get inf191).symm (Option.some_get zer191).symm (by kernel_rfl) (by kernel_rfl) (Nat.le_of_ble_eq_true (by kernel_rfl)) Tryz.sizeOf3 ent191 hp hr hs hv

theorem ent196 : ∀ args w, (callFunc (num 196) args).run Tryz.prog w = .ok (.enter (num 196) args) w := enters_of Tryz.func58 (by kernel_rfl) rfl
theorem entc196 : ∀ args w, (callFunc (num 197) args).run Tryz.prog w = .ok (.enter (num 197) args) w := enters_of Tryz.func59 (by kernel_rfl) rfl
theorem fnr196 (x y : Pv.Mov) : FnR Tryz.prog num 197 [.agg x.c, .agg y.c] [.int .i64 (Pv.Mov.cmp x y)] :=
  Gives.sound mixedOk noLaw noOk aOk (res_some.1 (r197 (Pr := fun _ => none) rfl rfl rfl rfl x y))
theorem lt196 : ltOf Pv.Mov.cmp = Pv.Mov.lt := by
  funext x y
  exact Pv.Mov.cmp_lt x y
theorem prim196 : Prim.Ok Tryz.prog num 196 (sortP 3 (sortRows Mov.c Mov.dec Mov.lt) 197) := by
  intro L e W h w vs args v tn hp hr hs hv
  refine sortP_ok (by decide) Pv.Mov.dec_enc (fun _ => rfl) (fun x c hc => by simp only [Go.Pv.Mov.c, List.mem_cons, List.not_mem_nil, or_false] at hc; rcases hc with rfl | rfl | rfl <;> rfl) Pv.Mov.swo ent196 (fun a cap w => AnyF.slices_SortFunc_none Tryz.lay196 a cap _ w) ?_ hp hr hs hv
  intro blk off cap d w hH hblk hsz
  have := AnyQ.slices_SortFunc Tryz.lay196 3 Tryz.isAgg58 Tryz.sizeOf58 (venc Pv.Mov.c) (fun _ => rfl) (fun x v hv => by simp only [venc, Pv.Mov.c, List.map_cons, List.map_nil, List.mem_cons, List.not_mem_nil, or_false] at hv; rcases hv with rfl | rfl | rfl <;> rfl) Pv.Mov.cmp (lt196 ▸ Pv.Mov.swo) (num 197) #[] blk off cap d w entc196
    (fnr_lays (fun x c hc => by simp only [Go.Pv.Mov.c, List.mem_cons, List.not_mem_nil, or_false] at hc; rcases hc with rfl | rfl | rfl <;> rfl) fnr196 entc196 3 blk off d.size w) hH hblk hsz
  rw [lt196] at this
  exact this

theorem prOk : PrimOk Tryz.prog num PrA := prims_ok (by
  unfold prL
  exact List.forall_mem_cons.2 ⟨prim51, List.forall_mem_cons.2 ⟨prim191, List.forall_mem_cons.2 ⟨prim196, fun x hx => by cases hx⟩⟩⟩)
theorem prLaw : PrimLaw PrA := prims_law (by
  unfold prL
  exact List.forall_mem_cons.2 ⟨sortP_law _ _ _, List.forall_mem_cons.2 ⟨cloneP_law _, List.forall_mem_cons.2 ⟨sortP_law _ _ _, fun x hx => by cases hx⟩⟩⟩)

theorem parT : ParT Tryz.prog 26 24 22 101 5 := ⟨⟨⟨_, Tryz.underlying24, rfl⟩, Tryz.underlying22, ⟨_, Tryz.underlying101, rfl⟩, Tryz.underlying5⟩, ⟨_, Tryz.underlying26, rfl⟩⟩
theorem G {f : Nat} {ps rs : List PV} (h : res A PrA f ps = some rs) : FnR Tryz.prog num f ps rs := Gives.sound mixedOk prLaw prOk aOk (res_some.1 h)
set_option maxRecDepth 100000 in
theorem lawFn (css : List (List PV)) (hl : css.length = Tryz.f4.params.toList.length) (ht : ∀ (j : Nat) (t : TypeId) (cs : List PV), Tryz.f4.params.toList[j]? = some t → css[j]? = some cs → typed Tryz.prog 12 t cs) : FnR Tryz.prog num 546 (List.zipWith (argPV Tryz.prog) Tryz.f4.params.toList css) [.bool true] := by
  have hp : Tryz.f4.params.toList = [26] := by kernel_rfl
  rw [hp] at hl ht ⊢
  exact law1 (parArg parT) (fun d h => G (r546 r548 d h)) css hl ht
theorem own : ownKnob Tryz.prog.godebug = none := by kernel_rfl
theorem laidOut : laidOutB Tryz.prog = true := by kernel_rfl
theorem parsOk : (Tryz.f4.params.toList.all fun t => Tryz.prog.readableRec t && decide (t < Tryz.prog.types.size) && plainData Tryz.prog 12 t) = true := by kernel_rfl
theorem pars (t : TypeId) (ht : t ∈ Tryz.f4.params.toList) : (Tryz.prog.readableRec t = true ∧ t < Tryz.prog.types.size) ∧ plainData Tryz.prog 12 t = true := by
  have := List.all_eq_true.1 parsOk t ht
  simp only [Bool.and_eq_true, decide_eq_true_eq] at this
  exact ⟨this.1, this.2⟩
noncomputable def zeros : Array Value := Tryz.f4.params.map fun t => ((Tryz.prog.info? t).bind (·.zero)).getD undef
def laidL {H : Type} : List (String × DataW H) := [("math/bits.deBruijn32tab", Rows.laid_math_bits_deBruijn32tab), ("math/bits.deBruijn64tab", Rows.laid_math_bits_deBruijn64tab), ("internal/strconv.uint64pow10", Rows.laid_internal_strconv_uint64pow10)]
set_option maxRecDepth 100000 in
theorem door_met (os : Os) (args : Array Value) : laidMetH Tryz.prog laidL ((World.doorLaid Tryz.prog 4000 os).forCall (fun _ _ => 0) ⟨#[], args, []⟩).memory :=
  laidMetH_of_parts3 (fuel := 8) (laidMet_of_run' 8 (by kernel_rfl) (by kernel_rfl)) (by kernel_rfl) (by kernel_rfl)
set_option maxRecDepth 100000 in
theorem lifted (os : Os) (started : os.Started) (H : Type) (enc : TypeId × Value → H) :
    ReturnsInHanded {} Tryz.checked os 4 .any (fun w args => (Rows.topMinimizedSpec.pre enc Tryz.prog Tryz.f4 [] false w args ∧ laidMetH Tryz.prog laidL w) ∧ sizedMet enc Tryz.prog Tryz.f4 (OpenSpec.ofChange Rows.topMinimizedSpec) false w args)
      (Rows.topMinimizedSpec.post enc Tryz.prog Tryz.f4 false true false false) :=
  law_lifted_laid (C := Tryz.checked) (N := num) (f := 546) (n := 12) enc (fun w => laidMetH Tryz.prog laidL w) (fun _ _ hh h => h.of_heap hh) lawFn own laidOut started (by kernel_rfl) Tryz.func4 (code := Tryz.f4.body.getD .skip) (by kernel_rfl) (by kernel_rfl)
    (ChangeSpec.witness_shaped (enc := enc) (C := Tryz.checked) (os := os) (X := fun w _ => laidMetH Tryz.prog laidL w) false (World.doorLaid Tryz.prog 4000 os) zeros 12 rfl (World.shaped_of_RefB (by kernel_rfl) (by kernel_rfl)) (by kernel_rfl) (by kernel_rfl) (by kernel_rfl) (door_met os _))
    (tb := Tryz.f4.resultTypes.toList.headD 0) (by kernel_rfl) (by kernel_rfl) rfl (fun ds hl => by
      match ds, hl with
      | [_], _ => rfl) (fun t ht => (pars t ht).1) (fun t ht => (pars t ht).2)
theorem row_holds : Rows.TopMinimizedSaid :=
  OpenClaim.holds_of_wide 4 Tryz.f4 rfl rfl rfl rfl rfl rfl rfl ⟨rfl, rfl, rfl, rfl, rfl⟩ rfl rfl rfl rfl rfl (by kernel_rfl) Tryz.func4 (by kernel_rfl)
    (of_decide_eq_true (by kernel_rfl)) (by unfold Func.isWrapper; first | (rw [if_pos (by decide +kernel)]; kernel_rfl) | (rw [if_neg (by decide +kernel)]; exact ⟨rfl, rfl⟩))
    (fun os started H enc _ => lifted os started H enc)
theorem law_holds : Rows.TopMinimizedCardSaid :=
  Claim7.holds_tied_plain_at .later [] [.data, .data, .data] true (true, "6c1e89c1def8a1ae63cdd0ee2395e8602619e7f5f2bbb3af333891523949c3c0") false
    row_holds (fun _ h => by cases h) (by kernel_rfl) (fun _ h => by cases h) topMinimized_row_tie rfl ⟨rfl, rfl⟩ (by kernel_rfl) rfl
    (fun f fn hf hfn => by
      obtain rfl : f = 4 := Option.some.inj ((show Tryz.prog.funcNamed "sheave/sheavetop.TopMinimized" = some 4 by kernel_rfl).symm.trans hf) |>.symm
      obtain rfl : fn = Tryz.f4 := (Option.some.inj (Tryz.func4.symm.trans hfn)).symm
      exact ⟨by kernel_rfl, fun j t ht => by
        have hm : t ∈ Tryz.f4.params.toList := by simpa using Array.mem_of_getElem? ht
        have hall : (Tryz.f4.params.toList.all fun u => !Tryz.prog.wantsStandIn u) = true := by kernel_rfl
        exact (show Tryz.prog.wantsStandIn t = false by simpa using List.all_eq_true.1 hall t hm)⟩)
    (by kernel_rfl)
end Go.Proofs.YtcdmmccepnbnhaaGreatDoor
