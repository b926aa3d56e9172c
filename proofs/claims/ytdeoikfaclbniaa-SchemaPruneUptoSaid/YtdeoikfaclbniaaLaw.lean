/-
  The law SchemaPrune: for every input it returns true, and each argument reads as before. Condition: the arguments are of bulk at most 1048576 (the second form).
-/
import Derived.Test.YtdeoikfaclbniaaOk
import Derived.Test.YtdeoikfaclbniaaC4
import Derived.Test.YtdeoikfaclbniaaLay
import Derived.Test.YtdeoikfaclbniaaRows
import Derived.ProofKit
import Derived.JoinedCond
set_option linter.unusedSimpArgs false
set_option linter.unusedVariables false
namespace Go.Proofs.Ytdeoikfaclbniaa
open Go Go.Pv Go.Proofs Go.RowKit Go.ChangeShapes Go.Sort

theorem mixedOk : Try.prog.follows .mixedOrders = true := by kernel_rfl
theorem noLaw : PrimLaw (fun _ => none) := prims_law (l := []) (fun x hx => by cases hx)
theorem noOk : PrimOk Try.prog num (fun _ => none) := prims_ok (l := []) (fun x hx => by cases hx)

theorem ent103 : ∀ args w, (callFunc (num 103) args).run Try.prog w = .ok (.enter (num 103) args) w := enters_of Try.func45 (by kernel_rfl) rfl
theorem prim103 : Prim.Ok Try.prog num 103 sortIP := by
  intro L e W h w vs args v tn hp hr hs hv
  exact sortIP_ok (N := num) (fn := 103) Try.lay103 rfl ent103 hp hr hs hv

theorem ent313 : ∀ args w, (callFunc (num 313) args).run Try.prog w = .ok (.enter (num 313) args) w := enters_of Try.func70 (by kernel_rfl) rfl
theorem inf313 : (Try.prog.info? 80).isSome = true := by kernel_rfl
theorem zer313 : (((Try.prog.info? 80).get inf313).zero).isSome = true := by kernel_rfl
theorem prim313 : Prim.Ok Try.prog num 313 (cloneP 2) := by
  intro L e W h w vs args v tn hp hr hs hv
  exact cloneP_ok (N := num) (fn := 313) Try.lay313 rfl (by decide) ((Try.prog.info? 80).get inf313) (((Try.prog.info? 80).get inf313).zero.get zer313) (Option.some_get inf313).symm (Option.some_get zer313).symm (by kernel_rfl) (by kernel_rfl) (Nat.le_of_ble_eq_true (by kernel_rfl)) Try.sizeOf80 ent313 hp hr hs hv

theorem ent314 : ∀ args w, (callFunc (num 314) args).run Try.prog w = .ok (.enter (num 314) args) w := enters_of Try.func71 (by kernel_rfl) rfl
theorem inf314 : (Try.prog.info? 62).isSome = true := by kernel_rfl
theorem zer314 : (((Try.prog.info? 62).get inf314).zero).isSome = true := by kernel_rfl
theorem prim314 : Prim.Ok Try.prog num 314 (cloneP 13) := by
  intro L e W h w vs args v tn hp hr hs hv
  exact cloneP_ok (N := num) (fn := 314) Try.lay314 rfl (by decide) ((Try.prog.info? 62).get inf314) (((Try.prog.info? 62).get inf314).zero.get zer314) (Option.some_get inf314).symm (Option.some_get zer314).symm (by kernel_rfl) (by kernel_rfl) (Nat.le_of_ble_eq_true (by kernel_rfl)) Try.sizeOf62 ent314 hp hr hs hv

theorem ent331 : ∀ args w, (callFunc (num 331) args).run Try.prog w = .ok (.enter (num 331) args) w := enters_of Try.func99 (by kernel_rfl) rfl
theorem inf331 : (Try.prog.info? 60).isSome = true := by kernel_rfl
theorem zer331 : (((Try.prog.info? 60).get inf331).zero).isSome = true := by kernel_rfl
theorem prim331 : Prim.Ok Try.prog num 331 (cloneP 8) := by
  intro L e W h w vs args v tn hp hr hs hv
  exact cloneP_ok (N := num) (fn := 331) Try.lay331 rfl (by decide) ((Try.prog.info? 60).get inf331) (((Try.prog.info? 60).get inf331).zero.get zer331) (Option.some_get inf331).symm (Option.some_get zer331).symm (by kernel_rfl) (by kernel_rfl) (Nat.le_of_ble_eq_true (by kernel_rfl)) Try.sizeOf60 ent331 hp hr hs hv

theorem ent332 : ∀ args w, (callFunc (num 332) args).run Try.prog w = .ok (.enter (num 332) args) w := enters_of Try.func100 (by kernel_rfl) rfl
theorem inf332 : (Try.prog.info? 88).isSome = true := by kernel_rfl
theorem zer332 : (((Try.prog.info? 88).get inf332).zero).isSome = true := by kernel_rfl
theorem prim332 : Prim.Ok Try.prog num 332 (cloneP 2) := by
  intro L e W h w vs args v tn hp hr hs hv
  exact cloneP_ok (N := num) (fn := 332) Try.lay332 rfl (by decide) ((Try.prog.info? 88).get inf332) (((Try.prog.info? 88).get inf332).zero.get zer332) (Option.some_get inf332).symm (Option.some_get zer332).symm (by kernel_rfl) (by kernel_rfl) (Nat.le_of_ble_eq_true (by kernel_rfl)) Try.sizeOf88 ent332 hp hr hs hv

theorem prOk : PrimOk Try.prog num PrA := prims_ok (by
  unfold prL
  exact List.forall_mem_cons.2 ⟨prim103, List.forall_mem_cons.2 ⟨prim313, List.forall_mem_cons.2 ⟨prim314, List.forall_mem_cons.2 ⟨prim331, List.forall_mem_cons.2 ⟨prim332, fun x hx => by cases hx⟩⟩⟩⟩⟩)
theorem prLaw : PrimLaw PrA := prims_law (by
  unfold prL
  exact List.forall_mem_cons.2 ⟨sortIP_law, List.forall_mem_cons.2 ⟨cloneP_law _, List.forall_mem_cons.2 ⟨cloneP_law _, List.forall_mem_cons.2 ⟨cloneP_law _, List.forall_mem_cons.2 ⟨cloneP_law _, fun x hx => by cases hx⟩⟩⟩⟩⟩)

theorem schT : SchT Try.prog 24 50 80 62 60 88 22 47 48 57 58 9 3 2 4 := ⟨Try.underlying3, Try.underlying2, Try.underlying4, Try.underlying9, Try.underlying22, Try.underlying47, Try.underlying48, Try.underlying57, Try.underlying58, ⟨_, Try.underlying24, rfl⟩, ⟨_, Try.underlying50, rfl⟩, ⟨_, Try.underlying80, rfl⟩, ⟨_, Try.underlying62, rfl⟩, ⟨_, Try.underlying60, rfl⟩, ⟨_, Try.underlying88, rfl⟩⟩
set_option maxRecDepth 100000 in
theorem lawFn (css : List (List PV)) (hl : css.length = Try.f6.params.toList.length) (ht : ∀ (j : Nat) (t : TypeId) (cs : List PV), Try.f6.params.toList[j]? = some t → css[j]? = some cs → (∃ n, typed Try.prog n t cs) ∧ ∀ c ∈ cs, Small 1048576 c) : FnR Try.prog num 262 (List.zipWith (argPV Try.prog) Try.f6.params.toList css) [.bool true] := by
  have hp : Try.f6.params.toList = [24, 3] := by kernel_rfl
  rw [hp] at hl ht ⊢
  match css, hl with
  | [c1, c2], _ =>
    obtain ⟨⟨n1, h1⟩, s1⟩ := ht 0 24 c1 rfl rfl
    obtain ⟨⟨n2, h2⟩, s2⟩ := ht 1 3 c2 rfl rfl
    obtain ⟨l, rfl, hl, ho⟩ := sch_typed schT h1
    obtain ⟨k1, k2⟩ := sch_small s1
    have k3 : ∀ t ∈ l, ∀ c ∈ t.c, Small 1048576 c := fun t ht => (lst_small (s1 _ (List.mem_singleton.2 rfl))).2 _ (List.mem_map_of_mem ht)
    have e1 : argPV Try.prog 24 [.lst 0 (l.map Typ.c)] = .agg [.lst 0 (l.map Typ.c)] := by simp only [argPV, isAgg_struct Try.underlying24, if_true]
    obtain ⟨i, rfl, _⟩ := ty_int schT.i h2
    have e0 : isAggT Try.prog 3 = some false := by simp [isAggT, Try.underlying3]
    have e2 : argPV Try.prog 3 [.int .i64 i] = .int .i64 i := by simp [argPV, e0]
    show FnR _ _ _ [argPV Try.prog 24 [.lst 0 (l.map Typ.c)], argPV Try.prog 3 [.int .i64 i]] _
    rw [e1, e2]
    exact Gives.sound mixedOk prLaw prOk aOk (res_some.1 (r262 r265 l i k1 ho k2 k3))



theorem one_le {H : Type} (d : DataW H) : 1 ≤ Rows.uptoBulk d := by
  cases d with
  | lit x => cases x <;> simp [Rows.uptoBulk]
  | _ => simp [Rows.uptoBulk]
theorem part_le {H : Type} {d : DataW H} : ∀ {l : List (DataW H)}, d ∈ l → Rows.uptoBulk d ≤ Rows.uptoBulkAll l
  | [], h => by cases h
  | x :: l, h => by
    rw [Rows.uptoBulkAll]
    rcases List.mem_cons.1 h with rfl | h
    · omega
    · have := part_le h
      omega
theorem length_le {H : Type} : ∀ (l : List (DataW H)), l.length ≤ Rows.uptoBulkAll l
  | [] => Nat.zero_le _
  | x :: l => by
    rw [Rows.uptoBulkAll, List.length_cons]
    have := one_le x
    have := length_le l
    omega
theorem bulky (H : Type) : Bulky (H := H) Rows.uptoBulk where
  str l := by rw [Rows.uptoBulk]; omega
  slice e s := by
    rw [Rows.uptoBulk]
    refine ⟨by have := length_le e; omega, fun d hd => by have := part_le hd; omega⟩
  agg ps := fun d hd => by
    rw [Rows.uptoBulk]
    have := part_le hd
    omega
theorem small_of (H : Type) (ds : List (DataW H)) (h : Rows.uptoSmall H ds = true) : ∀ d ∈ ds, Rows.uptoBulk d ≤ 1048576 := fun d hd => Nat.le_trans (part_le hd) (of_decide_eq_true h)
theorem own : ownKnob Try.prog.godebug = none := by kernel_rfl
theorem laidOut : laidOutB Try.prog = true := by kernel_rfl
def recS : List TypeId := [24,22,50,3,9,2,4,47,48,80,62,60,57,58,88]
theorem recOk : recData Try.prog recS = true := by kernel_rfl
theorem parsOk : (Try.f6.params.toList.all fun t => Try.prog.readableRec t && decide (t < Try.prog.types.size) && recS.contains t) = true := by kernel_rfl
theorem pars (t : TypeId) (ht : t ∈ Try.f6.params.toList) : (Try.prog.readableRec t = true ∧ t < Try.prog.types.size) ∧ t ∈ recS := by
  have := List.all_eq_true.1 parsOk t ht
  simp only [Bool.and_eq_true, decide_eq_true_eq] at this
  exact ⟨this.1, List.contains_iff_mem.1 this.2⟩
noncomputable def zeros : Array Value := Try.f6.params.map fun t => ((Try.prog.info? t).bind (·.zero)).getD undef

set_option maxRecDepth 100000 in
theorem lifted (os : Os) (started : os.Started) (H : Type) (enc : TypeId × Value → H) (F : Stop.Interp) :
    ReturnsInHanded {} Try.checked os 6 .any ((Rows.OpenSpec.upto Rows.schemaPruneSpec).pre6 enc Try.prog Try.f6 Rows.schemaPruneUptoRow.domain false) (((Rows.OpenSpec.upto Rows.schemaPruneSpec).at F).post enc Try.prog Try.f6 false true false false) :=
  law_lifted_upto (bulky H) (M := 1048576) (s := Rows.schemaPruneSpec) (s' := (Rows.OpenSpec.upto Rows.schemaPruneSpec)) (k := Rows.uptoSmall) rfl (small_of H) (F := F) (S := recS) (C := Try.checked) (N := num) (f := 262) enc lawFn own laidOut started (by kernel_rfl) Try.func6 (code := Try.f6.body.getD .skip) (by kernel_rfl) (by kernel_rfl)
    (OpenSpec.witness (enc := enc) (C := Try.checked) (s := (Rows.OpenSpec.upto Rows.schemaPruneSpec)) (k := Rows.uptoSmall) rfl false ⟨#[], zeros, []⟩ 12 (by kernel_rfl) (by kernel_rfl) (by kernel_rfl) (x := ([.agg [.nil], .lit (.int .i64 0)], [], [])) (by kernel_rfl) rfl (by kernel_rfl))
    (tb := Try.f6.resultTypes.toList.headD 0) (by kernel_rfl) (by kernel_rfl) rfl rfl rfl (fun ds hl => by
      match ds, hl with
      | [_, _], _ => rfl) (fun t ht => (pars t ht).1) recOk (fun t ht => (pars t ht).2)

theorem law_holds : Rows.SchemaPruneUptoSaid :=
  OpenClaim.holds_of_cond 6 Try.f6 rfl rfl rfl rfl rfl rfl rfl ⟨rfl, rfl, rfl, rfl, rfl⟩ rfl rfl rfl rfl rfl (by kernel_rfl) Try.func6 (by kernel_rfl)
    (of_decide_eq_true (by kernel_rfl)) (by unfold Func.isWrapper; first | (rw [if_pos (by decide +kernel)]; kernel_rfl) | (rw [if_neg (by decide +kernel)]; exact ⟨rfl, rfl⟩))
    (fun os started H enc _ F => lifted os started H enc F)

end Go.Proofs.Ytdeoikfaclbniaa
