/-
  The law ContractFind: for every input it returns true, and each argument reads as before. No condition.
-/
import Derived.Test.YtpchfogcccagjaaGreatOk
import Derived.Test.YtpchfogcccagjaaGreatC2
import Derived.Test.YtpchfogcccagjaaGreatLay
import Derived.Test.YtpchfogcccagjaaGreatRows
import Derived.ProofKit
namespace Go.Proofs.YtpchfogcccagjaaGreat
open Go Go.Pv Go.Proofs Go.RowKit Go.ChangeShapes Go.Sort

theorem mixedOk : Tryz.prog.follows .mixedOrders = true := by kernel_rfl
theorem noLaw : PrimLaw (fun _ => none) := prims_law (l := []) (fun x hx => by cases hx)
theorem noOk : PrimOk Tryz.prog num (fun _ => none) := prims_ok (l := []) (fun x hx => by cases hx)

theorem ent51 : ∀ args w, (callFunc (num 51) args).run Tryz.prog w = .ok (.enter (num 51) args) w := enters_of Tryz.func172 (by kernel_rfl) rfl
theorem entc51 : ∀ args w, (callFunc (num 47) args).run Tryz.prog w = .ok (.enter (num 47) args) w := enters_of Tryz.func173 (by kernel_rfl) rfl
theorem fnr51 (x y : Pv.Edge) : FnR Tryz.prog num 47 [.agg x.c, .agg y.c] [.int .i64 (Pv.Edge.cmp x y)] :=
  Gives.sound mixedOk noLaw noOk aOk (res_some.1 (r47 (Pr := fun _ => none) rfl rfl rfl rfl x y))
theorem lt51 : ltOf Pv.Edge.cmp = Pv.Edge.lt := by
  funext x y
  exact Pv.Edge.cmp_lt x y
theorem prim51 : Prim.Ok Tryz.prog num 51 (sortP 4 (sortRows Edge.c Edge.dec Edge.lt) 47) := by
  intro L e W h w vs args v tn hp hr hs hv
  refine sortP_ok (by decide) Pv.Edge.dec_enc (fun _ => rfl) (fun x c hc => by simp only [Go.Pv.Edge.c, List.mem_cons, List.not_mem_nil, or_false] at hc; rcases hc with rfl | rfl | rfl | rfl <;> rfl) Pv.Edge.swo ent51 (fun a cap w => AnyF.slices_SortFunc_none Tryz.lay51 a cap _ w) ?_ hp hr hs hv
  intro blk off cap d w hH hblk hsz hT hB
  have := AnyQ.slices_SortFunc Tryz.lay51 4 Tryz.isAgg161 Tryz.sizeOf161 (venc Pv.Edge.c) (fun _ => rfl) (fun x v hv => by simp only [venc, Pv.Edge.c, List.map_cons, List.map_nil, List.mem_cons, List.not_mem_nil, or_false] at hv; rcases hv with rfl | rfl | rfl | rfl <;> rfl) Pv.Edge.cmp (lt51 ▸ Pv.Edge.swo) (num 47) #[] blk off cap d w entc51
    (fnr_lays (fun x c hc => by simp only [Go.Pv.Edge.c, List.mem_cons, List.not_mem_nil, or_false] at hc; rcases hc with rfl | rfl | rfl | rfl <;> rfl) fnr51 entc51 4 blk off d.size w hT hB) hH hblk hsz
  rw [lt51] at this
  exact this

theorem ent57 : ∀ args w, (callFunc (num 57) args).run Tryz.prog w = .ok (.enter (num 57) args) w := enters_of Tryz.func157 (by kernel_rfl) rfl
theorem inf57 : (Tryz.prog.info? 229).isSome = true := by kernel_rfl
theorem zer57 : (((Tryz.prog.info? 229).get inf57).zero).isSome = true := by kernel_rfl
theorem prim57 : Prim.Ok Tryz.prog num 57 (cloneP 2) := by
  intro L e W h w vs args v tn hp hr hs hv
  exact cloneP_ok (N := num) (fn := 57) Tryz.lay57 rfl (by decide) ((Tryz.prog.info? 229).get inf57) (((Tryz.prog.info? 229).get inf57).zero.get zer57) (Option.some_get inf57).symm (Option.some_get zer57).symm (by kernel_rfl) (by kernel_rfl) (Nat.le_of_ble_eq_true (by kernel_rfl)) Tryz.sizeOf229 ent57 hp hr hs hv

theorem ent64 : ∀ args w, (callFunc (num 64) args).run Tryz.prog w = .ok (.enter (num 64) args) w := enters_of Tryz.func98 (by kernel_rfl) rfl
theorem inf64 : (Tryz.prog.info? 161).isSome = true := by kernel_rfl
theorem zer64 : (((Tryz.prog.info? 161).get inf64).zero).isSome = true := by kernel_rfl
theorem prim64 : Prim.Ok Tryz.prog num 64 (cloneP 4) := by
  intro L e W h w vs args v tn hp hr hs hv
  exact cloneP_ok (N := num) (fn := 64) Tryz.lay64 rfl (by decide) ((Tryz.prog.info? 161).get inf64) (((Tryz.prog.info? 161).get inf64).zero.get zer64) (Option.some_get inf64).symm (Option.some_get zer64).symm (by kernel_rfl) (by kernel_rfl) (Nat.le_of_ble_eq_true (by kernel_rfl)) Tryz.sizeOf161 ent64 hp hr hs hv

theorem ent103 : ∀ args w, (callFunc (num 103) args).run Tryz.prog w = .ok (.enter (num 103) args) w := enters_of Tryz.func68 (by kernel_rfl) rfl
theorem prim103 : Prim.Ok Tryz.prog num 103 sortIP := by
  intro L e W h w vs args v tn hp hr hs hv
  exact sortIP_ok (N := num) (fn := 103) Tryz.lay103 rfl ent103 hp hr hs hv

theorem ent313 : ∀ args w, (callFunc (num 313) args).run Tryz.prog w = .ok (.enter (num 313) args) w := enters_of Tryz.func57 (by kernel_rfl) rfl
theorem inf313 : (Tryz.prog.info? 107).isSome = true := by kernel_rfl
theorem zer313 : (((Tryz.prog.info? 107).get inf313).zero).isSome = true := by kernel_rfl
theorem prim313 : Prim.Ok Tryz.prog num 313 (cloneP 2) := by
  intro L e W h w vs args v tn hp hr hs hv
  exact cloneP_ok (N := num) (fn := 313) Tryz.lay313 rfl (by decide) ((Tryz.prog.info? 107).get inf313) (((Tryz.prog.info? 107).get inf313).zero.get zer313) (Option.some_get inf313).symm (Option.some_get zer313).symm (by kernel_rfl) (by kernel_rfl) (Nat.le_of_ble_eq_true (by kernel_rfl)) Tryz.sizeOf107 ent313 hp hr hs hv

theorem ent314 : ∀ args w, (callFunc (num 314) args).run Tryz.prog w = .ok (.enter (num 314) args) w := enters_of Tryz.func58 (by kernel_rfl) rfl
theorem inf314 : (Tryz.prog.info? 114).isSome = true := by kernel_rfl
theorem zer314 : (((Tryz.prog.info? 114).get inf314).zero).isSome = true := by kernel_rfl
theorem prim314 : Prim.Ok Tryz.prog num 314 (cloneP 13) := by
  intro L e W h w vs args v tn hp hr hs hv
  exact cloneP_ok (N := num) (fn := 314) Tryz.lay314 rfl (by decide) ((Tryz.prog.info? 114).get inf314) (((Tryz.prog.info? 114).get inf314).zero.get zer314) (Option.some_get inf314).symm (Option.some_get zer314).symm (by kernel_rfl) (by kernel_rfl) (Nat.le_of_ble_eq_true (by kernel_rfl)) Tryz.sizeOf114 ent314 hp hr hs hv

theorem ent467 : ∀ args w, (callFunc (num 467) args).run Tryz.prog w = .ok (.enter (num 467) args) w := enters_of Tryz.func97 (by kernel_rfl) rfl
theorem inf467 : (Tryz.prog.info? 117).isSome = true := by kernel_rfl
theorem zer467 : (((Tryz.prog.info? 117).get inf467).zero).isSome = true := by kernel_rfl
theorem prim467 : Prim.Ok Tryz.prog num 467 (cloneP 3) := by
  intro L e W h w vs args v tn hp hr hs hv
  exact cloneP_ok (N := num) (fn := 467) Tryz.lay467 rfl (by decide) ((Tryz.prog.info? 117).get inf467) (((Tryz.prog.info? 117).get inf467).zero.get zer467) (Option.some_get inf467).symm (Option.some_get zer467).symm (by kernel_rfl) (by kernel_rfl) (Nat.le_of_ble_eq_true (by kernel_rfl)) Tryz.sizeOf117 ent467 hp hr hs hv

theorem prOk : PrimOk Tryz.prog num PrA := prims_ok (by
  unfold prL
  exact List.forall_mem_cons.2 ⟨prim51, List.forall_mem_cons.2 ⟨prim57, List.forall_mem_cons.2 ⟨prim64, List.forall_mem_cons.2 ⟨prim103, List.forall_mem_cons.2 ⟨prim313, List.forall_mem_cons.2 ⟨prim314, List.forall_mem_cons.2 ⟨prim467, fun x hx => by cases hx⟩⟩⟩⟩⟩⟩⟩)
theorem prLaw : PrimLaw PrA := prims_law (by
  unfold prL
  exact List.forall_mem_cons.2 ⟨sortP_law _ _ _, List.forall_mem_cons.2 ⟨cloneP_law _, List.forall_mem_cons.2 ⟨cloneP_law _, List.forall_mem_cons.2 ⟨sortIP_law, List.forall_mem_cons.2 ⟨cloneP_law _, List.forall_mem_cons.2 ⟨cloneP_law _, List.forall_mem_cons.2 ⟨cloneP_law _, fun x hx => by cases hx⟩⟩⟩⟩⟩⟩⟩)

theorem schT : SchT Tryz.prog 24 103 107 114 112 189 22 100 101 109 110 9 3 2 4 := ⟨Tryz.underlying3, Tryz.underlying2, Tryz.underlying4, Tryz.underlying9, Tryz.underlying22, Tryz.underlying100, Tryz.underlying101, Tryz.underlying109, Tryz.underlying110, ⟨_, Tryz.underlying24, rfl⟩, ⟨_, Tryz.underlying103, rfl⟩, ⟨_, Tryz.underlying107, rfl⟩, ⟨_, Tryz.underlying114, rfl⟩, ⟨_, Tryz.underlying112, rfl⟩, ⟨_, Tryz.underlying189, rfl⟩⟩
theorem verT : VerT Tryz.prog 29 24 25 38 26 46 41 117 27 50 44 42 161 3 9 4 := ⟨Tryz.underlying3, Tryz.underlying4, Tryz.underlying9, ⟨_, Tryz.underlying29, rfl⟩, Tryz.underlying25, ⟨_, Tryz.underlying38, rfl⟩, Tryz.underlying26, ⟨_, Tryz.underlying46, rfl⟩, Tryz.underlying41, ⟨_, Tryz.underlying117, rfl⟩, Tryz.underlying27, ⟨_, Tryz.underlying50, rfl⟩, ⟨_, Tryz.underlying44, rfl⟩, Tryz.underlying42, ⟨_, Tryz.underlying161, rfl⟩⟩
set_option maxRecDepth 100000 in
theorem lawFn (css : List (List PV)) (hl : css.length = Tryz.f4.params.toList.length) (ht : ∀ (j : Nat) (t : TypeId) (cs : List PV), Tryz.f4.params.toList[j]? = some t → css[j]? = some cs → ∃ n, typed Tryz.prog n t cs) : FnR Tryz.prog num 397 (List.zipWith (argPV Tryz.prog) Tryz.f4.params.toList css) [.bool true] := by
  have hp : Tryz.f4.params.toList = [29, 9] := by kernel_rfl
  rw [hp] at hl ht ⊢
  match css, hl with
  | [c1, c2], _ =>
    obtain ⟨n0, h0⟩ := ht 0 29 c1 rfl rfl
    obtain ⟨v0, rfl, ho0⟩ := ver_typed verT schT h0
    have e0 : argPV Tryz.prog 29 [.str v0.name, .lst 0 (v0.types.map Typ.c), .lst 0 (cals v0.calls), .lst 0 (sess v0.sess), .lst 0 (tpcs v0.tops)] = .agg [.str v0.name, .lst 0 (v0.types.map Typ.c), .lst 0 (cals v0.calls), .lst 0 (sess v0.sess), .lst 0 (tpcs v0.tops)] := by simp only [argPV, isAgg_struct Tryz.underlying29, if_true]
    obtain ⟨n1, h1⟩ := ht 1 9 c2 rfl rfl
    obtain ⟨s, rfl, hs⟩ := ty_str schT.x h1
    have e9 : isAggT Tryz.prog 9 = some false := by simp [isAggT, Tryz.underlying9]
    have e1 : argPV Tryz.prog 9 [.str s] = .str s := by simp [argPV, e9]
    show FnR _ _ _ [argPV Tryz.prog 29 [.str v0.name, .lst 0 (v0.types.map Typ.c), .lst 0 (cals v0.calls), .lst 0 (sess v0.sess), .lst 0 (tpcs v0.tops)], argPV Tryz.prog 9 [.str s]] _
    rw [e0, e1]
    exact Gives.sound mixedOk prLaw prOk aOk (res_some.1 (r397 r404 v0 s ho0.2.1.2 ho0.2.2.2.1.1))



theorem own : ownKnob Tryz.prog.godebug = none := by kernel_rfl
theorem laidOut : laidOutB Tryz.prog = true := by kernel_rfl
def recS : List TypeId := [2,3,4,9,22,24,25,26,27,29,38,41,42,44,46,50,100,101,103,107,109,110,112,114,117,161,189]
theorem recOk : recData Tryz.prog recS = true := by kernel_rfl
theorem parsOk : (Tryz.f4.params.toList.all fun t => Tryz.prog.readableRec t && decide (t < Tryz.prog.types.size) && recS.contains t) = true := by kernel_rfl
theorem pars (t : TypeId) (ht : t ∈ Tryz.f4.params.toList) : (Tryz.prog.readableRec t = true ∧ t < Tryz.prog.types.size) ∧ t ∈ recS := by
  have := List.all_eq_true.1 parsOk t ht
  simp only [Bool.and_eq_true, decide_eq_true_eq] at this
  exact ⟨this.1, List.contains_iff_mem.1 this.2⟩
noncomputable def zeros : Array Value := Tryz.f4.params.map fun t => ((Tryz.prog.info? t).bind (·.zero)).getD undef

set_option maxRecDepth 100000 in
theorem lifted (os : Os) (started : os.Started) (H : Type) (enc : TypeId × Value → H) :
    ReturnsInHanded {} Tryz.checked os 4 .any (Rows.contractFindSpec.pre6 enc Tryz.prog Tryz.f4 Rows.contractFindRow.domain false) (Rows.contractFindSpec.post enc Tryz.prog Tryz.f4 false true false false) :=
  law_lifted_rec (S := recS) (C := Tryz.checked) (N := num) (f := 397) enc lawFn (of_decide_eq_true (by kernel_rfl)) own laidOut started (by kernel_rfl) Tryz.func4 (code := Tryz.f4.body.getD .skip) (by kernel_rfl) (by kernel_rfl)
    (ChangeSpec.witness6 (enc := enc) (C := Tryz.checked) false ⟨#[], zeros, []⟩ 12 (by kernel_rfl) (by kernel_rfl) (by kernel_rfl) (by kernel_rfl))
    (tb := Tryz.f4.resultTypes.toList.headD 0) (by kernel_rfl) (by kernel_rfl) rfl (fun ds hl => by
      match ds, hl with
      | [_, _], _ => rfl) (fun t ht => (pars t ht).1) recOk (fun t ht => (pars t ht).2)

theorem band {a b : Bool} (h : a = true) (g : b = true) : (a && b) = true := by rw [h, g]; rfl
set_option maxRecDepth 100000 in
theorem jf0 : (Rows.contractFindRow.wf (OpenSpec.ofChange Rows.contractFindSpec)) = true := by kernel_rfl
set_option maxRecDepth 100000 in
theorem jf1 : (laidOutB Tryz.prog) = true := by kernel_rfl
set_option maxRecDepth 100000 in
theorem jf2 : (mapsRowed Tryz.prog) = true := by kernel_rfl
set_option maxRecDepth 100000 in
theorem jf3 : (Tryz.f4.params.all (Tryz.prog.readableRec ·)) = true := by kernel_rfl
set_option maxRecDepth 100000 in
theorem jf4 : (namedTie Tryz.prog Rows.contractFindRow.named Rows.contractFindSpec.vars) = true := by kernel_rfl
set_option maxRecDepth 100000 in
theorem jf5 : ((Rows.contractFindRow.stops == [])) = true := by kernel_rfl
set_option maxRecDepth 100000 in
theorem jf6 : ((Tryz.prog.stops == [])) = true := by kernel_rfl
set_option maxRecDepth 100000 in
theorem jf7 : ((Rows.contractFindRow.knobs == [])) = true := by kernel_rfl
set_option maxRecDepth 100000 in
theorem jf8 : ((Tryz.prog.stopKnobs == [])) = true := by kernel_rfl
set_option maxRecDepth 100000 in
theorem jf9 : ((Rows.contractFindRow.inPlace == Tryz.prog.inPlace 4)) = true := by kernel_rfl
set_option maxRecDepth 100000 in
theorem jf10 : ((Rows.contractFindRow.unfollowed == Tryz.prog.unfollowed 4)) = true := by kernel_rfl
set_option maxRecDepth 100000 in
theorem jf11 : ((Rows.contractFindRow.recurses == Tryz.prog.recurses 4)) = true := by kernel_rfl
set_option maxRecDepth 100000 in
theorem jf12 : ((Rows.contractFindRow.named == Tryz.prog.varsNamed 4)) = true := by kernel_rfl
set_option maxRecDepth 100000 in
theorem jf13 : ((Rows.contractFindRow.maps == (Tryz.f4.params.toList ++ Rows.contractFindSpec.plain.varTypes Tryz.prog).any (Tryz.prog.mapsRec ·))) = true := by kernel_rfl
set_option maxRecDepth 100000 in
theorem jf14 : ((Rows.contractFindRow.ifaces == (Tryz.f4.params.toList ++ Rows.contractFindSpec.plain.varTypes Tryz.prog).any (Tryz.prog.ifacesRec ·))) = true := by kernel_rfl
set_option maxRecDepth 100000 in
theorem jf15 : ((Rows.contractFindRow.mapsOut == Tryz.prog.mapsAmong Tryz.f4.resultTypes.toList)) = true := by kernel_rfl
set_option maxRecDepth 100000 in
theorem jf16 : ((Rows.contractFindRow.loops == (Tryz.f4.params.toList ++ Rows.contractFindSpec.plain.varTypes Tryz.prog).any (Tryz.prog.loopsFrom ·))) = true := by kernel_rfl
set_option maxRecDepth 100000 in
theorem jf17 : ((Rows.contractFindRow.wideKeys == (Tryz.f4.params.toList ++ Rows.contractFindSpec.plain.varTypes Tryz.prog ++ Tryz.f4.resultTypes.toList).any (Tryz.prog.wideKeysFrom ·))) = true := by kernel_rfl
set_option maxRecDepth 100000 in
theorem jf18 : (Rows.contractFindSpec.vars.all (Tryz.prog.varReadable ·)) = true := by kernel_rfl
set_option maxRecDepth 100000 in
theorem jf19 : (Tryz.f4.resultTypes.all (fun t => Tryz.prog.readableRec t && decide (t < Tryz.prog.types.size))) = true := by kernel_rfl
set_option maxRecDepth 100000 in
theorem jf20 : ((Rows.contractFindRow.ifacesOut == Tryz.f4.resultTypes.toList.any (Tryz.prog.ifacesRec ·))) = true := by kernel_rfl
set_option maxRecDepth 100000 in
theorem jf21 : ((Rows.contractFindRow.loopsOut == Tryz.f4.resultTypes.toList.any (Tryz.prog.loopsFrom ·))) = true := by kernel_rfl
set_option maxRecDepth 100000 in
theorem jf22 : ((Rows.contractFindRow.plainKeys == Tryz.prog.plainKeys)) = true := by kernel_rfl
set_option maxRecDepth 100000 in
theorem jf23 : (Rows.contractFindRow.shortTexts.isNone) = true := by kernel_rfl
set_option maxRecDepth 100000 in
theorem jf24 : (Tryz.prog.stopsHeard) = true := by kernel_rfl
set_option maxRecDepth 100000 in
theorem jf25 : (Tryz.prog.mayEnter) = true := by kernel_rfl
set_option maxRecDepth 100000 in
theorem jf26 : ((Rows.contractFindRow.lifted == Tryz.prog.liftsFinal)) = true := by kernel_rfl
set_option maxRecDepth 100000 in
theorem jf27 : ((Tryz.prog.make == some Rows.contractFindRow.make)) = true := by kernel_rfl
set_option maxRecDepth 100000 in
theorem jf28 : ((Rows.contractFindRow.kinds == (if Rows.contractFindRow.domain.isEmpty then [] else Tryz.f4.params.toList.map fun t => match Tryz.prog.underlying t with | some (.int k) => some k | _ => none))) = true := by kernel_rfl
set_option maxRecDepth 100000 in
theorem jf29 : ((Rows.contractFindRow.pinned == Rows.contractFindRow.pinnedBy)) = true := by kernel_rfl
set_option maxRecDepth 100000 in
theorem jf30 : ((Rows.contractFindRow.veiled == (Tryz.f4.params.toList ++ Rows.contractFindSpec.plain.varTypes Tryz.prog ++ Tryz.f4.resultTypes.toList).any (Tryz.prog.veiledRec ·))) = true := by kernel_rfl
set_option maxRecDepth 100000 in
theorem jf31 : (Rows.contractFindRow.veiledFits Tryz.prog Tryz.f4.params.toList (Tryz.f4.params.toList ++ Rows.contractFindSpec.plain.varTypes Tryz.prog ++ Tryz.f4.resultTypes.toList)) = true := by kernel_rfl
set_option maxRecDepth 100000 in
theorem jfs : joinedFacts Tryz.prog 4 Tryz.f4 Rows.contractFindSpec Rows.contractFindRow = true := by
  unfold joinedFacts
  exact (band (band (band (band (band (band (band (band (band (band (band (band (band (band (band (band (band (band (band (band (band (band (band (band (band (band (band (band (band (band (band jf0 jf1) jf2) jf3) jf4) jf5) jf6) jf7) jf8) jf9) jf10) jf11) jf12) jf13) jf14) jf15) jf16) jf17) jf18) jf19) jf20) jf21) jf22) jf23) jf24) jf25) jf26) jf27) jf28) jf29) jf30) jf31)
theorem jfn : Tryz.prog.funcNamed Rows.contractFindRow.func = some 4 := by kernel_rfl
theorem law_holds : Rows.ContractFindSaid :=
  OpenClaim.holds_of_wide 4 Tryz.f4 rfl rfl rfl rfl rfl rfl rfl ⟨rfl, rfl, rfl, rfl, rfl⟩ rfl rfl rfl rfl rfl jfn Tryz.func4 jfs
    (of_decide_eq_true (by kernel_rfl)) (by unfold Func.isWrapper; first | (rw [if_pos (by decide +kernel)]; kernel_rfl) | (rw [if_neg (by decide +kernel)]; exact ⟨rfl, rfl⟩))
    (fun os started H enc _ => lifted os started H enc)

end Go.Proofs.YtpchfogcccagjaaGreat
