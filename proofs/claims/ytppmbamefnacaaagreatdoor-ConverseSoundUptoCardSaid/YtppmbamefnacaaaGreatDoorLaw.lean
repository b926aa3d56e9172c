/-
  The law ConverseSound: for every input it returns true, and each argument reads as before. Condition: the arguments are of bulk at most 1048576 (the second form).
-/
import Derived.Test.YtppmbamefnacaaaGreatDoorOk
import Derived.Test.YtppmbamefnacaaaGreatDoorC4
import Derived.Test.YtppmbamefnacaaaGreatDoorLay
import Derived.Test.YtppmbamefnacaaaGreatDoorChecked
import Derived.Test.YtppmbamefnacaaaGreatDoorRows
import Derived.Test.YtppmbamefnacaaaGreatDoorTie
import Derived.Test.YtppmbamefnacaaaGreatDoorCards
import Derived.ProofKit
import Derived.LaidMore
import Derived.LaidLaws
import Derived.SevenTiedAt
import Derived.JoinedCond
import Derived.Deep.DeepWitnessRowRef
import Derived.Stop.Joined
namespace Go.Proofs.YtppmbamefnacaaaGreatDoor
open Go Go.Pv Go.Proofs Go.RowKit Go.ChangeShapes Go.Sort Go.Shelf

theorem mixedOk : Tryz.prog.follows .mixedOrders = true := by kernel_rfl
theorem noLaw : PrimLaw (fun _ => none) := prims_law (l := []) (fun x hx => by cases hx)
theorem noOk : PrimOk Tryz.prog num (fun _ => none) := prims_ok (l := []) (fun x hx => by cases hx)

theorem ent191 : ∀ args w, (callFunc (num 191) args).run Tryz.prog w = .ok (.enter (num 191) args) w := enters_of Tryz.func98 (by kernel_rfl) rfl
theorem inf191 : (Tryz.prog.info? 3).isSome = true := by kernel_rfl
theorem zer191 : (((Tryz.prog.info? 3).get inf191).zero).isSome = true := by kernel_rfl
theorem prim191 : Prim.Ok Tryz.prog num 191 (cloneP 1) := by
  intro L e W h w vs args v tn hp hr hs hv
  exact cloneP_ok (N := num) (fn := 191) Tryz.lay191 rfl (by decide) ((Tryz.prog.info? 3).get inf191) (((Tryz.prog.info? 3).get inf191).zero.get zer191) (Option.some_get inf191).symm (Option.some_get zer191).symm (by kernel_rfl) (by kernel_rfl) (Nat.le_of_ble_eq_true (by kernel_rfl)) Tryz.sizeOf3 ent191 hp hr hs hv

theorem gTab : Tryz.prog.globalNamed "internal/strconv.uint64pow10" = some 0 := by kernel_rfl
theorem nTab : num 1000000 = 100000 + 0 := by kernel_rfl
theorem ent194 : ∀ args w, (callFunc (num 194) args).run Tryz.prog w = .ok (.enter (num 194) args) w := enters_of Tryz.func70 (by kernel_rfl) rfl
theorem prim194 : Prim.Ok Tryz.prog num 194 itoaP := itoaP_ok Tryz.lay194 (by kernel_rfl) gTab nTab ent194

theorem ent196 : ∀ args w, (callFunc (num 196) args).run Tryz.prog w = .ok (.enter (num 196) args) w := enters_of Tryz.func92 (by kernel_rfl) rfl
theorem entc196 : ∀ args w, (callFunc (num 197) args).run Tryz.prog w = .ok (.enter (num 197) args) w := enters_of Tryz.func93 (by kernel_rfl) rfl
theorem fnr196 (x y : Pv.Mov) : FnR Tryz.prog num 197 [.agg x.c, .agg y.c] [.int .i64 (Pv.Mov.cmp x y)] :=
  Gives.sound mixedOk noLaw noOk aOk (res_some.1 (r197 (Pr := fun _ => none) rfl rfl rfl rfl x y))
theorem lt196 : ltOf Pv.Mov.cmp = Pv.Mov.lt := by
  funext x y
  exact Pv.Mov.cmp_lt x y
theorem prim196 : Prim.Ok Tryz.prog num 196 (sortP 3 (sortRows Mov.c Mov.dec Mov.lt) 197) := by
  intro L e W h w vs args v tn hp hr hs hv
  refine sortP_ok (by decide) Pv.Mov.dec_enc (fun _ => rfl) (fun x c hc => by simp only [Go.Pv.Mov.c, List.mem_cons, List.not_mem_nil, or_false] at hc; rcases hc with rfl | rfl | rfl <;> rfl) Pv.Mov.swo ent196 (fun a cap w => AnyF.slices_SortFunc_none Tryz.lay196 a cap _ w) ?_ hp hr hs hv
  intro blk off cap d w hH hblk hsz hT hB
  have := AnyQ.slices_SortFunc Tryz.lay196 3 Tryz.isAgg78 Tryz.sizeOf78 (venc Pv.Mov.c) (fun _ => rfl) (fun x v hv => by simp only [venc, Pv.Mov.c, List.map_cons, List.map_nil, List.mem_cons, List.not_mem_nil, or_false] at hv; rcases hv with rfl | rfl | rfl <;> rfl) Pv.Mov.cmp (lt196 ▸ Pv.Mov.swo) (num 197) #[] blk off cap d w entc196
    (fnr_lays (fun x c hc => by simp only [Go.Pv.Mov.c, List.mem_cons, List.not_mem_nil, or_false] at hc; rcases hc with rfl | rfl | rfl <;> rfl) fnr196 entc196 3 blk off d.size w hT hB) hH hblk hsz
  rw [lt196] at this
  exact this

theorem prim252 : Prim.Ok Tryz.prog num 252 autoP := by
  obtain ⟨an, h⟩ := ok252
  exact autoP_ok (M := our) mixedOk (show FnOk Tryz.prog num our (num 252) an autoF from h)

theorem prOk : PrimOk Tryz.prog num PrA := prims_ok (by
  unfold prL
  exact List.forall_mem_cons.2 ⟨prim191, List.forall_mem_cons.2 ⟨prim194, List.forall_mem_cons.2 ⟨prim196, List.forall_mem_cons.2 ⟨prim252, fun x hx => by cases hx⟩⟩⟩⟩)
theorem prLaw : PrimLaw PrA := prims_law (by
  unfold prL
  exact List.forall_mem_cons.2 ⟨cloneP_law _, List.forall_mem_cons.2 ⟨itoaP_law, List.forall_mem_cons.2 ⟨sortP_law _ _ _, List.forall_mem_cons.2 ⟨autoP_law, fun x hx => by cases hx⟩⟩⟩⟩)

theorem sysT : SysT Tryz.prog 31 38 35 78 29 73 27 36 3 4 := ⟨⟨_, Tryz.underlying31, rfl⟩, ⟨_, Tryz.underlying38, rfl⟩, Tryz.underlying35, ⟨_, Tryz.underlying78, rfl⟩, ⟨_, Tryz.underlying29, rfl⟩, Tryz.underlying27, ⟨_, Tryz.underlying73, rfl⟩, Tryz.underlying36, Tryz.underlying3, Tryz.underlying4⟩
theorem pdrT : PDrT Tryz.prog 26 24 22 75 5 4 := ⟨⟨⟨_, Tryz.underlying24, rfl⟩, Tryz.underlying22, ⟨_, Tryz.underlying75, rfl⟩, Tryz.underlying5⟩, ⟨_, Tryz.underlying26, rfl⟩, Tryz.underlying4⟩
theorem rkdT : RkdT Tryz.prog 56 58 38 3 := ⟨⟨_, Tryz.underlying58, rfl⟩, Tryz.underlying56⟩
theorem G {f : Nat} {ps rs : List PV} (h : res A PrA f ps = some rs) : FnR Tryz.prog num f ps rs := Gives.sound mixedOk prLaw prOk aOk (res_some.1 h)
set_option maxRecDepth 100000 in
theorem lawFn (css : List (List PV)) (hl : css.length = Tryz.f6.params.toList.length) (ht : ∀ (j : Nat) (t : TypeId) (cs : List PV), Tryz.f6.params.toList[j]? = some t → css[j]? = some cs → (∃ n, typed Tryz.prog n t cs) ∧ ∀ c ∈ cs, Small 1048576 c) : FnR Tryz.prog num 528 (List.zipWith (argPV Tryz.prog) Tryz.f6.params.toList css) [.bool true] := by
  have hp : Tryz.f6.params.toList = [26, 56] := by kernel_rfl
  rw [hp] at hl ht ⊢
  match css, hl with
  | [c1, c2], _ =>
    obtain ⟨⟨n1, h1⟩, _⟩ := ht 0 26 c1 rfl rfl
    obtain ⟨⟨n2, h2⟩, s2⟩ := ht 1 56 c2 rfl rfl
    obtain ⟨d, hd, e1⟩ := pdr_typed pdrT (typed_ups h1 12)
    obtain ⟨L, rfl, hL, hw⟩ := rkds_typed sysT rkdT (typed_ups h2 5)
    have e0 : isAggT Tryz.prog 56 = some false := by simp [isAggT, Tryz.underlying56]
    have e2 : argPV Tryz.prog 56 [.lst 0 (ckR L)] = .lst 0 (ckR L) := by simp [argPV, e0]
    show FnR _ _ _ [argPV Tryz.prog 26 c1, argPV Tryz.prog 56 [.lst 0 (ckR L)]] _
    rw [e1, e2]
    exact G (r528 r235 d hd L hL (rkds_small s2 hw))

theorem one_le {H : Type} (d : DataW H) : 1 ≤ Rows.uptoBulk d := by
  cases d with
  | lit x => cases x <;> simp [Rows.uptoBulk]
  | _ => simp [Rows.uptoBulk]
theorem part_le {H : Type} {d : DataW H} : ∀ {l : List (DataW H)}, d ∈ l → Rows.uptoBulk d ≤ Rows.uptoBulkAll l
  | [], h => by cases h
  | x :: l, h => by
    rw [Rows.uptoBulkAll]
    rcases List.mem_cons.1 h with rfl | h
    · omega
    · have := part_le h
      omega
theorem length_le {H : Type} : ∀ (l : List (DataW H)), l.length ≤ Rows.uptoBulkAll l
  | [] => Nat.zero_le _
  | x :: l => by
    rw [Rows.uptoBulkAll, List.length_cons]
    have := one_le x
    have := length_le l
    omega
theorem bulky (H : Type) : Bulky (H := H) Rows.uptoBulk where
  str l := by rw [Rows.uptoBulk]; omega
  slice e s := by
    rw [Rows.uptoBulk]
    refine ⟨by have := length_le e; omega, fun d hd => by have := part_le hd; omega⟩
  agg ps := fun d hd => by
    rw [Rows.uptoBulk]
    have := part_le hd
    omega
theorem small_of (H : Type) (ds : List (DataW H)) (h : Rows.uptoSmall H ds = true) : ∀ d ∈ ds, Rows.uptoBulk d ≤ 1048576 := fun d hd => Nat.le_trans (part_le hd) (of_decide_eq_true h)
theorem own : ownKnob Tryz.prog.godebug = none := by kernel_rfl
theorem laidOut : laidOutB Tryz.prog = true := by kernel_rfl
def recS : List TypeId := [26, 24, 22, 75, 5, 4, 56, 58, 38, 3, 36]
theorem recOk : recData Tryz.prog recS = true := by kernel_rfl
theorem parsOk : (Tryz.f6.params.toList.all fun t => Tryz.prog.readableRec t && decide (t < Tryz.prog.types.size) && recS.contains t) = true := by kernel_rfl
theorem pars (t : TypeId) (ht : t ∈ Tryz.f6.params.toList) : (Tryz.prog.readableRec t = true ∧ t < Tryz.prog.types.size) ∧ t ∈ recS := by
  have := List.all_eq_true.1 parsOk t ht
  simp only [Bool.and_eq_true, decide_eq_true_eq] at this
  exact ⟨this.1, List.contains_iff_mem.1 this.2⟩
noncomputable def zeros : Array Value := Tryz.f6.params.map fun t => ((Tryz.prog.info? t).bind (·.zero)).getD undef
def laidL {H : Type} : List (String × DataW H) := [("math/bits.deBruijn32tab", Rows.laid_math_bits_deBruijn32tab), ("math/bits.deBruijn64tab", Rows.laid_math_bits_deBruijn64tab), ("internal/strconv.uint64pow10", Rows.laid_internal_strconv_uint64pow10)]
set_option maxRecDepth 100000 in
theorem door_met (os : Os) (args : Array Value) : laidMetH Tryz.prog laidL ((World.doorLaid Tryz.prog 4000 os).forCall (fun _ _ => 0) ⟨#[], args, []⟩).memory :=
  laidMetH_of_parts3 (fuel := 8) (laidMet_of_run' 8 (by kernel_rfl) (by kernel_rfl)) (by kernel_rfl) (by kernel_rfl)
theorem tabW (w : World) (h : laidMetH Tryz.prog laidL w) : TabW num w := by
  have e : (Rows.laid_internal_strconv_uint64pow10 : DataW Unit) = Lib.tabData .u64 Lib.pow10Tab := by rfl
  have h2 : laidMet Tryz.prog [("math/bits.deBruijn32tab", Rows.laid_math_bits_deBruijn32tab), ("math/bits.deBruijn64tab", Rows.laid_math_bits_deBruijn64tab), ("internal/strconv.uint64pow10", Lib.tabData .u64 Lib.pow10Tab)] w := by
    rw [← e]
    exact h
  exact tabW_of gTab nTab (Lib.tabIs_of_head (rest := []) gTab (t := 168) (by kernel_rfl) Tryz.underlying168 Tryz.underlying152 (by kernel_rfl) (by kernel_rfl) (laidMetTail (laidMetTail h2)))
set_option maxRecDepth 100000 in
theorem lifted (os : Os) (started : os.Started) (H : Type) (enc : TypeId × Value → H) (F : Stop.Interp) :
    ReturnsInHanded {} Tryz.checked os 6 .any ((Rows.OpenSpec.upto Rows.converseSoundSpec).preRow enc Tryz.prog Tryz.f6 Rows.converseSoundUptoRow.domain false laidL) (((Rows.OpenSpec.upto Rows.converseSoundSpec).at F).post enc Tryz.prog Tryz.f6 false true false false) :=
  law_lifted_row_upto (bulky H) (M := 1048576) (s := Rows.converseSoundSpec) (s' := Rows.OpenSpec.upto Rows.converseSoundSpec) (k := Rows.uptoSmall) rfl (small_of H) (F := F) (S := recS) (C := Tryz.checked) (N := num) (f := 528) enc lawFn (fun w h => tabW w h) own laidOut started (by kernel_rfl) Tryz.func6 (code := Tryz.f6.body.getD .skip) (by kernel_rfl) (by kernel_rfl)
    (witness_row_atRef (enc := enc) (C := Tryz.checked) false (World.doorLaid Tryz.prog 4000 os) zeros rfl (by kernel_rfl) (by kernel_rfl) (by kernel_rfl)
      (OpenSpec.preRow_of_cond 12 (x := ([.agg [.agg [.lit (.int .u8 0), .nil], .nil, .lit (.bool false), .lit (.int .u8 0), .lit (.int .u8 0)], .nil], [], [])) (by kernel_rfl) (by kernel_rfl) (fun k hk => by cases hk; kernel_rfl) (by kernel_rfl) (door_met os _)))
    (tb := Tryz.f6.resultTypes.toList.headD 0) (by kernel_rfl) (by kernel_rfl) rfl rfl rfl (fun ds hl => by
      match ds, hl with
      | [_, _], _ => rfl) (fun t ht => (pars t ht).1) recOk (fun t ht => (pars t ht).2)
theorem row_holds : Rows.ConverseSoundUptoSaid :=
  OpenClaim.holds_of_cond 6 Tryz.f6 rfl rfl rfl rfl rfl rfl rfl ⟨rfl, rfl, rfl, rfl, rfl⟩ rfl rfl rfl rfl rfl (by kernel_rfl) Tryz.func6 (by kernel_rfl)
    (of_decide_eq_true (by kernel_rfl)) (by unfold Func.isWrapper; first | (rw [if_pos (by decide +kernel)]; kernel_rfl) | (rw [if_neg (by decide +kernel)]; exact ⟨rfl, rfl⟩))
    (fun os started H enc _ F => by rw [OpenClaim.pre_eq_preRow]; exact lifted os started H enc F)
theorem law_holds : Rows.ConverseSoundUptoCardSaid :=
  Claim7.holds_tied_plain_at .later [] [.data, .data, .data] true (true, "be33274c09db615ca1b100577149998aaafb4732e3d3ad533fb1272ef4151172") false
    row_holds (fun _ h => by cases h) (by kernel_rfl) (fun _ h => by cases h) converseSoundUpto_row_tie rfl ⟨rfl, rfl⟩ (by kernel_rfl) rfl
    (fun f fn hf hfn => by
      obtain rfl : f = 6 := Option.some.inj ((show Tryz.prog.funcNamed "sheave/sheavelaw30.ConverseSound" = some 6 by kernel_rfl).symm.trans hf) |>.symm
      obtain rfl : fn = Tryz.f6 := (Option.some.inj (Tryz.func6.symm.trans hfn)).symm
      exact ⟨by kernel_rfl, fun j t ht => by
        have hm : t ∈ Tryz.f6.params.toList := by simpa using Array.mem_of_getElem? ht
        have hall : (Tryz.f6.params.toList.all fun u => !Tryz.prog.wantsStandIn u) = true := by kernel_rfl
        exact (show Tryz.prog.wantsStandIn t = false by simpa using List.all_eq_true.1 hall t hm)⟩)
    (by kernel_rfl)
end Go.Proofs.YtppmbamefnacaaaGreatDoor
