/-
  The law ContractShrunk: for every input it returns true, and each argument reads as before. No condition.
-/
import Derived.Test.YtpchfogcccagjaaGreatOk
import Derived.Test.YtpchfogcccagjaaGreatC11
import Derived.Test.YtpchfogcccagjaaGreatLay
import Derived.Test.YtpchfogcccagjaaGreatRows
import Derived.ProofKit
set_option linter.unusedSimpArgs false
set_option linter.unusedVariables false
open List renaming all_eq_true → Wu, forall_mem_cons → Wl, contains_iff_mem → XF
open Option renaming some_get → WR
open Nat renaming le_of_ble_eq_true → W9
namespace Go.Proofs.YtpchfogcccagjaaGreat
open Go Go.Pv Go.Proofs Go.RowKit Go.ChangeShapes Go.Sort

theorem Cc:Tryz.prog.follows .mixedOrders=true:=by kernel_rfl
theorem Sh:cI (fun _=>none):=uN (l:=[]) (fun x hx=>by cases hx)
theorem U0:dU Tryz.prog num (fun _=>none):=ye (l:=[]) (fun x hx=>by cases hx)

theorem Si:∀args w, (callFunc (num 51) args).run Tryz.prog w=.ok (.enter (num 51) args) w:=enters_of Tryz.func172 (by kernel_rfl) rfl
theorem Gd:∀args w, (callFunc (num 47) args).run Tryz.prog w=.ok (.enter (num 47) args) w:=enters_of Tryz.func173 (by kernel_rfl) rfl
theorem Sj (x y:Pv.Edge):uq Tryz.prog num 47 [.agg x.c, .agg y.c] [.int .i64 (Pv.Edge.cmp x y)]:=
  fV.sound Cc Sh U0 VC (jz.1 (r47 (Pr:=fun _=>none) rfl rfl rfl rfl x y))
theorem Sk:ltOf Pv.Edge.cmp=Pv.Edge.lt:=by
  funext x y
  exact Pv.Edge.ED x y
theorem M9:Prim.Ok Tryz.prog num 51 (jC 4 (gC Edge.c Edge.dec Edge.lt) 47):=by
  intro L e W h w vs args v tn hp hr hs hv
  refine Ey (by decide) Pv.Edge.Hl (fun _=>rfl) (fun x c hc=>by simp only[Go.Pv.Edge.c, List.mem_cons, List.not_mem_nil, or_false]at hc; rcases hc with rfl|rfl|rfl|rfl<;>rfl) Pv.Edge.swo Si (fun a cap w=>AnyF.slices_SortFunc_none Tryz.Jc a cap _ w) ?_ hp hr hs hv
  intro blk off cap d w hH hblk hsz hT hB
  have:=AnyQ.slices_SortFunc Tryz.Jc 4 Tryz.isAgg161 Tryz.sizeOf161 (pH Pv.Edge.c) (fun _=>rfl) (fun x v hv=>by simp only[pH, Pv.Edge.c, List.map_cons, List.map_nil, List.mem_cons, List.not_mem_nil, or_false]at hv; rcases hv with rfl|rfl|rfl|rfl<;>rfl) Pv.Edge.cmp (Sk ▸ Pv.Edge.swo) (num 47) #[] blk off cap d w Gd
    (EA (fun x c hc=>by simp only[Go.Pv.Edge.c, List.mem_cons, List.not_mem_nil, or_false]at hc; rcases hc with rfl|rfl|rfl|rfl<;>rfl) Sj Gd 4 blk off d.size w hT hB) hH hblk hsz
  rw[Sk]at this
  exact this

theorem Sl:∀args w, (callFunc (num 57) args).run Tryz.prog w=.ok (.enter (num 57) args) w:=enters_of Tryz.func157 (by kernel_rfl) rfl
theorem Cd:(Tryz.prog.info? 229).isSome=true:=by kernel_rfl
theorem Jd:(((Tryz.prog.info? 229).get Cd).zero).isSome=true:=by kernel_rfl
theorem Na:Prim.Ok Tryz.prog num 57 (aZ 2):=by
  intro L e W h w vs args v tn hp hr hs hv
  exact fm (N:=num) (fn:=57) Tryz.Sf rfl (by decide) ((Tryz.prog.info? 229).get Cd) (((Tryz.prog.info? 229).get Cd).zero.get Jd) (WR Cd).symm (WR Jd).symm (by kernel_rfl) (by kernel_rfl) (W9 (by kernel_rfl)) Tryz.sizeOf229 Sl hp hr hs hv

theorem Sm:∀args w, (callFunc (num 64) args).run Tryz.prog w=.ok (.enter (num 64) args) w:=enters_of Tryz.func98 (by kernel_rfl) rfl
theorem Ce:(Tryz.prog.info? 161).isSome=true:=by kernel_rfl
theorem Je:(((Tryz.prog.info? 161).get Ce).zero).isSome=true:=by kernel_rfl
theorem Nb:Prim.Ok Tryz.prog num 64 (aZ 4):=by
  intro L e W h w vs args v tn hp hr hs hv
  exact fm (N:=num) (fn:=64) Tryz.Sg rfl (by decide) ((Tryz.prog.info? 161).get Ce) (((Tryz.prog.info? 161).get Ce).zero.get Je) (WR Ce).symm (WR Je).symm (by kernel_rfl) (by kernel_rfl) (W9 (by kernel_rfl)) Tryz.sizeOf161 Sm hp hr hs hv

theorem Nc:∀args w, (callFunc (num 103) args).run Tryz.prog w=.ok (.enter (num 103) args) w:=enters_of Tryz.func68 (by kernel_rfl) rfl
theorem Ig:Prim.Ok Tryz.prog num 103 gL:=by
  intro L e W h w vs args v tn hp hr hs hv
  exact CD (N:=num) (fn:=103) Tryz.MY rfl Nc hp hr hs hv

theorem Nd:∀args w, (callFunc (num 313) args).run Tryz.prog w=.ok (.enter (num 313) args) w:=enters_of Tryz.func57 (by kernel_rfl) rfl
theorem wV:(Tryz.prog.info? 107).isSome=true:=by kernel_rfl
theorem Ge:(((Tryz.prog.info? 107).get wV).zero).isSome=true:=by kernel_rfl
theorem Ih:Prim.Ok Tryz.prog num 313 (aZ 2):=by
  intro L e W h w vs args v tn hp hr hs hv
  exact fm (N:=num) (fn:=313) Tryz.MZ rfl (by decide) ((Tryz.prog.info? 107).get wV) (((Tryz.prog.info? 107).get wV).zero.get Ge) (WR wV).symm (WR Ge).symm (by kernel_rfl) (by kernel_rfl) (W9 (by kernel_rfl)) Tryz.sizeOf107 Nd hp hr hs hv

theorem Nf:∀args w, (callFunc (num 314) args).run Tryz.prog w=.ok (.enter (num 314) args) w:=enters_of Tryz.func58 (by kernel_rfl) rfl
theorem wW:(Tryz.prog.info? 114).isSome=true:=by kernel_rfl
theorem Gf:(((Tryz.prog.info? 114).get wW).zero).isSome=true:=by kernel_rfl
theorem Ii:Prim.Ok Tryz.prog num 314 (aZ 13):=by
  intro L e W h w vs args v tn hp hr hs hv
  exact fm (N:=num) (fn:=314) Tryz.M0 rfl (by decide) ((Tryz.prog.info? 114).get wW) (((Tryz.prog.info? 114).get wW).zero.get Gf) (WR wW).symm (WR Gf).symm (by kernel_rfl) (by kernel_rfl) (W9 (by kernel_rfl)) Tryz.sizeOf114 Nf hp hr hs hv

theorem Nn:∀args w, (callFunc (num 467) args).run Tryz.prog w=.ok (.enter (num 467) args) w:=enters_of Tryz.func97 (by kernel_rfl) rfl
theorem ada:(Tryz.prog.info? 117).isSome=true:=by kernel_rfl
theorem Gm:(((Tryz.prog.info? 117).get ada).zero).isSome=true:=by kernel_rfl
theorem Iq:Prim.Ok Tryz.prog num 467 (aZ 3):=by
  intro L e W h w vs args v tn hp hr hs hv
  exact fm (N:=num) (fn:=467) Tryz.M8 rfl (by decide) ((Tryz.prog.info? 117).get ada) (((Tryz.prog.info? 117).get ada).zero.get Gm) (WR ada).symm (WR Gm).symm (by kernel_rfl) (by kernel_rfl) (W9 (by kernel_rfl)) Tryz.sizeOf117 Nn hp hr hs hv

theorem U1:dU Tryz.prog num aA:=ye (by
  unfold Uy
  exact Wl.2 ⟨M9, Wl.2 ⟨Na, Wl.2 ⟨Nb, Wl.2 ⟨Ig, Wl.2 ⟨Ih, Wl.2 ⟨Ii, Wl.2 ⟨Iq, fun x hx=>by cases hx⟩⟩⟩⟩⟩⟩⟩)
theorem Sn:cI aA:=uN (by
  unfold Uy
  exact Wl.2 ⟨CC _ _ _, Wl.2 ⟨abW _, Wl.2 ⟨abW _, Wl.2 ⟨Ae, Wl.2 ⟨abW _, Wl.2 ⟨abW _, Wl.2 ⟨abW _, fun x hx=>by cases hx⟩⟩⟩⟩⟩⟩⟩)

theorem Sp:DA Tryz.prog 65 60 61 130 62 137 134 132 213 135 63 5:=⟨Tryz.underlying5, ⟨_, Tryz.underlying65, rfl⟩, Tryz.underlying61, Tryz.underlying130, Tryz.underlying62, ⟨_, Tryz.underlying137, rfl⟩, ⟨_, Tryz.underlying134, rfl⟩, Tryz.underlying132, ⟨_, Tryz.underlying213, rfl⟩, Tryz.underlying135, Tryz.underlying63⟩
theorem U2:tK Tryz.prog 60 168 187 58 166 5:=⟨Tryz.underlying5, Tryz.underlying58, Tryz.underlying166, ⟨_, Tryz.underlying60, rfl⟩, ⟨_, Tryz.underlying168, rfl⟩, ⟨_, Tryz.underlying187, rfl⟩⟩
set_option maxRecDepth 100000 in
theorem Sq (css:List (List PV)) (hl:css.length=Tryz.f6.params.toList.length) (ht:∀(j:Nat) (t:TypeId) (cs:List PV), Tryz.f6.params.toList[j]?=some t→css[j]?=some cs→∃n, typed Tryz.prog n t cs):uq Tryz.prog num 399 (List.zipWith (gQ Tryz.prog) Tryz.f6.params.toList css) [.bool true]:=by
  have hp:Tryz.f6.params.toList=[65]:=by kernel_rfl
  rw[hp]at hl ht ⊢
  match css, hl with
  |[c1], _=>
    obtain⟨n0, h0⟩:=ht 0 65 c1 rfl rfl
    obtain⟨d0, rfl, ho0⟩:=DF Sp U2 h0
    have e0:gQ Tryz.prog 65 d0.c=.agg d0.c:=by simp only[gQ, wu Tryz.underlying65, if_true]
    show uq _ _ _ [gQ Tryz.prog 65 d0.c] _
    rw[e0]
    exact fV.sound Cc Sn U1 VC (jz.1 (r399 r404 d0 ho0))



theorem own:ownKnob Tryz.prog.godebug=none:=by kernel_rfl
theorem laidOut:laidOutB Tryz.prog=true:=by kernel_rfl
def Ir:List TypeId:=[5,58,60,61,62,63,65,130,132,134,135,137,166,168,187,213]
theorem Sr:lS Tryz.prog Ir=true:=by kernel_rfl
theorem No:(Tryz.f6.params.toList.all fun t=>Tryz.prog.readableRec t&&decide (t<Tryz.prog.types.size)&&Ir.contains t)=true:=by kernel_rfl
theorem Ss (t:TypeId) (ht:t∈Tryz.f6.params.toList):(Tryz.prog.readableRec t=true∧t<Tryz.prog.types.size)∧t∈Ir:=by
  have:=Wu.1 No t ht
  simp only[Bool.and_eq_true, decide_eq_true_eq]at this
  exact⟨this.1, XF.1 this.2⟩
noncomputable def Su:Array Value:=Tryz.f6.params.map fun t=>((Tryz.prog.info? t).bind (·.zero)).getD undef

set_option maxRecDepth 100000 in
theorem lifted (os : Os) (started : os.Started) (H : Type) (enc : TypeId × Value → H) :
    ReturnsInHanded {} Tryz.checked os 6 .any (Rows.contractShrunkSpec.pre6 enc Tryz.prog Tryz.f6 Rows.contractShrunkRow.domain false) (Rows.contractShrunkSpec.post enc Tryz.prog Tryz.f6 false true false false) :=
  sr (S := Ir) (C := Tryz.checked) (N := num) (f := 399) enc Sq (of_decide_eq_true (by kernel_rfl)) own laidOut started (by kernel_rfl) Tryz.func6 (code := Tryz.f6.body.getD .skip) (by kernel_rfl) (by kernel_rfl)
    (ChangeSpec.witness6 (enc := enc) (C := Tryz.checked) false ⟨#[], Su, []⟩ 12 (by kernel_rfl) (by kernel_rfl) (by kernel_rfl) (by kernel_rfl))
    (tb := Tryz.f6.resultTypes.toList.headD 0) (by kernel_rfl) (by kernel_rfl) rfl (fun ds hl => by
      match ds, hl with
      | [_], _ => rfl) (fun t ht => (Ss t ht).1) Sr (fun t ht => (Ss t ht).2)

theorem fe {a b:Bool} (h:a=true) (g:b=true):(a&&b)=true:=by rw[h, g]; rfl
set_option maxRecDepth 100000 in
theorem VP:(Rows.contractShrunkRow.wf (OpenSpec.ofChange Rows.contractShrunkSpec))=true:=by kernel_rfl
set_option maxRecDepth 100000 in
theorem VQ:(laidOutB Tryz.prog)=true:=by kernel_rfl
set_option maxRecDepth 100000 in
theorem VS:(mapsRowed Tryz.prog)=true:=by kernel_rfl
set_option maxRecDepth 100000 in
theorem VU:(Tryz.f6.params.all (Tryz.prog.readableRec ·))=true:=by kernel_rfl
set_option maxRecDepth 100000 in
theorem VV:(namedTie Tryz.prog Rows.contractShrunkRow.named Rows.contractShrunkSpec.vars)=true:=by kernel_rfl
set_option maxRecDepth 100000 in
theorem VW:((Rows.contractShrunkRow.stops==[]))=true:=by kernel_rfl
set_option maxRecDepth 100000 in
theorem VX:((Tryz.prog.stops==[]))=true:=by kernel_rfl
set_option maxRecDepth 100000 in
theorem VY:((Rows.contractShrunkRow.knobs==[]))=true:=by kernel_rfl
set_option maxRecDepth 100000 in
theorem VZ:((Tryz.prog.stopKnobs==[]))=true:=by kernel_rfl
set_option maxRecDepth 100000 in
theorem jf9:((Rows.contractShrunkRow.inPlace==Tryz.prog.inPlace 6))=true:=by kernel_rfl
set_option maxRecDepth 100000 in
theorem U3:((Rows.contractShrunkRow.unfollowed==Tryz.prog.unfollowed 6))=true:=by kernel_rfl
set_option maxRecDepth 100000 in
theorem U4:((Rows.contractShrunkRow.recurses==Tryz.prog.recurses 6))=true:=by kernel_rfl
set_option maxRecDepth 100000 in
theorem U5:((Rows.contractShrunkRow.named==Tryz.prog.varsNamed 6))=true:=by kernel_rfl
set_option maxRecDepth 100000 in
theorem U6:((Rows.contractShrunkRow.maps==(Tryz.f6.params.toList++Rows.contractShrunkSpec.plain.varTypes Tryz.prog).any (Tryz.prog.mapsRec ·)))=true:=by kernel_rfl
set_option maxRecDepth 100000 in
theorem U7:((Rows.contractShrunkRow.ifaces==(Tryz.f6.params.toList++Rows.contractShrunkSpec.plain.varTypes Tryz.prog).any (Tryz.prog.ifacesRec ·)))=true:=by kernel_rfl
set_option maxRecDepth 100000 in
theorem U8:((Rows.contractShrunkRow.mapsOut==Tryz.prog.mapsAmong Tryz.f6.resultTypes.toList))=true:=by kernel_rfl
set_option maxRecDepth 100000 in
theorem U9:((Rows.contractShrunkRow.loops==(Tryz.f6.params.toList++Rows.contractShrunkSpec.plain.varTypes Tryz.prog).any (Tryz.prog.loopsFrom ·)))=true:=by kernel_rfl
set_option maxRecDepth 100000 in
theorem Va:((Rows.contractShrunkRow.wideKeys==(Tryz.f6.params.toList++Rows.contractShrunkSpec.plain.varTypes Tryz.prog++Tryz.f6.resultTypes.toList).any (Tryz.prog.wideKeysFrom ·)))=true:=by kernel_rfl
set_option maxRecDepth 100000 in
theorem Vb:(Rows.contractShrunkSpec.vars.all (Tryz.prog.varReadable ·))=true:=by kernel_rfl
set_option maxRecDepth 100000 in
theorem Vc:(Tryz.f6.resultTypes.all (fun t=>Tryz.prog.readableRec t&&decide (t<Tryz.prog.types.size)))=true:=by kernel_rfl
set_option maxRecDepth 100000 in
theorem Vd:((Rows.contractShrunkRow.ifacesOut==Tryz.f6.resultTypes.toList.any (Tryz.prog.ifacesRec ·)))=true:=by kernel_rfl
set_option maxRecDepth 100000 in
theorem Ve:((Rows.contractShrunkRow.loopsOut==Tryz.f6.resultTypes.toList.any (Tryz.prog.loopsFrom ·)))=true:=by kernel_rfl
set_option maxRecDepth 100000 in
theorem Vf:((Rows.contractShrunkRow.plainKeys==Tryz.prog.plainKeys))=true:=by kernel_rfl
set_option maxRecDepth 100000 in
theorem Vg:(Rows.contractShrunkRow.shortTexts.isNone)=true:=by kernel_rfl
set_option maxRecDepth 100000 in
theorem Vh:(Tryz.prog.stopsHeard)=true:=by kernel_rfl
set_option maxRecDepth 100000 in
theorem Vi:(Tryz.prog.mayEnter)=true:=by kernel_rfl
set_option maxRecDepth 100000 in
theorem Vj:((Rows.contractShrunkRow.lifted==Tryz.prog.liftsFinal))=true:=by kernel_rfl
set_option maxRecDepth 100000 in
theorem Vk:((Tryz.prog.make==some Rows.contractShrunkRow.make))=true:=by kernel_rfl
set_option maxRecDepth 100000 in
theorem Vl:((Rows.contractShrunkRow.kinds==(if Rows.contractShrunkRow.domain.isEmpty then [] else Tryz.f6.params.toList.map fun t=>match Tryz.prog.underlying t with|some (.int k)=>some k|_=>none)))=true:=by kernel_rfl
set_option maxRecDepth 100000 in
theorem Vm:((Rows.contractShrunkRow.pinned==Rows.contractShrunkRow.pinnedBy))=true:=by kernel_rfl
set_option maxRecDepth 100000 in
theorem Vn:((Rows.contractShrunkRow.veiled==(Tryz.f6.params.toList++Rows.contractShrunkSpec.plain.varTypes Tryz.prog++Tryz.f6.resultTypes.toList).any (Tryz.prog.veiledRec ·)))=true:=by kernel_rfl
set_option maxRecDepth 100000 in
theorem Vo:(Rows.contractShrunkRow.veiledFits Tryz.prog Tryz.f6.params.toList (Tryz.f6.params.toList++Rows.contractShrunkSpec.plain.varTypes Tryz.prog++Tryz.f6.resultTypes.toList))=true:=by kernel_rfl
set_option maxRecDepth 100000 in
theorem jfs:joinedFacts Tryz.prog 6 Tryz.f6 Rows.contractShrunkSpec Rows.contractShrunkRow=true:=by
  unfold joinedFacts
  exact(fe (fe (fe (fe (fe (fe (fe (fe (fe (fe (fe (fe (fe (fe (fe (fe (fe (fe (fe (fe (fe (fe (fe (fe (fe (fe (fe (fe (fe (fe (fe VP VQ) VS) VU) VV) VW) VX) VY) VZ) jf9) U3) U4) U5) U6) U7) U8) U9) Va) Vb) Vc) Vd) Ve) Vf) Vg) Vh) Vi) Vj) Vk) Vl) Vm) Vn) Vo)
theorem V4:Tryz.prog.funcNamed Rows.contractShrunkRow.func=some 6:=by kernel_rfl
theorem law_holds:Rows.ContractShrunkSaid:=
  OpenClaim.holds_of_wide 6 Tryz.f6 rfl rfl rfl rfl rfl rfl rfl ⟨rfl, rfl, rfl, rfl, rfl⟩ rfl rfl rfl rfl rfl V4 Tryz.func6 jfs
    (of_decide_eq_true (by kernel_rfl)) (by unfold Func.isWrapper; first|(rw[if_pos (by decide+kernel)]; kernel_rfl)|(rw[if_neg (by decide+kernel)]; exact⟨rfl, rfl⟩))
    (fun os started H enc _=>lifted os started H enc)

end Go.Proofs.YtpchfogcccagjaaGreat
