/-
  The law ContractValid: for every input it returns true, and each argument reads as before. No condition.
-/
import Derived.Test.YtpchfogcccagjaaGreatOk
import Derived.Test.YtpchfogcccagjaaGreatC10
import Derived.Test.YtpchfogcccagjaaGreatLay
import Derived.Test.YtpchfogcccagjaaGreatRows
import Derived.ProofKit
set_option linter.unusedSimpArgs false
set_option linter.unusedVariables false
open List renaming all_eq_true → Wu, forall_mem_cons → Wl, contains_iff_mem → XF
open Option renaming some_get → WR
open Nat renaming le_of_ble_eq_true → W9
namespace Go.Proofs.YtpchfogcccagjaaGreat
open Go Go.Pv Go.Proofs Go.RowKit Go.ChangeShapes Go.Sort

theorem Cc:Tryz.prog.follows .mixedOrders=true:=by kernel_rfl
theorem Sh:cI (fun _=>none):=uN (l:=[]) (fun x hx=>by cases hx)
theorem U0:dU Tryz.prog num (fun _=>none):=ye (l:=[]) (fun x hx=>by cases hx)

theorem Si:∀args w, (callFunc (num 51) args).run Tryz.prog w=.ok (.enter (num 51) args) w:=enters_of Tryz.func172 (by kernel_rfl) rfl
theorem Gd:∀args w, (callFunc (num 47) args).run Tryz.prog w=.ok (.enter (num 47) args) w:=enters_of Tryz.func173 (by kernel_rfl) rfl
theorem Sj (x y:Pv.Edge):uq Tryz.prog num 47 [.agg x.c, .agg y.c] [.int .i64 (Pv.Edge.cmp x y)]:=
  fV.sound Cc Sh U0 VC (jz.1 (r47 (Pr:=fun _=>none) rfl rfl rfl rfl x y))
theorem Sk:ltOf Pv.Edge.cmp=Pv.Edge.lt:=by
  funext x y
  exact Pv.Edge.ED x y
theorem M9:Prim.Ok Tryz.prog num 51 (jC 4 (gC Edge.c Edge.dec Edge.lt) 47):=by
  intro L e W h w vs args v tn hp hr hs hv
  refine Ey (by decide) Pv.Edge.Hl (fun _=>rfl) (fun x c hc=>by simp only[Go.Pv.Edge.c, List.mem_cons, List.not_mem_nil, or_false]at hc; rcases hc with rfl|rfl|rfl|rfl<;>rfl) Pv.Edge.swo Si (fun a cap w=>AnyF.slices_SortFunc_none Tryz.Jc a cap _ w) ?_ hp hr hs hv
  intro blk off cap d w hH hblk hsz hT hB
  have:=AnyQ.slices_SortFunc Tryz.Jc 4 Tryz.isAgg161 Tryz.sizeOf161 (pH Pv.Edge.c) (fun _=>rfl) (fun x v hv=>by simp only[pH, Pv.Edge.c, List.map_cons, List.map_nil, List.mem_cons, List.not_mem_nil, or_false]at hv; rcases hv with rfl|rfl|rfl|rfl<;>rfl) Pv.Edge.cmp (Sk ▸ Pv.Edge.swo) (num 47) #[] blk off cap d w Gd
    (EA (fun x c hc=>by simp only[Go.Pv.Edge.c, List.mem_cons, List.not_mem_nil, or_false]at hc; rcases hc with rfl|rfl|rfl|rfl<;>rfl) Sj Gd 4 blk off d.size w hT hB) hH hblk hsz
  rw[Sk]at this
  exact this

theorem Sl:∀args w, (callFunc (num 57) args).run Tryz.prog w=.ok (.enter (num 57) args) w:=enters_of Tryz.func157 (by kernel_rfl) rfl
theorem Cd:(Tryz.prog.info? 229).isSome=true:=by kernel_rfl
theorem Jd:(((Tryz.prog.info? 229).get Cd).zero).isSome=true:=by kernel_rfl
theorem Na:Prim.Ok Tryz.prog num 57 (aZ 2):=by
  intro L e W h w vs args v tn hp hr hs hv
  exact fm (N:=num) (fn:=57) Tryz.Sf rfl (by decide) ((Tryz.prog.info? 229).get Cd) (((Tryz.prog.info? 229).get Cd).zero.get Jd) (WR Cd).symm (WR Jd).symm (by kernel_rfl) (by kernel_rfl) (W9 (by kernel_rfl)) Tryz.sizeOf229 Sl hp hr hs hv

theorem Sm:∀args w, (callFunc (num 64) args).run Tryz.prog w=.ok (.enter (num 64) args) w:=enters_of Tryz.func98 (by kernel_rfl) rfl
theorem Ce:(Tryz.prog.info? 161).isSome=true:=by kernel_rfl
theorem Je:(((Tryz.prog.info? 161).get Ce).zero).isSome=true:=by kernel_rfl
theorem Nb:Prim.Ok Tryz.prog num 64 (aZ 4):=by
  intro L e W h w vs args v tn hp hr hs hv
  exact fm (N:=num) (fn:=64) Tryz.Sg rfl (by decide) ((Tryz.prog.info? 161).get Ce) (((Tryz.prog.info? 161).get Ce).zero.get Je) (WR Ce).symm (WR Je).symm (by kernel_rfl) (by kernel_rfl) (W9 (by kernel_rfl)) Tryz.sizeOf161 Sm hp hr hs hv

theorem Nc:∀args w, (callFunc (num 103) args).run Tryz.prog w=.ok (.enter (num 103) args) w:=enters_of Tryz.func68 (by kernel_rfl) rfl
theorem Ig:Prim.Ok Tryz.prog num 103 gL:=by
  intro L e W h w vs args v tn hp hr hs hv
  exact CD (N:=num) (fn:=103) Tryz.MY rfl Nc hp hr hs hv

theorem Nd:∀args w, (callFunc (num 313) args).run Tryz.prog w=.ok (.enter (num 313) args) w:=enters_of Tryz.func57 (by kernel_rfl) rfl
theorem wV:(Tryz.prog.info? 107).isSome=true:=by kernel_rfl
theorem Ge:(((Tryz.prog.info? 107).get wV).zero).isSome=true:=by kernel_rfl
theorem Ih:Prim.Ok Tryz.prog num 313 (aZ 2):=by
  intro L e W h w vs args v tn hp hr hs hv
  exact fm (N:=num) (fn:=313) Tryz.MZ rfl (by decide) ((Tryz.prog.info? 107).get wV) (((Tryz.prog.info? 107).get wV).zero.get Ge) (WR wV).symm (WR Ge).symm (by kernel_rfl) (by kernel_rfl) (W9 (by kernel_rfl)) Tryz.sizeOf107 Nd hp hr hs hv

theorem Nf:∀args w, (callFunc (num 314) args).run Tryz.prog w=.ok (.enter (num 314) args) w:=enters_of Tryz.func58 (by kernel_rfl) rfl
theorem wW:(Tryz.prog.info? 114).isSome=true:=by kernel_rfl
theorem Gf:(((Tryz.prog.info? 114).get wW).zero).isSome=true:=by kernel_rfl
theorem Ii:Prim.Ok Tryz.prog num 314 (aZ 13):=by
  intro L e W h w vs args v tn hp hr hs hv
  exact fm (N:=num) (fn:=314) Tryz.M0 rfl (by decide) ((Tryz.prog.info? 114).get wW) (((Tryz.prog.info? 114).get wW).zero.get Gf) (WR wW).symm (WR Gf).symm (by kernel_rfl) (by kernel_rfl) (W9 (by kernel_rfl)) Tryz.sizeOf114 Nf hp hr hs hv

theorem Nn:∀args w, (callFunc (num 467) args).run Tryz.prog w=.ok (.enter (num 467) args) w:=enters_of Tryz.func97 (by kernel_rfl) rfl
theorem ada:(Tryz.prog.info? 117).isSome=true:=by kernel_rfl
theorem Gm:(((Tryz.prog.info? 117).get ada).zero).isSome=true:=by kernel_rfl
theorem Iq:Prim.Ok Tryz.prog num 467 (aZ 3):=by
  intro L e W h w vs args v tn hp hr hs hv
  exact fm (N:=num) (fn:=467) Tryz.M8 rfl (by decide) ((Tryz.prog.info? 117).get ada) (((Tryz.prog.info? 117).get ada).zero.get Gm) (WR ada).symm (WR Gm).symm (by kernel_rfl) (by kernel_rfl) (W9 (by kernel_rfl)) Tryz.sizeOf117 Nn hp hr hs hv

theorem U1:dU Tryz.prog num aA:=ye (by
  unfold Uy
  exact Wl.2 ⟨M9, Wl.2 ⟨Na, Wl.2 ⟨Nb, Wl.2 ⟨Ig, Wl.2 ⟨Ih, Wl.2 ⟨Ii, Wl.2 ⟨Iq, fun x hx=>by cases hx⟩⟩⟩⟩⟩⟩⟩)
theorem Sn:cI aA:=uN (by
  unfold Uy
  exact Wl.2 ⟨CC _ _ _, Wl.2 ⟨abW _, Wl.2 ⟨abW _, Wl.2 ⟨Ae, Wl.2 ⟨abW _, Wl.2 ⟨abW _, Wl.2 ⟨abW _, fun x hx=>by cases hx⟩⟩⟩⟩⟩⟩⟩)

theorem iA:VJ Tryz.prog 24 103 107 114 112 189 22 100 101 109 110 9 3 2 4:=⟨Tryz.underlying3, Tryz.underlying2, Tryz.underlying4, Tryz.underlying9, Tryz.underlying22, Tryz.underlying100, Tryz.underlying101, Tryz.underlying109, Tryz.underlying110, ⟨_, Tryz.underlying24, rfl⟩, ⟨_, Tryz.underlying103, rfl⟩, ⟨_, Tryz.underlying107, rfl⟩, ⟨_, Tryz.underlying114, rfl⟩, ⟨_, Tryz.underlying112, rfl⟩, ⟨_, Tryz.underlying189, rfl⟩⟩
theorem iC:aep Tryz.prog 29 24 25 38 26 46 41 117 27 50 44 42 161 3 9 4:=⟨Tryz.underlying3, Tryz.underlying4, Tryz.underlying9, ⟨_, Tryz.underlying29, rfl⟩, Tryz.underlying25, ⟨_, Tryz.underlying38, rfl⟩, Tryz.underlying26, ⟨_, Tryz.underlying46, rfl⟩, Tryz.underlying41, ⟨_, Tryz.underlying117, rfl⟩, Tryz.underlying27, ⟨_, Tryz.underlying50, rfl⟩, ⟨_, Tryz.underlying44, rfl⟩, Tryz.underlying42, ⟨_, Tryz.underlying161, rfl⟩⟩
theorem ml:24≤Tryz.prog.bytesOf 107:=of_decide_eq_true (by kernel_rfl)
theorem mo:24≤Tryz.prog.bytesOf 114:=of_decide_eq_true (by kernel_rfl)
set_option maxRecDepth 100000 in
theorem Sq (css:List (List PV)) (hl:css.length=Tryz.f3.params.toList.length) (ht:∀(j:Nat) (t:TypeId) (cs:List PV), Tryz.f3.params.toList[j]?=some t→css[j]?=some cs→∃n, afL Tryz.prog reachBytes n t cs):uq Tryz.prog num 396 (List.zipWith (gQ Tryz.prog) Tryz.f3.params.toList css) [.bool true]:=by
  have hp:Tryz.f3.params.toList=[29]:=by kernel_rfl
  rw[hp]at hl ht ⊢
  match css, hl with
  |[c1], _=>
    obtain⟨n0, h0⟩:=ht 0 29 c1 rfl rfl
    obtain⟨v0, rfl, ho0⟩:=afI iC iA h0.typed
    have e0:gQ Tryz.prog 29 [.str v0.name, .aq 0 (v0.types.map aH.c), .aq 0 (ch v0.calls), .aq 0 (aG v0.aG), .aq 0 (df v0.aT)]=.agg [.str v0.name, .aq 0 (v0.types.map aH.c), .aq 0 (ch v0.calls), .aq 0 (aG v0.aG), .aq 0 (df v0.aT)]:=by simp only[gQ, wu Tryz.underlying29, if_true]
    have k2:=afK iC iA ml mo (by decide) h0
    show uq _ _ _ [gQ Tryz.prog 29 [.str v0.name, .aq 0 (v0.types.map aH.c), .aq 0 (ch v0.calls), .aq 0 (aG v0.aG), .aq 0 (df v0.aT)]] _
    rw[e0]
    exact fV.sound Cc Sn U1 VC (jz.1 (r396 r404 v0 ho0.2.1.2 k2 ho0.2.2.2.1.1 ho0.1 (fun c h=>(ho0.2.2.1.2 c h).1) (fun w h=>⟨(ho0.2.2.2.1.2 w h).1, fun m hm=>((ho0.2.2.2.1.2 w h).2.1.2 m hm).2.1⟩) fun c h=>(ho0.2.2.2.2.2 c h).1))



theorem own:ownKnob Tryz.prog.godebug=none:=by kernel_rfl
theorem laidOut:laidOutB Tryz.prog=true:=by kernel_rfl
def Ir:List TypeId:=[2,3,4,9,22,24,25,26,27,29,38,41,42,44,46,50,100,101,103,107,109,110,112,114,117,161,189]
theorem Sr:lS Tryz.prog Ir=true:=by kernel_rfl
theorem No:(Tryz.f3.params.toList.all fun t=>Tryz.prog.readableRec t&&decide (t<Tryz.prog.types.size)&&Ir.contains t)=true:=by kernel_rfl
theorem Ss (t:TypeId) (ht:t∈Tryz.f3.params.toList):(Tryz.prog.readableRec t=true∧t<Tryz.prog.types.size)∧t∈Ir:=by
  have:=Wu.1 No t ht
  simp only[Bool.and_eq_true, decide_eq_true_eq]at this
  exact⟨this.1, XF.1 this.2⟩
noncomputable def Su:Array Value:=Tryz.f3.params.map fun t=>((Tryz.prog.info? t).bind (·.zero)).getD undef

set_option maxRecDepth 100000 in
theorem lifted (os : Os) (started : os.Started) (H : Type) (enc : TypeId × Value → H) :
    ReturnsInHanded {} Tryz.checked os 3 .any (Rows.contractValidSpec.pre6 enc Tryz.prog Tryz.f3 Rows.contractValidRow.domain false) (Rows.contractValidSpec.post enc Tryz.prog Tryz.f3 false true false false) :=
  af5 (S := Ir) (C := Tryz.checked) (N := num) (f := 396) enc Sq (of_decide_eq_true (by kernel_rfl)) own laidOut started (by kernel_rfl) Tryz.func3 (code := Tryz.f3.body.getD .skip) (by kernel_rfl) (by kernel_rfl)
    (ChangeSpec.witness6 (enc := enc) (C := Tryz.checked) false ⟨#[], Su, []⟩ 12 (by kernel_rfl) (by kernel_rfl) (by kernel_rfl) (by kernel_rfl))
    (tb := Tryz.f3.resultTypes.toList.headD 0) (by kernel_rfl) (by kernel_rfl) rfl (fun ds hl => by
      match ds, hl with
      | [_], _ => rfl) (fun t ht => (Ss t ht).1) Sr (fun t ht => (Ss t ht).2)

theorem fe {a b:Bool} (h:a=true) (g:b=true):(a&&b)=true:=by rw[h, g]; rfl
set_option maxRecDepth 100000 in
theorem VP:(Rows.contractValidRow.wf (OpenSpec.ofChange Rows.contractValidSpec))=true:=by kernel_rfl
set_option maxRecDepth 100000 in
theorem VQ:(laidOutB Tryz.prog)=true:=by kernel_rfl
set_option maxRecDepth 100000 in
theorem VS:(mapsRowed Tryz.prog)=true:=by kernel_rfl
set_option maxRecDepth 100000 in
theorem VU:(Tryz.f3.params.all (Tryz.prog.readableRec ·))=true:=by kernel_rfl
set_option maxRecDepth 100000 in
theorem VV:(namedTie Tryz.prog Rows.contractValidRow.named Rows.contractValidSpec.vars)=true:=by kernel_rfl
set_option maxRecDepth 100000 in
theorem VW:((Rows.contractValidRow.stops==[]))=true:=by kernel_rfl
set_option maxRecDepth 100000 in
theorem VX:((Tryz.prog.stops==[]))=true:=by kernel_rfl
set_option maxRecDepth 100000 in
theorem VY:((Rows.contractValidRow.knobs==[]))=true:=by kernel_rfl
set_option maxRecDepth 100000 in
theorem VZ:((Tryz.prog.stopKnobs==[]))=true:=by kernel_rfl
set_option maxRecDepth 100000 in
theorem vd:((Rows.contractValidRow.inPlace==Tryz.prog.inPlace 3))=true:=by kernel_rfl
set_option maxRecDepth 100000 in
theorem U3:((Rows.contractValidRow.unfollowed==Tryz.prog.unfollowed 3))=true:=by kernel_rfl
set_option maxRecDepth 100000 in
theorem U4:((Rows.contractValidRow.recurses==Tryz.prog.recurses 3))=true:=by kernel_rfl
set_option maxRecDepth 100000 in
theorem U5:((Rows.contractValidRow.named==Tryz.prog.varsNamed 3))=true:=by kernel_rfl
set_option maxRecDepth 100000 in
theorem U6:((Rows.contractValidRow.maps==(Tryz.f3.params.toList++Rows.contractValidSpec.plain.varTypes Tryz.prog).any (Tryz.prog.mapsRec ·)))=true:=by kernel_rfl
set_option maxRecDepth 100000 in
theorem U7:((Rows.contractValidRow.ifaces==(Tryz.f3.params.toList++Rows.contractValidSpec.plain.varTypes Tryz.prog).any (Tryz.prog.ifacesRec ·)))=true:=by kernel_rfl
set_option maxRecDepth 100000 in
theorem U8:((Rows.contractValidRow.mapsOut==Tryz.prog.mapsAmong Tryz.f3.resultTypes.toList))=true:=by kernel_rfl
set_option maxRecDepth 100000 in
theorem U9:((Rows.contractValidRow.loops==(Tryz.f3.params.toList++Rows.contractValidSpec.plain.varTypes Tryz.prog).any (Tryz.prog.loopsFrom ·)))=true:=by kernel_rfl
set_option maxRecDepth 100000 in
theorem Va:((Rows.contractValidRow.wideKeys==(Tryz.f3.params.toList++Rows.contractValidSpec.plain.varTypes Tryz.prog++Tryz.f3.resultTypes.toList).any (Tryz.prog.wideKeysFrom ·)))=true:=by kernel_rfl
set_option maxRecDepth 100000 in
theorem Vb:(Rows.contractValidSpec.vars.all (Tryz.prog.varReadable ·))=true:=by kernel_rfl
set_option maxRecDepth 100000 in
theorem Vc:(Tryz.f3.resultTypes.all (fun t=>Tryz.prog.readableRec t&&decide (t<Tryz.prog.types.size)))=true:=by kernel_rfl
set_option maxRecDepth 100000 in
theorem Vd:((Rows.contractValidRow.ifacesOut==Tryz.f3.resultTypes.toList.any (Tryz.prog.ifacesRec ·)))=true:=by kernel_rfl
set_option maxRecDepth 100000 in
theorem Ve:((Rows.contractValidRow.loopsOut==Tryz.f3.resultTypes.toList.any (Tryz.prog.loopsFrom ·)))=true:=by kernel_rfl
set_option maxRecDepth 100000 in
theorem Vf:((Rows.contractValidRow.plainKeys==Tryz.prog.plainKeys))=true:=by kernel_rfl
set_option maxRecDepth 100000 in
theorem Vg:(Rows.contractValidRow.shortTexts.isNone)=true:=by kernel_rfl
set_option maxRecDepth 100000 in
theorem Vh:(Tryz.prog.stopsHeard)=true:=by kernel_rfl
set_option maxRecDepth 100000 in
theorem Vi:(Tryz.prog.mayEnter)=true:=by kernel_rfl
set_option maxRecDepth 100000 in
theorem Vj:((Rows.contractValidRow.lifted==Tryz.prog.liftsFinal))=true:=by kernel_rfl
set_option maxRecDepth 100000 in
theorem Vk:((Tryz.prog.make==some Rows.contractValidRow.make))=true:=by kernel_rfl
set_option maxRecDepth 100000 in
theorem Vl:((Rows.contractValidRow.kinds==(if Rows.contractValidRow.domain.isEmpty then [] else Tryz.f3.params.toList.map fun t=>match Tryz.prog.underlying t with|some (.int k)=>some k|_=>none)))=true:=by kernel_rfl
set_option maxRecDepth 100000 in
theorem Vm:((Rows.contractValidRow.pinned==Rows.contractValidRow.pinnedBy))=true:=by kernel_rfl
set_option maxRecDepth 100000 in
theorem Vn:((Rows.contractValidRow.veiled==(Tryz.f3.params.toList++Rows.contractValidSpec.plain.varTypes Tryz.prog++Tryz.f3.resultTypes.toList).any (Tryz.prog.veiledRec ·)))=true:=by kernel_rfl
set_option maxRecDepth 100000 in
theorem Vo:(Rows.contractValidRow.veiledFits Tryz.prog Tryz.f3.params.toList (Tryz.f3.params.toList++Rows.contractValidSpec.plain.varTypes Tryz.prog++Tryz.f3.resultTypes.toList))=true:=by kernel_rfl
set_option maxRecDepth 100000 in
theorem xa:joinedFacts Tryz.prog 3 Tryz.f3 Rows.contractValidSpec Rows.contractValidRow=true:=by
  unfold joinedFacts
  exact(fe (fe (fe (fe (fe (fe (fe (fe (fe (fe (fe (fe (fe (fe (fe (fe (fe (fe (fe (fe (fe (fe (fe (fe (fe (fe (fe (fe (fe (fe (fe VP VQ) VS) VU) VV) VW) VX) VY) VZ) vd) U3) U4) U5) U6) U7) U8) U9) Va) Vb) Vc) Vd) Ve) Vf) Vg) Vh) Vi) Vj) Vk) Vl) Vm) Vn) Vo)
theorem V4:Tryz.prog.funcNamed Rows.contractValidRow.func=some 3:=by kernel_rfl
theorem law_holds:Rows.ContractValidSaid:=
  OpenClaim.holds_of_wide 3 Tryz.f3 rfl rfl rfl rfl rfl rfl rfl ⟨rfl, rfl, rfl, rfl, rfl⟩ rfl rfl rfl rfl rfl V4 Tryz.func3 xa
    (of_decide_eq_true (by kernel_rfl)) (by unfold Func.isWrapper; first|(rw[if_pos (by decide+kernel)]; kernel_rfl)|(rw[if_neg (by decide+kernel)]; exact⟨rfl, rfl⟩))
    (fun os started H enc _=>lifted os started H enc)

end Go.Proofs.YtpchfogcccagjaaGreat
