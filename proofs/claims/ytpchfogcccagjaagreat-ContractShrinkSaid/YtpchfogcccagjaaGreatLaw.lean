/-
  The law ContractShrink: for every input it returns true, and each argument reads as before. No condition.
-/
import Derived.Test.YtpchfogcccagjaaGreatOk
import Derived.Test.YtpchfogcccagjaaGreatC9
import Derived.Test.YtpchfogcccagjaaGreatLay
import Derived.Test.YtpchfogcccagjaaGreatRows
import Derived.ProofKit
set_option linter.unusedSimpArgs false
set_option linter.unusedVariables false
open List renaming all_eq_true → V9, forall_mem_cons → Wb, contains_iff_mem → W7
open Option renaming some_get → WH
open Nat renaming le_of_ble_eq_true → WT
namespace Go.Proofs.YtpchfogcccagjaaGreat
open Go Go.Pv Go.Proofs Go.RowKit Go.ChangeShapes Go.Sort

theorem Cd:Tryz.prog.follows .mixedOrders=true:=by kernel_rfl
theorem Rs:cX (fun _=>none):=vp (l:=[]) (fun x hx=>by cases hx)
theorem Ue:ep Tryz.prog num (fun _=>none):=yH (l:=[]) (fun x hx=>by cases hx)

theorem Rt:∀args w, (callFunc (num 51) args).run Tryz.prog w=.ok (.enter (num 51) args) w:=enters_of Tryz.func172 (by kernel_rfl) rfl
theorem FD:∀args w, (callFunc (num 47) args).run Tryz.prog w=.ok (.enter (num 47) args) w:=enters_of Tryz.func173 (by kernel_rfl) rfl
theorem Ru (x y:Pv.Edge):uW Tryz.prog num 47 [.agg x.c, .agg y.c] [.int .i64 (Pv.Edge.cmp x y)]:=
  gh.sound Cd Rs Ue UY (j5.1 (r47 (Pr:=fun _=>none) rfl rfl rfl rfl x y))
theorem Rv:ltOf Pv.Edge.cmp=Pv.Edge.lt:=by
  funext x y
  exact Pv.Edge.Ey x y
theorem Mf:Prim.Ok Tryz.prog num 51 (j7 4 (gR Edge.c Edge.dec Edge.lt) 47):=by
  intro L e W h w vs args v tn hp hr hs hv
  refine Es (by decide) Pv.Edge.GK (fun _=>rfl) (fun x c hc=>by simp only[Go.Pv.Edge.c, List.mem_cons, List.not_mem_nil, or_false]at hc; rcases hc with rfl|rfl|rfl|rfl<;>rfl) Pv.Edge.swo Rt (fun a cap w=>AnyF.slices_SortFunc_none Tryz.H0 a cap _ w) ?_ hp hr hs hv
  intro blk off cap d w hH hblk hsz hT hB
  have:=AnyQ.slices_SortFunc Tryz.H0 4 Tryz.isAgg161 Tryz.sizeOf161 (qi Pv.Edge.c) (fun _=>rfl) (fun x v hv=>by simp only[qi, Pv.Edge.c, List.map_cons, List.map_nil, List.mem_cons, List.not_mem_nil, or_false]at hv; rcases hv with rfl|rfl|rfl|rfl<;>rfl) Pv.Edge.cmp (Rv ▸ Pv.Edge.swo) (num 47) #[] blk off cap d w FD
    (Eu (fun x c hc=>by simp only[Go.Pv.Edge.c, List.mem_cons, List.not_mem_nil, or_false]at hc; rcases hc with rfl|rfl|rfl|rfl<;>rfl) Ru FD 4 blk off d.size w hT hB) hH hblk hsz
  rw[Rv]at this
  exact this

theorem Rw:∀args w, (callFunc (num 57) args).run Tryz.prog w=.ok (.enter (num 57) args) w:=enters_of Tryz.func157 (by kernel_rfl) rfl
theorem Ce:(Tryz.prog.info? 229).isSome=true:=by kernel_rfl
theorem H2:(((Tryz.prog.info? 229).get Ce).zero).isSome=true:=by kernel_rfl
theorem Mg:Prim.Ok Tryz.prog num 57 (dn 2):=by
  intro L e W h w vs args v tn hp hr hs hv
  exact j8 (N:=num) (fn:=57) Tryz.Rq rfl (by decide) ((Tryz.prog.info? 229).get Ce) (((Tryz.prog.info? 229).get Ce).zero.get H2) (WH Ce).symm (WH H2).symm (by kernel_rfl) (by kernel_rfl) (WT (by kernel_rfl)) Tryz.sizeOf229 Rw hp hr hs hv

theorem Rx:∀args w, (callFunc (num 64) args).run Tryz.prog w=.ok (.enter (num 64) args) w:=enters_of Tryz.func98 (by kernel_rfl) rfl
theorem Cf:(Tryz.prog.info? 161).isSome=true:=by kernel_rfl
theorem H3:(((Tryz.prog.info? 161).get Cf).zero).isSome=true:=by kernel_rfl
theorem Mh:Prim.Ok Tryz.prog num 64 (dn 4):=by
  intro L e W h w vs args v tn hp hr hs hv
  exact j8 (N:=num) (fn:=64) Tryz.Rr rfl (by decide) ((Tryz.prog.info? 161).get Cf) (((Tryz.prog.info? 161).get Cf).zero.get H3) (WH Cf).symm (WH H3).symm (by kernel_rfl) (by kernel_rfl) (WT (by kernel_rfl)) Tryz.sizeOf161 Rx hp hr hs hv

theorem Mi:∀args w, (callFunc (num 103) args).run Tryz.prog w=.ok (.enter (num 103) args) w:=enters_of Tryz.func68 (by kernel_rfl) rfl
theorem Hg:Prim.Ok Tryz.prog num 103 eQ:=by
  intro L e W h w vs args v tn hp hr hs hv
  exact CG (N:=num) (fn:=103) Tryz.Mb rfl Mi hp hr hs hv

theorem Mj:∀args w, (callFunc (num 313) args).run Tryz.prog w=.ok (.enter (num 313) args) w:=enters_of Tryz.func57 (by kernel_rfl) rfl
theorem xy:(Tryz.prog.info? 107).isSome=true:=by kernel_rfl
theorem FE:(((Tryz.prog.info? 107).get xy).zero).isSome=true:=by kernel_rfl
theorem Hh:Prim.Ok Tryz.prog num 313 (dn 2):=by
  intro L e W h w vs args v tn hp hr hs hv
  exact j8 (N:=num) (fn:=313) Tryz.Mc rfl (by decide) ((Tryz.prog.info? 107).get xy) (((Tryz.prog.info? 107).get xy).zero.get FE) (WH xy).symm (WH FE).symm (by kernel_rfl) (by kernel_rfl) (WT (by kernel_rfl)) Tryz.sizeOf107 Mj hp hr hs hv

theorem Mk:∀args w, (callFunc (num 314) args).run Tryz.prog w=.ok (.enter (num 314) args) w:=enters_of Tryz.func58 (by kernel_rfl) rfl
theorem xz:(Tryz.prog.info? 114).isSome=true:=by kernel_rfl
theorem FF:(((Tryz.prog.info? 114).get xz).zero).isSome=true:=by kernel_rfl
theorem Hi:Prim.Ok Tryz.prog num 314 (dn 13):=by
  intro L e W h w vs args v tn hp hr hs hv
  exact j8 (N:=num) (fn:=314) Tryz.Md rfl (by decide) ((Tryz.prog.info? 114).get xz) (((Tryz.prog.info? 114).get xz).zero.get FF) (WH xz).symm (WH FF).symm (by kernel_rfl) (by kernel_rfl) (WT (by kernel_rfl)) Tryz.sizeOf114 Mk hp hr hs hv

theorem Ml:∀args w, (callFunc (num 467) args).run Tryz.prog w=.ok (.enter (num 467) args) w:=enters_of Tryz.func97 (by kernel_rfl) rfl
theorem xA:(Tryz.prog.info? 117).isSome=true:=by kernel_rfl
theorem FH:(((Tryz.prog.info? 117).get xA).zero).isSome=true:=by kernel_rfl
theorem Hj:Prim.Ok Tryz.prog num 467 (dn 3):=by
  intro L e W h w vs args v tn hp hr hs hv
  exact j8 (N:=num) (fn:=467) Tryz.Me rfl (by decide) ((Tryz.prog.info? 117).get xA) (((Tryz.prog.info? 117).get xA).zero.get FH) (WH xA).symm (WH FH).symm (by kernel_rfl) (by kernel_rfl) (WT (by kernel_rfl)) Tryz.sizeOf117 Ml hp hr hs hv

theorem Uf:ep Tryz.prog num az:=yH (by
  unfold TC
  exact Wb.2 ⟨Mf, Wb.2 ⟨Mg, Wb.2 ⟨Mh, Wb.2 ⟨Hg, Wb.2 ⟨Hh, Wb.2 ⟨Hi, Wb.2 ⟨Hj, fun x hx=>by cases hx⟩⟩⟩⟩⟩⟩⟩)
theorem Ry:cX az:=vp (by
  unfold TC
  exact Wb.2 ⟨CF _ _ _, Wb.2 ⟨jh _, Wb.2 ⟨jh _, Wb.2 ⟨AF, Wb.2 ⟨jh _, Wb.2 ⟨jh _, Wb.2 ⟨jh _, fun x hx=>by cases hx⟩⟩⟩⟩⟩⟩⟩)

theorem Ug:Dv Tryz.prog 65 60 61 130 62 137 134 132 213 135 63 5:=⟨Tryz.underlying5, ⟨_, Tryz.underlying65, rfl⟩, Tryz.underlying61, Tryz.underlying130, Tryz.underlying62, ⟨_, Tryz.underlying137, rfl⟩, ⟨_, Tryz.underlying134, rfl⟩, Tryz.underlying132, ⟨_, Tryz.underlying213, rfl⟩, Tryz.underlying135, Tryz.underlying63⟩
theorem Uh:uu Tryz.prog 60 168 187 58 166 5:=⟨Tryz.underlying5, Tryz.underlying58, Tryz.underlying166, ⟨_, Tryz.underlying60, rfl⟩, ⟨_, Tryz.underlying168, rfl⟩, ⟨_, Tryz.underlying187, rfl⟩⟩
set_option maxRecDepth 100000 in
theorem Rz (css:List (List PV)) (hl:css.length=Tryz.f5.params.toList.length) (ht:∀(j:Nat) (t:TypeId) (cs:List PV), Tryz.f5.params.toList[j]?=some t→css[j]?=some cs→∃n, typed Tryz.prog n t cs):uW Tryz.prog num 398 (List.zipWith (j4 Tryz.prog) Tryz.f5.params.toList css) [.bool true]:=by
  have hp:Tryz.f5.params.toList=[65]:=by kernel_rfl
  rw[hp]at hl ht ⊢
  match css, hl with
  |[c1], _=>
    obtain⟨n0, h0⟩:=ht 0 65 c1 rfl rfl
    obtain⟨d0, rfl, ho0⟩:=DA Ug Uh h0
    have e0:j4 Tryz.prog 65 d0.c=.agg d0.c:=by simp only[j4, wO Tryz.underlying65, if_true]
    show uW _ _ _ [j4 Tryz.prog 65 d0.c] _
    rw[e0]
    exact gh.sound Cd Ry Uf UY (j5.1 (r398 r404 d0 ho0))



theorem own:ownKnob Tryz.prog.godebug=none:=by kernel_rfl
theorem laidOut:laidOutB Tryz.prog=true:=by kernel_rfl
def Hk:List TypeId:=[5,58,60,61,62,63,65,130,132,134,135,137,166,168,187,213]
theorem RA:mF Tryz.prog Hk=true:=by kernel_rfl
theorem Mm:(Tryz.f5.params.toList.all fun t=>Tryz.prog.readableRec t&&decide (t<Tryz.prog.types.size)&&Hk.contains t)=true:=by kernel_rfl
theorem RB (t:TypeId) (ht:t∈Tryz.f5.params.toList):(Tryz.prog.readableRec t=true∧t<Tryz.prog.types.size)∧t∈Hk:=by
  have:=V9.1 Mm t ht
  simp only[Bool.and_eq_true, decide_eq_true_eq]at this
  exact⟨this.1, W7.1 this.2⟩
noncomputable def RC:Array Value:=Tryz.f5.params.map fun t=>((Tryz.prog.info? t).bind (·.zero)).getD undef

set_option maxRecDepth 100000 in
theorem lifted (os : Os) (started : os.Started) (H : Type) (enc : TypeId × Value → H) :
    ReturnsInHanded {} Tryz.checked os 5 .any (Rows.contractShrinkSpec.pre6 enc Tryz.prog Tryz.f5 Rows.contractShrinkRow.domain false) (Rows.contractShrinkSpec.post enc Tryz.prog Tryz.f5 false true false false) :=
  sV (S := Hk) (C := Tryz.checked) (N := num) (f := 398) enc Rz (of_decide_eq_true (by kernel_rfl)) own laidOut started (by kernel_rfl) Tryz.func5 (code := Tryz.f5.body.getD .skip) (by kernel_rfl) (by kernel_rfl)
    (ChangeSpec.witness6 (enc := enc) (C := Tryz.checked) false ⟨#[], RC, []⟩ 12 (by kernel_rfl) (by kernel_rfl) (by kernel_rfl) (by kernel_rfl))
    (tb := Tryz.f5.resultTypes.toList.headD 0) (by kernel_rfl) (by kernel_rfl) rfl (fun ds hl => by
      match ds, hl with
      | [_], _ => rfl) (fun t ht => (RB t ht).1) RA (fun t ht => (RB t ht).2)

theorem fw {a b:Bool} (h:a=true) (g:b=true):(a&&b)=true:=by rw[h, g]; rfl
set_option maxRecDepth 100000 in
theorem Vg:(Rows.contractShrinkRow.wf (OpenSpec.ofChange Rows.contractShrinkSpec))=true:=by kernel_rfl
set_option maxRecDepth 100000 in
theorem Vh:(laidOutB Tryz.prog)=true:=by kernel_rfl
set_option maxRecDepth 100000 in
theorem Vi:(mapsRowed Tryz.prog)=true:=by kernel_rfl
set_option maxRecDepth 100000 in
theorem Vj:(Tryz.f5.params.all (Tryz.prog.readableRec ·))=true:=by kernel_rfl
set_option maxRecDepth 100000 in
theorem Vk:(namedTie Tryz.prog Rows.contractShrinkRow.named Rows.contractShrinkSpec.vars)=true:=by kernel_rfl
set_option maxRecDepth 100000 in
theorem Vl:((Rows.contractShrinkRow.stops==[]))=true:=by kernel_rfl
set_option maxRecDepth 100000 in
theorem Vm:((Tryz.prog.stops==[]))=true:=by kernel_rfl
set_option maxRecDepth 100000 in
theorem Vn:((Rows.contractShrinkRow.knobs==[]))=true:=by kernel_rfl
set_option maxRecDepth 100000 in
theorem Vo:((Tryz.prog.stopKnobs==[]))=true:=by kernel_rfl
set_option maxRecDepth 100000 in
theorem Vp:((Rows.contractShrinkRow.inPlace==Tryz.prog.inPlace 5))=true:=by kernel_rfl
set_option maxRecDepth 100000 in
theorem Ui:((Rows.contractShrinkRow.unfollowed==Tryz.prog.unfollowed 5))=true:=by kernel_rfl
set_option maxRecDepth 100000 in
theorem Uj:((Rows.contractShrinkRow.recurses==Tryz.prog.recurses 5))=true:=by kernel_rfl
set_option maxRecDepth 100000 in
theorem Uk:((Rows.contractShrinkRow.named==Tryz.prog.varsNamed 5))=true:=by kernel_rfl
set_option maxRecDepth 100000 in
theorem Ul:((Rows.contractShrinkRow.maps==(Tryz.f5.params.toList++Rows.contractShrinkSpec.plain.varTypes Tryz.prog).any (Tryz.prog.mapsRec ·)))=true:=by kernel_rfl
set_option maxRecDepth 100000 in
theorem Um:((Rows.contractShrinkRow.ifaces==(Tryz.f5.params.toList++Rows.contractShrinkSpec.plain.varTypes Tryz.prog).any (Tryz.prog.ifacesRec ·)))=true:=by kernel_rfl
set_option maxRecDepth 100000 in
theorem Un:((Rows.contractShrinkRow.mapsOut==Tryz.prog.mapsAmong Tryz.f5.resultTypes.toList))=true:=by kernel_rfl
set_option maxRecDepth 100000 in
theorem Uo:((Rows.contractShrinkRow.loops==(Tryz.f5.params.toList++Rows.contractShrinkSpec.plain.varTypes Tryz.prog).any (Tryz.prog.loopsFrom ·)))=true:=by kernel_rfl
set_option maxRecDepth 100000 in
theorem Up:((Rows.contractShrinkRow.wideKeys==(Tryz.f5.params.toList++Rows.contractShrinkSpec.plain.varTypes Tryz.prog++Tryz.f5.resultTypes.toList).any (Tryz.prog.wideKeysFrom ·)))=true:=by kernel_rfl
set_option maxRecDepth 100000 in
theorem Uq:(Rows.contractShrinkSpec.vars.all (Tryz.prog.varReadable ·))=true:=by kernel_rfl
set_option maxRecDepth 100000 in
theorem Ur:(Tryz.f5.resultTypes.all (fun t=>Tryz.prog.readableRec t&&decide (t<Tryz.prog.types.size)))=true:=by kernel_rfl
set_option maxRecDepth 100000 in
theorem Us:((Rows.contractShrinkRow.ifacesOut==Tryz.f5.resultTypes.toList.any (Tryz.prog.ifacesRec ·)))=true:=by kernel_rfl
set_option maxRecDepth 100000 in
theorem Ut:((Rows.contractShrinkRow.loopsOut==Tryz.f5.resultTypes.toList.any (Tryz.prog.loopsFrom ·)))=true:=by kernel_rfl
set_option maxRecDepth 100000 in
theorem Uu:((Rows.contractShrinkRow.plainKeys==Tryz.prog.plainKeys))=true:=by kernel_rfl
set_option maxRecDepth 100000 in
theorem Uv:(Rows.contractShrinkRow.shortTexts.isNone)=true:=by kernel_rfl
set_option maxRecDepth 100000 in
theorem Uw:(Tryz.prog.stopsHeard)=true:=by kernel_rfl
set_option maxRecDepth 100000 in
theorem Ux:(Tryz.prog.mayEnter)=true:=by kernel_rfl
set_option maxRecDepth 100000 in
theorem Uy:((Rows.contractShrinkRow.lifted==Tryz.prog.liftsFinal))=true:=by kernel_rfl
set_option maxRecDepth 100000 in
theorem Uz:((Tryz.prog.make==some Rows.contractShrinkRow.make))=true:=by kernel_rfl
set_option maxRecDepth 100000 in
theorem UA:((Rows.contractShrinkRow.kinds==(if Rows.contractShrinkRow.domain.isEmpty then [] else Tryz.f5.params.toList.map fun t=>match Tryz.prog.underlying t with|some (.int k)=>some k|_=>none)))=true:=by kernel_rfl
set_option maxRecDepth 100000 in
theorem UB:((Rows.contractShrinkRow.pinned==Rows.contractShrinkRow.pinnedBy))=true:=by kernel_rfl
set_option maxRecDepth 100000 in
theorem UC:((Rows.contractShrinkRow.veiled==(Tryz.f5.params.toList++Rows.contractShrinkSpec.plain.varTypes Tryz.prog++Tryz.f5.resultTypes.toList).any (Tryz.prog.veiledRec ·)))=true:=by kernel_rfl
set_option maxRecDepth 100000 in
theorem UD:(Rows.contractShrinkRow.veiledFits Tryz.prog Tryz.f5.params.toList (Tryz.f5.params.toList++Rows.contractShrinkSpec.plain.varTypes Tryz.prog++Tryz.f5.resultTypes.toList))=true:=by kernel_rfl
set_option maxRecDepth 100000 in
theorem Vq:joinedFacts Tryz.prog 5 Tryz.f5 Rows.contractShrinkSpec Rows.contractShrinkRow=true:=by
  unfold joinedFacts
  exact(fw (fw (fw (fw (fw (fw (fw (fw (fw (fw (fw (fw (fw (fw (fw (fw (fw (fw (fw (fw (fw (fw (fw (fw (fw (fw (fw (fw (fw (fw (fw Vg Vh) Vi) Vj) Vk) Vl) Vm) Vn) Vo) Vp) Ui) Uj) Uk) Ul) Um) Un) Uo) Up) Uq) Ur) Us) Ut) Uu) Uv) Uw) Ux) Uy) Uz) UA) UB) UC) UD)
theorem Vr:Tryz.prog.funcNamed Rows.contractShrinkRow.func=some 5:=by kernel_rfl
theorem law_holds:Rows.ContractShrinkSaid:=
  OpenClaim.holds_of_wide 5 Tryz.f5 rfl rfl rfl rfl rfl rfl rfl ⟨rfl, rfl, rfl, rfl, rfl⟩ rfl rfl rfl rfl rfl Vr Tryz.func5 Vq
    (of_decide_eq_true (by kernel_rfl)) (by unfold Func.isWrapper; first|(rw[if_pos (by decide+kernel)]; kernel_rfl)|(rw[if_neg (by decide+kernel)]; exact⟨rfl, rfl⟩))
    (fun os started H enc _=>lifted os started H enc)

end Go.Proofs.YtpchfogcccagjaaGreat
