/-
  The law ContractShrunk: for every input it returns true, and each argument reads as before. No condition.
-/
import Derived.Test.YtpchfogcccagjaaGreatOk
import Derived.Test.YtpchfogcccagjaaGreatC11
import Derived.Test.YtpchfogcccagjaaGreatLay
import Derived.Test.YtpchfogcccagjaaGreatRows
import Derived.ProofKit
set_option linter.unusedSimpArgs false
set_option linter.unusedVariables false
open List renaming all_eq_true → aaF, forall_mem_cons → aaZ, contains_iff_mem → abR
open Option renaming some_get → abB
open Nat renaming le_of_ble_eq_true → abK
namespace Go.Proofs.YtpchfogcccagjaaGreat
open Go Go.Pv Go.Proofs Go.RowKit Go.ChangeShapes Go.Sort

theorem E7:Tryz.prog.follows .mixedOrders=true:=by kernel_rfl
theorem We:dp (fun _=>none):=xC (l:=[]) (fun x hx=>by cases hx)
theorem Y7:eR Tryz.prog num (fun _=>none):=AS (l:=[]) (fun x hx=>by cases hx)

theorem Wf:∀args w, (callFunc (num 51) args).run Tryz.prog w=.ok (.enter (num 51) args) w:=enters_of Tryz.func172 (by kernel_rfl) rfl
theorem JF:∀args w, (callFunc (num 47) args).run Tryz.prog w=.ok (.enter (num 47) args) w:=enters_of Tryz.func173 (by kernel_rfl) rfl
theorem Wg (x y:Pv.Edge):w7 Tryz.prog num 47 [.agg x.c, .agg y.c] [.int .i64 (Pv.Edge.cmp x y)]:=
  hY.sound E7 We Y7 ZL (lh.1 (r47 (Pr:=fun _=>none) rfl rfl rfl rfl x y))
theorem Wh:ltOf Pv.Edge.cmp=Pv.Edge.lt:=by
  funext x y
  exact Pv.Edge.HT x y
theorem Rh:Prim.Ok Tryz.prog num 51 (ll 4 (iV Edge.c Edge.dec Edge.lt) 47):=by
  intro L e W h w vs args v tn hp hr hs hv
  refine HN (by decide) Pv.Edge.KI (fun _=>rfl) (fun x c hc=>by simp only[Go.Pv.Edge.c, List.mem_cons, List.not_mem_nil, or_false]at hc; rcases hc with rfl|rfl|rfl|rfl<;>rfl) Pv.Edge.swo Wf (fun a cap w=>AnyF.slices_SortFunc_none Tryz.MG a cap _ w) ?_ hp hr hs hv
  intro blk off cap d w hH hblk hsz hT hB
  have:=AnyQ.slices_SortFunc Tryz.MG 4 Tryz.isAgg161 Tryz.sizeOf161 (rZ Pv.Edge.c) (fun _=>rfl) (fun x v hv=>by simp only[rZ, Pv.Edge.c, List.map_cons, List.map_nil, List.mem_cons, List.not_mem_nil, or_false]at hv; rcases hv with rfl|rfl|rfl|rfl<;>rfl) Pv.Edge.cmp (Wh ▸ Pv.Edge.swo) (num 47) #[] blk off cap d w JF
    (HP (fun x c hc=>by simp only[Go.Pv.Edge.c, List.mem_cons, List.not_mem_nil, or_false]at hc; rcases hc with rfl|rfl|rfl|rfl<;>rfl) Wg JF 4 blk off d.size w hT hB) hH hblk hsz
  rw[Wh]at this
  exact this

theorem Wi:∀args w, (callFunc (num 57) args).run Tryz.prog w=.ok (.enter (num 57) args) w:=enters_of Tryz.func157 (by kernel_rfl) rfl
theorem E8:(Tryz.prog.info? 229).isSome=true:=by kernel_rfl
theorem MH:(((Tryz.prog.info? 229).get E8).zero).isSome=true:=by kernel_rfl
theorem Ri:Prim.Ok Tryz.prog num 57 (cL 2):=by
  intro L e W h w vs args v tn hp hr hs hv
  exact lq (N:=num) (fn:=57) Tryz.Wb rfl (by decide) ((Tryz.prog.info? 229).get E8) (((Tryz.prog.info? 229).get E8).zero.get MH) (abB E8).symm (abB MH).symm (by kernel_rfl) (by kernel_rfl) (abK (by kernel_rfl)) Tryz.sizeOf229 Wi hp hr hs hv

theorem Wj:∀args w, (callFunc (num 64) args).run Tryz.prog w=.ok (.enter (num 64) args) w:=enters_of Tryz.func98 (by kernel_rfl) rfl
theorem E9:(Tryz.prog.info? 161).isSome=true:=by kernel_rfl
theorem MI:(((Tryz.prog.info? 161).get E9).zero).isSome=true:=by kernel_rfl
theorem Rj:Prim.Ok Tryz.prog num 64 (cL 4):=by
  intro L e W h w vs args v tn hp hr hs hv
  exact lq (N:=num) (fn:=64) Tryz.Wd rfl (by decide) ((Tryz.prog.info? 161).get E9) (((Tryz.prog.info? 161).get E9).zero.get MI) (abB E9).symm (abB MI).symm (by kernel_rfl) (by kernel_rfl) (abK (by kernel_rfl)) Tryz.sizeOf161 Wj hp hr hs hv

theorem Rk:∀args w, (callFunc (num 103) args).run Tryz.prog w=.ok (.enter (num 103) args) w:=enters_of Tryz.func68 (by kernel_rfl) rfl
theorem LJ:Prim.Ok Tryz.prog num 103 fE:=by
  intro L e W h w vs args v tn hp hr hs hv
  exact FB (N:=num) (fn:=103) Tryz.Rc rfl Rk hp hr hs hv

theorem Rl:∀args w, (callFunc (num 313) args).run Tryz.prog w=.ok (.enter (num 313) args) w:=enters_of Tryz.func57 (by kernel_rfl) rfl
theorem zN:(Tryz.prog.info? 107).isSome=true:=by kernel_rfl
theorem JG:(((Tryz.prog.info? 107).get zN).zero).isSome=true:=by kernel_rfl
theorem LK:Prim.Ok Tryz.prog num 313 (cL 2):=by
  intro L e W h w vs args v tn hp hr hs hv
  exact lq (N:=num) (fn:=313) Tryz.Re rfl (by decide) ((Tryz.prog.info? 107).get zN) (((Tryz.prog.info? 107).get zN).zero.get JG) (abB zN).symm (abB JG).symm (by kernel_rfl) (by kernel_rfl) (abK (by kernel_rfl)) Tryz.sizeOf107 Rl hp hr hs hv

theorem Rm:∀args w, (callFunc (num 314) args).run Tryz.prog w=.ok (.enter (num 314) args) w:=enters_of Tryz.func58 (by kernel_rfl) rfl
theorem zO:(Tryz.prog.info? 114).isSome=true:=by kernel_rfl
theorem JH:(((Tryz.prog.info? 114).get zO).zero).isSome=true:=by kernel_rfl
theorem LM:Prim.Ok Tryz.prog num 314 (cL 13):=by
  intro L e W h w vs args v tn hp hr hs hv
  exact lq (N:=num) (fn:=314) Tryz.Rf rfl (by decide) ((Tryz.prog.info? 114).get zO) (((Tryz.prog.info? 114).get zO).zero.get JH) (abB zO).symm (abB JH).symm (by kernel_rfl) (by kernel_rfl) (abK (by kernel_rfl)) Tryz.sizeOf114 Rm hp hr hs hv

theorem Rn:∀args w, (callFunc (num 467) args).run Tryz.prog w=.ok (.enter (num 467) args) w:=enters_of Tryz.func97 (by kernel_rfl) rfl
theorem zP:(Tryz.prog.info? 117).isSome=true:=by kernel_rfl
theorem JI:(((Tryz.prog.info? 117).get zP).zero).isSome=true:=by kernel_rfl
theorem LN:Prim.Ok Tryz.prog num 467 (cL 3):=by
  intro L e W h w vs args v tn hp hr hs hv
  exact lq (N:=num) (fn:=467) Tryz.Rg rfl (by decide) ((Tryz.prog.info? 117).get zP) (((Tryz.prog.info? 117).get zP).zero.get JI) (abB zP).symm (abB JI).symm (by kernel_rfl) (by kernel_rfl) (abK (by kernel_rfl)) Tryz.sizeOf117 Rn hp hr hs hv

theorem Y8:eR Tryz.prog num ay:=AS (by
  unfold Yw
  exact aaZ.2 ⟨Rh, aaZ.2 ⟨Ri, aaZ.2 ⟨Rj, aaZ.2 ⟨LJ, aaZ.2 ⟨LK, aaZ.2 ⟨LM, aaZ.2 ⟨LN, fun x hx=>by cases hx⟩⟩⟩⟩⟩⟩⟩)
theorem Wk:dp ay:=xC (by
  unfold Yw
  exact aaZ.2 ⟨FA _ _ _, aaZ.2 ⟨j6 _, aaZ.2 ⟨j6 _, aaZ.2 ⟨C0, aaZ.2 ⟨j6 _, aaZ.2 ⟨j6 _, aaZ.2 ⟨j6 _, fun x hx=>by cases hx⟩⟩⟩⟩⟩⟩⟩)

theorem Y9:GP Tryz.prog 65 60 61 130 62 137 134 132 213 135 63 5:=⟨Tryz.underlying5, ⟨_, Tryz.underlying65, rfl⟩, Tryz.underlying61, Tryz.underlying130, Tryz.underlying62, ⟨_, Tryz.underlying137, rfl⟩, ⟨_, Tryz.underlying134, rfl⟩, Tryz.underlying132, ⟨_, Tryz.underlying213, rfl⟩, Tryz.underlying135, Tryz.underlying63⟩
theorem Za:wz Tryz.prog 60 168 187 58 166 5:=⟨Tryz.underlying5, Tryz.underlying58, Tryz.underlying166, ⟨_, Tryz.underlying60, rfl⟩, ⟨_, Tryz.underlying168, rfl⟩, ⟨_, Tryz.underlying187, rfl⟩⟩
set_option maxRecDepth 100000 in
theorem Wl (css:List (List PV)) (hl:css.length=Tryz.f6.params.toList.length) (ht:∀(j:Nat) (t:TypeId) (cs:List PV), Tryz.f6.params.toList[j]?=some t→css[j]?=some cs→∃n, typed Tryz.prog n t cs):w7 Tryz.prog num 399 (List.zipWith (lg Tryz.prog) Tryz.f6.params.toList css) [.bool true]:=by
  have hp:Tryz.f6.params.toList=[65]:=by kernel_rfl
  rw[hp]at hl ht ⊢
  match css, hl with
  |[c1], _=>
    obtain⟨n0, h0⟩:=ht 0 65 c1 rfl rfl
    obtain⟨d0, rfl, ho0⟩:=GV Y9 Za h0
    have e0:lg Tryz.prog 65 d0.c=.agg d0.c:=by simp only[lg, y8 Tryz.underlying65, if_true]
    show w7 _ _ _ [lg Tryz.prog 65 d0.c] _
    rw[e0]
    exact hY.sound E7 Wk Y8 ZL (lh.1 (r399 r404 d0 ho0))



theorem own:ownKnob Tryz.prog.godebug=none:=by kernel_rfl
theorem laidOut:laidOutB Tryz.prog=true:=by kernel_rfl
def LO:List TypeId:=[5,58,60,61,62,63,65,130,132,134,135,137,166,168,187,213]
theorem Wm:oj Tryz.prog LO=true:=by kernel_rfl
theorem Ro:(Tryz.f6.params.toList.all fun t=>Tryz.prog.readableRec t&&decide (t<Tryz.prog.types.size)&&LO.contains t)=true:=by kernel_rfl
theorem Wn (t:TypeId) (ht:t∈Tryz.f6.params.toList):(Tryz.prog.readableRec t=true∧t<Tryz.prog.types.size)∧t∈LO:=by
  have:=aaF.1 Ro t ht
  simp only[Bool.and_eq_true, decide_eq_true_eq]at this
  exact⟨this.1, abR.1 this.2⟩
noncomputable def Wo:Array Value:=Tryz.f6.params.map fun t=>((Tryz.prog.info? t).bind (·.zero)).getD undef

set_option maxRecDepth 100000 in
theorem lifted (os : Os) (started : os.Started) (H : Type) (enc : TypeId × Value → H) :
    ReturnsInHanded {} Tryz.checked os 6 .any (Rows.contractShrunkSpec.pre6 enc Tryz.prog Tryz.f6 Rows.contractShrunkRow.domain false) (Rows.contractShrunkSpec.post enc Tryz.prog Tryz.f6 false true false false) :=
  vb (S := LO) (C := Tryz.checked) (N := num) (f := 399) enc Wl (of_decide_eq_true (by kernel_rfl)) own laidOut started (by kernel_rfl) Tryz.func6 (code := Tryz.f6.body.getD .skip) (by kernel_rfl) (by kernel_rfl)
    (ChangeSpec.witness6 (enc := enc) (C := Tryz.checked) false ⟨#[], Wo, []⟩ 12 (by kernel_rfl) (by kernel_rfl) (by kernel_rfl) (by kernel_rfl))
    (tb := Tryz.f6.resultTypes.toList.headD 0) (by kernel_rfl) (by kernel_rfl) rfl (fun ds hl => by
      match ds, hl with
      | [_], _ => rfl) (fun t ht => (Wn t ht).1) Wm (fun t ht => (Wn t ht).2)

theorem fY {a b:Bool} (h:a=true) (g:b=true):(a&&b)=true:=by rw[h, g]; rfl
set_option maxRecDepth 100000 in
theorem Z4:(Rows.contractShrunkRow.wf (OpenSpec.ofChange Rows.contractShrunkSpec))=true:=by kernel_rfl
set_option maxRecDepth 100000 in
theorem Z5:(laidOutB Tryz.prog)=true:=by kernel_rfl
set_option maxRecDepth 100000 in
theorem Z6:(mapsRowed Tryz.prog)=true:=by kernel_rfl
set_option maxRecDepth 100000 in
theorem Z7:(Tryz.f6.params.all (Tryz.prog.readableRec ·))=true:=by kernel_rfl
set_option maxRecDepth 100000 in
theorem Z8:(namedTie Tryz.prog Rows.contractShrunkRow.named Rows.contractShrunkSpec.vars)=true:=by kernel_rfl
set_option maxRecDepth 100000 in
theorem Z9:((Rows.contractShrunkRow.stops==[]))=true:=by kernel_rfl
set_option maxRecDepth 100000 in
theorem jf6:((Tryz.prog.stops==[]))=true:=by kernel_rfl
set_option maxRecDepth 100000 in
theorem jf7:((Rows.contractShrunkRow.knobs==[]))=true:=by kernel_rfl
set_option maxRecDepth 100000 in
theorem jf8:((Tryz.prog.stopKnobs==[]))=true:=by kernel_rfl
set_option maxRecDepth 100000 in
theorem jf9:((Rows.contractShrunkRow.inPlace==Tryz.prog.inPlace 6))=true:=by kernel_rfl
set_option maxRecDepth 100000 in
theorem Zb:((Rows.contractShrunkRow.unfollowed==Tryz.prog.unfollowed 6))=true:=by kernel_rfl
set_option maxRecDepth 100000 in
theorem Zc:((Rows.contractShrunkRow.recurses==Tryz.prog.recurses 6))=true:=by kernel_rfl
set_option maxRecDepth 100000 in
theorem Zd:((Rows.contractShrunkRow.named==Tryz.prog.varsNamed 6))=true:=by kernel_rfl
set_option maxRecDepth 100000 in
theorem Ze:((Rows.contractShrunkRow.maps==(Tryz.f6.params.toList++Rows.contractShrunkSpec.plain.varTypes Tryz.prog).any (Tryz.prog.mapsRec ·)))=true:=by kernel_rfl
set_option maxRecDepth 100000 in
theorem Zf:((Rows.contractShrunkRow.ifaces==(Tryz.f6.params.toList++Rows.contractShrunkSpec.plain.varTypes Tryz.prog).any (Tryz.prog.ifacesRec ·)))=true:=by kernel_rfl
set_option maxRecDepth 100000 in
theorem Zg:((Rows.contractShrunkRow.mapsOut==Tryz.prog.mapsAmong Tryz.f6.resultTypes.toList))=true:=by kernel_rfl
set_option maxRecDepth 100000 in
theorem Zh:((Rows.contractShrunkRow.loops==(Tryz.f6.params.toList++Rows.contractShrunkSpec.plain.varTypes Tryz.prog).any (Tryz.prog.loopsFrom ·)))=true:=by kernel_rfl
set_option maxRecDepth 100000 in
theorem Zi:((Rows.contractShrunkRow.wideKeys==(Tryz.f6.params.toList++Rows.contractShrunkSpec.plain.varTypes Tryz.prog++Tryz.f6.resultTypes.toList).any (Tryz.prog.wideKeysFrom ·)))=true:=by kernel_rfl
set_option maxRecDepth 100000 in
theorem Zj:(Rows.contractShrunkSpec.vars.all (Tryz.prog.varReadable ·))=true:=by kernel_rfl
set_option maxRecDepth 100000 in
theorem Zk:(Tryz.f6.resultTypes.all (fun t=>Tryz.prog.readableRec t&&decide (t<Tryz.prog.types.size)))=true:=by kernel_rfl
set_option maxRecDepth 100000 in
theorem Zl:((Rows.contractShrunkRow.ifacesOut==Tryz.f6.resultTypes.toList.any (Tryz.prog.ifacesRec ·)))=true:=by kernel_rfl
set_option maxRecDepth 100000 in
theorem Zm:((Rows.contractShrunkRow.loopsOut==Tryz.f6.resultTypes.toList.any (Tryz.prog.loopsFrom ·)))=true:=by kernel_rfl
set_option maxRecDepth 100000 in
theorem Zn:((Rows.contractShrunkRow.plainKeys==Tryz.prog.plainKeys))=true:=by kernel_rfl
set_option maxRecDepth 100000 in
theorem Zo:(Rows.contractShrunkRow.shortTexts.isNone)=true:=by kernel_rfl
set_option maxRecDepth 100000 in
theorem Zp:(Tryz.prog.stopsHeard)=true:=by kernel_rfl
set_option maxRecDepth 100000 in
theorem Zq:(Tryz.prog.mayEnter)=true:=by kernel_rfl
set_option maxRecDepth 100000 in
theorem Zr:((Rows.contractShrunkRow.lifted==Tryz.prog.liftsFinal))=true:=by kernel_rfl
set_option maxRecDepth 100000 in
theorem Zs:((Tryz.prog.make==some Rows.contractShrunkRow.make))=true:=by kernel_rfl
set_option maxRecDepth 100000 in
theorem Zt:((Rows.contractShrunkRow.kinds==(if Rows.contractShrunkRow.domain.isEmpty then [] else Tryz.f6.params.toList.map fun t=>match Tryz.prog.underlying t with|some (.int k)=>some k|_=>none)))=true:=by kernel_rfl
set_option maxRecDepth 100000 in
theorem Zu:((Rows.contractShrunkRow.pinned==Rows.contractShrunkRow.pinnedBy))=true:=by kernel_rfl
set_option maxRecDepth 100000 in
theorem Zv:((Rows.contractShrunkRow.veiled==(Tryz.f6.params.toList++Rows.contractShrunkSpec.plain.varTypes Tryz.prog++Tryz.f6.resultTypes.toList).any (Tryz.prog.veiledRec ·)))=true:=by kernel_rfl
set_option maxRecDepth 100000 in
theorem Zw:(Rows.contractShrunkRow.veiledFits Tryz.prog Tryz.f6.params.toList (Tryz.f6.params.toList++Rows.contractShrunkSpec.plain.varTypes Tryz.prog++Tryz.f6.resultTypes.toList))=true:=by kernel_rfl
set_option maxRecDepth 100000 in
theorem jfs:joinedFacts Tryz.prog 6 Tryz.f6 Rows.contractShrunkSpec Rows.contractShrunkRow=true:=by
  unfold joinedFacts
  exact(fY (fY (fY (fY (fY (fY (fY (fY (fY (fY (fY (fY (fY (fY (fY (fY (fY (fY (fY (fY (fY (fY (fY (fY (fY (fY (fY (fY (fY (fY (fY Z4 Z5) Z6) Z7) Z8) Z9) jf6) jf7) jf8) jf9) Zb) Zc) Zd) Ze) Zf) Zg) Zh) Zi) Zj) Zk) Zl) Zm) Zn) Zo) Zp) Zq) Zr) Zs) Zt) Zu) Zv) Zw)
theorem jfn:Tryz.prog.funcNamed Rows.contractShrunkRow.func=some 6:=by kernel_rfl
theorem law_holds:Rows.ContractShrunkSaid:=
  OpenClaim.holds_of_wide 6 Tryz.f6 rfl rfl rfl rfl rfl rfl rfl ⟨rfl, rfl, rfl, rfl, rfl⟩ rfl rfl rfl rfl rfl jfn Tryz.func6 jfs
    (of_decide_eq_true (by kernel_rfl)) (by unfold Func.isWrapper; first|(rw[if_pos (by decide+kernel)]; kernel_rfl)|(rw[if_neg (by decide+kernel)]; exact⟨rfl, rfl⟩))
    (fun os started H enc _=>lifted os started H enc)

end Go.Proofs.YtpchfogcccagjaaGreat
