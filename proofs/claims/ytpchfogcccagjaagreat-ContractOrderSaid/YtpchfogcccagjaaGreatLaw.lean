/-
  The law ContractOrder: for every input it returns true, and each argument reads as before. No condition.
-/
import Derived.Test.YtpchfogcccagjaaGreatOk
import Derived.Test.YtpchfogcccagjaaGreatC8
import Derived.Test.YtpchfogcccagjaaGreatLay
import Derived.Test.YtpchfogcccagjaaGreatRows
import Derived.ProofKit
set_option linter.unusedSimpArgs false
set_option linter.unusedVariables false
open List renaming all_eq_true → WI, forall_mem_cons → WQ, contains_iff_mem → XU
open Option renaming some_get → W9
open Nat renaming le_of_ble_eq_true → Xn
namespace Go.Proofs.YtpchfogcccagjaaGreat
open Go Go.Pv Go.Proofs Go.RowKit Go.ChangeShapes Go.Sort

theorem Cn:Tryz.prog.follows .mixedOrders=true:=by kernel_rfl
theorem Sy:cH (fun _=>none):=va (l:=[]) (fun x hx=>by cases hx)
theorem Vf:dT Tryz.prog num (fun _=>none):=yp (l:=[]) (fun x hx=>by cases hx)

theorem Sz:∀args w, (callFunc (num 51) args).run Tryz.prog w=.ok (.enter (num 51) args) w:=enters_of Tryz.func172 (by kernel_rfl) rfl
theorem GC:∀args w, (callFunc (num 47) args).run Tryz.prog w=.ok (.enter (num 47) args) w:=enters_of Tryz.func173 (by kernel_rfl) rfl
theorem SA (x y:Pv.Edge):uJ Tryz.prog num 47 [.agg x.c, .agg y.c] [.int .i64 (Pv.Edge.cmp x y)]:=
  fV.sound Cn Sy Vf VU (jA.1 (r47 (Pr:=fun _=>none) rfl rfl rfl rfl x y))
theorem SB:ltOf Pv.Edge.cmp=Pv.Edge.lt:=by
  funext x y
  exact Pv.Edge.ER x y
theorem Nu:Prim.Ok Tryz.prog num 51 (jD 4 (gE Edge.c Edge.dec Edge.lt) 47):=by
  intro L e W h w vs args v tn hp hr hs hv
  refine EL (by decide) Pv.Edge.HG (fun _=>rfl) (fun x c hc=>by simp only[Go.Pv.Edge.c, List.mem_cons, List.not_mem_nil, or_false]at hc; rcases hc with rfl|rfl|rfl|rfl<;>rfl) Pv.Edge.swo Sz (fun a cap w=>AnyF.slices_SortFunc_none Tryz.JD a cap _ w) ?_ hp hr hs hv
  intro blk off cap d w hH hblk hsz hT hB
  have:=AnyQ.slices_SortFunc Tryz.JD 4 Tryz.isAgg161 Tryz.sizeOf161 (pR Pv.Edge.c) (fun _=>rfl) (fun x v hv=>by simp only[pR, Pv.Edge.c, List.map_cons, List.map_nil, List.mem_cons, List.not_mem_nil, or_false]at hv; rcases hv with rfl|rfl|rfl|rfl<;>rfl) Pv.Edge.cmp (SB ▸ Pv.Edge.swo) (num 47) #[] blk off cap d w GC
    (EN (fun x c hc=>by simp only[Go.Pv.Edge.c, List.mem_cons, List.not_mem_nil, or_false]at hc; rcases hc with rfl|rfl|rfl|rfl<;>rfl) SA GC 4 blk off d.size w hT hB) hH hblk hsz
  rw[SB]at this
  exact this

theorem SC:∀args w, (callFunc (num 57) args).run Tryz.prog w=.ok (.enter (num 57) args) w:=enters_of Tryz.func157 (by kernel_rfl) rfl
theorem Co:(Tryz.prog.info? 229).isSome=true:=by kernel_rfl
theorem JE:(((Tryz.prog.info? 229).get Co).zero).isSome=true:=by kernel_rfl
theorem Nv:Prim.Ok Tryz.prog num 57 (aZ 2):=by
  intro L e W h w vs args v tn hp hr hs hv
  exact fp (N:=num) (fn:=57) Tryz.Sw rfl (by decide) ((Tryz.prog.info? 229).get Co) (((Tryz.prog.info? 229).get Co).zero.get JE) (W9 Co).symm (W9 JE).symm (by kernel_rfl) (by kernel_rfl) (Xn (by kernel_rfl)) Tryz.sizeOf229 SC hp hr hs hv

theorem SD:∀args w, (callFunc (num 64) args).run Tryz.prog w=.ok (.enter (num 64) args) w:=enters_of Tryz.func98 (by kernel_rfl) rfl
theorem Cp:(Tryz.prog.info? 161).isSome=true:=by kernel_rfl
theorem JF:(((Tryz.prog.info? 161).get Cp).zero).isSome=true:=by kernel_rfl
theorem Nw:Prim.Ok Tryz.prog num 64 (aZ 4):=by
  intro L e W h w vs args v tn hp hr hs hv
  exact fp (N:=num) (fn:=64) Tryz.Sx rfl (by decide) ((Tryz.prog.info? 161).get Cp) (((Tryz.prog.info? 161).get Cp).zero.get JF) (W9 Cp).symm (W9 JF).symm (by kernel_rfl) (by kernel_rfl) (Xn (by kernel_rfl)) Tryz.sizeOf161 SD hp hr hs hv

theorem Ny:∀args w, (callFunc (num 103) args).run Tryz.prog w=.ok (.enter (num 103) args) w:=enters_of Tryz.func68 (by kernel_rfl) rfl
theorem IN:Prim.Ok Tryz.prog num 103 gM:=by
  intro L e W h w vs args v tn hp hr hs hv
  exact CO (N:=num) (fn:=103) Tryz.Nn rfl Ny hp hr hs hv

theorem Nz:∀args w, (callFunc (num 313) args).run Tryz.prog w=.ok (.enter (num 313) args) w:=enters_of Tryz.func57 (by kernel_rfl) rfl
theorem w6:(Tryz.prog.info? 107).isSome=true:=by kernel_rfl
theorem GD:(((Tryz.prog.info? 107).get w6).zero).isSome=true:=by kernel_rfl
theorem IP:Prim.Ok Tryz.prog num 313 (aZ 2):=by
  intro L e W h w vs args v tn hp hr hs hv
  exact fp (N:=num) (fn:=313) Tryz.No rfl (by decide) ((Tryz.prog.info? 107).get w6) (((Tryz.prog.info? 107).get w6).zero.get GD) (W9 w6).symm (W9 GD).symm (by kernel_rfl) (by kernel_rfl) (Xn (by kernel_rfl)) Tryz.sizeOf107 Nz hp hr hs hv

theorem NA:∀args w, (callFunc (num 314) args).run Tryz.prog w=.ok (.enter (num 314) args) w:=enters_of Tryz.func58 (by kernel_rfl) rfl
theorem w7:(Tryz.prog.info? 114).isSome=true:=by kernel_rfl
theorem GF:(((Tryz.prog.info? 114).get w7).zero).isSome=true:=by kernel_rfl
theorem IQ:Prim.Ok Tryz.prog num 314 (aZ 13):=by
  intro L e W h w vs args v tn hp hr hs hv
  exact fp (N:=num) (fn:=314) Tryz.Np rfl (by decide) ((Tryz.prog.info? 114).get w7) (((Tryz.prog.info? 114).get w7).zero.get GF) (W9 w7).symm (W9 GF).symm (by kernel_rfl) (by kernel_rfl) (Xn (by kernel_rfl)) Tryz.sizeOf114 NA hp hr hs hv

theorem NB:∀args w, (callFunc (num 424) args).run Tryz.prog w=.ok (.enter (num 424) args) w:=enters_of Tryz.func32 (by kernel_rfl) rfl
theorem w8:(Tryz.prog.info? 38).isSome=true:=by kernel_rfl
theorem GG:(((Tryz.prog.info? 38).get w8).zero).isSome=true:=by kernel_rfl
theorem IS:Prim.Ok Tryz.prog num 424 (aZ 3):=by
  intro L e W h w vs args v tn hp hr hs hv
  exact fp (N:=num) (fn:=424) Tryz.Nq rfl (by decide) ((Tryz.prog.info? 38).get w8) (((Tryz.prog.info? 38).get w8).zero.get GG) (W9 w8).symm (W9 GG).symm (by kernel_rfl) (by kernel_rfl) (Xn (by kernel_rfl)) Tryz.sizeOf38 NB hp hr hs hv

theorem NC:∀args w, (callFunc (num 425) args).run Tryz.prog w=.ok (.enter (num 425) args) w:=enters_of Tryz.func33 (by kernel_rfl) rfl
theorem w9:(Tryz.prog.info? 46).isSome=true:=by kernel_rfl
theorem GH:(((Tryz.prog.info? 46).get w9).zero).isSome=true:=by kernel_rfl
theorem IT:Prim.Ok Tryz.prog num 425 (aZ 5):=by
  intro L e W h w vs args v tn hp hr hs hv
  exact fp (N:=num) (fn:=425) Tryz.Nr rfl (by decide) ((Tryz.prog.info? 46).get w9) (((Tryz.prog.info? 46).get w9).zero.get GH) (W9 w9).symm (W9 GH).symm (by kernel_rfl) (by kernel_rfl) (Xn (by kernel_rfl)) Tryz.sizeOf46 NC hp hr hs hv

theorem ND:∀args w, (callFunc (num 426) args).run Tryz.prog w=.ok (.enter (num 426) args) w:=enters_of Tryz.func34 (by kernel_rfl) rfl
theorem xd:(Tryz.prog.info? 50).isSome=true:=by kernel_rfl
theorem GI:(((Tryz.prog.info? 50).get xd).zero).isSome=true:=by kernel_rfl
theorem IU:Prim.Ok Tryz.prog num 426 (aZ 2):=by
  intro L e W h w vs args v tn hp hr hs hv
  exact fp (N:=num) (fn:=426) Tryz.Ns rfl (by decide) ((Tryz.prog.info? 50).get xd) (((Tryz.prog.info? 50).get xd).zero.get GI) (W9 xd).symm (W9 GI).symm (by kernel_rfl) (by kernel_rfl) (Xn (by kernel_rfl)) Tryz.sizeOf50 ND hp hr hs hv

theorem NF:∀args w, (callFunc (num 467) args).run Tryz.prog w=.ok (.enter (num 467) args) w:=enters_of Tryz.func97 (by kernel_rfl) rfl
theorem xe:(Tryz.prog.info? 117).isSome=true:=by kernel_rfl
theorem GJ:(((Tryz.prog.info? 117).get xe).zero).isSome=true:=by kernel_rfl
theorem IV:Prim.Ok Tryz.prog num 467 (aZ 3):=by
  intro L e W h w vs args v tn hp hr hs hv
  exact fp (N:=num) (fn:=467) Tryz.Nt rfl (by decide) ((Tryz.prog.info? 117).get xe) (((Tryz.prog.info? 117).get xe).zero.get GJ) (W9 xe).symm (W9 GJ).symm (by kernel_rfl) (by kernel_rfl) (Xn (by kernel_rfl)) Tryz.sizeOf117 NF hp hr hs hv

theorem Vg:dT Tryz.prog num az:=yp (by
  unfold UN
  exact WQ.2 ⟨Nu, WQ.2 ⟨Nv, WQ.2 ⟨Nw, WQ.2 ⟨IN, WQ.2 ⟨IP, WQ.2 ⟨IQ, WQ.2 ⟨IS, WQ.2 ⟨IT, WQ.2 ⟨IU, WQ.2 ⟨IV, fun x hx=>by cases hx⟩⟩⟩⟩⟩⟩⟩⟩⟩⟩)
theorem SE:cH az:=va (by
  unfold UN
  exact WQ.2 ⟨CM _ _ _, WQ.2 ⟨ef _, WQ.2 ⟨ef _, WQ.2 ⟨Am, WQ.2 ⟨ef _, WQ.2 ⟨ef _, WQ.2 ⟨ef _, WQ.2 ⟨ef _, WQ.2 ⟨ef _, WQ.2 ⟨ef _, fun x hx=>by cases hx⟩⟩⟩⟩⟩⟩⟩⟩⟩⟩)

theorem Vh:DM Tryz.prog 65 60 61 130 62 137 134 132 213 135 63 5:=⟨Tryz.underlying5, ⟨_, Tryz.underlying65, rfl⟩, Tryz.underlying61, Tryz.underlying130, Tryz.underlying62, ⟨_, Tryz.underlying137, rfl⟩, ⟨_, Tryz.underlying134, rfl⟩, Tryz.underlying132, ⟨_, Tryz.underlying213, rfl⟩, Tryz.underlying135, Tryz.underlying63⟩
theorem Vi:tX Tryz.prog 60 168 187 58 166 5:=⟨Tryz.underlying5, Tryz.underlying58, Tryz.underlying166, ⟨_, Tryz.underlying60, rfl⟩, ⟨_, Tryz.underlying168, rfl⟩, ⟨_, Tryz.underlying187, rfl⟩⟩
set_option maxRecDepth 100000 in
theorem SF (css:List (List PV)) (hl:css.length=Tryz.f9.params.toList.length) (ht:∀(j:Nat) (t:TypeId) (cs:List PV), Tryz.f9.params.toList[j]?=some t→css[j]?=some cs→∃n, typed Tryz.prog n t cs):uJ Tryz.prog num 402 (List.zipWith (jz Tryz.prog) Tryz.f9.params.toList css) [.bool true]:=by
  have hp:Tryz.f9.params.toList=[65]:=by kernel_rfl
  rw[hp]at hl ht ⊢
  match css, hl with
  |[c1], _=>
    obtain⟨n0, h0⟩:=ht 0 65 c1 rfl rfl
    obtain⟨d0, rfl, ho0⟩:=DR Vh Vi h0
    have e0:jz Tryz.prog 65 d0.c=.agg d0.c:=by simp only[jz, wF Tryz.underlying65, if_true]
    show uJ _ _ _ [jz Tryz.prog 65 d0.c] _
    rw[e0]
    exact fV.sound Cn SE Vg VU (jA.1 (r402 r404 d0 ho0))



theorem own:ownKnob Tryz.prog.godebug=none:=by kernel_rfl
theorem laidOut:laidOutB Tryz.prog=true:=by kernel_rfl
def IX:List TypeId:=[5,58,60,61,62,63,65,130,132,134,135,137,166,168,187,213]
theorem SG:lV Tryz.prog IX=true:=by kernel_rfl
theorem NG:(Tryz.f9.params.toList.all fun t=>Tryz.prog.readableRec t&&decide (t<Tryz.prog.types.size)&&IX.contains t)=true:=by kernel_rfl
theorem SH (t:TypeId) (ht:t∈Tryz.f9.params.toList):(Tryz.prog.readableRec t=true∧t<Tryz.prog.types.size)∧t∈IX:=by
  have:=WI.1 NG t ht
  simp only[Bool.and_eq_true, decide_eq_true_eq]at this
  exact⟨this.1, XU.1 this.2⟩
noncomputable def SI:Array Value:=Tryz.f9.params.map fun t=>((Tryz.prog.info? t).bind (·.zero)).getD undef

set_option maxRecDepth 100000 in
theorem lifted (os : Os) (started : os.Started) (H : Type) (enc : TypeId × Value → H) :
    ReturnsInHanded {} Tryz.checked os 9 .any (Rows.contractOrderSpec.pre6 enc Tryz.prog Tryz.f9 Rows.contractOrderRow.domain false) (Rows.contractOrderSpec.post enc Tryz.prog Tryz.f9 false true false false) :=
  sI (S := IX) (C := Tryz.checked) (N := num) (f := 402) enc SF (of_decide_eq_true (by kernel_rfl)) own laidOut started (by kernel_rfl) Tryz.func9 (code := Tryz.f9.body.getD .skip) (by kernel_rfl) (by kernel_rfl)
    (ChangeSpec.witness6 (enc := enc) (C := Tryz.checked) false ⟨#[], SI, []⟩ 12 (by kernel_rfl) (by kernel_rfl) (by kernel_rfl) (by kernel_rfl))
    (tb := Tryz.f9.resultTypes.toList.headD 0) (by kernel_rfl) (by kernel_rfl) rfl (fun ds hl => by
      match ds, hl with
      | [_], _ => rfl) (fun t ht => (SH t ht).1) SG (fun t ht => (SH t ht).2)

theorem fg {a b:Bool} (h:a=true) (g:b=true):(a&&b)=true:=by rw[h, g]; rfl
set_option maxRecDepth 100000 in
theorem V9:(Rows.contractOrderRow.wf (OpenSpec.ofChange Rows.contractOrderSpec))=true:=by kernel_rfl
set_option maxRecDepth 100000 in
theorem Wa:(laidOutB Tryz.prog)=true:=by kernel_rfl
set_option maxRecDepth 100000 in
theorem Wb:(mapsRowed Tryz.prog)=true:=by kernel_rfl
set_option maxRecDepth 100000 in
theorem Wd:(Tryz.f9.params.all (Tryz.prog.readableRec ·))=true:=by kernel_rfl
set_option maxRecDepth 100000 in
theorem We:(namedTie Tryz.prog Rows.contractOrderRow.named Rows.contractOrderSpec.vars)=true:=by kernel_rfl
set_option maxRecDepth 100000 in
theorem Wf:((Rows.contractOrderRow.stops==[]))=true:=by kernel_rfl
set_option maxRecDepth 100000 in
theorem Wg:((Tryz.prog.stops==[]))=true:=by kernel_rfl
set_option maxRecDepth 100000 in
theorem Wh:((Rows.contractOrderRow.knobs==[]))=true:=by kernel_rfl
set_option maxRecDepth 100000 in
theorem Wi:((Tryz.prog.stopKnobs==[]))=true:=by kernel_rfl
set_option maxRecDepth 100000 in
theorem Wj:((Rows.contractOrderRow.inPlace==Tryz.prog.inPlace 9))=true:=by kernel_rfl
set_option maxRecDepth 100000 in
theorem Vj:((Rows.contractOrderRow.unfollowed==Tryz.prog.unfollowed 9))=true:=by kernel_rfl
set_option maxRecDepth 100000 in
theorem Vk:((Rows.contractOrderRow.recurses==Tryz.prog.recurses 9))=true:=by kernel_rfl
set_option maxRecDepth 100000 in
theorem Vl:((Rows.contractOrderRow.named==Tryz.prog.varsNamed 9))=true:=by kernel_rfl
set_option maxRecDepth 100000 in
theorem Vm:((Rows.contractOrderRow.maps==(Tryz.f9.params.toList++Rows.contractOrderSpec.plain.varTypes Tryz.prog).any (Tryz.prog.mapsRec ·)))=true:=by kernel_rfl
set_option maxRecDepth 100000 in
theorem Vn:((Rows.contractOrderRow.ifaces==(Tryz.f9.params.toList++Rows.contractOrderSpec.plain.varTypes Tryz.prog).any (Tryz.prog.ifacesRec ·)))=true:=by kernel_rfl
set_option maxRecDepth 100000 in
theorem Vo:((Rows.contractOrderRow.mapsOut==Tryz.prog.mapsAmong Tryz.f9.resultTypes.toList))=true:=by kernel_rfl
set_option maxRecDepth 100000 in
theorem Vp:((Rows.contractOrderRow.loops==(Tryz.f9.params.toList++Rows.contractOrderSpec.plain.varTypes Tryz.prog).any (Tryz.prog.loopsFrom ·)))=true:=by kernel_rfl
set_option maxRecDepth 100000 in
theorem Vq:((Rows.contractOrderRow.wideKeys==(Tryz.f9.params.toList++Rows.contractOrderSpec.plain.varTypes Tryz.prog++Tryz.f9.resultTypes.toList).any (Tryz.prog.wideKeysFrom ·)))=true:=by kernel_rfl
set_option maxRecDepth 100000 in
theorem Vr:(Rows.contractOrderSpec.vars.all (Tryz.prog.varReadable ·))=true:=by kernel_rfl
set_option maxRecDepth 100000 in
theorem Vs:(Tryz.f9.resultTypes.all (fun t=>Tryz.prog.readableRec t&&decide (t<Tryz.prog.types.size)))=true:=by kernel_rfl
set_option maxRecDepth 100000 in
theorem Vt:((Rows.contractOrderRow.ifacesOut==Tryz.f9.resultTypes.toList.any (Tryz.prog.ifacesRec ·)))=true:=by kernel_rfl
set_option maxRecDepth 100000 in
theorem Vu:((Rows.contractOrderRow.loopsOut==Tryz.f9.resultTypes.toList.any (Tryz.prog.loopsFrom ·)))=true:=by kernel_rfl
set_option maxRecDepth 100000 in
theorem Vv:((Rows.contractOrderRow.plainKeys==Tryz.prog.plainKeys))=true:=by kernel_rfl
set_option maxRecDepth 100000 in
theorem Vw:(Rows.contractOrderRow.shortTexts.isNone)=true:=by kernel_rfl
set_option maxRecDepth 100000 in
theorem Vx:(Tryz.prog.stopsHeard)=true:=by kernel_rfl
set_option maxRecDepth 100000 in
theorem Vy:(Tryz.prog.mayEnter)=true:=by kernel_rfl
set_option maxRecDepth 100000 in
theorem Vz:((Rows.contractOrderRow.lifted==Tryz.prog.liftsFinal))=true:=by kernel_rfl
set_option maxRecDepth 100000 in
theorem VA:((Tryz.prog.make==some Rows.contractOrderRow.make))=true:=by kernel_rfl
set_option maxRecDepth 100000 in
theorem VB:((Rows.contractOrderRow.kinds==(if Rows.contractOrderRow.domain.isEmpty then [] else Tryz.f9.params.toList.map fun t=>match Tryz.prog.underlying t with|some (.int k)=>some k|_=>none)))=true:=by kernel_rfl
set_option maxRecDepth 100000 in
theorem VC:((Rows.contractOrderRow.pinned==Rows.contractOrderRow.pinnedBy))=true:=by kernel_rfl
set_option maxRecDepth 100000 in
theorem VD:((Rows.contractOrderRow.veiled==(Tryz.f9.params.toList++Rows.contractOrderSpec.plain.varTypes Tryz.prog++Tryz.f9.resultTypes.toList).any (Tryz.prog.veiledRec ·)))=true:=by kernel_rfl
set_option maxRecDepth 100000 in
theorem VE:(Rows.contractOrderRow.veiledFits Tryz.prog Tryz.f9.params.toList (Tryz.f9.params.toList++Rows.contractOrderSpec.plain.varTypes Tryz.prog++Tryz.f9.resultTypes.toList))=true:=by kernel_rfl
set_option maxRecDepth 100000 in
theorem Wk:joinedFacts Tryz.prog 9 Tryz.f9 Rows.contractOrderSpec Rows.contractOrderRow=true:=by
  unfold joinedFacts
  exact(fg (fg (fg (fg (fg (fg (fg (fg (fg (fg (fg (fg (fg (fg (fg (fg (fg (fg (fg (fg (fg (fg (fg (fg (fg (fg (fg (fg (fg (fg (fg V9 Wa) Wb) Wd) We) Wf) Wg) Wh) Wi) Wj) Vj) Vk) Vl) Vm) Vn) Vo) Vp) Vq) Vr) Vs) Vt) Vu) Vv) Vw) Vx) Vy) Vz) VA) VB) VC) VD) VE)
theorem Wl:Tryz.prog.funcNamed Rows.contractOrderRow.func=some 9:=by kernel_rfl
theorem law_holds:Rows.ContractOrderSaid:=
  OpenClaim.holds_of_wide 9 Tryz.f9 rfl rfl rfl rfl rfl rfl rfl ⟨rfl, rfl, rfl, rfl, rfl⟩ rfl rfl rfl rfl rfl Wl Tryz.func9 Wk
    (of_decide_eq_true (by kernel_rfl)) (by unfold Func.isWrapper; first|(rw[if_pos (by decide+kernel)]; kernel_rfl)|(rw[if_neg (by decide+kernel)]; exact⟨rfl, rfl⟩))
    (fun os started H enc _=>lifted os started H enc)

end Go.Proofs.YtpchfogcccagjaaGreat
