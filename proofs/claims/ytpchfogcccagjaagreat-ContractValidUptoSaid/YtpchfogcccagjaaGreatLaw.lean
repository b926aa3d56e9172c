/-
  The law ContractValid: for every input it returns true, and each argument reads as before. No condition.
-/
import Derived.Test.YtpchfogcccagjaaGreatOk
import Derived.Test.YtpchfogcccagjaaGreatC7
import Derived.Test.YtpchfogcccagjaaGreatLay
import Derived.Test.YtpchfogcccagjaaGreatRows
import Derived.ProofKit
import Derived.JoinedCond
set_option linter.unusedSimpArgs false
set_option linter.unusedVariables false
open List renaming all_eq_true → PI, forall_mem_cons → PK, mem_cons → PO, contains_iff_mem → Qv
open Nat renaming le_trans → PZ, le_of_ble_eq_true → Qk, zero_le → Qn
open Option renaming some_get → Qb
namespace Go.Proofs.YtpchfogcccagjaaGreat
open Go Go.Pv Go.Proofs Go.RowKit Go.ChangeShapes Go.Sort

theorem zH:Tryz.prog.follows .mixedOrders=true:=by kernel_rfl
theorem LQ:cK (fun _=>none):=tv (l:=[]) (fun x hx=>by cases hx)
theorem N9:dS Tryz.prog num (fun _=>none):=wh (l:=[]) (fun x hx=>by cases hx)

theorem LR:∀args w, (callFunc (num 51) args).run Tryz.prog w=.ok (.enter (num 51) args) w:=enters_of Tryz.func172 (by kernel_rfl) rfl
theorem Dc:∀args w, (callFunc (num 47) args).run Tryz.prog w=.ok (.enter (num 47) args) w:=enters_of Tryz.func173 (by kernel_rfl) rfl
theorem LS (x y:Pv.Edge):sO Tryz.prog num 47 [.agg x.c, .agg y.c] [.int .i64 (Pv.Edge.cmp x y)]:=
  fK.sound zH LQ N9 OM (jk.1 (r47 (Pr:=fun _=>none) rfl rfl rfl rfl x y))
theorem LU:ltOf Pv.Edge.cmp=Pv.Edge.lt:=by
  funext x y
  exact Pv.Edge.Cg x y
theorem Ho:Prim.Ok Tryz.prog num 51 (jn 4 (gm Edge.c Edge.dec Edge.lt) 47):=by
  intro L e W h w vs args v tn hp hr hs hv
  refine Cb (by decide) Pv.Edge.Ef (fun _=>rfl) (fun x c hc=>by simp only[Go.Pv.Edge.c, List.mem_cons, List.not_mem_nil, or_false]at hc; rcases hc with rfl|rfl|rfl|rfl<;>rfl) Pv.Edge.OJ LR (fun a cap w=>AnyF.slices_SortFunc_none Tryz.Ft a cap _ w) ?_ hp hr hs hv
  intro blk off cap d w hH hblk hsz hT hB
  have:=AnyQ.slices_SortFunc Tryz.Ft 4 Tryz.isAgg161 Tryz.sizeOf161 (oG Pv.Edge.c) (fun _=>rfl) (fun x v hv=>by simp only[oG, Pv.Edge.c, List.map_cons, List.map_nil, List.mem_cons, List.not_mem_nil, or_false]at hv; rcases hv with rfl|rfl|rfl|rfl<;>rfl) Pv.Edge.cmp (LU ▸ Pv.Edge.OJ) (num 47) #[] blk off cap d w Dc
    (Cd (fun x c hc=>by simp only[Go.Pv.Edge.c, List.mem_cons, List.not_mem_nil, or_false]at hc; rcases hc with rfl|rfl|rfl|rfl<;>rfl) LS Dc 4 blk off d.size w hT hB) hH hblk hsz
  rw[LU]at this
  exact this

theorem LV:∀args w, (callFunc (num 57) args).run Tryz.prog w=.ok (.enter (num 57) args) w:=enters_of Tryz.func157 (by kernel_rfl) rfl
theorem zI:(Tryz.prog.info? 229).isSome=true:=by kernel_rfl
theorem Fu:(((Tryz.prog.info? 229).get zI).zero).isSome=true:=by kernel_rfl
theorem Hp:Prim.Ok Tryz.prog num 57 (cY 2):=by
  intro L e W h w vs args v tn hp hr hs hv
  exact jo (N:=num) (fn:=57) Tryz.LO rfl (by decide) ((Tryz.prog.info? 229).get zI) (((Tryz.prog.info? 229).get zI).zero.get Fu) (Qb zI).symm (Qb Fu).symm (by kernel_rfl) (by kernel_rfl) (Qk (by kernel_rfl)) Tryz.sizeOf229 LV hp hr hs hv

theorem LW:∀args w, (callFunc (num 64) args).run Tryz.prog w=.ok (.enter (num 64) args) w:=enters_of Tryz.func98 (by kernel_rfl) rfl
theorem zJ:(Tryz.prog.info? 161).isSome=true:=by kernel_rfl
theorem Fv:(((Tryz.prog.info? 161).get zJ).zero).isSome=true:=by kernel_rfl
theorem Hq:Prim.Ok Tryz.prog num 64 (cY 4):=by
  intro L e W h w vs args v tn hp hr hs hv
  exact jo (N:=num) (fn:=64) Tryz.LP rfl (by decide) ((Tryz.prog.info? 161).get zJ) (((Tryz.prog.info? 161).get zJ).zero.get Fv) (Qb zJ).symm (Qb Fv).symm (by kernel_rfl) (by kernel_rfl) (Qk (by kernel_rfl)) Tryz.sizeOf161 LW hp hr hs hv

theorem Hr:∀args w, (callFunc (num 103) args).run Tryz.prog w=.ok (.enter (num 103) args) w:=enters_of Tryz.func68 (by kernel_rfl) rfl
theorem EG:Prim.Ok Tryz.prog num 103 eB:=by
  intro L e W h w vs args v tn hp hr hs hv
  exact Am (N:=num) (fn:=103) Tryz.Hk rfl Hr hp hr hs hv

theorem Hs:∀args w, (callFunc (num 313) args).run Tryz.prog w=.ok (.enter (num 313) args) w:=enters_of Tryz.func57 (by kernel_rfl) rfl
theorem uX:(Tryz.prog.info? 107).isSome=true:=by kernel_rfl
theorem Dd:(((Tryz.prog.info? 107).get uX).zero).isSome=true:=by kernel_rfl
theorem EH:Prim.Ok Tryz.prog num 313 (cY 2):=by
  intro L e W h w vs args v tn hp hr hs hv
  exact jo (N:=num) (fn:=313) Tryz.Hl rfl (by decide) ((Tryz.prog.info? 107).get uX) (((Tryz.prog.info? 107).get uX).zero.get Dd) (Qb uX).symm (Qb Dd).symm (by kernel_rfl) (by kernel_rfl) (Qk (by kernel_rfl)) Tryz.sizeOf107 Hs hp hr hs hv

theorem Ht:∀args w, (callFunc (num 314) args).run Tryz.prog w=.ok (.enter (num 314) args) w:=enters_of Tryz.func58 (by kernel_rfl) rfl
theorem uY:(Tryz.prog.info? 114).isSome=true:=by kernel_rfl
theorem De:(((Tryz.prog.info? 114).get uY).zero).isSome=true:=by kernel_rfl
theorem EI:Prim.Ok Tryz.prog num 314 (cY 13):=by
  intro L e W h w vs args v tn hp hr hs hv
  exact jo (N:=num) (fn:=314) Tryz.Hm rfl (by decide) ((Tryz.prog.info? 114).get uY) (((Tryz.prog.info? 114).get uY).zero.get De) (Qb uY).symm (Qb De).symm (by kernel_rfl) (by kernel_rfl) (Qk (by kernel_rfl)) Tryz.sizeOf114 Ht hp hr hs hv

theorem Hu:∀args w, (callFunc (num 467) args).run Tryz.prog w=.ok (.enter (num 467) args) w:=enters_of Tryz.func97 (by kernel_rfl) rfl
theorem uZ:(Tryz.prog.info? 117).isSome=true:=by kernel_rfl
theorem Df:(((Tryz.prog.info? 117).get uZ).zero).isSome=true:=by kernel_rfl
theorem EJ:Prim.Ok Tryz.prog num 467 (cY 3):=by
  intro L e W h w vs args v tn hp hr hs hv
  exact jo (N:=num) (fn:=467) Tryz.Hn rfl (by decide) ((Tryz.prog.info? 117).get uZ) (((Tryz.prog.info? 117).get uZ).zero.get Df) (Qb uZ).symm (Qb Df).symm (by kernel_rfl) (by kernel_rfl) (Qk (by kernel_rfl)) Tryz.sizeOf117 Hu hp hr hs hv

theorem Oa:dS Tryz.prog num az:=wh (by
  unfold NH
  exact PK.2 ⟨Ho, PK.2 ⟨Hp, PK.2 ⟨Hq, PK.2 ⟨EG, PK.2 ⟨EH, PK.2 ⟨EI, PK.2 ⟨EJ, fun x hx=>by cases hx⟩⟩⟩⟩⟩⟩⟩)
theorem LX:cK az:=tv (by
  unfold NH
  exact PK.2 ⟨Al _ _ _, PK.2 ⟨iy _, PK.2 ⟨iy _, PK.2 ⟨ya, PK.2 ⟨iy _, PK.2 ⟨iy _, PK.2 ⟨iy _, fun x hx=>by cases hx⟩⟩⟩⟩⟩⟩⟩)

theorem Ob:wQ Tryz.prog 24 103 107 114 112 189 22 100 101 109 110 9 3 2 4:=⟨Tryz.underlying3, Tryz.underlying2, Tryz.underlying4, Tryz.underlying9, Tryz.underlying22, Tryz.underlying100, Tryz.underlying101, Tryz.underlying109, Tryz.underlying110, ⟨_, Tryz.underlying24, rfl⟩, ⟨_, Tryz.underlying103, rfl⟩, ⟨_, Tryz.underlying107, rfl⟩, ⟨_, Tryz.underlying114, rfl⟩, ⟨_, Tryz.underlying112, rfl⟩, ⟨_, Tryz.underlying189, rfl⟩⟩
theorem Oc:xc Tryz.prog 29 24 25 38 26 46 41 117 27 50 44 42 161 3 9 4:=⟨Tryz.underlying3, Tryz.underlying4, Tryz.underlying9, ⟨_, Tryz.underlying29, rfl⟩, Tryz.underlying25, ⟨_, Tryz.underlying38, rfl⟩, Tryz.underlying26, ⟨_, Tryz.underlying46, rfl⟩, Tryz.underlying41, ⟨_, Tryz.underlying117, rfl⟩, Tryz.underlying27, ⟨_, Tryz.underlying50, rfl⟩, ⟨_, Tryz.underlying44, rfl⟩, Tryz.underlying42, ⟨_, Tryz.underlying161, rfl⟩⟩
set_option maxRecDepth 100000 in
theorem LY (css:List (List PV)) (hl:css.length=Tryz.f3.params.toList.length) (ht:∀(j:Nat) (t:TypeId) (cs:List PV), Tryz.f3.params.toList[j]?=some t→css[j]?=some cs→(∃n, typed Tryz.prog n t cs)∧∀c∈cs, Small 1048576 c):sO Tryz.prog num 396 (List.zipWith (ji Tryz.prog) Tryz.f3.params.toList css) [.bool true]:=by
  have hp:Tryz.f3.params.toList=[29]:=by kernel_rfl
  rw[hp]at hl ht ⊢
  match css, hl with
  |[c1], _=>
    obtain⟨⟨n0, h0⟩, s0⟩:=ht 0 29 c1 rfl rfl
    obtain⟨v0, rfl, ho0⟩:=Bi Oc Ob h0
    have e0:ji Tryz.prog 29 [.str v0.name, .ae 0 (v0.types.map aF.c), .ae 0 (bQ v0.calls), .ae 0 (aE v0.aE), .ae 0 (ct v0.aN)]=.agg [.str v0.name, .ae 0 (v0.types.map aF.c), .ae 0 (bQ v0.calls), .ae 0 (aE v0.aE), .ae 0 (ct v0.aN)]:=by simp only[ji, uF Tryz.underlying29, if_true]
    obtain⟨k1, k2⟩:=Bj s0
    show sO _ _ _ [ji Tryz.prog 29 [.str v0.name, .ae 0 (v0.types.map aF.c), .ae 0 (bQ v0.calls), .ae 0 (aE v0.aE), .ae 0 (ct v0.aN)]] _
    rw[e0]
    exact fK.sound zH LX Oa OM (jk.1 (r396 r404 v0 ho0.2.1.2 k2 (by omega) ho0.2.2.2.1.1 ho0.1 (fun c h=>(ho0.2.2.1.2 c h).1) (fun w h=>⟨(ho0.2.2.2.1.2 w h).1, fun m hm=>((ho0.2.2.2.1.2 w h).2.1.2 m hm).2.1⟩) fun c h=>(ho0.2.2.2.2.2 c h).1))




theorem one_le {H:Type} (d:DataW H):1≤Rows.uptoBulk d:=by
  cases d with
  |lit x=>cases x<;>simp[Rows.uptoBulk]
  |_=>simp[Rows.uptoBulk]
theorem qi {H:Type} {d:DataW H}:∀{l:List (DataW H)}, d∈l→Rows.uptoBulk d≤Rows.uptoBulkAll l
  |[], h=>by cases h
  |x::l, h=>by
    rw[Rows.uptoBulkAll]
    rcases PO.1 h with rfl|h
    · omega
    · have:=qi h
      omega
theorem length_le {H:Type}:∀(l:List (DataW H)), l.length≤Rows.uptoBulkAll l
  |[]=>Qn _
  |x::l=>by
    rw[Rows.uptoBulkAll, List.length_cons]
    have:=one_le x
    have:=length_le l
    omega
theorem LZ (H:Type):vV (H:=H) Rows.uptoBulk where
  str l:=by rw[Rows.uptoBulk]; omega
  slice e s:=by
    rw[Rows.uptoBulk]
    refine⟨by have:=length_le e; omega, fun d hd=>by have:=qi hd; omega⟩
  agg ps:=fun d hd=>by
    rw[Rows.uptoBulk]
    have:=qi hd
    omega
theorem Dg (H:Type) (ds:List (DataW H)) (h:Rows.uptoSmall H ds=true):∀d∈ds, Rows.uptoBulk d≤1048576:=fun d hd=>PZ (qi hd) (of_decide_eq_true h)
theorem own:ownKnob Tryz.prog.godebug=none:=by kernel_rfl
theorem laidOut:laidOutB Tryz.prog=true:=by kernel_rfl
def EK:List TypeId:=[2,3,4,9,22,24,25,26,27,29,38,41,42,44,46,50,100,101,103,107,109,110,112,114,117,161,189]
theorem L3:ll Tryz.prog EK=true:=by kernel_rfl
theorem Hv:(Tryz.f3.params.toList.all fun t=>Tryz.prog.readableRec t&&decide (t<Tryz.prog.types.size)&&EK.contains t)=true:=by kernel_rfl
theorem L4 (t:TypeId) (ht:t∈Tryz.f3.params.toList):(Tryz.prog.readableRec t=true∧t<Tryz.prog.types.size)∧t∈EK:=by
  have:=PI.1 Hv t ht
  simp only[Bool.and_eq_true, decide_eq_true_eq]at this
  exact⟨this.1, Qv.1 this.2⟩
noncomputable def L5:Array Value:=Tryz.f3.params.map fun t=>((Tryz.prog.info? t).bind (·.zero)).getD undef

set_option maxRecDepth 100000 in
theorem lifted (os : Os) (started : os.Started) (H : Type) (enc : TypeId × Value → H) (F : Stop.Interp) :
    ReturnsInHanded {} Tryz.checked os 3 .any ((Rows.OpenSpec.upto Rows.contractValidSpec).pre6 enc Tryz.prog Tryz.f3 Rows.contractValidUptoRow.domain false) (((Rows.OpenSpec.upto Rows.contractValidSpec).at F).post enc Tryz.prog Tryz.f3 false true false false) :=
  pQ (LZ H) (M := 1048576) (s := Rows.contractValidSpec) (s' := (Rows.OpenSpec.upto Rows.contractValidSpec)) (k := Rows.uptoSmall) rfl (Dg H) (F := F) (S := EK) (C := Tryz.checked) (N := num) (f := 396) enc LY (of_decide_eq_true (by kernel_rfl)) own laidOut started (by kernel_rfl) Tryz.func3 (code := Tryz.f3.body.getD .skip) (by kernel_rfl) (by kernel_rfl)
    (OpenSpec.witness (enc := enc) (C := Tryz.checked) (s := (Rows.OpenSpec.upto Rows.contractValidSpec)) (k := Rows.uptoSmall) rfl false ⟨#[], L5, []⟩ 12 (by kernel_rfl) (by kernel_rfl) (by kernel_rfl) (x := ([.agg [.lit (.string []), .agg [.nil], .nil, .nil, .nil]], [], [])) (by kernel_rfl) rfl (by kernel_rfl))
    (tb := Tryz.f3.resultTypes.toList.headD 0) (by kernel_rfl) (by kernel_rfl) rfl rfl rfl (fun ds hl => by
      match ds, hl with
      | [_], _ => rfl) (fun t ht => (L4 t ht).1) L3 (fun t ht => (L4 t ht).2)

theorem eV {a b:Bool} (h:a=true) (g:b=true):(a&&b)=true:=by rw[h, g]; rfl
set_option maxRecDepth 100000 in
theorem OY:(Rows.contractValidUptoRow.wf (OpenSpec.ofChange Rows.contractValidSpec))=true:=by kernel_rfl
set_option maxRecDepth 100000 in
theorem OZ:(laidOutB Tryz.prog)=true:=by kernel_rfl
set_option maxRecDepth 100000 in
theorem O0:(mapsRowed Tryz.prog)=true:=by kernel_rfl
set_option maxRecDepth 100000 in
theorem O1:(Tryz.f3.params.all (Tryz.prog.readableRec ·))=true:=by kernel_rfl
set_option maxRecDepth 100000 in
theorem O2:(namedTie Tryz.prog Rows.contractValidUptoRow.named Rows.contractValidSpec.vars)=true:=by kernel_rfl
set_option maxRecDepth 100000 in
theorem O3:((Rows.contractValidUptoRow.stops==[]))=true:=by kernel_rfl
set_option maxRecDepth 100000 in
theorem O4:((Tryz.prog.stops==[]))=true:=by kernel_rfl
set_option maxRecDepth 100000 in
theorem O5:((Rows.contractValidUptoRow.knobs==[]))=true:=by kernel_rfl
set_option maxRecDepth 100000 in
theorem O6:((Tryz.prog.stopKnobs==[]))=true:=by kernel_rfl
set_option maxRecDepth 100000 in
theorem O7:((Rows.contractValidUptoRow.inPlace==Tryz.prog.inPlace 3))=true:=by kernel_rfl
set_option maxRecDepth 100000 in
theorem Od:((Rows.contractValidUptoRow.unfollowed==Tryz.prog.unfollowed 3))=true:=by kernel_rfl
set_option maxRecDepth 100000 in
theorem Oe:((Rows.contractValidUptoRow.recurses==Tryz.prog.recurses 3))=true:=by kernel_rfl
set_option maxRecDepth 100000 in
theorem Of:((Rows.contractValidUptoRow.named==Tryz.prog.varsNamed 3))=true:=by kernel_rfl
set_option maxRecDepth 100000 in
theorem Og:((Rows.contractValidUptoRow.maps==(Tryz.f3.params.toList++Rows.contractValidSpec.plain.varTypes Tryz.prog).any (Tryz.prog.mapsRec ·)))=true:=by kernel_rfl
set_option maxRecDepth 100000 in
theorem Oh:((Rows.contractValidUptoRow.ifaces==(Tryz.f3.params.toList++Rows.contractValidSpec.plain.varTypes Tryz.prog).any (Tryz.prog.ifacesRec ·)))=true:=by kernel_rfl
set_option maxRecDepth 100000 in
theorem Oi:((Rows.contractValidUptoRow.mapsOut==Tryz.prog.mapsAmong Tryz.f3.resultTypes.toList))=true:=by kernel_rfl
set_option maxRecDepth 100000 in
theorem Oj:((Rows.contractValidUptoRow.loops==(Tryz.f3.params.toList++Rows.contractValidSpec.plain.varTypes Tryz.prog).any (Tryz.prog.loopsFrom ·)))=true:=by kernel_rfl
set_option maxRecDepth 100000 in
theorem Ol:((Rows.contractValidUptoRow.wideKeys==(Tryz.f3.params.toList++Rows.contractValidSpec.plain.varTypes Tryz.prog++Tryz.f3.resultTypes.toList).any (Tryz.prog.wideKeysFrom ·)))=true:=by kernel_rfl
set_option maxRecDepth 100000 in
theorem Om:(Rows.contractValidSpec.vars.all (Tryz.prog.varReadable ·))=true:=by kernel_rfl
set_option maxRecDepth 100000 in
theorem On:(Tryz.f3.resultTypes.all (fun t=>Tryz.prog.readableRec t&&decide (t<Tryz.prog.types.size)))=true:=by kernel_rfl
set_option maxRecDepth 100000 in
theorem Oo:((Rows.contractValidUptoRow.ifacesOut==Tryz.f3.resultTypes.toList.any (Tryz.prog.ifacesRec ·)))=true:=by kernel_rfl
set_option maxRecDepth 100000 in
theorem Oq:((Rows.contractValidUptoRow.loopsOut==Tryz.f3.resultTypes.toList.any (Tryz.prog.loopsFrom ·)))=true:=by kernel_rfl
set_option maxRecDepth 100000 in
theorem Ot:((Rows.contractValidUptoRow.plainKeys==Tryz.prog.plainKeys))=true:=by kernel_rfl
set_option maxRecDepth 100000 in
theorem Ou:(Rows.contractValidUptoRow.shortTexts.isNone)=true:=by kernel_rfl
set_option maxRecDepth 100000 in
theorem Ov:(Tryz.prog.stopsHeard)=true:=by kernel_rfl
set_option maxRecDepth 100000 in
theorem Ow:(Tryz.prog.mayEnter)=true:=by kernel_rfl
set_option maxRecDepth 100000 in
theorem Ox:((Rows.contractValidUptoRow.lifted==Tryz.prog.liftsFinal))=true:=by kernel_rfl
set_option maxRecDepth 100000 in
theorem Oy:((Tryz.prog.make==some Rows.contractValidUptoRow.make))=true:=by kernel_rfl
set_option maxRecDepth 100000 in
theorem Oz:((Rows.contractValidUptoRow.kinds==(if Rows.contractValidUptoRow.domain.isEmpty then [] else Tryz.f3.params.toList.map fun t=>match Tryz.prog.underlying t with|some (.int k)=>some k|_=>none)))=true:=by kernel_rfl
set_option maxRecDepth 100000 in
theorem OA:((Rows.contractValidUptoRow.pinned==Rows.contractValidUptoRow.pinnedBy))=true:=by kernel_rfl
set_option maxRecDepth 100000 in
theorem OB:((Rows.contractValidUptoRow.veiled==(Tryz.f3.params.toList++Rows.contractValidSpec.plain.varTypes Tryz.prog++Tryz.f3.resultTypes.toList).any (Tryz.prog.veiledRec ·)))=true:=by kernel_rfl
set_option maxRecDepth 100000 in
theorem OC:(Rows.contractValidUptoRow.veiledFits Tryz.prog Tryz.f3.params.toList (Tryz.f3.params.toList++Rows.contractValidSpec.plain.varTypes Tryz.prog++Tryz.f3.resultTypes.toList))=true:=by kernel_rfl
set_option maxRecDepth 100000 in
theorem O8:joinedFacts Tryz.prog 3 Tryz.f3 Rows.contractValidSpec Rows.contractValidUptoRow=true:=by
  unfold joinedFacts
  exact(eV (eV (eV (eV (eV (eV (eV (eV (eV (eV (eV (eV (eV (eV (eV (eV (eV (eV (eV (eV (eV (eV (eV (eV (eV (eV (eV (eV (eV (eV (eV OY OZ) O0) O1) O2) O3) O4) O5) O6) O7) Od) Oe) Of) Og) Oh) Oi) Oj) Ol) Om) On) Oo) Oq) Ot) Ou) Ov) Ow) Ox) Oy) Oz) OA) OB) OC)
theorem O9:Tryz.prog.funcNamed Rows.contractValidUptoRow.func=some 3:=by kernel_rfl
set_option maxRecDepth 100000 in
theorem law_holds:Rows.ContractValidUptoSaid:=
  OpenClaim.holds_of_cond 3 Tryz.f3 rfl rfl rfl rfl rfl rfl rfl ⟨rfl, rfl, rfl, rfl, rfl⟩ rfl rfl rfl rfl rfl O9 Tryz.func3 O8
    (of_decide_eq_true (by kernel_rfl)) (by unfold Func.isWrapper; first|(rw[if_pos (by decide+kernel)]; kernel_rfl)|(rw[if_neg (by decide+kernel)]; exact⟨rfl, rfl⟩))
    (fun os started H enc _ F=>lifted os started H enc F)

end Go.Proofs.YtpchfogcccagjaaGreat
