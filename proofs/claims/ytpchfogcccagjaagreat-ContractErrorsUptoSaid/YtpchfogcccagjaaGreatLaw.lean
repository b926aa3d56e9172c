/-
  The law ContractErrors: for every input it returns true, and each argument reads as before. Condition: the arguments are of bulk at most 1048576 (the second form).
-/
import Derived.Test.YtpchfogcccagjaaGreatOk
import Derived.Test.YtpchfogcccagjaaGreatC8
import Derived.Test.YtpchfogcccagjaaGreatLay
import Derived.Test.YtpchfogcccagjaaGreatRows
import Derived.ProofKit
import Derived.JoinedCond
set_option linter.unusedSimpArgs false
set_option linter.unusedVariables false
open List renaming mem_cons → Tu, all_eq_true → TD, forall_mem_cons → TN, contains_iff_mem → Ux
open Nat renaming le_trans → TY, le_of_ble_eq_true → Ul, zero_le → Uv
open Option renaming some_get → Ub
namespace Go.Proofs.YtpchfogcccagjaaGreat
open Go Go.Pv Go.Proofs Go.RowKit Go.ChangeShapes Go.Sort

theorem zZ:Tryz.prog.follows .mixedOrders=true:=by kernel_rfl
theorem Px:cD (fun _=>none):=tK (l:=[]) (fun x hx=>by cases hx)
theorem Sb:dN Tryz.prog num (fun _=>none):=wm (l:=[]) (fun x hx=>by cases hx)

theorem Py:∀args w, (callFunc (num 51) args).run Tryz.prog w=.ok (.enter (num 51) args) w:=enters_of Tryz.func172 (by kernel_rfl) rfl
theorem DI:∀args w, (callFunc (num 47) args).run Tryz.prog w=.ok (.enter (num 47) args) w:=enters_of Tryz.func173 (by kernel_rfl) rfl
theorem Pz (x y:Pv.Edge):s7 Tryz.prog num 47 [.agg x.c, .agg y.c] [.int .i64 (Pv.Edge.cmp x y)]:=
  fB.sound zZ Px Sb SM (jh.1 (r47 (Pr:=fun _=>none) rfl rfl rfl rfl x y))
theorem PA:ltOf Pv.Edge.cmp=Pv.Edge.lt:=by
  funext x y
  exact Pv.Edge.Cu x y
theorem Kw:Prim.Ok Tryz.prog num 51 (jk 4 (gb Edge.c Edge.dec Edge.lt) 47):=by
  intro L e W h w vs args v tn hp hr hs hv
  refine Cp (by decide) Pv.Edge.EJ (fun _=>rfl) (fun x c hc=>by simp only[Go.Pv.Edge.c, List.mem_cons, List.not_mem_nil, or_false]at hc; rcases hc with rfl|rfl|rfl|rfl<;>rfl) Pv.Edge.swo Py (fun a cap w=>AnyF.slices_SortFunc_none Tryz.Gk a cap _ w) ?_ hp hr hs hv
  intro blk off cap d w hH hblk hsz hT hB
  have:=AnyQ.slices_SortFunc Tryz.Gk 4 Tryz.isAgg161 Tryz.sizeOf161 (oE Pv.Edge.c) (fun _=>rfl) (fun x v hv=>by simp only[oE, Pv.Edge.c, List.map_cons, List.map_nil, List.mem_cons, List.not_mem_nil, or_false]at hv; rcases hv with rfl|rfl|rfl|rfl<;>rfl) Pv.Edge.cmp (PA ▸ Pv.Edge.swo) (num 47) #[] blk off cap d w DI
    (Cr (fun x c hc=>by simp only[Go.Pv.Edge.c, List.mem_cons, List.not_mem_nil, or_false]at hc; rcases hc with rfl|rfl|rfl|rfl<;>rfl) Pz DI 4 blk off d.size w hT hB) hH hblk hsz
  rw[PA]at this
  exact this

theorem PB:∀args w, (callFunc (num 57) args).run Tryz.prog w=.ok (.enter (num 57) args) w:=enters_of Tryz.func157 (by kernel_rfl) rfl
theorem Aa:(Tryz.prog.info? 229).isSome=true:=by kernel_rfl
theorem Gl:(((Tryz.prog.info? 229).get Aa).zero).isSome=true:=by kernel_rfl
theorem Kx:Prim.Ok Tryz.prog num 57 (cd 2):=by
  intro L e W h w vs args v tn hp hr hs hv
  exact jm (N:=num) (fn:=57) Tryz.Pu rfl (by decide) ((Tryz.prog.info? 229).get Aa) (((Tryz.prog.info? 229).get Aa).zero.get Gl) (Ub Aa).symm (Ub Gl).symm (by kernel_rfl) (by kernel_rfl) (Ul (by kernel_rfl)) Tryz.sizeOf229 PB hp hr hs hv

theorem PC:∀args w, (callFunc (num 64) args).run Tryz.prog w=.ok (.enter (num 64) args) w:=enters_of Tryz.func98 (by kernel_rfl) rfl
theorem Ab:(Tryz.prog.info? 161).isSome=true:=by kernel_rfl
theorem Gm:(((Tryz.prog.info? 161).get Ab).zero).isSome=true:=by kernel_rfl
theorem Ky:Prim.Ok Tryz.prog num 64 (cd 4):=by
  intro L e W h w vs args v tn hp hr hs hv
  exact jm (N:=num) (fn:=64) Tryz.Pw rfl (by decide) ((Tryz.prog.info? 161).get Ab) (((Tryz.prog.info? 161).get Ab).zero.get Gm) (Ub Ab).symm (Ub Gm).symm (by kernel_rfl) (by kernel_rfl) (Ul (by kernel_rfl)) Tryz.sizeOf161 PC hp hr hs hv

theorem Kz:∀args w, (callFunc (num 103) args).run Tryz.prog w=.ok (.enter (num 103) args) w:=enters_of Tryz.func68 (by kernel_rfl) rfl
theorem Fw:Prim.Ok Tryz.prog num 103 gp:=by
  intro L e W h w vs args v tn hp hr hs hv
  exact AB (N:=num) (fn:=103) Tryz.Ks rfl Kz hp hr hs hv

theorem KA:∀args w, (callFunc (num 313) args).run Tryz.prog w=.ok (.enter (num 313) args) w:=enters_of Tryz.func57 (by kernel_rfl) rfl
theorem u6:(Tryz.prog.info? 107).isSome=true:=by kernel_rfl
theorem DJ:(((Tryz.prog.info? 107).get u6).zero).isSome=true:=by kernel_rfl
theorem Fx:Prim.Ok Tryz.prog num 313 (cd 2):=by
  intro L e W h w vs args v tn hp hr hs hv
  exact jm (N:=num) (fn:=313) Tryz.Kt rfl (by decide) ((Tryz.prog.info? 107).get u6) (((Tryz.prog.info? 107).get u6).zero.get DJ) (Ub u6).symm (Ub DJ).symm (by kernel_rfl) (by kernel_rfl) (Ul (by kernel_rfl)) Tryz.sizeOf107 KA hp hr hs hv

theorem KB:∀args w, (callFunc (num 314) args).run Tryz.prog w=.ok (.enter (num 314) args) w:=enters_of Tryz.func58 (by kernel_rfl) rfl
theorem u7:(Tryz.prog.info? 114).isSome=true:=by kernel_rfl
theorem DK:(((Tryz.prog.info? 114).get u7).zero).isSome=true:=by kernel_rfl
theorem Fy:Prim.Ok Tryz.prog num 314 (cd 13):=by
  intro L e W h w vs args v tn hp hr hs hv
  exact jm (N:=num) (fn:=314) Tryz.Ku rfl (by decide) ((Tryz.prog.info? 114).get u7) (((Tryz.prog.info? 114).get u7).zero.get DK) (Ub u7).symm (Ub DK).symm (by kernel_rfl) (by kernel_rfl) (Ul (by kernel_rfl)) Tryz.sizeOf114 KB hp hr hs hv

theorem KC:∀args w, (callFunc (num 467) args).run Tryz.prog w=.ok (.enter (num 467) args) w:=enters_of Tryz.func97 (by kernel_rfl) rfl
theorem u9:(Tryz.prog.info? 117).isSome=true:=by kernel_rfl
theorem DL:(((Tryz.prog.info? 117).get u9).zero).isSome=true:=by kernel_rfl
theorem Fz:Prim.Ok Tryz.prog num 467 (cd 3):=by
  intro L e W h w vs args v tn hp hr hs hv
  exact jm (N:=num) (fn:=467) Tryz.Kv rfl (by decide) ((Tryz.prog.info? 117).get u9) (((Tryz.prog.info? 117).get u9).zero.get DL) (Ub u9).symm (Ub DL).symm (by kernel_rfl) (by kernel_rfl) (Ul (by kernel_rfl)) Tryz.sizeOf117 KC hp hr hs hv

theorem Sc:dN Tryz.prog num ay:=wm (by
  unfold RW
  exact TN.2 ⟨Kw, TN.2 ⟨Kx, TN.2 ⟨Ky, TN.2 ⟨Fw, TN.2 ⟨Fx, TN.2 ⟨Fy, TN.2 ⟨Fz, fun x hx=>by cases hx⟩⟩⟩⟩⟩⟩⟩)
theorem PD:cD ay:=tK (by
  unfold RW
  exact TN.2 ⟨AA _ _ _, TN.2 ⟨il _, TN.2 ⟨il _, TN.2 ⟨yi, TN.2 ⟨il _, TN.2 ⟨il _, TN.2 ⟨il _, fun x hx=>by cases hx⟩⟩⟩⟩⟩⟩⟩)

theorem PE:wK Tryz.prog 24 103 107 114 112 189 22 100 101 109 110 9 3 2 4:=⟨Tryz.underlying3, Tryz.underlying2, Tryz.underlying4, Tryz.underlying9, Tryz.underlying22, Tryz.underlying100, Tryz.underlying101, Tryz.underlying109, Tryz.underlying110, ⟨_, Tryz.underlying24, rfl⟩, ⟨_, Tryz.underlying103, rfl⟩, ⟨_, Tryz.underlying107, rfl⟩, ⟨_, Tryz.underlying114, rfl⟩, ⟨_, Tryz.underlying112, rfl⟩, ⟨_, Tryz.underlying189, rfl⟩⟩
theorem PF:xi Tryz.prog 29 24 25 38 26 46 41 117 27 50 44 42 161 3 9 4:=⟨Tryz.underlying3, Tryz.underlying4, Tryz.underlying9, ⟨_, Tryz.underlying29, rfl⟩, Tryz.underlying25, ⟨_, Tryz.underlying38, rfl⟩, Tryz.underlying26, ⟨_, Tryz.underlying46, rfl⟩, Tryz.underlying41, ⟨_, Tryz.underlying117, rfl⟩, Tryz.underlying27, ⟨_, Tryz.underlying50, rfl⟩, ⟨_, Tryz.underlying44, rfl⟩, Tryz.underlying42, ⟨_, Tryz.underlying161, rfl⟩⟩
set_option maxRecDepth 100000 in
theorem PG (css:List (List PV)) (hl:css.length=Tryz.f8.params.toList.length) (ht:∀(j:Nat) (t:TypeId) (cs:List PV), Tryz.f8.params.toList[j]?=some t→css[j]?=some cs→(∃n, typed Tryz.prog n t cs)∧∀c∈cs, Small 1048576 c):s7 Tryz.prog num 401 (List.zipWith (gB Tryz.prog) Tryz.f8.params.toList css) [.bool true]:=by
  have hp:Tryz.f8.params.toList=[29, 29]:=by kernel_rfl
  rw[hp]at hl ht ⊢
  match css, hl with
  |[c1, c2], _=>
    obtain⟨⟨n0, h0⟩, s0⟩:=ht 0 29 c1 rfl rfl
    obtain⟨v0, rfl, ho0⟩:=ud PF PE h0
    have e0:gB Tryz.prog 29 [.str v0.name, .ai 0 (v0.types.map aD.c), .ai 0 (cQ v0.calls), .ai 0 (aF v0.aF), .ai 0 (cM v0.aL)]=.agg [.str v0.name, .ai 0 (v0.types.map aD.c), .ai 0 (cQ v0.calls), .ai 0 (aF v0.aF), .ai 0 (cM v0.aL)]:=by simp only[gB, np Tryz.underlying29, if_true]
    obtain⟨k0, m0⟩:=ue s0
    have i0:MC v0:=⟨ho0.2.1.2, m0, by omega, ho0.2.2.2.1.1, ho0.1, fun c h=>(ho0.2.2.1.2 c h).1, fun w h=>⟨(ho0.2.2.2.1.2 w h).1, fun m hm=>((ho0.2.2.2.1.2 w h).2.1.2 m hm).2.1⟩, fun c h=>(ho0.2.2.2.2.2 c h).1⟩
    obtain⟨⟨n1, h1⟩, s1⟩:=ht 1 29 c2 rfl rfl
    obtain⟨v1, rfl, ho1⟩:=ud PF PE h1
    have e1:gB Tryz.prog 29 [.str v1.name, .ai 0 (v1.types.map aD.c), .ai 0 (cQ v1.calls), .ai 0 (aF v1.aF), .ai 0 (cM v1.aL)]=.agg [.str v1.name, .ai 0 (v1.types.map aD.c), .ai 0 (cQ v1.calls), .ai 0 (aF v1.aF), .ai 0 (cM v1.aL)]:=by simp only[gB, np Tryz.underlying29, if_true]
    obtain⟨k1, m1⟩:=ue s1
    have i1:MC v1:=⟨ho1.2.1.2, m1, by omega, ho1.2.2.2.1.1, ho1.1, fun c h=>(ho1.2.2.1.2 c h).1, fun w h=>⟨(ho1.2.2.2.1.2 w h).1, fun m hm=>((ho1.2.2.2.1.2 w h).2.1.2 m hm).2.1⟩, fun c h=>(ho1.2.2.2.2.2 c h).1⟩
    show s7 _ _ _ [gB Tryz.prog 29 [.str v0.name, .ai 0 (v0.types.map aD.c), .ai 0 (cQ v0.calls), .ai 0 (aF v0.aF), .ai 0 (cM v0.aL)], gB Tryz.prog 29 [.str v1.name, .ai 0 (v1.types.map aD.c), .ai 0 (cQ v1.calls), .ai 0 (aF v1.aF), .ai 0 (cM v1.aL)]] _
    rw[e0, e1]
    exact fB.sound zZ PD Sc SM (jh.1 (r401 r404 v0 v1 i0 i1))




theorem one_le {H:Type} (d:DataW H):1≤Rows.uptoBulk d:=by
  cases d with
  |lit x=>cases x<;>simp[Rows.uptoBulk]
  |_=>simp[Rows.uptoBulk]
theorem qp {H:Type} {d:DataW H}:∀{l:List (DataW H)}, d∈l→Rows.uptoBulk d≤Rows.uptoBulkAll l
  |[], h=>by cases h
  |x::l, h=>by
    rw[Rows.uptoBulkAll]
    rcases Tu.1 h with rfl|h
    · omega
    · have:=qp h
      omega
theorem length_le {H:Type}:∀(l:List (DataW H)), l.length≤Rows.uptoBulkAll l
  |[]=>Uv _
  |x::l=>by
    rw[Rows.uptoBulkAll, List.length_cons]
    have:=one_le x
    have:=length_le l
    omega
theorem PH (H:Type):v7 (H:=H) Rows.uptoBulk where
  str l:=by rw[Rows.uptoBulk]; omega
  slice e s:=by
    rw[Rows.uptoBulk]
    refine⟨by have:=length_le e; omega, fun d hd=>by have:=qp hd; omega⟩
  agg ps:=fun d hd=>by
    rw[Rows.uptoBulk]
    have:=qp hd
    omega
theorem DM (H:Type) (ds:List (DataW H)) (h:Rows.uptoSmall H ds=true):∀d∈ds, Rows.uptoBulk d≤1048576:=fun d hd=>TY (qp hd) (of_decide_eq_true h)
theorem own:ownKnob Tryz.prog.godebug=none:=by kernel_rfl
theorem laidOut:laidOutB Tryz.prog=true:=by kernel_rfl
def FA:List TypeId:=[2,3,4,9,22,24,25,26,27,29,38,41,42,44,46,50,100,101,103,107,109,110,112,114,117,161,189]
theorem PI:lg Tryz.prog FA=true:=by kernel_rfl
theorem KD:(Tryz.f8.params.toList.all fun t=>Tryz.prog.readableRec t&&decide (t<Tryz.prog.types.size)&&FA.contains t)=true:=by kernel_rfl
theorem PJ (t:TypeId) (ht:t∈Tryz.f8.params.toList):(Tryz.prog.readableRec t=true∧t<Tryz.prog.types.size)∧t∈FA:=by
  have:=TD.1 KD t ht
  simp only[Bool.and_eq_true, decide_eq_true_eq]at this
  exact⟨this.1, Ux.1 this.2⟩
noncomputable def PK:Array Value:=Tryz.f8.params.map fun t=>((Tryz.prog.info? t).bind (·.zero)).getD undef

set_option maxRecDepth 100000 in
theorem lifted (os : Os) (started : os.Started) (H : Type) (enc : TypeId × Value → H) (F : Stop.Interp) :
    ReturnsInHanded {} Tryz.checked os 8 .any ((Rows.OpenSpec.upto Rows.contractErrorsSpec).pre6 enc Tryz.prog Tryz.f8 Rows.contractErrorsUptoRow.domain false) (((Rows.OpenSpec.upto Rows.contractErrorsSpec).at F).post enc Tryz.prog Tryz.f8 false true false false) :=
  pR (PH H) (M := 1048576) (s := Rows.contractErrorsSpec) (s' := (Rows.OpenSpec.upto Rows.contractErrorsSpec)) (k := Rows.uptoSmall) rfl (DM H) (F := F) (S := FA) (C := Tryz.checked) (N := num) (f := 401) enc PG (of_decide_eq_true (by kernel_rfl)) own laidOut started (by kernel_rfl) Tryz.func8 (code := Tryz.f8.body.getD .skip) (by kernel_rfl) (by kernel_rfl)
    (OpenSpec.witness (enc := enc) (C := Tryz.checked) (s := (Rows.OpenSpec.upto Rows.contractErrorsSpec)) (k := Rows.uptoSmall) rfl false ⟨#[], PK, []⟩ 12 (by kernel_rfl) (by kernel_rfl) (by kernel_rfl) (x := ([.agg [.lit (.string []), .agg [.nil], .nil, .nil, .nil], .agg [.lit (.string []), .agg [.nil], .nil, .nil, .nil]], [], [])) (by kernel_rfl) rfl (by kernel_rfl))
    (tb := Tryz.f8.resultTypes.toList.headD 0) (by kernel_rfl) (by kernel_rfl) rfl rfl rfl (fun ds hl => by
      match ds, hl with
      | [_, _], _ => rfl) (fun t ht => (PJ t ht).1) PI (fun t ht => (PJ t ht).2)

theorem eN {a b:Bool} (h:a=true) (g:b=true):(a&&b)=true:=by rw[h, g]; rfl
set_option maxRecDepth 100000 in
theorem SY:(Rows.contractErrorsUptoRow.wf (OpenSpec.ofChange Rows.contractErrorsSpec))=true:=by kernel_rfl
set_option maxRecDepth 100000 in
theorem SZ:(laidOutB Tryz.prog)=true:=by kernel_rfl
set_option maxRecDepth 100000 in
theorem S0:(mapsRowed Tryz.prog)=true:=by kernel_rfl
set_option maxRecDepth 100000 in
theorem S1:(Tryz.f8.params.all (Tryz.prog.readableRec ·))=true:=by kernel_rfl
set_option maxRecDepth 100000 in
theorem S2:(namedTie Tryz.prog Rows.contractErrorsUptoRow.named Rows.contractErrorsSpec.vars)=true:=by kernel_rfl
set_option maxRecDepth 100000 in
theorem S3:((Rows.contractErrorsUptoRow.stops==[]))=true:=by kernel_rfl
set_option maxRecDepth 100000 in
theorem S4:((Tryz.prog.stops==[]))=true:=by kernel_rfl
set_option maxRecDepth 100000 in
theorem S5:((Rows.contractErrorsUptoRow.knobs==[]))=true:=by kernel_rfl
set_option maxRecDepth 100000 in
theorem S6:((Tryz.prog.stopKnobs==[]))=true:=by kernel_rfl
set_option maxRecDepth 100000 in
theorem S7:((Rows.contractErrorsUptoRow.inPlace==Tryz.prog.inPlace 8))=true:=by kernel_rfl
set_option maxRecDepth 100000 in
theorem Sd:((Rows.contractErrorsUptoRow.unfollowed==Tryz.prog.unfollowed 8))=true:=by kernel_rfl
set_option maxRecDepth 100000 in
theorem Se:((Rows.contractErrorsUptoRow.recurses==Tryz.prog.recurses 8))=true:=by kernel_rfl
set_option maxRecDepth 100000 in
theorem Sf:((Rows.contractErrorsUptoRow.named==Tryz.prog.varsNamed 8))=true:=by kernel_rfl
set_option maxRecDepth 100000 in
theorem Sg:((Rows.contractErrorsUptoRow.maps==(Tryz.f8.params.toList++Rows.contractErrorsSpec.plain.varTypes Tryz.prog).any (Tryz.prog.mapsRec ·)))=true:=by kernel_rfl
set_option maxRecDepth 100000 in
theorem Sh:((Rows.contractErrorsUptoRow.ifaces==(Tryz.f8.params.toList++Rows.contractErrorsSpec.plain.varTypes Tryz.prog).any (Tryz.prog.ifacesRec ·)))=true:=by kernel_rfl
set_option maxRecDepth 100000 in
theorem Si:((Rows.contractErrorsUptoRow.mapsOut==Tryz.prog.mapsAmong Tryz.f8.resultTypes.toList))=true:=by kernel_rfl
set_option maxRecDepth 100000 in
theorem Sj:((Rows.contractErrorsUptoRow.loops==(Tryz.f8.params.toList++Rows.contractErrorsSpec.plain.varTypes Tryz.prog).any (Tryz.prog.loopsFrom ·)))=true:=by kernel_rfl
set_option maxRecDepth 100000 in
theorem Sk:((Rows.contractErrorsUptoRow.wideKeys==(Tryz.f8.params.toList++Rows.contractErrorsSpec.plain.varTypes Tryz.prog++Tryz.f8.resultTypes.toList).any (Tryz.prog.wideKeysFrom ·)))=true:=by kernel_rfl
set_option maxRecDepth 100000 in
theorem Sl:(Rows.contractErrorsSpec.vars.all (Tryz.prog.varReadable ·))=true:=by kernel_rfl
set_option maxRecDepth 100000 in
theorem Sm:(Tryz.f8.resultTypes.all (fun t=>Tryz.prog.readableRec t&&decide (t<Tryz.prog.types.size)))=true:=by kernel_rfl
set_option maxRecDepth 100000 in
theorem Sn:((Rows.contractErrorsUptoRow.ifacesOut==Tryz.f8.resultTypes.toList.any (Tryz.prog.ifacesRec ·)))=true:=by kernel_rfl
set_option maxRecDepth 100000 in
theorem Sp:((Rows.contractErrorsUptoRow.loopsOut==Tryz.f8.resultTypes.toList.any (Tryz.prog.loopsFrom ·)))=true:=by kernel_rfl
set_option maxRecDepth 100000 in
theorem Sq:((Rows.contractErrorsUptoRow.plainKeys==Tryz.prog.plainKeys))=true:=by kernel_rfl
set_option maxRecDepth 100000 in
theorem Sr:(Rows.contractErrorsUptoRow.shortTexts.isNone)=true:=by kernel_rfl
set_option maxRecDepth 100000 in
theorem Ss:(Tryz.prog.stopsHeard)=true:=by kernel_rfl
set_option maxRecDepth 100000 in
theorem Su:(Tryz.prog.mayEnter)=true:=by kernel_rfl
set_option maxRecDepth 100000 in
theorem Sv:((Rows.contractErrorsUptoRow.lifted==Tryz.prog.liftsFinal))=true:=by kernel_rfl
set_option maxRecDepth 100000 in
theorem Sw:((Tryz.prog.make==some Rows.contractErrorsUptoRow.make))=true:=by kernel_rfl
set_option maxRecDepth 100000 in
theorem Sx:((Rows.contractErrorsUptoRow.kinds==(if Rows.contractErrorsUptoRow.domain.isEmpty then [] else Tryz.f8.params.toList.map fun t=>match Tryz.prog.underlying t with|some (.int k)=>some k|_=>none)))=true:=by kernel_rfl
set_option maxRecDepth 100000 in
theorem Sy:((Rows.contractErrorsUptoRow.pinned==Rows.contractErrorsUptoRow.pinnedBy))=true:=by kernel_rfl
set_option maxRecDepth 100000 in
theorem Sz:((Rows.contractErrorsUptoRow.veiled==(Tryz.f8.params.toList++Rows.contractErrorsSpec.plain.varTypes Tryz.prog++Tryz.f8.resultTypes.toList).any (Tryz.prog.veiledRec ·)))=true:=by kernel_rfl
set_option maxRecDepth 100000 in
theorem SA:(Rows.contractErrorsUptoRow.veiledFits Tryz.prog Tryz.f8.params.toList (Tryz.f8.params.toList++Rows.contractErrorsSpec.plain.varTypes Tryz.prog++Tryz.f8.resultTypes.toList))=true:=by kernel_rfl
set_option maxRecDepth 100000 in
theorem S8:joinedFacts Tryz.prog 8 Tryz.f8 Rows.contractErrorsSpec Rows.contractErrorsUptoRow=true:=by
  unfold joinedFacts
  exact(eN (eN (eN (eN (eN (eN (eN (eN (eN (eN (eN (eN (eN (eN (eN (eN (eN (eN (eN (eN (eN (eN (eN (eN (eN (eN (eN (eN (eN (eN (eN SY SZ) S0) S1) S2) S3) S4) S5) S6) S7) Sd) Se) Sf) Sg) Sh) Si) Sj) Sk) Sl) Sm) Sn) Sp) Sq) Sr) Ss) Su) Sv) Sw) Sx) Sy) Sz) SA)
theorem S9:Tryz.prog.funcNamed Rows.contractErrorsUptoRow.func=some 8:=by kernel_rfl
set_option maxRecDepth 100000 in
theorem law_holds:Rows.ContractErrorsUptoSaid:=
  OpenClaim.holds_of_cond 8 Tryz.f8 rfl rfl rfl rfl rfl rfl rfl ⟨rfl, rfl, rfl, rfl, rfl⟩ rfl rfl rfl rfl rfl S9 Tryz.func8 S8
    (of_decide_eq_true (by kernel_rfl)) (by unfold Func.isWrapper; first|(rw[if_pos (by decide+kernel)]; kernel_rfl)|(rw[if_neg (by decide+kernel)]; exact⟨rfl, rfl⟩))
    (fun os started H enc _ F=>lifted os started H enc F)

end Go.Proofs.YtpchfogcccagjaaGreat
