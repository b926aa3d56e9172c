/-
 What the functions of the law give.
-/
import Derived.Test.YtpchfogcccagjaaGreatC1
namespace Go.Pv
def lvIn (d : Int) (s : List Int × List Int) (x : Int) : List Int × List Int := if s.1.getD x.toNat (-1) < 0 then (s.1.set x.toNat d,s.2 ++ [x]) else s
def lvRun (nx : Int → List Int) : Nat → Nat → List Int × List Int → List Int × List Int
 | 0,_,s => s
 | n + 1,i,s => match s.2[i]? with
  | none => s
  | some v => lvRun nx n (i + 1) ((nx v).foldl (lvIn (s.1.getD v.toNat (-1) + 1)) s)
def levels (nx : Int → List Int) (n : Nat) (fr : List Int) : List Int := (lvRun nx n 0 (fr.foldl (lvIn 0) (List.replicate n (-1),[]))).1
end Go.Pv
namespace Go.Pv
end Go.Pv
namespace Go.Pv
end Go.Pv
namespace Go.Pv
end Go.Pv
namespace Go.Pv
end Go.Pv
namespace Go.Pv
def Draft.from (d : Draft) (s : Int) : Auto := ⟨1 + d.n % 4,s % (1 + d.n % 4),d.auto.edges⟩
end Go.Pv
namespace Go.Pv
end Go.Pv
namespace Go.Pv
end Go.Pv
namespace Go.Pv
structure Mv where
 send : Bool
 label : Int
 cls : Int
 deriving DecidableEq,Inhabited
def Mv.c (m : Mv) : List PV := [.bool m.send,.int .i64 m.label,.int .i64 m.cls]
def mvs (l : List Mv) : List (List PV) := l.map Mv.c
@[go_sem] theorem mvs_nil : mvs [] = [] := rfl
@[go_sem] theorem Mv.c_eq (m : Mv) : m.c = [.bool m.send,.int .i64 m.label,.int .i64 m.cls] := rfl
def movesL (es : List Edge) (s : Int) (c : List Int) : List Mv := (es.filter fun e => e.fr == s).map fun e => ⟨e.send,e.label,c.getD e.to.toNat 0⟩
set_option maxHeartbeats 1000000 in
@[go_sem] theorem r14 (t u : Nat) (a b : List Int) (ha : a.length ≤ 2 ^ 63 - 1) (_hb : b.length ≤ 2 ^ 63 - 1) : res A PrA 14 [.lst t (ints a),.lst u (ints b)] = some [.bool (decide (a = b))] := by
 refine res_of a14 rfl rfl ?_
 simp only [F14]; try delta sS tT zZ nN gG bB pZ
 simp (disch := omega) only [go_sem]
 refine Br.ofP (fun h => ?_) (fun h => ?_) <;> simp (disch := omega) only [go_sem,h]
 case refine_2 =>
  have : ¬ a = b := fun e => h (by rw [e])
  simp [this]
 refine W.upto a.length (fun k => ⟨[(0,.pv (.lst t (ints a))),(1,.pv (.lst u (ints b))),(12,.pv (.int .i64 b.length)),(13,.pv (.int .i64 k))],⟨[],[],[]⟩⟩) (fun k => a.take k = b.take k) rfl rfl fun k hk hi => ?_
 simp (disch := omega) only [go_sem]
 refine Br.ofP (fun g => ?_) (fun g => ?_)
 ·obtain ⟨x,hx⟩ := get_at (l := a) (k := k) (by omega)
  obtain ⟨y,hy⟩ := get_at (l := b) (k := k) (by omega)
  simp (disch := omega) only [go_sem,hx,hy]
  refine Br.ofP (fun f => ?_) (fun f => ?_) <;> simp (disch := omega) only [go_sem,f]
  ·exact .of (by omega) rfl (take_step hx hy hi f)
  ·have : ¬ a = b := fun e => f (by rw [e,hy] at hx; exact (Option.some.inj hx).symm)
   simp [this]
 ·simp (disch := omega) only [go_sem]
  have := takes_all (k := k) (by omega) (by omega) hi
  simp [this]
def simB (es : List Edge) (c : List Int) (k i : Nat) : Bool := decide (c.getD k 0 = c.getD i 0) && decide (movesL es (k : Int) c = movesL es (i : Int) c)
def leastC (es : List Edge) (c : List Int) (i : Nat) : Nat := ((List.range i).find? fun k => simB es c k i).getD i
def stepC (n : Nat) (es : List Edge) (c : List Int) : List Int := (List.range n).map fun i => (leastC es c i : Int)
def cls (n : Nat) (es : List Edge) : Nat → List Int
 | 0 => List.replicate n 0
 | j + 1 => stepC n es (cls n es j)
end Go.Pv
namespace Go.Pv
def fewS (w : Ses) : Bool := decide ((w.msgs.length : Int) ≤ 20) && (decide ((w.auto.edges.length : Int) ≤ 110) && decide ((w.name.size : Int) ≤ 100))
theorem r434 (t u : Nat) (w : Ses) : res A PrA 434 [.agg [.str w.name,.lst t (w.msgs.map Msg.c),.int .i64 w.auto.states,.int .i64 w.auto.start,.lst u (w.auto.edges.map Edge.c)]] = some [.bool (fewS w)] := by
 refine res_of a434 rfl rfl ?_
 simp only [F434]; try delta sS tT zZ nN gG bB pZ
 have hm : w.msgs.map Msg.c = msgs w.msgs := rfl
 rw [hm]
 unfold fewS
 cases h1 : decide ((w.msgs.length : Int) ≤ 20) with
 | false => simp (disch := omega) only [go_sem,h1,Bool.false_and]
 | true =>
  cases h2 : decide ((w.auto.edges.length : Int) ≤ 110) with
  | false => simp (disch := omega) only [go_sem,h1,h2,Bool.false_and,Bool.true_and]
  | true => simp (disch := omega) only [go_sem,h1,h2,Bool.true_and]
noncomputable def fewV (v : Ver) : Bool := !decide ((10 : Int) < v.calls.length) && (!decide ((10 : Int) < v.sess.length) && (!decide ((10 : Int) < v.tops.length) && (!decide ((100 : Int) < v.name.size) && (few v.types && v.sess.all fewS))))
theorem all_pre2 {α : Type} {f : α → Bool} {l : List α} (h : ∀ (i : Nat) (w : α),l[i]? = some w → f w = true) : l.all f = true := by
 rw [List.all_eq_true]
 intro w hw
 obtain ⟨i,hi⟩ := List.getElem?_of_mem hw
 exact h i w hi
theorem all_not {α : Type} {f : α → Bool} {l : List α} {k : Nat} {w : α} (hw : l[k]? = some w) (h : f w = false) : l.all f = false := by
 rw [Bool.eq_false_iff]
 intro e
 rw [List.all_eq_true.1 e w (List.mem_of_getElem? hw)] at h
 cases h
set_option maxHeartbeats 1000000 in
theorem r405 (t u x y : Nat) (v : Ver) (ho : ∀ t ∈ v.types,t.ok) (h2 : v.sess.length ≤ 2 ^ 63 - 1) : res A PrA 405 [.agg (verC t u x y v)] = some [.bool (fewV v)] := by
 refine res_of a405 rfl rfl ?_
 simp only [F405,verC]
 have h266 := r266 t v.types ho
 unfold fewV
 cases c1 : decide ((10 : Int) < v.calls.length) with
 | true => simp (disch := omega) only [go_sem,c1,Bool.not_true,Bool.false_and]
 | false =>
 cases c2 : decide ((10 : Int) < v.sess.length) with
 | true => simp (disch := omega) only [go_sem,c1,c2,Bool.not_true,Bool.not_false,Bool.false_and,Bool.true_and]
 | false =>
 cases c3 : decide ((10 : Int) < v.tops.length) with
 | true => simp (disch := omega) only [go_sem,c1,c2,c3,Bool.not_true,Bool.not_false,Bool.false_and,Bool.true_and]
 | false =>
 cases c4 : decide ((100 : Int) < v.name.size) with
 | true => simp (disch := omega) only [go_sem,c1,c2,c3,c4,Bool.not_true,Bool.not_false,Bool.false_and,Bool.true_and]
 | false =>
 cases c5 : few v.types with
 | false =>
  rw [c5] at h266
  simp (disch := omega) only [go_sem,c1,c2,c3,c4,h266,Bool.not_false,Bool.false_and,Bool.true_and]
 | true =>
  rw [c5] at h266
  simp (disch := omega) only [go_sem,c1,c2,c3,c4,h266,Bool.not_false,Bool.true_and]
  refine W.upto v.sess.length (fun k => ⟨[(1,.ptr 1 0),(3,.pv (.int .i64 k))],⟨[(1,[.pv (.str v.name),.pv (.lst t (v.types.map Typ.c)),.pv (.lst u (cals v.calls)),.pv (.lst x (sess v.sess)),.pv (.lst y (tpcs v.tops))])],[],[]⟩⟩) (fun k => ∀ (i : Nat) (w : Ses),i < k → v.sess[i]? = some w → fewS w = true) rfl (fun i w hi => absurd hi (by omega)) fun k hk hi => ?_
  simp (disch := omega) only [go_sem]
  refine Br.ofP (fun c6 => ?_) (fun c6 => ?_)
  ·obtain ⟨w,hw⟩ := get_some (l := v.sess) (k := k) (by omega)
   have h434 := r434 0 0 w
   cases hf : fewS w with
   | false =>
    rw [hf] at h434
    simp (disch := omega) only [go_sem,hw,Option.map_some,h434]
    rw [all_not hw hf]
   | true =>
    rw [hf] at h434
    simp (disch := omega) only [go_sem,hw,Option.map_some,h434]
    exact .of (by omega) rfl (pre_step hw hi hf)
  ·simp (disch := omega) only [go_sem]
   rw [all_pre2 (pre_whole (k := k) (by omega) hi)]
set_option maxHeartbeats 1000000 in
theorem r416 (w : Ses) (h1 : w.msgs.length ≤ 2 ^ 63 - 1) (h2 : w.auto.edges.length ≤ 2 ^ 63 - 1) : res A PrA 416 [.agg w.c,.agg w.c] = some [.bool true] := by
 refine res_of a416 rfl rfl ?_
 simp only [F416,Ses.c]
 have hm : w.msgs.map Msg.c = msgs w.msgs := rfl
 rw [hm]
 simp (disch := omega) only [go_sem]
 refine W.upto w.msgs.length (fun k => ⟨[(2,.ptr 2 0),(3,.ptr 3 0),(5,.pv (.int .i64 k))],⟨[(2,[.pv (.str w.name),.pv (.lst 0 (msgs w.msgs)),.pv (.int .i64 w.auto.states),.pv (.int .i64 w.auto.start),.pv (.lst 0 (w.auto.edges.map Edge.c))]),(3,[.pv (.str w.name),.pv (.lst 0 (msgs w.msgs)),.pv (.int .i64 w.auto.states),.pv (.int .i64 w.auto.start),.pv (.lst 0 (w.auto.edges.map Edge.c))])],[],[]⟩⟩) (fun _ => True) rfl trivial fun k hk _ => ?_
 simp (disch := omega) only [go_sem]
 refine Br.ofP (fun c6 => ?_) (fun c6 => ?_)
 ·obtain ⟨m,hm⟩ := get_some (l := w.msgs) (k := k) (by omega)
  simp (disch := omega) only [go_sem,hm,Option.map_some]
  exact .of (by omega) rfl trivial
 ·simp (disch := omega) only [go_sem]
end Go.Pv
namespace Go.Pv
def calO (o : Option Cal) : Cal := o.getD ⟨⟨#[]⟩,0,0⟩
def sesO (o : Option Ses) : Ses := o.getD ⟨⟨#[]⟩,[],⟨0,0,[]⟩⟩
def tpcO (o : Option Tpc) : Tpc := o.getD ⟨⟨#[]⟩,0⟩
theorem CalR_eq (o : Option Cal) : CalR o = [.agg (calO o).c,.bool o.isSome] := by cases o <;> rfl
theorem SesR_eq (o : Option Ses) : SesR o = [.agg (sesO o).c,.bool o.isSome] := by cases o <;> rfl
theorem TpcR_eq (o : Option Tpc) : TpcR o = [.agg (tpcO o).c,.bool o.isSome] := by cases o <;> rfl
theorem fewV_spec {v : Ver} (h : fewV v = true) : v.calls.length ≤ 10 ∧ v.sess.length ≤ 10 ∧ v.tops.length ≤ 10 ∧ v.name.size ≤ 100 ∧ few v.types = true ∧ ∀ w ∈ v.sess,w.msgs.length ≤ 20 ∧ w.auto.edges.length ≤ 110 ∧ w.name.size ≤ 100 := by
 simp only [fewV,Bool.and_eq_true,Bool.not_eq_true',decide_eq_false_iff_not,List.all_eq_true,fewS,decide_eq_true_eq] at h
 obtain ⟨h1,h2,h3,h4,h5,h6⟩ := h
 refine ⟨by omega,by omega,by omega,by omega,h5,fun w hw => ?_⟩
 obtain ⟨g1,g2,g3⟩ := h6 w hw
 omega
theorem sesN_le {l : List Ses} (h : ∀ w ∈ l,w.msgs.length ≤ 20) : (sesN l).length ≤ 20 * l.length := by
 induction l with
 | nil => simp [sesN]
 | cons w l ih =>
  have h1 := ih fun x hx => h x (List.mem_cons_of_mem _ hx)
  have h2 := h w (List.mem_cons_self ..)
  have h3 : (msgN w.msgs).length = w.msgs.length := List.length_map _
  simp only [sesN,List.flatMap_cons,List.length_append,List.length_cons] at h1 ⊢
  omega
theorem fewV_root {v : Ver} (h : fewV v = true) : (rootN v).length ≤ 1000 := by
 obtain ⟨h1,h2,h3,_,_,h6⟩ := fewV_spec h
 have := sesN_le fun w hw => (h6 w hw).1
 have h7 := callN_len v.calls
 have h8 : (topN v.tops).length = v.tops.length := List.length_map _
 rw [rootN,List.length_append,List.length_append]
 omega
theorem pickF_mem {α : Type} {p : α → Bool} {l : List α} {x : α} (h : pickF p l = some x) : x ∈ l := by
 unfold pickF at h
 obtain ⟨j,_,hj⟩ := Option.bind_eq_some_iff.1 h
 exact List.mem_of_getElem? hj
set_option maxRecDepth 20000 in
set_option maxHeartbeats 8000000 in
theorem r397 (r404 : res A PrA 404 [] = some [.bool true]) (v : Ver) (nm : ByteArray) (ho : ∀ t ∈ v.types,t.ok) (h1 : v.sess.length ≤ 2 ^ 63 - 1) : res A PrA 397 [.agg (verC 0 0 0 0 v),.str nm] = some [.bool true] := by
 refine res_of a397 rfl rfl ?_
 simp only [F397]; try delta sS tT zZ nN gG bB pZ
 have h405 := r405 0 0 0 0 v ho h1
 cases hf : fewV v with
 | false =>
  rw [hf] at h405
  simp only [verC] at h405 ⊢
  simp (disch := omega) only [go_sem,r404,h405]
 | true =>
  rw [hf] at h405
  obtain ⟨f1,f2,f3,f4,f5,f6⟩ := fewV_spec hf
  have hr := fewV_root hf
  have h410 := r410 0 0 0 0 v nm (by omega)
  have h411 := r411 0 0 0 0 v nm (by omega)
  have h412 := r412 0 0 0 0 v nm (by omega) (fun w hw => by have := f6 w hw; omega)
  have h413 := r413 0 0 0 0 v nm (by omega)
  have h414 := r414 0 0 0 0 v nm (by omega)
  have h415 := r415 0 0 0 0 v nm (by omega)
  have h417 := r417 0 0 0 0 v (by omega) (by omega) (by omega) (by omega) (fun w hw => by have := f6 w hw; omega)
  have h418 := r418 0 0 0 0 v (by omega) (by omega) (by omega) (by omega) (fun w hw => by have := f6 w hw; omega)
  have hs : (sesO (pickF (fun w => decide (w.name = nm)) v.sess)).msgs.length ≤ 20 ∧ (sesO (pickF (fun w => decide (w.name = nm)) v.sess)).auto.edges.length ≤ 110 := by
   cases hp : pickF (fun w => decide (w.name = nm)) v.sess with
   | none => exact ⟨by simp [sesO],by simp [sesO]⟩
   | some w =>
    have := f6 w (pickF_mem hp)
    exact ⟨this.1,this.2.1⟩
  have h416 := r416 (sesO (pickF (fun w => decide (w.name = nm)) v.sess)) (by omega) (by omega)
  have hu := uniqs_len (rootN v)
  have h14 := r14 0 0 (uniqs (rootN v)) (uniqs (rootN v)) (by omega) (by omega)
  rw [CalR_eq] at h410 h411
  rw [SesR_eq] at h412 h413
  rw [TpcR_eq] at h414 h415
  generalize pickF (fun w : Cal => decide (w.name = nm)) v.calls = o1 at *
  generalize pickF (fun w : Ses => decide (w.name = nm)) v.sess = o2 at *
  generalize pickF (fun w : Tpc => decide (w.name = nm)) v.tops = o3 at *
  generalize uniqs (rootN v) = R at *
  simp only [verC,Cal.c,Ses.c,Tpc.c] at *
  simp (maxSteps := 4000000) (disch := omega) only [go_sem,r404,h405,h410,h411,h412,h413,h414,h415,h416,h417,h418,h14]
end Go.Pv
namespace Go.Pv
theorem r404 : res A PrA 404 [] = some [.bool true] := res_some.2 ⟨3000,by kernel_rfl⟩
end Go.Pv
namespace Go.Pv
variable {P : Program}
theorem VOk.up : ∀ {n : Nat} {cs : List PV},VOk n cs → VOk (n + 1) cs
 | 0,_,h => h.elim
 | n + 1,_,h => by
  obtain ⟨v,h1,h2,h3,h4,h5,h6⟩ := h
  exact ⟨v,h1,h2,h3,fun r hr => VOk.up (h4 r hr),fun r hr => VOk.up (h5 r hr),h6⟩
theorem ty_int {n : Nat} {t : TypeId} {cs : List PV} (hu : P.underlying t = some (.int .i64)) (h : typed P n t cs) : ∃ x,cs = [.int .i64 x] ∧ I64 x := by
 cases n with
 | zero => exact h.elim
 | succ n =>
  obtain ⟨x,rfl,h1,h2⟩ := typed_int hu h
  exact ⟨x,rfl,h1,h2⟩
theorem ty_bool {n : Nat} {t : TypeId} {cs : List PV} (hu : P.underlying t = some .bool) (h : typed P n t cs) : ∃ x,cs = [.bool x] := by
 cases n with
 | zero => exact h.elim
 | succ n => exact typed_bool hu h
theorem ty_str {n : Nat} {t : TypeId} {cs : List PV} (hu : P.underlying t = some .string) (h : typed P n t cs) : ∃ s,cs = [.str s] ∧ strOk s := by
 cases n with
 | zero => exact h.elim
 | succ n =>
  simp only [typed,hu] at h
  exact h
theorem ty_slice {α : Type} {c : α → List PV} {ok : α → Prop} {n : Nat} {t el : TypeId} {cs : List PV} (hu : P.underlying t = some (.slice el)) (he : ∀ m cs,m + 1 = n → typed P m el cs → ∃ x,cs = c x ∧ ok x) (h : typed P n t cs) : ∃ l : List α,cs = [.lst 0 (l.map c)] ∧ lenOk l ∧ ∀ x ∈ l,ok x := by
 cases n with
 | zero => exact h.elim
 | succ n =>
  obtain ⟨rows,rfl,hl,hr⟩ := typed_slice hu h
  obtain ⟨l,rfl⟩ := rows_map (c := fun x : {x : α // ok x} => c x.1) (rows := rows) (fun r hr' => by
   obtain ⟨x,rfl,hx⟩ := he n r rfl (hr r hr')
   exact ⟨⟨x,hx⟩,rfl⟩)
  refine ⟨l.map (·.1),by simp,by simpa [lenOk,maxLen] using hl,fun x hx => ?_⟩
  obtain ⟨y,_,rfl⟩ := List.mem_map.1 hx
  exact y.2
structure SchT (P : Program) (sch typ sym mem val raw ls lsym lmem lval lraw tx ti t64 tb : TypeId) : Prop where
 i : P.underlying ti = some (.int .i64)
 i64 : P.underlying t64 = some (.int .i64)
 b : P.underlying tb = some .bool
 x : P.underlying tx = some .string
 l : P.underlying ls = some (.slice typ)
 ly : P.underlying lsym = some (.slice sym)
 lm : P.underlying lmem = some (.slice mem)
 lv : P.underlying lval = some (.slice val)
 lr : P.underlying lraw = some (.slice raw)
 s : ∃ fs,P.underlying sch = some (.struct fs) ∧ fs.toList.map (·.type) = [ls]
 t : ∃ fs,P.underlying typ = some (.struct fs) ∧ fs.toList.map (·.type) = [ti,tx,t64,t64,ti,lsym,lmem,ti,ti,tb]
 y : ∃ fs,P.underlying sym = some (.struct fs) ∧ fs.toList.map (·.type) = [ti,tx]
 m : ∃ fs,P.underlying mem = some (.struct fs) ∧ fs.toList.map (·.type) = [ti,tx,ti,tb,tb,val]
 v : ∃ fs,P.underlying val = some (.struct fs) ∧ fs.toList.map (·.type) = [ti,tb,t64,tx,ti,lval,lval,lraw]
 r : ∃ fs,P.underlying raw = some (.struct fs) ∧ fs.toList.map (·.type) = [ti,tx]
section
variable {sch typ sym mem val raw ls lsym lmem lval lraw tx ti t64 tb : TypeId}
theorem raw_typed (T : SchT P sch typ sym mem val raw ls lsym lmem lval lraw tx ti t64 tb) {n : Nat} {cs : List PV} (h : typed P n raw cs) : ∃ r : Raw,cs = r.c ∧ r.ok := by
 cases n with
 | zero => exact h.elim
 | succ n =>
  obtain ⟨fs,hu,hts⟩ := T.r
  obtain ⟨r0,q0,rfl,h0,r1,q1,rfl,h1,rfl⟩ := typed_struct hu hts h
  obtain ⟨x,rfl,hx⟩ := ty_int T.i h0
  obtain ⟨s,rfl,hs⟩ := ty_str T.x h1
  exact ⟨⟨x,s⟩,rfl,hx,hs⟩
theorem sym_typed (T : SchT P sch typ sym mem val raw ls lsym lmem lval lraw tx ti t64 tb) {n : Nat} {cs : List PV} (h : typed P n sym cs) : ∃ r : Sym,cs = r.c ∧ r.ok := by
 cases n with
 | zero => exact h.elim
 | succ n =>
  obtain ⟨fs,hu,hts⟩ := T.y
  obtain ⟨r0,q0,rfl,h0,r1,q1,rfl,h1,rfl⟩ := typed_struct hu hts h
  obtain ⟨x,rfl,hx⟩ := ty_int T.i h0
  obtain ⟨s,rfl,hs⟩ := ty_str T.x h1
  exact ⟨⟨x,s⟩,rfl,hx,hs⟩
theorem val_typed (T : SchT P sch typ sym mem val raw ls lsym lmem lval lraw tx ti t64 tb) : ∀ (n : Nat) {cs : List PV},typed P n val cs → VOk n cs
 | 0,_,h => h.elim
 | 1,cs,h => by
  obtain ⟨fs,hu,hts⟩ := T.v
  obtain ⟨r0,q0,rfl,h0,_⟩ := typed_struct hu hts h
  exact h0.elim
 | n + 2,cs,h => by
  obtain ⟨fs,hu,hts⟩ := T.v
  obtain ⟨r0,q0,rfl,h0,r1,q1,rfl,h1,r2,q2,rfl,h2,r3,q3,rfl,h3,r4,q4,rfl,h4,r5,q5,rfl,h5,r6,q6,rfl,h6,r7,q7,rfl,h7,rfl⟩ := typed_struct hu hts h
  obtain ⟨kind,rfl,k1⟩ := ty_int T.i h0
  obtain ⟨b,rfl⟩ := ty_bool T.b h1
  obtain ⟨i,rfl,k2⟩ := ty_int T.i64 h2
  obtain ⟨s,rfl,k3⟩ := ty_str T.x h3
  obtain ⟨id,rfl,k4⟩ := ty_int T.i h4
  obtain ⟨keys,rfl,l1,g1⟩ := typed_slice T.lv h5
  obtain ⟨items,rfl,l2,g2⟩ := typed_slice T.lv h6
  obtain ⟨rest,rfl,l3,g3⟩ := ty_slice T.lr (fun m cs _ hh => raw_typed T hh) h7
  exact ⟨⟨kind,b,i,s,id,keys,items,rest⟩,rfl,⟨k1,k2,k3,k4⟩,⟨by simpa [lenOk,maxLen] using l1,by simpa [lenOk,maxLen] using l2,l3⟩,fun r hr => (val_typed T n (g1 r hr)).up,fun r hr => (val_typed T n (g2 r hr)).up,g3⟩
theorem mem_typed (T : SchT P sch typ sym mem val raw ls lsym lmem lval lraw tx ti t64 tb) {n : Nat} {cs : List PV} (h : typed P n mem cs) : ∃ r : Mem,cs = r.c ∧ r.ok := by
 cases n with
 | zero => exact h.elim
 | succ n =>
  obtain ⟨fs,hu,hts⟩ := T.m
  obtain ⟨r0,q0,rfl,h0,r1,q1,rfl,h1,r2,q2,rfl,h2,r3,q3,rfl,h3,r4,q4,rfl,h4,r5,q5,rfl,h5,rfl⟩ := typed_struct hu hts h
  obtain ⟨id,rfl,k1⟩ := ty_int T.i h0
  obtain ⟨s,rfl,k2⟩ := ty_str T.x h1
  obtain ⟨t,rfl,k3⟩ := ty_int T.i h2
  obtain ⟨c,rfl⟩ := ty_bool T.b h3
  obtain ⟨hd,rfl⟩ := ty_bool T.b h4
  have hv := val_typed T n h5
  cases n with
  | zero => exact hv.elim
  | succ n =>
   have hv' := hv
   obtain ⟨v,rfl,_⟩ := hv'
   exact ⟨⟨id,s,t,c,hd,v⟩,by simp [Mem.c,Val.c],k1,k2,k3,_,hv⟩
theorem typ_typed (T : SchT P sch typ sym mem val raw ls lsym lmem lval lraw tx ti t64 tb) {n : Nat} {cs : List PV} (h : typed P n typ cs) : ∃ r : Typ,cs = r.c ∧ r.ok := by
 cases n with
 | zero => exact h.elim
 | succ n =>
  obtain ⟨fs,hu,hts⟩ := T.t
  obtain ⟨r0,q0,rfl,h0,r1,q1,rfl,h1,r2,q2,rfl,h2,r3,q3,rfl,h3,r4,q4,rfl,h4,r5,q5,rfl,h5,r6,q6,rfl,h6,r7,q7,rfl,h7,r8,q8,rfl,h8,r9,q9,rfl,h9,rfl⟩ := typed_struct hu hts h
  obtain ⟨kind,rfl,k0⟩ := ty_int T.i h0
  obtain ⟨s,rfl,k1⟩ := ty_str T.x h1
  obtain ⟨lo,rfl,k2⟩ := ty_int T.i64 h2
  obtain ⟨hi,rfl,k3⟩ := ty_int T.i64 h3
  obtain ⟨mx,rfl,k4⟩ := ty_int T.i h4
  obtain ⟨syms,rfl,k5,g5⟩ := ty_slice T.ly (fun m cs _ hh => sym_typed T hh) h5
  obtain ⟨mems,rfl,k6,g6⟩ := ty_slice T.lm (fun m cs _ hh => mem_typed T hh) h6
  obtain ⟨key,rfl,k7⟩ := ty_int T.i h7
  obtain ⟨el,rfl,k8⟩ := ty_int T.i h8
  obtain ⟨op,rfl⟩ := ty_bool T.b h9
  exact ⟨⟨kind,s,lo,hi,mx,syms,mems,key,el,op⟩,rfl,⟨k0,k1,k2,k3,k4,k7,k8⟩,⟨k5,k6⟩,g5,g6⟩
theorem sch_typed (T : SchT P sch typ sym mem val raw ls lsym lmem lval lraw tx ti t64 tb) {n : Nat} {cs : List PV} (h : typed P n sch cs) : ∃ l : List Typ,cs = [.lst 0 (l.map Typ.c)] ∧ lenOk l ∧ ∀ t ∈ l,t.ok := by
 cases n with
 | zero => exact h.elim
 | succ n =>
  obtain ⟨fs,hu,hts⟩ := T.s
  obtain ⟨r0,q0,rfl,h0,rfl⟩ := typed_struct hu hts h
  obtain ⟨l,rfl,k,g⟩ := ty_slice T.l (fun m cs _ hh => typ_typed T hh) h0
  exact ⟨l,by simp,k,g⟩
end
end Go.Pv
namespace Go.Pv
variable {P : Program}
def Cal.ok (x : Cal) : Prop := strOk x.name ∧ I64 x.req ∧ I64 x.rep
def Tpc.ok (x : Tpc) : Prop := strOk x.name ∧ I64 x.ty
def Msg.ok (x : Msg) : Prop := I64 x.id ∧ strOk x.name ∧ I64 x.ty
def Ses.ok (x : Ses) : Prop := strOk x.name ∧ (lenOk x.msgs ∧ ∀ m ∈ x.msgs,m.ok) ∧ x.auto.r64
def Ver.ok (v : Ver) : Prop := strOk v.name ∧ (lenOk v.types ∧ ∀ t ∈ v.types,t.ok) ∧ (lenOk v.calls ∧ ∀ c ∈ v.calls,c.ok) ∧ (lenOk v.sess ∧ ∀ w ∈ v.sess,w.ok) ∧ lenOk v.tops ∧ ∀ c ∈ v.tops,c.ok
structure VerT (P : Program) (ver sch lc cl ls ss lm mg lp tp au le ed ti tx tb : TypeId) : Prop where
 i : P.underlying ti = some (.int .i64)
 b : P.underlying tb = some .bool
 x : P.underlying tx = some .string
 v : ∃ fs,P.underlying ver = some (.struct fs) ∧ fs.toList.map (·.type) = [tx,sch,lc,ls,lp]
 lc : P.underlying lc = some (.slice cl)
 c : ∃ fs,P.underlying cl = some (.struct fs) ∧ fs.toList.map (·.type) = [tx,ti,ti]
 ls : P.underlying ls = some (.slice ss)
 s : ∃ fs,P.underlying ss = some (.struct fs) ∧ fs.toList.map (·.type) = [tx,lm,au]
 lm : P.underlying lm = some (.slice mg)
 m : ∃ fs,P.underlying mg = some (.struct fs) ∧ fs.toList.map (·.type) = [ti,tx,ti]
 lp : P.underlying lp = some (.slice tp)
 t : ∃ fs,P.underlying tp = some (.struct fs) ∧ fs.toList.map (·.type) = [tx,ti]
 a : ∃ fs,P.underlying au = some (.struct fs) ∧ fs.toList.map (·.type) = [ti,ti,le]
 le : P.underlying le = some (.slice ed)
 e : ∃ fs,P.underlying ed = some (.struct fs) ∧ fs.toList.map (·.type) = [ti,tb,ti,ti]
section
variable {ver sch lc cl ls ss lm mg lp tp au le ed ti tx tb : TypeId}
theorem cal_typed (T : VerT P ver sch lc cl ls ss lm mg lp tp au le ed ti tx tb) {n : Nat} {cs : List PV} (h : typed P n cl cs) : ∃ x : Cal,cs = x.c ∧ x.ok := by
 cases n with
 | zero => exact h.elim
 | succ n =>
  obtain ⟨fs,hu,hts⟩ := T.c
  obtain ⟨r0,q0,rfl,h0,r1,q1,rfl,h1,r2,q2,rfl,h2,rfl⟩ := typed_struct hu hts h
  obtain ⟨s,rfl,hs⟩ := ty_str T.x h0
  obtain ⟨a,rfl,ha⟩ := ty_int T.i h1
  obtain ⟨b,rfl,hb⟩ := ty_int T.i h2
  exact ⟨⟨s,a,b⟩,rfl,hs,ha,hb⟩
theorem tpc_typed (T : VerT P ver sch lc cl ls ss lm mg lp tp au le ed ti tx tb) {n : Nat} {cs : List PV} (h : typed P n tp cs) : ∃ x : Tpc,cs = x.c ∧ x.ok := by
 cases n with
 | zero => exact h.elim
 | succ n =>
  obtain ⟨fs,hu,hts⟩ := T.t
  obtain ⟨r0,q0,rfl,h0,r1,q1,rfl,h1,rfl⟩ := typed_struct hu hts h
  obtain ⟨s,rfl,hs⟩ := ty_str T.x h0
  obtain ⟨a,rfl,ha⟩ := ty_int T.i h1
  exact ⟨⟨s,a⟩,rfl,hs,ha⟩
theorem msg_typed (T : VerT P ver sch lc cl ls ss lm mg lp tp au le ed ti tx tb) {n : Nat} {cs : List PV} (h : typed P n mg cs) : ∃ x : Msg,cs = x.c ∧ x.ok := by
 cases n with
 | zero => exact h.elim
 | succ n =>
  obtain ⟨fs,hu,hts⟩ := T.m
  obtain ⟨r0,q0,rfl,h0,r1,q1,rfl,h1,r2,q2,rfl,h2,rfl⟩ := typed_struct hu hts h
  obtain ⟨a,rfl,ha⟩ := ty_int T.i h0
  obtain ⟨s,rfl,hs⟩ := ty_str T.x h1
  obtain ⟨b,rfl,hb⟩ := ty_int T.i h2
  exact ⟨⟨a,s,b⟩,rfl,ha,hs,hb⟩
theorem ved_typed (T : VerT P ver sch lc cl ls ss lm mg lp tp au le ed ti tx tb) {n : Nat} {cs : List PV} (h : typed P n ed cs) : ∃ x : Edge,cs = x.c ∧ x.r64 := by
 cases n with
 | zero => exact h.elim
 | succ n =>
  obtain ⟨fs,hu,hts⟩ := T.e
  obtain ⟨r0,q0,rfl,h0,r1,q1,rfl,h1,r2,q2,rfl,h2,r3,q3,rfl,h3,rfl⟩ := typed_struct hu hts h
  obtain ⟨a,rfl,ha⟩ := ty_int T.i h0
  obtain ⟨d,rfl⟩ := ty_bool T.b h1
  obtain ⟨b,rfl,hb⟩ := ty_int T.i h2
  obtain ⟨c,rfl,hc⟩ := ty_int T.i h3
  unfold I64 at ha hb hc
  exact ⟨⟨a,d,b,c⟩,rfl,ha,hb,hc⟩
theorem vau_typed (T : VerT P ver sch lc cl ls ss lm mg lp tp au le ed ti tx tb) {n : Nat} {cs : List PV} (h : typed P n au cs) : ∃ a : Auto,cs = [.int .i64 a.states,.int .i64 a.start,.lst 0 (a.edges.map Edge.c)] ∧ a.r64 := by
 cases n with
 | zero => exact h.elim
 | succ n =>
  obtain ⟨fs,hu,hts⟩ := T.a
  obtain ⟨r0,q0,rfl,h0,r1,q1,rfl,h1,r2,q2,rfl,h2,rfl⟩ := typed_struct hu hts h
  obtain ⟨a,rfl,ha⟩ := ty_int T.i h0
  obtain ⟨b,rfl,hb⟩ := ty_int T.i h1
  obtain ⟨l,rfl,hl,ho⟩ := ty_slice T.le (fun m cs _ h => ved_typed T h) h2
  unfold I64 at ha hb
  exact ⟨⟨a,b,l⟩,rfl,ha,hb,by simpa [lenOk,maxLen] using hl,ho⟩
theorem ses_typed (T : VerT P ver sch lc cl ls ss lm mg lp tp au le ed ti tx tb) {n : Nat} {cs : List PV} (h : typed P n ss cs) : ∃ x : Ses,cs = x.c ∧ x.ok := by
 cases n with
 | zero => exact h.elim
 | succ n =>
  obtain ⟨fs,hu,hts⟩ := T.s
  obtain ⟨r0,q0,rfl,h0,r1,q1,rfl,h1,r2,q2,rfl,h2,rfl⟩ := typed_struct hu hts h
  obtain ⟨s,rfl,hs⟩ := ty_str T.x h0
  obtain ⟨l,rfl,hl,ho⟩ := ty_slice T.lm (fun m cs _ h => msg_typed T h) h1
  obtain ⟨a,rfl,ha⟩ := vau_typed T h2
  exact ⟨⟨s,l,a⟩,rfl,hs,⟨hl,ho⟩,ha⟩
theorem ver_typed (T : VerT P ver sch lc cl ls ss lm mg lp tp au le ed ti tx tb) {typ sym mem val raw lt lsym lmem lval lraw t64 : TypeId} (U : SchT P sch typ sym mem val raw lt lsym lmem lval lraw tx ti t64 tb) {n : Nat} {cs : List PV} (h : typed P n ver cs) : ∃ v : Ver,cs = [.str v.name,.lst 0 (v.types.map Typ.c),.lst 0 (cals v.calls),.lst 0 (sess v.sess),.lst 0 (tpcs v.tops)] ∧ v.ok := by
 cases n with
 | zero => exact h.elim
 | succ n =>
  obtain ⟨fs,hu,hts⟩ := T.v
  obtain ⟨r0,q0,rfl,h0,r1,q1,rfl,h1,r2,q2,rfl,h2,r3,q3,rfl,h3,r4,q4,rfl,h4,rfl⟩ := typed_struct hu hts h
  obtain ⟨s,rfl,hs⟩ := ty_str T.x h0
  obtain ⟨l,rfl,hl,ho⟩ := sch_typed U h1
  obtain ⟨c,rfl,hc,hco⟩ := ty_slice T.lc (fun m cs _ h => cal_typed T h) h2
  obtain ⟨w,rfl,hw,hwo⟩ := ty_slice T.ls (fun m cs _ h => ses_typed T h) h3
  obtain ⟨p,rfl,hp,hpo⟩ := ty_slice T.lp (fun m cs _ h => tpc_typed T h) h4
  exact ⟨⟨s,l,c,w,p⟩,rfl,hs,⟨hl,ho⟩,⟨hc,hco⟩,⟨hw,hwo⟩,hp,hpo⟩
end
end Go.Pv
