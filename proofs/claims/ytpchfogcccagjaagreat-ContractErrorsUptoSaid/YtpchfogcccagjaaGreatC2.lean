/-
 What the functions of the law give.
-/
import Derived.Test.YtpchfogcccagjaaGreatC1
set_option linter.unusedSimpArgs false
set_option linter.unusedVariables false
open List renaming mem_of_getElem? → Tf, getElem?_eq_some_iff → Tg, getElem?_eq_getElem → Th, mem_iff_getElem? → Ti, length_map → Tl, getElem?_map → To, length_take → Tt, mem_cons → Tu, length_range → Tv, getElem?_take → Tz, mem_map → TA, pairwise_cons → TF, length_append → TH, map_append → TI, take_add_one → TM, getElem?_set_self → TR, any_eq_false → TU, ext_getElem? → TW, take_length → T4, getElem?_set_ne → T7, mem_singleton → Ue, any_map → Ug, foldl_cons → Uy, nodup_append → Uz, find?_eq_none → UJ, mem_range → UO, not_mem_nil → US, find?_some → UU
open Nat renaming le_refl → Tj, lt_or_ge → Tm, zero_le → Uv
open Bool renaming eq_iff_iff → TQ, false_and → T1, and_false → Um, eq_false_iff → Us, and_eq_true → UE
namespace Go.Pv
set_option maxHeartbeats 4000000 in
theorem r319 (x y:Mem) (hx:x.ok) (hy:y.ok):res A ay 319 [.agg x.c,.agg y.c]=some [.bool (eqv x y)]:=by
 have hv:=r320v hx.2.2.2 hy.2.2.2
 rw[gL]at hv
 obtain⟨a1,a2,a3,a4,a5,v⟩:=x
 obtain⟨b1,b2,b3,b4,b5,w⟩:=y
 unfold Mem.c
 unfold cU.c at hv
 dsimp only at *
 have no:∀{p q:Mem},p≠q->(some [PV.bool false]:Option (List PV))=some [PV.bool (eqv p q)]:=fun h=>by rw[dE h]
 refine aq a319 rfl rfl ?_
 simp only[F319,H8]
 simp(disch:=omega)only[go_sem]
 refine Br.aB (fun e=>?_) (fun e=>?_)<;>simp(disch:=omega)only[go_sem,e]
 rotate_left
 .exact no (fun q=>e (by cases q; rfl))
 subst e
 refine Br.aB (fun e=>?_) (fun e=>?_)<;>simp(disch:=omega)only[go_sem,e]
 rotate_left
 .exact no (fun q=>e (by cases q; rfl))
 subst e
 refine Br.aB (fun e=>?_) (fun e=>?_)<;>simp(disch:=omega)only[go_sem,e]
 rotate_left
 .exact no (fun q=>e (by cases q; rfl))
 subst e
 refine Br.aB (fun e=>?_) (fun e=>?_)<;>simp(disch:=omega)only[go_sem,e]
 rotate_left
 .exact no (fun q=>e (by cases q; rfl))
 subst e
 refine Br.aB (fun e=>?_) (fun e=>?_)<;>simp(disch:=omega)only[go_sem,e]
 rotate_left
 .exact no (fun q=>e (by cases q; rfl))
 subst e
 simp(disch:=omega)only[go_sem,hv]
 congr 3
 rw[TQ,br,br]
 exact⟨fun e=>by rw[e],fun q=>by cases q; rfl⟩
set_option maxHeartbeats 4000000 in
theorem r316 (x y:Mem) (hx:x.ok) (hy:y.ok):res A ay 316 [.agg x.c,.agg y.c]=some [.bool (eqv x y)]:=by
 have hv:=r330v hx.2.2.2 hy.2.2.2
 rw[gL]at hv
 obtain⟨a1,a2,a3,a4,a5,v⟩:=x
 obtain⟨b1,b2,b3,b4,b5,w⟩:=y
 unfold Mem.c
 unfold cU.c at hv
 dsimp only at *
 have no:∀{p q:Mem},p≠q->(some [PV.bool false]:Option (List PV))=some [PV.bool (eqv p q)]:=fun h=>by rw[dE h]
 refine aq a316 rfl rfl ?_
 simp only[F316,H6]
 simp(disch:=omega)only[go_sem]
 refine Br.aB (fun e=>?_) (fun e=>?_)<;>simp(disch:=omega)only[go_sem,e]
 rotate_left
 .exact no (fun q=>e (by cases q; rfl))
 subst e
 refine Br.aB (fun e=>?_) (fun e=>?_)<;>simp(disch:=omega)only[go_sem,e]
 rotate_left
 .exact no (fun q=>e (by cases q; rfl))
 subst e
 refine Br.aB (fun e=>?_) (fun e=>?_)<;>simp(disch:=omega)only[go_sem,e]
 rotate_left
 .exact no (fun q=>e (by cases q; rfl))
 subst e
 refine Br.aB (fun e=>?_) (fun e=>?_)<;>simp(disch:=omega)only[go_sem,e]
 rotate_left
 .exact no (fun q=>e (by cases q; rfl))
 subst e
 refine Br.aB (fun e=>?_) (fun e=>?_)<;>simp(disch:=omega)only[go_sem,e]
 rotate_left
 .exact no (fun q=>e (by cases q; rfl))
 subst e
 simp(disch:=omega)only[go_sem,hv]
 congr 3
 rw[TQ,br,br]
 exact⟨fun e=>by rw[e],fun q=>by cases q; rfl⟩
set_option maxHeartbeats 4000000 in
theorem r318 (t u:Nat) (l m:List Mem) (hl:l.length<=2^63 - 1) (_hm:m.length<=2^63 - 1) (vl:∀r∈l,r.ok) (vm:∀r∈m,r.ok):res A ay 318 [.ai t (l.map Mem.c),.ai u (m.map Mem.c),.func 319 []]=some [.bool (eqv l m)]:=by
 refine aq a318 rfl rfl ?_
 simp only[F318,EL]
 simp(disch:=omega)only[go_sem]
 refine Br.aB (fun h=>?_) (fun h=>?_)<;>simp(disch:=omega)only[go_sem]
 .refine W.find (l.zip m) (fun q=>!eqv q.1 q.2) (fun k=>⟨[(1,.pv (.ai u (m.map Mem.c))),(2,.pv (.func 319 [])),(15,.pv (.ai t (l.map Mem.c))),(16,.pv (.int .i64 l.length)),(17,.pv (.int .i64 k))],⟨[],[],[]⟩⟩) rfl (fun k q hq hk hfd=>?_) (fun hn=>?_)
  .obtain⟨h1,h2⟩:=dq hq
   rw[bF (by omega)]at hk
   have hc:=r319 q.1 q.2 (vl q.1 (Tf h1)) (vm q.2 (Tf h2))
   unfold Mem.c at hc
   simp(disch:=omega)only[go_sem]
   refine Br.aB (fun c=>?_) (fun c=>(c (by omega)).elim)
   simp(disch:=omega)only[go_sem,h1,h2,Mem.c,hc]
   refine Br.of (fun g=>?_) (fun g=>?_)<;>simp(disch:=omega)only[go_sem]
   .exact aN.of (by rw[g]; rfl) rfl
   .rw[(hfd (by rw[g]; rfl)).ne]
  .have hz:(l.zip m).length=l.length:=bF (by omega)
   rw[hz]
   simp(disch:=omega)only[go_sem]
   rw[hn.eq (by omega),dJ]
 .rw[dE (fun e=>h (by rw[e]))]
set_option maxHeartbeats 8000000 in
theorem r297 (x y:aD) (hx:x.ok) (hy:y.ok):res A ay 297 [.agg x.c,.agg y.c]=some [.bool (eqv x y)]:=by
 obtain⟨_,⟨lx1,lx2⟩,_,lx3⟩:=hx
 obtain⟨_,⟨ly1,ly2⟩,_,ly3⟩:=hy
 unfold bT at *
 have hs:=fun t u=>r317 t u x.syms y.syms (by omega) (by omega)
 have hm:=fun t u=>r318 t u x.aS y.aS (by omega) (by omega) lx3 ly3
 obtain⟨a1,a2,a3,a4,a5,a6,a7,a8,a9,a10⟩:=x
 obtain⟨b1,b2,b3,b4,b5,b6,b7,b8,b9,b10⟩:=y
 unfold aD.c
 dsimp only at *
 have no:∀{p q:aD},p≠q->(some [PV.bool false]:Option (List PV))=some [PV.bool (eqv p q)]:=fun h=>by rw[dE h]
 refine aq a297 rfl rfl ?_
 simp only[F297,HV]
 simp(disch:=omega)only[go_sem]
 refine Br.aB (fun e=>?_) (fun e=>?_)<;>simp(disch:=omega)only[go_sem,e]
 rotate_left
 .exact no (fun q=>e (by cases q; rfl))
 subst e
 refine Br.aB (fun e=>?_) (fun e=>?_)<;>simp(disch:=omega)only[go_sem,e]
 rotate_left
 .exact no (fun q=>e (by cases q; rfl))
 subst e
 refine Br.aB (fun e=>?_) (fun e=>?_)<;>simp(disch:=omega)only[go_sem,e]
 rotate_left
 .exact no (fun q=>e (by cases q; rfl))
 subst e
 refine Br.aB (fun e=>?_) (fun e=>?_)<;>simp(disch:=omega)only[go_sem,e]
 rotate_left
 .exact no (fun q=>e (by cases q; rfl))
 subst e
 refine Br.aB (fun e=>?_) (fun e=>?_)<;>simp(disch:=omega)only[go_sem,e]
 rotate_left
 .exact no (fun q=>e (by cases q; rfl))
 subst e
 refine Br.aB (fun e=>?_) (fun e=>?_)<;>simp(disch:=omega)only[go_sem,e]
 rotate_left
 .exact no (fun q=>e (by cases q; rfl))
 subst e
 refine Br.aB (fun e=>?_) (fun e=>?_)<;>simp(disch:=omega)only[go_sem,e]
 rotate_left
 .exact no (fun q=>e (by cases q; rfl))
 subst e
 refine Br.aB (fun e=>?_) (fun e=>?_)<;>simp(disch:=omega)only[go_sem,e]
 rotate_left
 .exact no (fun q=>e (by cases q; rfl))
 subst e
 simp(disch:=omega)only[go_sem,hs]
 refine Br.of (fun e=>?_) (fun e=>?_)<;>simp(disch:=omega)only[go_sem,e]
 rotate_left
 .exact no (fun q=>gq.1 e (by cases q; rfl))
 have e:=br.1 e
 subst e
 simp(disch:=omega)only[go_sem,hm]
 congr 3
 rw[TQ,br,br]
 exact⟨fun e=>by rw[e],fun q=>by cases q; rfl⟩
set_option maxHeartbeats 8000000 in
theorem r295 (x y:aD) (hx:x.ok) (hy:y.ok):res A ay 295 [.agg x.c,.agg y.c]=some [.bool (eqv x y)]:=by
 obtain⟨_,⟨lx1,lx2⟩,_,lx3⟩:=hx
 obtain⟨_,⟨ly1,ly2⟩,_,ly3⟩:=hy
 unfold bT at *
 obtain⟨a1,a2,a3,a4,a5,a6,a7,a8,a9,a10⟩:=x
 obtain⟨b1,b2,b3,b4,b5,b6,b7,b8,b9,b10⟩:=y
 unfold aD.c
 dsimp only at *
 have no:∀{p q:aD},p≠q->(some [PV.bool false]:Option (List PV))=some [PV.bool (eqv p q)]:=fun h=>by rw[dE h]
 refine aq a295 rfl rfl ?_
 simp only[F295,HU]
 simp(disch:=omega)only[go_sem]
 refine Br.aB (fun e=>?_) (fun e=>?_)<;>simp(disch:=omega)only[go_sem,e]
 rotate_left
 .exact no (fun q=>e (by cases q; rfl))
 subst e
 refine Br.aB (fun e=>?_) (fun e=>?_)<;>simp(disch:=omega)only[go_sem,e]
 rotate_left
 .exact no (fun q=>e (by cases q; rfl))
 subst e
 refine Br.aB (fun e=>?_) (fun e=>?_)<;>simp(disch:=omega)only[go_sem,e]
 rotate_left
 .exact no (fun q=>e (by cases q; rfl))
 subst e
 refine Br.aB (fun e=>?_) (fun e=>?_)<;>simp(disch:=omega)only[go_sem,e]
 rotate_left
 .exact no (fun q=>e (by cases q; rfl))
 subst e
 refine Br.aB (fun e=>?_) (fun e=>?_)<;>simp(disch:=omega)only[go_sem,e]
 rotate_left
 .exact no (fun q=>e (by cases q; rfl))
 subst e
 refine Br.aB (fun e=>?_) (fun e=>?_)<;>simp(disch:=omega)only[go_sem,e]
 rotate_left
 .exact no (fun q=>e (by cases q; rfl))
 subst e
 refine Br.aB (fun e=>?_) (fun e=>?_)<;>simp(disch:=omega)only[go_sem,e]
 rotate_left
 .exact no (fun q=>e (by cases q; rfl))
 subst e
 refine Br.aB (fun e=>?_) (fun e=>?_)<;>simp(disch:=omega)only[go_sem,e]
 rotate_left
 .exact no (fun q=>e (by cases q; rfl))
 subst e
 refine Br.aB (fun e=>?_) (fun e=>?_)<;>simp(disch:=omega)only[go_sem,e]
 rotate_left
 .exact no (fun q=>e (by cases q; rfl))
 refine Br.aB (fun e2=>?_) (fun e2=>?_)<;>simp(disch:=omega)only[go_sem,e2]
 rotate_left
 .exact no (fun q=>e2 (by cases q; rfl))
 refine W.find (a6.zip b6) (fun q=>!eqv q.1 q.2) (fun k=>⟨[(2,.ptr 2 0),(3,.ptr 3 0),(5,.pv (.int .i64 k))],⟨[(2,[.pv (.int .i64 a1),.pv (.str a2),.pv (.int .i64 a3),.pv (.int .i64 a4),.pv (.int .i64 a5),.pv (.ai 0 (a6.map Sym.c)),.pv (.ai 0 (a7.map Mem.c)),.pv (.int .i64 a8),.pv (.int .i64 a9),.pv (.bool a10)]),(3,[.pv (.int .i64 a1),.pv (.str a2),.pv (.int .i64 a3),.pv (.int .i64 a4),.pv (.int .i64 a5),.pv (.ai 0 (b6.map Sym.c)),.pv (.ai 0 (b7.map Mem.c)),.pv (.int .i64 a8),.pv (.int .i64 a9),.pv (.bool a10)])],[],[]⟩⟩) rfl (fun k q hq hk hfd=>?_) (fun hn=>?_)
 .obtain⟨h1,h2⟩:=dq hq
  rw[bF (by omega)]at hk
  simp(disch:=omega)only[go_sem]
  refine Br.aB (fun c=>?_) (fun c=>(c (by omega)).elim)
  simp(disch:=omega)only[go_sem,h1,h2,Sym.c]
  rw[<- zr]
  refine Br.of (fun g=>?_) (fun g=>?_)<;>simp(disch:=omega)only[go_sem]
  .exact aN.of (by rw[g]; rfl) rfl
  .exact no (fun q=>gq.1 (hfd (by rw[g]; rfl)).ne (by cases q; rfl))
 .have hz:(a6.zip b6).length=a6.length:=bF (by omega)
  rw[hz]
  have e:=hn.eq (by omega)
  subst e
  simp(disch:=omega)only[go_sem]
  refine W.find (a7.zip b7) (fun q=>!eqv q.1 q.2) (fun k=>⟨[(2,.ptr 2 0),(3,.ptr 3 0),(6,.pv (.int .i64 k))],⟨[(2,[.pv (.int .i64 a1),.pv (.str a2),.pv (.int .i64 a3),.pv (.int .i64 a4),.pv (.int .i64 a5),.pv (.ai 0 (a6.map Sym.c)),.pv (.ai 0 (a7.map Mem.c)),.pv (.int .i64 a8),.pv (.int .i64 a9),.pv (.bool a10)]),(3,[.pv (.int .i64 a1),.pv (.str a2),.pv (.int .i64 a3),.pv (.int .i64 a4),.pv (.int .i64 a5),.pv (.ai 0 (a6.map Sym.c)),.pv (.ai 0 (b7.map Mem.c)),.pv (.int .i64 a8),.pv (.int .i64 a9),.pv (.bool a10)])],[],[]⟩⟩) rfl (fun k q hq hk hfd=>?_) (fun hn=>?_)
  .obtain⟨h1,h2⟩:=dq hq
   rw[bF (by omega)]at hk
   have hc:=r316 q.1 q.2 (lx3 q.1 (Tf h1)) (ly3 q.2 (Tf h2))
   unfold Mem.c at hc
   simp(disch:=omega)only[go_sem]
   refine Br.aB (fun c=>?_) (fun c=>(c (by omega)).elim)
   simp(disch:=omega)only[go_sem,h1,h2,Mem.c,hc]
   refine Br.of (fun g=>?_) (fun g=>?_)<;>simp(disch:=omega)only[go_sem]
   .exact aN.of (by rw[g]; rfl) rfl
   .exact no (fun q=>gq.1 (hfd (by rw[g]; rfl)).ne (by cases q; rfl))
  .have hz:(a7.zip b7).length=a7.length:=bF (by omega)
   rw[hz]
   have e:=hn.eq (by omega)
   subst e
   simp(disch:=omega)only[go_sem]
   rw[dJ]
def bl {α:Type} (p:α->Bool) (l:List α):Int:=match l.findIdx? p with
 |some k=>(k:Int)
 |none=> -1
theorem Found.bl {α:Type} {l:List α} {p:α->Bool} {k:Nat} {x:α} (h:Found l p k x):Pv.bl p l=k:=by
 unfold Pv.bl
 rw[h.idx]
theorem gK.bl {α:Type} {l:List α} {p:α->Bool} (h:gK l p):Pv.bl p l= -1:=by
 unfold Pv.bl
 rw[h.idx]
def pW (i:Int) (m:Mem):Bool:=decide (m.id=i)
def sI (i:Int) (m:Sym):Bool:=decide (m.id=i)
@[go_sem] theorem r305 (m:Mem) (u:Nat) (i:Int) (cs:List PV):res A ay 305 [.agg m.c,.ro u (.int .i64 i::cs)]=some [.bool (pW i m)]:=by
 refine aq a305 rfl rfl ?_
 simp only[F305,HX]
 simp(disch:=omega)only[go_sem,Mem.c]
 rfl
@[go_sem] theorem r395 (m:Sym) (u:Nat) (i:Int) (cs:List PV):res A ay 395 [.agg m.c,.ro u (.int .i64 i::cs)]=some [.bool (sI i m)]:=by
 refine aq a395 rfl rfl ?_
 simp only[F395,Is]
 simp(disch:=omega)only[go_sem,Sym.c]
 rfl
theorem r304 (t u:Nat) (i:Int) (cs:List PV) (l:List Mem) (hl:l.length<=2^63 - 1):res A ay 304 [.ai t (l.map Mem.c),.func 305 [.ro u (.int .i64 i::cs)]]=some [.int .i64 (bl (pW i) l)]:=by
 refine aq a304 rfl rfl ?_
 simp only[F304,HW]
 simp(disch:=omega)only[go_sem]
 refine W.find l (pW i) (fun k=>⟨[(0,.pv (.ai t (l.map Mem.c))),(1,.pv (.func 305 [.ro u (.int .i64 i::cs)])),(7,.pv (.int .i64 l.length)),(8,.pv (.int .i64 k))],⟨[],[],[]⟩⟩) rfl (fun k x hx hk hfd=>?_) (fun hn=>?_)
 .have hfx:=r305 x u i cs
  have hl13:x.c.length=13:=rfl
  have hmap:(x.c.map V.pv).take 13=x.c.map .pv:=rfl
  simp(disch:=omega)only[go_sem]
  refine Br.aB (fun h=>?_) (fun h=>(h (by omega)).elim)
  unfold Mem.c at hfx
  simp(disch:=omega)only[go_sem,hx,Mem.c,hfx]
  refine Br.of (fun h2=>?_) (fun h2=>?_)<;>simp(disch:=omega)only[go_sem]
  .rw[(hfd h2).bl]
  .exact aN.of h2 rfl
 .simp(disch:=omega)only[go_sem]
  rw[hn.bl]
theorem r394 (t u:Nat) (i:Int) (cs:List PV) (l:List Sym) (hl:l.length<=2^63 - 1):res A ay 394 [.ai t (l.map Sym.c),.func 395 [.ro u (.int .i64 i::cs)]]=some [.int .i64 (bl (sI i) l)]:=by
 refine aq a394 rfl rfl ?_
 simp only[F394,Ir]
 simp(disch:=omega)only[go_sem]
 refine W.find l (sI i) (fun k=>⟨[(0,.pv (.ai t (l.map Sym.c))),(1,.pv (.func 395 [.ro u (.int .i64 i::cs)])),(7,.pv (.int .i64 l.length)),(8,.pv (.int .i64 k))],⟨[],[],[]⟩⟩) rfl (fun k x hx hk hfd=>?_) (fun hn=>?_)
 .have hfx:=r395 x u i cs
  simp(disch:=omega)only[go_sem]
  refine Br.aB (fun h=>?_) (fun h=>(h (by omega)).elim)
  unfold Sym.c at hfx
  simp(disch:=omega)only[go_sem,hx,Sym.c,hfx]
  refine Br.of (fun h2=>?_) (fun h2=>?_)<;>simp(disch:=omega)only[go_sem]
  .rw[(hfd h2).bl]
  .exact aN.of h2 rfl
 .simp(disch:=omega)only[go_sem]
  rw[hn.bl]
theorem r281 (t:aD) (i:Int) (h:t.aS.length<=2^63 - 1):res A ay 281 [.agg t.c,.int .i64 i]=some [.int .i64 (max (bl (pW i) t.aS) 0),.bool (decide (0<=bl (pW i) t.aS))]:=by
 refine aq a281 rfl rfl ?_
 simp only[F281,HL]
 unfold aD.c
 have h304:=fun u=>r304 0 u i [] t.aS h
 simp(disch:=omega)only[go_sem,h304]
theorem r392 (t:aD) (i:Int) (h:t.syms.length<=2^63 - 1):res A ay 392 [.agg t.c,.int .i64 i]=some [.int .i64 (max (bl (sI i) t.syms) 0),.bool (decide (0<=bl (sI i) t.syms))]:=by
 refine aq a392 rfl rfl ?_
 simp only[F392,Ip]
 unfold aD.c
 have h394:=fun u=>r394 0 u i [] t.syms h
 simp(disch:=omega)only[go_sem,h394]
theorem r391 (t:aD) (i:Int) (h:t.aS.length<=2^63 - 1):res A ay 391 [.agg t.c,.int .i64 i]=some [.int .i64 (max (bl (pW i) t.aS) 0),.bool (decide (0<=bl (pW i) t.aS))]:=by
 refine aq a391 rfl rfl ?_
 simp only[F391,Io]
 unfold aD.c
 simp(disch:=omega)only[go_sem]
 refine W.find t.aS (pW i) (fun k=>⟨[(1,.pv (.int .i64 i)),(2,.ptr 2 0),(6,.pv (.int .i64 k))],⟨[(2,t.c.map .pv)],[],[]⟩⟩) rfl (fun k x hx hk hfd=>?_) (fun hn=>?_)
 .unfold aD.c
  simp(disch:=omega)only[go_sem,List.map_cons,List.map_nil]
  refine Br.aB (fun h=>?_) (fun h=>(h (by omega)).elim)
  simp(disch:=omega)only[go_sem,hx,Mem.c]
  have hpx:decide (x.id=i)=pW i x:=rfl
  rw[hpx]
  refine Br.of (fun g=>?_) (fun g=>?_)<;>simp(disch:=omega)only[go_sem]
  .rw[(hfd g).bl]
   have h1:max (k:Int) 0=k:=by omega
   have h2:(0:Int)<=k:=by omega
   simp[h1,h2]
  .exact aN.of g rfl
 .unfold aD.c
  simp(disch:=omega)only[go_sem,List.map_cons,List.map_nil]
  rw[hn.bl]
  rfl
theorem r393 (t:aD) (i:Int) (h:t.syms.length<=2^63 - 1):res A ay 393 [.agg t.c,.int .i64 i]=some [.int .i64 (max (bl (sI i) t.syms) 0),.bool (decide (0<=bl (sI i) t.syms))]:=by
 refine aq a393 rfl rfl ?_
 simp only[F393,Iq]
 unfold aD.c
 simp(disch:=omega)only[go_sem]
 refine W.find t.syms (sI i) (fun k=>⟨[(1,.pv (.int .i64 i)),(2,.ptr 2 0),(6,.pv (.int .i64 k))],⟨[(2,t.c.map .pv)],[],[]⟩⟩) rfl (fun k x hx hk hfd=>?_) (fun hn=>?_)
 .unfold aD.c
  simp(disch:=omega)only[go_sem,List.map_cons,List.map_nil]
  refine Br.aB (fun h=>?_) (fun h=>(h (by omega)).elim)
  simp(disch:=omega)only[go_sem,hx,Sym.c]
  have hpx:decide (x.id=i)=sI i x:=rfl
  rw[hpx]
  refine Br.of (fun g=>?_) (fun g=>?_)<;>simp(disch:=omega)only[go_sem]
  .rw[(hfd g).bl]
   have h1:max (k:Int) 0=k:=by omega
   have h2:(0:Int)<=k:=by omega
   simp[h1,h2]
  .exact aN.of g rfl
 .unfold aD.c
  simp(disch:=omega)only[go_sem,List.map_cons,List.map_nil]
  rw[hn.bl]
  rfl
theorem r286 (k:Int):res A ay 286 [.int .i64 k]=some [.bool (decide (4<=k)&&decide (k<=6))]:=by
 refine aq a286 rfl rfl ?_
 simp only[F286,HQ]
 simp(disch:=omega)only[go_sem]
 have hk:(decide (4<=k)&&decide (k<=6))=decide (k=4\/k=5\/k=6):=by
  rw[TQ]
  simp only[Bool.and_eq_true,decide_eq_true_eq]
  omega
 rw[hk]
 refine Br.aB (fun h1=>?_) (fun h1=>?_)
 .have:decide (k=4\/k=5\/k=6)=true:=by simp[h1]
  rw[this]
  simp(disch:=omega)only[go_sem,h1]
 .by_cases h2:k=5
  .have:decide (k=4\/k=5\/k=6)=true:=by simp[h2]
   rw[this]
   simp(disch:=omega)only[go_sem,h2]
  .have:decide (k=4\/k=5\/k=6)=decide (k=6):=by simp[h1,h2]
   rw[this]
   simp(disch:=omega)only[go_sem,h1]
   refine Br.aB (fun h3=>(h2 h3).elim) (fun h3=>?_)
   simp(disch:=omega)only[go_sem,h3]
def dS:aD:=⟨0,⟨#[]⟩,0,0,0,[],[],0,0,false⟩
def ez (t:aD):aD:=
 if t.kind=1 then { dS with kind:=1 }
 else if t.kind=2 then { dS with kind:=2,low:=t.low,high:=t.high }
 else if t.kind=3 then { dS with kind:=3,max:=t.max }
 else if t.kind=4 then { dS with kind:=4,name:=t.name,syms:=t.syms,lL:=t.lL }
 else if t.kind=5 then { dS with kind:=5,name:=t.name,aS:=t.aS }
 else if t.kind=6 then { dS with kind:=6,name:=t.name,aS:=t.aS,lL:=t.lL }
 else if t.kind=7 then { dS with kind:=7,max:=t.max,elem:=t.elem }
 else if t.kind=8 then { dS with kind:=8,max:=t.max,key:=t.key,elem:=t.elem }
 else { dS with kind:=t.kind,elem:=t.elem }
theorem rC (k:Int):k=1\/k=2\/k=3\/k=4\/k=5\/k=6\/k=7\/k=8\/(k≠1/\k≠2/\k≠3/\k≠4/\k≠5/\k≠6/\k≠7/\k≠8):=by omega
theorem rD:dS.ok:=by
 refine⟨?_,?_,fun s hs=>(List.not_mem_nil hs).elim,fun s hs=>(List.not_mem_nil hs).elim⟩<;>simp[dS,fT,bh,bT]
 exact Uv _
theorem AI {t:aD} (h:t.ok):(ez t).ok:=by
 obtain⟨⟨h0,h1,h2,h3,h4,h5,h6⟩,⟨h7,h8⟩,h9,h10⟩:=h
 obtain⟨⟨z0,z1,z2,z3,z4,z5,z6⟩,⟨z7,z8⟩,z9,z10⟩:=rD
 have kk:fT 1/\fT 2/\fT 3/\fT 4/\fT 5/\fT 6/\fT 7/\fT 8:=by simp[fT]
 obtain⟨k1,k2,k3,k4,k5,k6,k7,k8⟩:=kk
 unfold ez
 repeat' split
 all_goals exact⟨⟨by assumption,by assumption,by assumption,by assumption,by assumption,by assumption,by assumption⟩,⟨by assumption,by assumption⟩,by assumption,by assumption⟩
set_option maxHeartbeats 4000000 in
theorem r309 (t:aD):res A ay 309 [.agg t.c]=some [.agg (ez t).c]:=by
 obtain⟨k,a2,a3,a4,a5,a6,a7,a8,a9,a10⟩:=t
 refine aq a309 rfl rfl ?_
 simp only[F309,H2]
 unfold ez aD.c dS
 dsimp only
 rcases rC k with rfl|rfl|rfl|rfl|rfl|rfl|rfl|rfl|⟨n1,n2,n3,n4,n5,n6,n7,n8⟩
 all_goals simp(disch:=omega)only[go_sem, *]
 all_goals simp
noncomputable def kindOk (t:aD):Bool:=
 if t.kind=2 then decide (t.low<=t.high)
 else if t.kind=3 then decide (0<=t.max)&&decide (t.max<=200)
 else if t.kind=4 then jS t.syms
 else if t.kind=5 then ec true t.aS
 else if t.kind=6 then ec false t.aS
 else if t.kind=7 then decide (0<=t.max)&&decide (t.max<=50)
 else if t.kind=8 then decide (0<=t.max)&&decide (t.max<=50)
 else true
noncomputable def eV (t:aD):Bool:=(decide (1<=t.kind)&&decide (t.kind<=9))&&(eqv t (ez t)&&((!(decide (4<=t.kind)&&decide (t.kind<=6))||isName t.name)&&kindOk t))
structure aD.short (t:aD):Prop where
 syms:t.syms.length<=1048576
 aS:t.aS.length<=1048576
set_option maxHeartbeats 4000000 in
theorem r285 (t : aD) (ht : t.ok) (hs : t.short) : res A ay 285 [.agg t.c] = some [.bool (eV t)] := by
  have h309 := r309 t
  have h295 := r295 t (ez t) ht (AI ht)
  obtain ⟨⟨o0,o1,_⟩,⟨_,_⟩,oS,oM⟩ := ht
  have h310 := r310 t.name o1
  have h286 := r286 t.kind
  have h311 := fun u => r311 u t.syms (by have := hs.syms; omega) (fun p hp => (oS p hp).2)
  have h312 := fun u b => r312 u t.aS b (by have := hs.aS; omega) oM
  unfold eV
  generalize eqv t (ez t) = e at h295
  generalize ez t = p at h295 h309
  have hnm : ∀ b,e = false -> (some [PV.bool false] : Option (List PV)) = some [PV.bool (b && (e && ((!(decide (4 <= t.kind) && decide (t.kind <= 6)) || isName t.name) && kindOk t)))] := fun b h => by
    rw [h,T1,Um]
  unfold aD.c at *
  refine aq a285 rfl rfl ?_
  simp only [F285,HP]
  simp (disch := omega) only [go_sem]
  refine Br.aB (fun c1 => ?_) (fun c1 => ?_) <;> simp (disch := omega) only [go_sem,c1]
  . have : ¬ 1 <= t.kind := by omega
    simp [this]
  refine Br.aB (fun c2 => ?_) (fun c2 => ?_) <;> simp (disch := omega) only [go_sem,c2]
  . have : ¬ t.kind <= 9 := by omega
    simp [this]
  have k1 : decide (1 <= t.kind) = true := by simp; omega
  have k2 : decide (t.kind <= 9) = true := by simp; omega
  rw [k1,k2]
  simp (disch := omega) only [go_sem,h309,h295]
  refine Br.of (fun c3 => ?_) (fun c3 => ?_) <;> simp (disch := omega) only [go_sem,c3,h286]
  subst c3
  unfold kindOk
  by_cases hn : 4 <= t.kind /\ t.kind <= 6
  . have c4 : (decide (4 <= t.kind) && decide (t.kind <= 6)) = true := by simp [hn]
    rw [c4]
    simp (disch := omega) only [go_sem,h310]
    refine Br.of (fun c5 => ?_) (fun c5 => ?_) <;> simp (disch := omega) only [go_sem,c5]
    have hk : t.kind = 4 \/ t.kind = 5 \/ t.kind = 6 := by omega
    rcases hk with hk | hk | hk
    all_goals simp (disch := omega) only [go_sem,hk,h311,h312]
    all_goals simp [c5]
  . have c4 : (decide (4 <= t.kind) && decide (t.kind <= 6)) = false := by
      rw [Us]
      simp
      omega
    rw [c4]
    simp (disch := omega) only [go_sem]
    have hk : t.kind = 1 \/ t.kind = 2 \/ t.kind = 3 \/ t.kind = 7 \/ t.kind = 8 \/ t.kind = 9 := by omega
    rcases hk with hk | hk | hk | hk | hk | hk
    all_goals simp (disch := omega) only [go_sem,hk]
    all_goals first
      | (simp [hk]
         done)
      | (refine Br.aB (fun c6 => ?_) (fun c6 => ?_) <;> simp (disch := omega) only [go_sem,c6]
         all_goals simp [hk])
set_option maxHeartbeats 8000000 in
theorem r283 (t:aD) (ht:t.ok) (hs:t.short):res A ay 283 [.agg t.c]=some [.bool (eV t)]:=by
 have h297:=fun z hz=>r297 z dS hz rD
 have h308:=r308 t ht (by have:=hs.aS; omega)
 have ht':=ht
 obtain⟨⟨o0,o1,o2,o3,o4,o5,o6⟩,⟨l1,l2⟩,oS,oM⟩:=ht
 have h306:=r306 t.name o1
 have h307:=fun u=>r307 u t.syms (by have:=hs.syms; omega) (fun p hp=>(oS p hp).2)
 obtain⟨k,a2,a3,a4,a5,a6,a7,a8,a9,a10⟩:=t
 unfold eV ez kindOk
 unfold dS aD.c at *
 dsimp only at *
 refine aq a283 rfl rfl ?_
 simp only[F283,HN]
 simp(disch:=omega)only[go_sem]
 have no:∀{z:Bool},z=false->(some [PV.bool false]:Option (List PV))=some [PV.bool z]:=fun h=>by rw[h]
 have ze:∀{x y z p:aD},(x=y↔z=p)->eqv x y=eqv z p:=fun {x y z p} h=>by
  rw[TQ,br,br]
  exact h
 have okz:∀(k:Int) (a2:ByteArray) (a3 a4 a5:Int) (a6:List Sym) (a7:List Mem) (a8 a9:Int) (a10:Bool),fT k->bh a2->fT a3->fT a4->fT a5->bT a6->bT a7->(∀s∈a6,s.ok)->(∀m∈a7,m.ok)->fT a8->fT a9->(⟨k,a2,a3,a4,a5,a6,a7,a8,a9,a10⟩:aD).ok:=
  fun k a2 a3 a4 a5 a6 a7 a8 a9 a10 h1 h2 h3 h4 h5 h6 h7 h8 h9 h10 h11=>⟨⟨h1,h2,h3,h4,h5,h10,h11⟩,⟨h6,h7⟩,h8,h9⟩
 have i0:fT 0:=by simp[fT]
 have s0:bh ⟨#[]⟩:=by simp[bh]; exact Nat.zero_le _
 have y0:bT ([]:List Sym):=by simp[bT]
 have m0:bT ([]:List Mem):=by simp[bT]
 have y1:∀s∈([]:List Sym),s.ok:=fun s hs=>(US hs).elim
 have m1:∀s∈([]:List Mem),s.ok:=fun s hs=>(US hs).elim
 rcases rC k with rfl|rfl|rfl|rfl|rfl|rfl|rfl|rfl|⟨n1,n2,n3,n4,n5,n6,n7,n8⟩
 .have hz:=h297 ⟨0,a2,a3,a4,a5,a6,a7,a8,a9,a10⟩ (okz _ _ _ _ _ _ _ _ _ _ i0 o1 o2 o3 o4 l1 l2 oS oM o5 o6)
  simp only[List.map_nil]at hz
  simp(disch:=omega)only[go_sem,hz]
  rw[ze (z:=⟨1,a2,a3,a4,a5,a6,a7,a8,a9,a10⟩) (p:=⟨1,⟨#[]⟩,0,0,0,[],[],0,0,false⟩) (by simp)]
 .have hz:=h297 ⟨0,a2,0,0,a5,a6,a7,a8,a9,a10⟩ (okz _ _ _ _ _ _ _ _ _ _ i0 o1 i0 i0 o4 l1 l2 oS oM o5 o6)
  simp only[List.map_nil]at hz
  simp(disch:=omega)only[go_sem]
  refine Br.aB (fun c=>?_) (fun c=>?_)<;>simp(disch:=omega)only[go_sem,c,hz]
  .rw[ze (z:=⟨2,a2,a3,a4,a5,a6,a7,a8,a9,a10⟩) (p:=⟨2,⟨#[]⟩,a3,a4,0,[],[],0,0,false⟩) (by simp)]
 .have hz:=h297 ⟨0,a2,a3,a4,0,a6,a7,a8,a9,a10⟩ (okz _ _ _ _ _ _ _ _ _ _ i0 o1 o2 o3 i0 l1 l2 oS oM o5 o6)
  simp only[List.map_nil]at hz
  simp(disch:=omega)only[go_sem]
  refine Br.aB (fun c=>?_) (fun c=>?_)<;>simp(disch:=omega)only[go_sem,c]
  .refine Br.aB (fun c2=>?_) (fun c2=>?_)<;>simp(disch:=omega)only[go_sem,c2,hz]
   .rw[ze (z:=⟨3,a2,a3,a4,a5,a6,a7,a8,a9,a10⟩) (p:=⟨3,⟨#[]⟩,0,0,a5,[],[],0,0,false⟩) (by simp)]
    simp[c]
 .have hz:=h297 ⟨0,⟨#[]⟩,a3,a4,a5,[],a7,a8,a9,false⟩ (okz _ _ _ _ _ _ _ _ _ _ i0 s0 o2 o3 o4 y0 l2 y1 oM o5 o6)
  simp only[List.map_nil]at hz
  simp(disch:=omega)only[go_sem,h306]
  refine Br.of (fun c=>?_) (fun c=>?_)<;>simp(disch:=omega)only[go_sem,c,h307]
  .refine Br.of (fun c2=>?_) (fun c2=>?_)<;>simp(disch:=omega)only[go_sem,c2,hz]
   .rw[ze (z:=⟨4,a2,a3,a4,a5,a6,a7,a8,a9,a10⟩) (p:=⟨4,a2,0,0,0,a6,[],0,0,a10⟩) (by simp)]
    simp[c]
 .have hz:=h297 ⟨0,⟨#[]⟩,a3,a4,a5,a6,[],a8,a9,a10⟩ (okz _ _ _ _ _ _ _ _ _ _ i0 s0 o2 o3 o4 l1 m0 oS m1 o5 o6)
  simp only[List.map_nil]at hz
  have h308:=h308 (by simp)
  simp(disch:=omega)only[go_sem,h306]
  refine Br.of (fun c=>?_) (fun c=>?_)<;>simp(disch:=omega)only[go_sem,c,h308]
  .cases a10 with
   |false=>
    simp(disch:=omega)only[go_sem]
    refine Br.of (fun c2=>?_) (fun c2=>?_)<;>simp(disch:=omega)only[go_sem,c2,hz]
    rw[ze (z:=⟨5,a2,a3,a4,a5,a6,a7,a8,a9,false⟩) (p:=⟨5,a2,0,0,0,[],a7,0,0,false⟩) (by simp)]
    have c2':ec true a7=true:=by simpa using c2
    simp[c]
   |true=>
    simp(disch:=omega)only[go_sem]
    refine Br.of (fun c2=>?_) (fun c2=>?_)<;>simp(disch:=omega)only[go_sem,c2,hz]
    rw[ze (z:=⟨5,a2,a3,a4,a5,a6,a7,a8,a9,true⟩) (p:=⟨5,a2,0,0,0,[],a7,0,0,false⟩) (by simp)]
    have c2':ec true a7=true:=by simpa using c2
    simp[c]
  .cases a10<;>simp(disch:=omega)only[go_sem]<;>exact no (by simp[c])
 .have hz:=h297 ⟨0,⟨#[]⟩,a3,a4,a5,a6,[],a8,a9,false⟩ (okz _ _ _ _ _ _ _ _ _ _ i0 s0 o2 o3 o4 l1 m0 oS m1 o5 o6)
  simp only[List.map_nil]at hz
  have h308:=h308 (by simp)
  simp(disch:=omega)only[go_sem,h306]
  refine Br.of (fun c=>?_) (fun c=>?_)<;>simp(disch:=omega)only[go_sem,c,h308]
  .cases a10 with
   |false=>
    simp(disch:=omega)only[go_sem]
    refine Br.of (fun c2=>?_) (fun c2=>?_)<;>simp(disch:=omega)only[go_sem,c2,hz]
    rw[ze (z:=⟨6,a2,a3,a4,a5,a6,a7,a8,a9,false⟩) (p:=⟨6,a2,0,0,0,[],a7,0,0,false⟩) (by simp)]
    have c2':ec false a7=true:=by simpa using c2
    simp[c]
   |true=>
    simp(disch:=omega)only[go_sem]
    refine Br.of (fun c2=>?_) (fun c2=>?_)<;>simp(disch:=omega)only[go_sem,c2,hz]
    rw[ze (z:=⟨6,a2,a3,a4,a5,a6,a7,a8,a9,true⟩) (p:=⟨6,a2,0,0,0,[],a7,0,0,true⟩) (by simp)]
    have c2':ec false a7=true:=by simpa using c2
    simp[c]
  .cases a10<;>simp(disch:=omega)only[go_sem]<;>exact no (by simp[c])
 .have hz:=h297 ⟨0,a2,a3,a4,0,a6,a7,a8,0,a10⟩ (okz _ _ _ _ _ _ _ _ _ _ i0 o1 o2 o3 i0 l1 l2 oS oM o5 i0)
  simp only[List.map_nil]at hz
  simp(disch:=omega)only[go_sem]
  refine Br.aB (fun c=>?_) (fun c=>?_)<;>simp(disch:=omega)only[go_sem,c]
  .refine Br.aB (fun c2=>?_) (fun c2=>?_)<;>simp(disch:=omega)only[go_sem,c2,hz]
   .rw[ze (z:=⟨7,a2,a3,a4,a5,a6,a7,a8,a9,a10⟩) (p:=⟨7,⟨#[]⟩,0,0,a5,[],[],0,a9,false⟩) (by simp)]
    simp[c]
 .have hz:=h297 ⟨0,a2,a3,a4,0,a6,a7,0,0,a10⟩ (okz _ _ _ _ _ _ _ _ _ _ i0 o1 o2 o3 i0 l1 l2 oS oM i0 i0)
  simp only[List.map_nil]at hz
  simp(disch:=omega)only[go_sem]
  refine Br.aB (fun c=>?_) (fun c=>?_)<;>simp(disch:=omega)only[go_sem,c]
  .refine Br.aB (fun c2=>?_) (fun c2=>?_)<;>simp(disch:=omega)only[go_sem,c2,hz]
   .rw[ze (z:=⟨8,a2,a3,a4,a5,a6,a7,a8,a9,a10⟩) (p:=⟨8,⟨#[]⟩,0,0,a5,[],[],a8,a9,false⟩) (by simp)]
    simp[c]
 .have hz:=h297 ⟨0,a2,a3,a4,a5,a6,a7,a8,0,a10⟩ (okz _ _ _ _ _ _ _ _ _ _ i0 o1 o2 o3 o4 l1 l2 oS oM o5 i0)
  simp only[List.map_nil]at hz
  simp(disch:=omega)only[go_sem,n1,n2,n3,n4,n5,n6,n7,n8]
  refine Br.aB (fun c=>?_) (fun c=>?_)<;>simp(disch:=omega)only[go_sem,c,hz]
  .rw[ze (z:=⟨k,a2,a3,a4,a5,a6,a7,a8,a9,a10⟩) (p:=⟨k,⟨#[]⟩,0,0,0,[],[],0,a9,false⟩) (by simp)]
   simp[c]
  .refine no ?_
   have:(decide (1<=k)&&decide (k<=9))=false:=by
    rw[Us]
    simp
    omega
   rw[this,T1]
def rE (t:aD):List Int:=if t.kind=8 then [t.key] else []
def oK (t:aD):List Int:=if 7<=t.kind then [t.elem] else []
def cY (t:aD):List Int:=t.aS.map (·.type)++rE t++oK t
set_option maxHeartbeats 2000000 in
theorem r284 (t:aD) (hs:t.short):res A ay 284 [.agg t.c]=some [.ai 0 (ints (cY t))]:=by
 have hl:=hs.aS
 obtain⟨k,a2,a3,a4,a5,a6,l,a8,a9,a10⟩:=t
 unfold cY rE oK aD.c
 dsimp only at *
 refine aq a284 rfl rfl ?_
 simp only[F284,HO]
 simp(disch:=omega)only[go_sem]
 refine W.du l.length (fun j=>⟨[(1,.ptr 1 0),(3,dR 0 (ints ((l.take j).map (·.type)))),(7,.pv (.ai 0 (l.map Mem.c))),(8,.pv (.int .i64 l.length)),(9,.pv (.int .i64 j))],⟨[(1,[.pv (.int .i64 k),.pv (.str a2),.pv (.int .i64 a3),.pv (.int .i64 a4),.pv (.int .i64 a5),.pv (.ai 0 (a6.map Sym.c)),.pv (.ai 0 (l.map Mem.c)),.pv (.int .i64 a8),.pv (.int .i64 a9),.pv (.bool a10)])],et 1 (ints ((l.take j).map (·.type))),[]⟩⟩) (fun _=>True) rfl trivial (fun j hj _=>?_)
 rcases Tm j l.length with hlt|hge
 .have hp:=Th hlt
  generalize l[j]=p at hp
  have t1:(l.take (j+1)).map (·.type)=(l.take j).map (·.type)++[p.type]:=by rw[TM,hp,TI]; rfl
  have l1:((l.take j).map (·.type)).length=j:=by simp; omega
  generalize (l.take j).map (·.type)=u at t1 l1
  simp(disch:=omega)only[go_sem]
  refine Br.aB (fun c=>?_) (fun c=>(c (by omega)).elim)
  simp(disch:=omega)only[go_sem,hp,Mem.c]
  refine .of (by omega) ?_ trivial
  rw[t1]
  rfl
 .obtain rfl:j=l.length:=by omega
  rw[T4]
  have l1:(l.map (·.type)).length=l.length:=by simp
  generalize l.map (·.type)=u at l1
  simp(disch:=omega)only[go_sem]
  refine Br.aB (fun c=>?_) (fun c=>?_)<;>simp(disch:=omega)only[go_sem,c]
  .have l2:(u++[a8]).length=l.length+1:=by simp[l1]
   have h7:7<=k:=by omega
   simp(disch:=omega)only[go_sem]
   simp[c]
  .refine Br.aB (fun c2=>?_) (fun c2=>?_)<;>simp(disch:=omega)only[go_sem,c2]
   .simp[c]
   .simp[c]
set_option maxHeartbeats 2000000 in
theorem r287 (t:aD) (hs:t.short) (h9:t.kind<=9):res A ay 287 [.agg t.c]=some [.ai 0 (ints (cY t))]:=by
 have hl:=hs.aS
 obtain⟨k,a2,a3,a4,a5,a6,l,a8,a9,a10⟩:=t
 unfold cY rE oK aD.c
 dsimp only at *
 refine aq a287 rfl rfl ?_
 simp only[F287,HS]
 simp(disch:=omega)only[go_sem]
 refine W.du l.length (fun j=>⟨[(1,.ptr 1 0),(3,dR 0 (ints ((l.take j).map (·.type)))),(4,.pv (.int .i64 j))],⟨[(1,[.pv (.int .i64 k),.pv (.str a2),.pv (.int .i64 a3),.pv (.int .i64 a4),.pv (.int .i64 a5),.pv (.ai 0 (a6.map Sym.c)),.pv (.ai 0 (l.map Mem.c)),.pv (.int .i64 a8),.pv (.int .i64 a9),.pv (.bool a10)])],et 1 (ints ((l.take j).map (·.type))),[]⟩⟩) (fun _=>True) rfl trivial (fun j hj _=>?_)
 rcases Tm j l.length with hlt|hge
 .have hp:=Th hlt
  generalize l[j]=p at hp
  have t1:(l.take (j+1)).map (·.type)=(l.take j).map (·.type)++[p.type]:=by rw[TM,hp,TI]; rfl
  have l1:((l.take j).map (·.type)).length=j:=by simp; omega
  generalize (l.take j).map (·.type)=u at t1 l1
  simp(disch:=omega)only[go_sem]
  refine Br.aB (fun c=>?_) (fun c=>(c (by omega)).elim)
  simp(disch:=omega)only[go_sem,hp,Mem.c]
  refine .of (by omega) ?_ trivial
  rw[t1]
  rfl
 .obtain rfl:j=l.length:=by omega
  rw[T4]
  have l1:(l.map (·.type)).length=l.length:=by simp
  generalize l.map (·.type)=u at l1
  have l2:(u++[a8]).length=l.length+1:=by simp[l1]
  simp(disch:=omega)only[go_sem]
  refine Br.aB (fun c=>?_) (fun c=>?_)<;>simp(disch:=omega)only[go_sem,c]
  refine Br.aB (fun c2=>?_) (fun c2=>?_)<;>simp(disch:=omega)only[go_sem,c,c2]
  refine Br.aB (fun c3=>?_) (fun c3=>?_)<;>simp(disch:=omega)only[go_sem,c3]
  have h7:¬7<=k:=by omega
  simp[c,h7]
theorem r288 (k:Int):res A ay 288 [.int .i64 k]=some [.bool (decide (1<=k)&&decide (k<=4))]:=by
 refine aq a288 rfl rfl ?_
 simp only[F288,HT]
 simp(disch:=omega)only[go_sem]
 refine Br.aB (fun c=>?_) (fun c=>?_)<;>simp(disch:=omega)only[go_sem,c]
def jT (l:List aD) (i:Int):Int:=((l[i.toNat]?).map (·.kind)).getD 0
def gM (l:List aD) (k:Nat) (t:aD):Bool:=!decide (t.name=⟨#[]⟩)&&ch ((l.take k).map (·.name)) t.name
def cX (n:Nat) (u:Int):Bool:=decide (u<0)||decide ((n:Int)<=u)
def dO (l:List aD) (t:aD):Bool:=decide (t.kind=8)&&!(decide (1<=jT l t.key)&&decide (jT l t.key<=4))
noncomputable def ee (l:List aD) (k:Nat) (t:aD):Int:=if (!eV t||gM l k t)=true then 1 else if (cY t).any (cX l.length)=true then 4 else if dO l t=true then 1 else 0
noncomputable def ep (l:List aD) (k:Nat):Int:=match l[k]? with
 |some t=>ee l k t
 |none=>0
noncomputable def rF (l:List aD) (o:Option Nat):Int:=match o with
 |some k=>ep l k
 |none=>0
noncomputable def ct (l:List aD):Int:=if 32<l.length then 3 else rF l ((List.range l.length).find? fun k=>decide (ep l k≠0))
def nq (l:List aD) (k:Nat):List ByteArray:=((l.take k).map (·.name)).foldl oH []
theorem oL:∀(m s:List ByteArray) (x:ByteArray),x∈m.foldl oH s↔x∈s\/x∈m
 |[],s,x=>by simp
 |y::m,s,x=>by
  rw[Uy,oL m (oH s y) x,CC,Tu]
  constructor
  .rintro ((h|h)|h)
   .exact .inl h
   .exact .inr (.inl h)
   .exact .inr (.inr h)
  .rintro (h|h|h)
   .exact .inl (.inl h)
   .exact .inl (.inr h)
   .exact .inr h
theorem tO (l:List aD) (k:Nat) (x:ByteArray):ch (nq l k) x=ch ((l.take k).map (·.name)) x:=by
 rw[TQ,iu,iu,nq,oL]
 simp
theorem yr {l:List aD} {k:Nat} {t:aD} (h:l[k]?=some t):oH (nq l k) t.name=nq l (k+1):=by
 unfold nq
 rw[TM,h,TI,List.foldl_append]
 rfl
theorem kL {t:aD} (h:t.kind=8):t.key∈cY t:=by simp[cY,rE,h]
set_option maxHeartbeats 4000000 in
theorem r267 (v:Nat) (l:List aD) (hl:l.length<=2147483648) (ho:∀t∈l,t.ok) (hs:∀t∈l,t.short):res A ay 267 [.agg [.ai v (l.map aD.c)]]=some [.int .i64 (ct l)]:=by
 refine aq a267 rfl rfl ?_
 simp only[F267,HJ]
 simp(disch:=omega)only[go_sem]
 refine Br.aB (fun c0=>?_) (fun c0=>?_)<;>simp(disch:=omega)only[go_sem,c0]
 .have:32<l.length:=by omega
  simp[ct,this]
 have h32:¬32<l.length:=by omega
 unfold ct
 rw[if_neg h32]
 obtain⟨G,hG⟩:∃G,rF l ((List.range l.length).find? fun k=>decide (ep l k≠0))=G:=⟨_,rfl⟩
 rw[hG]
 refine W.find (List.range l.length) (fun k=>decide (ep l k≠0)) (fun k=>⟨[(1,.ptr 1 0),(3,.map 0),(14,.pv (.ai v (l.map aD.c))),(15,.pv (.int .i64 l.length)),(16,.pv (.int .i64 k))],⟨[(1,[.pv (.ai v (l.map aD.c))])],[],[ir (nq l k)]⟩⟩) rfl (fun k x hx hk hfd=>?_) (fun hn=>?_)
 .obtain⟨rfl,hk⟩:=cI hx
  have hp:=Th hk
  generalize l[x]=p at hp
  have hm:=Tf hp
  have h283:=r283 p (ho p hm) (hs p hm)
  have h284:=r284 p (hs p hm)
  have he:ep l x=ee l x p:=by simp only[ep,hp]
  have hnx:=yr hp
  have hsn:=tO l x p.name
  have done:∀e:Int,ee l x p=e->e≠0->(some [PV.int .i64 e]:Option (List PV))=some [.int .i64 G]:=fun e h1 h2=>by
   rw[<- hG,(hfd (by rw[he,h1]; simpa using h2)).find,rF,he,h1]
  rw[he]
  have hul:(cY p).length<=1048578:=by
   have:=(hs p hm).aS
   unfold cY rE oK
   rw[TH,TH,Tl]
   split<;>split<;>simp<;>omega
  unfold aD.c at h283 h284
  simp(disch:=omega)only[go_sem]
  refine Br.aB (fun c=>?_) (fun c=>(c (by omega)).elim)
  simp(disch:=omega)only[go_sem,hp,aD.c,h283]
  refine Br.of (fun c1=>?_) (fun c1=>?_)<;>simp(disch:=omega)only[go_sem,c1]
  rotate_left
  .exact done 1 (by simp[ee,c1]) (by decide)
  have nodup:gM l x p=false->(!eV p||gM l x p)=false:=fun h=>by rw[c1,h]; rfl
  have dup:gM l x p=(!decide (p.name=⟨#[]⟩)&&ch (nq l x) p.name):=by rw[tO]; rfl
  have hown:(eV p)=true:=c1
  refine Br.aB (fun c2=>?_) (fun c2=>?_)
  .have d2:decide (p.name=⟨#[]⟩)=true:=by simp[c2]
   rw[d2]at dup
   have hd:=nodup (by rw[dup]; rfl)
   clear c2
   simp(disch:=omega)only[go_sem,d2,h284,hnx]
   refine W.find (cY p) (cX l.length) (fun j=>⟨[(1,.ptr 1 0),(3,.map 0),(5,.ptr 5 0),(14,.pv (.ai v (l.map aD.c))),(15,.pv (.int .i64 l.length)),(16,.pv (.int .i64 x)),(38,.pv (.ai 0 (ints (cY p)))),(39,.pv (.int .i64 (cY p).length)),(40,.pv (.int .i64 j))],⟨[(1,[.pv (.ai v (l.map aD.c))]),(5,[.pv (.int .i64 p.kind),.pv (.str p.name),.pv (.int .i64 p.low),.pv (.int .i64 p.high),.pv (.int .i64 p.max),.pv (.ai 0 (p.syms.map Sym.c)),.pv (.ai 0 (p.aS.map Mem.c)),.pv (.int .i64 p.key),.pv (.int .i64 p.elem),.pv (.bool p.lL)])],[],[ir (nq l (x+1))]⟩⟩) rfl (fun j u hu hj hfd2=>?_) (fun hn=>?_)
   .have d4:cX l.length u=true->ee l x p=4:=fun g=>by
     rw[ee,hd,(hfd2 g).any]
     rfl
    simp(disch:=omega)only[go_sem]
    refine Br.aB (fun c=>?_) (fun c=>(c (by omega)).elim)
    simp(disch:=omega)only[go_sem,hu]
    refine Br.aB (fun c4=>?_) (fun c4=>?_)<;>simp(disch:=omega)only[go_sem,c4]
    .exact done 4 (d4 (by simp[cX,c4])) (by decide)
    refine Br.aB (fun c5=>?_) (fun c5=>?_)<;>simp(disch:=omega)only[go_sem,c5]
    .exact done 4 (d4 (by simp[cX,c5])) (by decide)
    .exact aN.of (by simp[cX,c4,c5]) rfl
   .have he2:ee l x p=if dO l p=true then 1 else 0:=by
     rw[ee,hd,hn.any]
     rfl
    simp(disch:=omega)only[go_sem]
    refine Br.aB (fun c4=>?_) (fun c4=>?_)
    .have hku:=kL c4
     have hout:=TU.1 hn.any _ hku
     have hk0:0<=p.key/\p.key<l.length:=by
      simp[cX]at hout
      omega
     have hkk:=Th (l:=l) (i:=p.key.toNat) (by omega)
     have hka:jT l p.key=(l[p.key.toNat]'(by omega)).kind:=by rw[jT,hkk]; rfl
     generalize l[p.key.toNat]'(by omega)=q at hkk hka
     have d8:decide (p.kind=8)=true:=by simp[c4]
     have hb:dO l p=!(decide (1<=q.kind)&&decide (q.kind<=4)):=by rw[dO,d8,hka]; rfl
     have hidx:lF 10 v (l.map aD.c) (some p.key)=some (V.pv (.ro v q.c)):=by
      rw[dv _ _ _ hk0.1,To,hkk]
      rfl
     unfold aD.c at hidx
     unfold aD.c
     simp(disch:=omega)only[go_sem,d8,hidx]
     refine Br.aB (fun c6=>?_) (fun c6=>?_)<;>simp(disch:=omega)only[go_sem,c6]
     .refine done 1 ?_ (by decide)
      have:¬1<=q.kind:=by omega
      rw[he2,hb]
      simp[this]
     simp(disch:=omega)only[go_sem,hidx]
     refine Br.aB (fun c7=>?_) (fun c7=>?_)<;>simp(disch:=omega)only[go_sem,c7]
     .refine done 1 ?_ (by decide)
      have:¬q.kind<=4:=by omega
      rw[he2,hb]
      simp[this]
     .refine aN.of ?_ rfl
      have h1:1<=q.kind:=by omega
      have h2:q.kind<=4:=by omega
      rw[he2,hb]
      simp[h1,h2]
    .have d8:decide (p.kind=8)=false:=by simp[c4]
     have hb:dO l p=false:=by rw[dO,d8]; rfl
     simp(disch:=omega)only[go_sem,d8]
     refine aN.of ?_ rfl
     rw[he2,hb]
     rfl
  .have d2:decide (p.name=⟨#[]⟩)=false:=by simp[c2]
   rw[d2]at dup
   simp(disch:=omega)only[go_sem,d2]
   refine Br.of (fun c3=>?_) (fun c3=>?_)<;>simp(disch:=omega)only[go_sem,c3,h284,hnx]
   .refine done 1 ?_ (by decide)
    rw[ee,dup,c3]
    simp
   have hd:=nodup (by rw[dup,c3]; rfl)
   refine W.find (cY p) (cX l.length) (fun j=>⟨[(1,.ptr 1 0),(3,.map 0),(5,.ptr 5 0),(14,.pv (.ai v (l.map aD.c))),(15,.pv (.int .i64 l.length)),(16,.pv (.int .i64 x)),(38,.pv (.ai 0 (ints (cY p)))),(39,.pv (.int .i64 (cY p).length)),(40,.pv (.int .i64 j))],⟨[(1,[.pv (.ai v (l.map aD.c))]),(5,[.pv (.int .i64 p.kind),.pv (.str p.name),.pv (.int .i64 p.low),.pv (.int .i64 p.high),.pv (.int .i64 p.max),.pv (.ai 0 (p.syms.map Sym.c)),.pv (.ai 0 (p.aS.map Mem.c)),.pv (.int .i64 p.key),.pv (.int .i64 p.elem),.pv (.bool p.lL)])],[],[ir (nq l (x+1))]⟩⟩) rfl (fun j u hu hj hfd2=>?_) (fun hn=>?_)
   .have d4:cX l.length u=true->ee l x p=4:=fun g=>by
     rw[ee,hd,(hfd2 g).any]
     rfl
    simp(disch:=omega)only[go_sem]
    refine Br.aB (fun c=>?_) (fun c=>(c (by omega)).elim)
    simp(disch:=omega)only[go_sem,hu]
    refine Br.aB (fun c4=>?_) (fun c4=>?_)<;>simp(disch:=omega)only[go_sem,c4]
    .exact done 4 (d4 (by simp[cX,c4])) (by decide)
    refine Br.aB (fun c5=>?_) (fun c5=>?_)<;>simp(disch:=omega)only[go_sem,c5]
    .exact done 4 (d4 (by simp[cX,c5])) (by decide)
    .exact aN.of (by simp[cX,c4,c5]) rfl
   .have he2:ee l x p=if dO l p=true then 1 else 0:=by
     rw[ee,hd,hn.any]
     rfl
    simp(disch:=omega)only[go_sem]
    refine Br.aB (fun c4=>?_) (fun c4=>?_)
    .have hku:=kL c4
     have hout:=TU.1 hn.any _ hku
     have hk0:0<=p.key/\p.key<l.length:=by
      simp[cX]at hout
      omega
     have hkk:=Th (l:=l) (i:=p.key.toNat) (by omega)
     have hka:jT l p.key=(l[p.key.toNat]'(by omega)).kind:=by rw[jT,hkk]; rfl
     generalize l[p.key.toNat]'(by omega)=q at hkk hka
     have d8:decide (p.kind=8)=true:=by simp[c4]
     have hb:dO l p=!(decide (1<=q.kind)&&decide (q.kind<=4)):=by rw[dO,d8,hka]; rfl
     have hidx:lF 10 v (l.map aD.c) (some p.key)=some (V.pv (.ro v q.c)):=by
      rw[dv _ _ _ hk0.1,To,hkk]
      rfl
     unfold aD.c at hidx
     unfold aD.c
     simp(disch:=omega)only[go_sem,d8,hidx]
     refine Br.aB (fun c6=>?_) (fun c6=>?_)<;>simp(disch:=omega)only[go_sem,c6]
     .refine done 1 ?_ (by decide)
      have:¬1<=q.kind:=by omega
      rw[he2,hb]
      simp[this]
     simp(disch:=omega)only[go_sem,hidx]
     refine Br.aB (fun c7=>?_) (fun c7=>?_)<;>simp(disch:=omega)only[go_sem,c7]
     .refine done 1 ?_ (by decide)
      have:¬q.kind<=4:=by omega
      rw[he2,hb]
      simp[this]
     .refine aN.of ?_ rfl
      have h1:1<=q.kind:=by omega
      have h2:q.kind<=4:=by omega
      rw[he2,hb]
      simp[h1,h2]
    .have d8:decide (p.kind=8)=false:=by simp[c4]
     have hb:dO l p=false:=by rw[dO,d8]; rfl
     simp(disch:=omega)only[go_sem,d8]
     refine aN.of ?_ rfl
     rw[he2,hb]
     rfl
 .rw[hn.find]at hG
  rw[Tv]
  simp(disch:=omega)only[go_sem]
  rw[<- hG]
  rfl
theorem AJ {s:ByteArray} (h:isName s=true):s≠⟨#[]⟩:=by
 rintro rfl
 cases h
theorem uP {t:aD} (hn:¬(4<=t.kind/\t.kind<=6)):(ez t).name=⟨#[]⟩:=by
 unfold ez
 repeat' split
 all_goals first
  |rfl
  |omega
theorem CF {p:aD} (h:eV p=true):decide (p.name=⟨#[]⟩)=!(decide (4<=p.kind)&&decide (p.kind<=6)):=by
 unfold eV at h
 rw[UE,UE (eqv p (ez p)),UE (!(decide (4<=p.kind)&&decide (p.kind<=6))||isName p.name),br]at h
 obtain⟨h1,h2,h3,h4⟩:=h
 by_cases hn:4<=p.kind/\p.kind<=6
 .have e:(decide (4<=p.kind)&&decide (p.kind<=6))=true:=by simp[hn]
  rw[e]at h3 |-
  have h3:isName p.name=true:=by simpa using h3
  simp[AJ h3]
 .have e:(decide (4<=p.kind)&&decide (p.kind<=6))=false:=by
   rw[Us]
   simp
   omega
  rw[e]
  have:p.name=⟨#[]⟩:=by
   rw[h2]
   exact uP hn
  simp[this]
theorem ES {l:List aD} {k:Nat} {p:aD} (h:eV p=true):gM l k p=(l.take k).any fun q=>(decide (4<=p.kind)&&decide (p.kind<=6))&&decide (q.name=p.name):=by
 unfold gM
 rw[CF h,Bool.not_not]
 cases (decide (4<=p.kind)&&decide (p.kind<=6))with
 |false=>simp
 |true=>
  simp only[Bool.true_and]
  unfold ch
  rw[Ug]
  rfl
theorem rG {p:aD} (h:eV p=true):p.kind<=9:=by
 unfold eV at h
 simp only[Bool.and_eq_true,decide_eq_true_eq]at h
 exact h.1.2
set_option maxHeartbeats 4000000 in
theorem r268 (v:Nat) (l:List aD) (hl:l.length<=2147483648) (ho:∀t∈l,t.ok) (hs:∀t∈l,t.short):res A ay 268 [.agg [.ai v (l.map aD.c)]]=some [.int .i64 (ct l)]:=by
 refine aq a268 rfl rfl ?_
 simp only[F268,HK]
 simp(disch:=omega)only[go_sem]
 refine Br.aB (fun c0=>?_) (fun c0=>?_)<;>simp(disch:=omega)only[go_sem,c0]
 .have:32<l.length:=by omega
  simp[ct,this]
 have h32:¬32<l.length:=by omega
 unfold ct
 rw[if_neg h32]
 obtain⟨G,hG⟩:∃G,rF l ((List.range l.length).find? fun k=>decide (ep l k≠0))=G:=⟨_,rfl⟩
 rw[hG]
 refine W.find (List.range l.length) (fun k=>decide (ep l k≠0)) (fun k=>⟨[(1,.ptr 1 0),(3,.pv (.int .i64 k))],⟨[(1,[.pv (.ai v (l.map aD.c))])],[],[]⟩⟩) rfl (fun k x hx hk hfd=>?_) (fun hn=>?_)
 .obtain⟨rfl,hk⟩:=cI hx
  have hp:=Th hk
  generalize l[x]=p at hp
  have hm:=Tf hp
  have h285:=r285 p (ho p hm) (hs p hm)
  have h286:=r286 p.kind
  have he:ep l x=ee l x p:=by simp only[ep,hp]
  have done:∀e:Int,ee l x p=e->e≠0->(some [PV.int .i64 e]:Option (List PV))=some [.int .i64 G]:=fun e h1 h2=>by
   rw[<- hG,(hfd (by rw[he,h1]; simpa using h2)).find,rF,he,h1]
  rw[he]
  have hul:(cY p).length<=1048578:=by
   have:=(hs p hm).aS
   unfold cY rE oK
   rw[TH,TH,Tl]
   split<;>split<;>simp<;>omega
  have h287:=fun h9=>r287 p (hs p hm) h9
  unfold aD.c at h285 h287
  simp(disch:=omega)only[go_sem]
  refine Br.aB (fun c=>?_) (fun c=>(c (by omega)).elim)
  simp(disch:=omega)only[go_sem,hp,aD.c,h285]
  refine Br.of (fun c1=>?_) (fun c1=>?_)<;>simp(disch:=omega)only[go_sem,c1]
  rotate_left
  .exact done 1 (by simp[ee,c1]) (by decide)
  have h287:=h287 (rG c1)
  have hdup:=ES (l:=l) (k:=x) c1
  have herr:(!eV p||gM l x p)=gM l x p:=by rw[c1]; rfl
  generalize hnm:(decide (4<=p.kind)&&decide (p.kind<=6))=nm at h286 hdup
  refine W.find (l.take x) (fun q=>nm&&decide (q.name=p.name)) (fun j=>⟨[(1,.ptr 1 0),(3,.pv (.int .i64 x)),(4,.ptr 4 0),(5,.pv (.int .i64 j))],⟨[(1,[.pv (.ai v (l.map aD.c))]),(4,[.pv (.int .i64 p.kind),.pv (.str p.name),.pv (.int .i64 p.low),.pv (.int .i64 p.high),.pv (.int .i64 p.max),.pv (.ai 0 (p.syms.map Sym.c)),.pv (.ai 0 (p.aS.map Mem.c)),.pv (.int .i64 p.key),.pv (.int .i64 p.elem),.pv (.bool p.lL)])],[],[]⟩⟩) rfl (fun j q hj hjl hfd2=>?_) (fun hn=>?_)
  .have hjl':j<x/\j<l.length:=by rw[Tt]at hjl; omega
   have hj':l[j]?=some q:=by
    rw[Tz,if_pos hjl'.1]at hj
    exact hj
   simp(disch:=omega)only[go_sem]
   refine Br.aB (fun c=>?_) (fun c=>(c (by omega)).elim)
   simp(disch:=omega)only[go_sem,h286]
   refine Br.of (fun c2=>?_) (fun c2=>?_)
   .simp(disch:=omega)only[go_sem,c2,hj',aD.c]
    refine Br.aB (fun c3=>?_) (fun c3=>?_)<;>simp(disch:=omega)only[go_sem,c3]
    .refine done 1 ?_ (by decide)
     rw[ee,herr,hdup,(hfd2 (by simp[c2,c3])).any]
     rfl
    .exact aN.of (by simp[c3]) rfl
   .simp(disch:=omega)only[go_sem,c2]
    exact aN.of (by simp[c2]) rfl
  .have hlx:(l.take x).length=x:=by rw[Tt]; omega
   rw[hlx]
   have hd:(!eV p||gM l x p)=false:=by rw[herr,hdup,hn.any]
   simp(disch:=omega)only[go_sem,h287]
   refine W.find (cY p) (cX l.length) (fun j=>⟨[(1,.ptr 1 0),(3,.pv (.int .i64 x)),(4,.ptr 4 0),(6,.pv (.ai 0 (ints (cY p)))),(7,.pv (.int .i64 j))],⟨[(1,[.pv (.ai v (l.map aD.c))]),(4,[.pv (.int .i64 p.kind),.pv (.str p.name),.pv (.int .i64 p.low),.pv (.int .i64 p.high),.pv (.int .i64 p.max),.pv (.ai 0 (p.syms.map Sym.c)),.pv (.ai 0 (p.aS.map Mem.c)),.pv (.int .i64 p.key),.pv (.int .i64 p.elem),.pv (.bool p.lL)])],[],[]⟩⟩) rfl (fun j u hu hj hfd2=>?_) (fun hn=>?_)
   .have d4:cX l.length u=true->ee l x p=4:=fun g=>by
     rw[ee,hd,(hfd2 g).any]
     rfl
    simp(disch:=omega)only[go_sem]
    refine Br.aB (fun c=>?_) (fun c=>(c (by omega)).elim)
    simp(disch:=omega)only[go_sem,hu]
    refine Br.aB (fun c4=>?_) (fun c4=>?_)<;>simp(disch:=omega)only[go_sem,c4]
    .exact done 4 (d4 (by simp[cX,c4])) (by decide)
    simp(disch:=omega)only[go_sem,hu]
    refine Br.aB (fun c5=>?_) (fun c5=>?_)<;>simp(disch:=omega)only[go_sem,c5]
    .exact done 4 (d4 (by simp[cX,c5])) (by decide)
    .exact aN.of (by simp[cX,c4,c5]) rfl
   .have he2:ee l x p=if dO l p=true then 1 else 0:=by
     rw[ee,hd,hn.any]
     rfl
    simp(disch:=omega)only[go_sem]
    refine Br.aB (fun c4=>?_) (fun c4=>?_)
    .have hku:=kL c4
     have hout:=TU.1 hn.any _ hku
     have hk0:0<=p.key/\p.key<l.length:=by
      simp[cX]at hout
      omega
     have hkk:=Th (l:=l) (i:=p.key.toNat) (by omega)
     have hka:jT l p.key=(l[p.key.toNat]'(by omega)).kind:=by rw[jT,hkk]; rfl
     generalize l[p.key.toNat]'(by omega)=q at hkk hka
     have d8:decide (p.kind=8)=true:=by simp[c4]
     have hb:dO l p=!(decide (1<=q.kind)&&decide (q.kind<=4)):=by rw[dO,d8,hka]; rfl
     have hidx:lF 10 v (l.map aD.c) (some p.key)=some (V.pv (.ro v q.c)):=by
      rw[dv _ _ _ hk0.1,To,hkk]
      rfl
     have h288:=r288 q.kind
     generalize (decide (1<=q.kind)&&decide (q.kind<=4))=kk at hb h288
     unfold aD.c at hidx
     unfold aD.c
     simp(disch:=omega)only[go_sem,d8,hidx,h288]
     refine Br.of (fun c6=>?_) (fun c6=>?_)<;>simp(disch:=omega)only[go_sem,c6]
     .refine aN.of ?_ rfl
      rw[he2,hb,c6]
      rfl
     .refine done 1 ?_ (by decide)
      rw[he2,hb,c6]
      rfl
    .have d8:decide (p.kind=8)=false:=by simp[c4]
     have hb:dO l p=false:=by rw[dO,d8]; rfl
     simp(disch:=omega)only[go_sem,d8]
     refine aN.of ?_ rfl
     rw[he2,hb]
     rfl
 .rw[hn.find]at hG
  rw[Tv]
  simp(disch:=omega)only[go_sem]
  rw[<- hG]
  rfl
theorem wF {l:List Int} {n:Nat} (hn:l.Nodup) (h:∀x∈l,0<=x/\x<n):l.length<=n:=by
 have:=List.Nodup.length_le_of_subset (l₂:=(List.range n).map Int.ofNat) hn (fun x hx=>by
  have:=h x hx
  rw[TA]
  exact⟨x.toNat,List.mem_range.2 (by omega),by simp; omega⟩)
 simpa using this
section
variable {α:Type} [DecidableEq α]
def fM (o:List α) (x:α):List α:=if x∈o then o else o++[x]
theorem rH {o:List α} {x y:α}:y∈fM o x↔y∈o\/y=x:=by
 unfold fM
 split
 .rename_i h
  exact⟨.inl,fun h'=>h'.elim id (fun e=>e ▸ h)⟩
 .simp
theorem mm {o:List α} {x:α} (h:o.Nodup):(fM o x).Nodup:=by
 unfold fM
 split
 .exact h
 .rename_i hx
  rw[Uz]
  exact⟨h,by simp,fun a ha b hb=>by
   rw[Ue]at hb
   subst hb
   exact fun e=>hx (e ▸ ha)⟩
theorem wG (o:List α) (x:α):o<+:fM o x:=by
 unfold fM
 split
 .exact List.prefix_refl o
 .exact List.prefix_append o [x]
def wH (o:List α) (l:List α):List α:=l.foldl fM o
theorem oN (o:List α) (x:α) (l:List α):wH o (x::l)=wH (fM o x) l:=rfl
theorem wI:∀{l o:List α} {y:α},y∈wH o l↔y∈o\/y∈l
 |[],o,y=>by simp[wH]
 |x::l,o,y=>by
  rw[oN,wI,rH]
  simp[or_assoc]
theorem rI:∀{l o:List α},o.Nodup->(wH o l).Nodup
 |[],_,h=>h
 |x::l,o,h=>by
  rw[oN]
  exact rI (mm h)
def AK (nx:α->List α):Nat->Nat->List α->List α
 |0,_,o=>o
 |n+1,i,o=>match o[i]? with
  |none=>o
  |some v=>AK nx n (i+1) (wH o (nx v))
theorem wJ {nx:α->List α} {n i:Nat} {o:List α} {v:α} (h:o[i]?=some v):AK nx (n+1) i o=AK nx n (i+1) (wH o (nx v)):=by
 simp only[AK,h]
theorem zw {nx:α->List α}:∀{n i:Nat} {o:List α},o.length<=i->AK nx n i o=o
 |0,_,_,_=>rfl
 |n+1,i,o,h=>by simp only[AK,List.getElem?_eq_none h]
theorem tP {nx:α->List α}:∀(n i:Nat) {o:List α},o.Nodup->(AK nx n i o).Nodup
 |0,_,_,h=>h
 |n+1,i,o,h=>by
  unfold AK
  split
  .exact h
  .exact tP n _ (rI h)
theorem zx {nx:α->List α} {P:α->Prop} (hP:∀v,P v->∀x∈nx v,P x):∀(n i:Nat) {o:List α},(∀v∈o,P v)->∀v∈AK nx n i o,P v
 |0,_,_,h=>h
 |n+1,i,o,h=>by
  unfold AK
  split
  .exact h
  .rename_i v hv
   refine zx hP n _ fun x hx=>?_
   rcases wI.1 hx with hx|hx
   .exact h x hx
   .exact hP v (h v (Tf hv)) x hx
section
variable {β:Type} [DecidableEq β]
end
end
end Go.Pv
namespace Go.Pv
def Pa:aD:=⟨0,⟨#[]⟩,0,0,0,[],[],0,0,false⟩
def ns (l:List aD) (i:Int):aD:=(l[i.toNat]?).getD Pa
structure Pb (l:List aD):Prop where
 len:l.length<=32
 own:∀t∈l,eV t=true
 KE:∀t∈l,∀u∈cY t,0<=u/\u<l.length
theorem dm {l:List aD} (h:ct l=0):Pb l:=by
 unfold ct at h
 split at h
 .cases h
 .rename_i hl
  have hz:∀k,k<l.length->ep l k=0:=by
   cases hf:(List.range l.length).find? (fun k=>decide (ep l k≠0))with
   |none=>
    intro k hk
    have:=UJ.1 hf k (UO.2 hk)
    simpa using this
   |some k=>
    rw[hf]at h
    have:=UU hf
    simp only[rF]at h
    simp[h]at this
  have hone:∀t∈l,eV t=true/\(cY t).any (cX l.length)=false:=by
   intro t ht
   obtain⟨k,hk⟩:=Ti.1 ht
   have:=hz k (Tg.1 hk).1
   simp only[ep,hk,ee]at this
   split at this
   .cases this
   .rename_i h1
    split at this
    .cases this
    .rename_i h2
     simp only[Bool.or_eq_true,Bool.not_eq_true',not_or,Bool.not_eq_false]at h1
     exact⟨h1.1,by simpa using h2⟩
  refine⟨by omega,fun t ht=>(hone t ht).1,fun t ht u hu=>?_⟩
  have:=TU.1 (hone t ht).2 u hu
  simp[cX]at this
  omega
theorem AL {l:List aD} {i:Int} (h0:0<=i) (h:i<l.length):l[i.toNat]?=some (ns l i):=by
 have:=Th (l:=l) (i:=i.toNat) (by omega)
 rw[ns,this]
 rfl
@[go_sem] theorem Mn (h:aw):gp [.tl []] h=some (.dp [],{}):=rfl
@[go_sem] theorem yu (h:aw):bX h true [.tl []]=some ([.ai 0 []],none):=rfl
@[go_sem] theorem Kb (h:aw) (x:Int):gp [.tl [[.int .i64 x]]] h=some (.dp [],{}):=rfl
variable {P:Program}
theorem iZ.up:∀{n:Nat} {cs:List PV},iZ n cs->iZ (n+1) cs
 |0,_,h=>h.elim
 |n+1,_,h=>by
  obtain⟨v,h1,h2,h3,h4,h5,h6⟩:=h
  exact⟨v,h1,h2,h3,fun r hr=>iZ.up (h4 r hr),fun r hr=>iZ.up (h5 r hr),h6⟩
theorem cV {n:Nat} {t:TypeId} {cs:List PV} (hu:P.underlying t=some (.int .i64)) (h:typed P n t cs):∃x,cs=[.int .i64 x]/\fT x:=by
 cases n with
 |zero=>exact h.elim
 |succ n=>
  obtain⟨x,rfl,h1,h2⟩:=AD hu h
  exact⟨x,rfl,h1,h2⟩
theorem nu {n:Nat} {t:TypeId} {cs:List PV} (hu:P.underlying t=some .bool) (h:typed P n t cs):∃x,cs=[.bool x]:=by
 cases n with
 |zero=>exact h.elim
 |succ n=>exact yl hu h
theorem i7 {n:Nat} {t:TypeId} {cs:List PV} (hu:P.underlying t=some .string) (h:typed P n t cs):∃s,cs=[.str s]/\bh s:=by
 cases n with
 |zero=>exact h.elim
 |succ n=>
  simp only[typed,hu]at h
  exact h
theorem fk {α:Type} {c:α->List PV} {ok:α->Prop} {n:Nat} {t el:TypeId} {cs:List PV} (hu:P.underlying t=some (.slice el)) (he:∀m cs,m+1=n->typed P m el cs->∃x,cs=c x/\ok x) (h:typed P n t cs):∃l:List α,cs=[.ai 0 (l.map c)]/\bT l/\∀x∈l,ok x:=by
 cases n with
 |zero=>exact h.elim
 |succ n=>
  obtain⟨rows,rfl,hl,hr⟩:=kJ hu h
  obtain⟨l,rfl⟩:=wq (c:=fun x:{x:α//ok x}=>c x.1) (rows:=rows) (fun r hr'=>by
   obtain⟨x,rfl,hx⟩:=he n r rfl (hr r hr')
   exact⟨⟨x,hx⟩,rfl⟩)
  refine⟨l.map (·.1),by simp,by simpa [bT,maxLen]using hl,fun x hx=>?_⟩
  obtain⟨y,_,rfl⟩:=TA.1 hx
  exact y.2
structure wK (P:Program) (sch typ sym mem val raw ls lsym lmem lval lraw tx ti t64 tb:TypeId):Prop where
 i:P.underlying ti=some (.int .i64)
 i64:P.underlying t64=some (.int .i64)
 b:P.underlying tb=some .bool
 x:P.underlying tx=some .string
 l:P.underlying ls=some (.slice typ)
 ly:P.underlying lsym=some (.slice sym)
 lm:P.underlying lmem=some (.slice mem)
 lv:P.underlying lval=some (.slice val)
 lr:P.underlying lraw=some (.slice raw)
 s:∃fs,P.underlying sch=some (.struct fs)/\fs.toList.map (·.type)=[ls]
 t:∃fs,P.underlying typ=some (.struct fs)/\fs.toList.map (·.type)=[ti,tx,t64,t64,ti,lsym,lmem,ti,ti,tb]
 y:∃fs,P.underlying sym=some (.struct fs)/\fs.toList.map (·.type)=[ti,tx]
 m:∃fs,P.underlying mem=some (.struct fs)/\fs.toList.map (·.type)=[ti,tx,ti,tb,tb,val]
 v:∃fs,P.underlying val=some (.struct fs)/\fs.toList.map (·.type)=[ti,tb,t64,tx,ti,lval,lval,lraw]
 r:∃fs,P.underlying raw=some (.struct fs)/\fs.toList.map (·.type)=[ti,tx]
section
variable {sch typ sym mem val raw ls lsym lmem lval lraw tx ti t64 tb:TypeId}
theorem AM (T:wK P sch typ sym mem val raw ls lsym lmem lval lraw tx ti t64 tb) {n:Nat} {cs:List PV} (h:typed P n raw cs):∃r:Raw,cs=r.c/\r.ok:=by
 cases n with
 |zero=>exact h.elim
 |succ n=>
  obtain⟨fs,hu,hts⟩:=T.r
  obtain⟨r0,q0,rfl,h0,r1,q1,rfl,h1,rfl⟩:=bO hu hts h
  obtain⟨x,rfl,hx⟩:=cV T.i h0
  obtain⟨s,rfl,hs⟩:=i7 T.x h1
  exact⟨⟨x,s⟩,rfl,hx,hs⟩
theorem AN (T:wK P sch typ sym mem val raw ls lsym lmem lval lraw tx ti t64 tb) {n:Nat} {cs:List PV} (h:typed P n sym cs):∃r:Sym,cs=r.c/\r.ok:=by
 cases n with
 |zero=>exact h.elim
 |succ n=>
  obtain⟨fs,hu,hts⟩:=T.y
  obtain⟨r0,q0,rfl,h0,r1,q1,rfl,h1,rfl⟩:=bO hu hts h
  obtain⟨x,rfl,hx⟩:=cV T.i h0
  obtain⟨s,rfl,hs⟩:=i7 T.x h1
  exact⟨⟨x,s⟩,rfl,hx,hs⟩
theorem oO (T:wK P sch typ sym mem val raw ls lsym lmem lval lraw tx ti t64 tb):∀(n:Nat) {cs:List PV},typed P n val cs->iZ n cs
 |0,_,h=>h.elim
 |1,cs,h=>by
  obtain⟨fs,hu,hts⟩:=T.v
  obtain⟨r0,q0,rfl,h0,_⟩:=bO hu hts h
  exact h0.elim
 |n+2,cs,h=>by
  obtain⟨fs,hu,hts⟩:=T.v
  obtain⟨r0,q0,rfl,h0,r1,q1,rfl,h1,r2,q2,rfl,h2,r3,q3,rfl,h3,r4,q4,rfl,h4,r5,q5,rfl,h5,r6,q6,rfl,h6,r7,q7,rfl,h7,rfl⟩:=bO hu hts h
  obtain⟨kind,rfl,k1⟩:=cV T.i h0
  obtain⟨b,rfl⟩:=nu T.b h1
  obtain⟨i,rfl,k2⟩:=cV T.i64 h2
  obtain⟨s,rfl,k3⟩:=i7 T.x h3
  obtain⟨id,rfl,k4⟩:=cV T.i h4
  obtain⟨keys,rfl,l1,g1⟩:=kJ T.lv h5
  obtain⟨items,rfl,l2,g2⟩:=kJ T.lv h6
  obtain⟨rest,rfl,l3,g3⟩:=fk T.lr (fun m cs _ hh=>AM T hh) h7
  exact⟨⟨kind,b,i,s,id,keys,items,rest⟩,rfl,⟨k1,k2,k3,k4⟩,⟨by simpa [bT,maxLen]using l1,by simpa [bT,maxLen]using l2,l3⟩,fun r hr=>(oO T n (g1 r hr)).up,fun r hr=>(oO T n (g2 r hr)).up,g3⟩
theorem AO (T:wK P sch typ sym mem val raw ls lsym lmem lval lraw tx ti t64 tb) {n:Nat} {cs:List PV} (h:typed P n mem cs):∃r:Mem,cs=r.c/\r.ok:=by
 cases n with
 |zero=>exact h.elim
 |succ n=>
  obtain⟨fs,hu,hts⟩:=T.m
  obtain⟨r0,q0,rfl,h0,r1,q1,rfl,h1,r2,q2,rfl,h2,r3,q3,rfl,h3,r4,q4,rfl,h4,r5,q5,rfl,h5,rfl⟩:=bO hu hts h
  obtain⟨id,rfl,k1⟩:=cV T.i h0
  obtain⟨s,rfl,k2⟩:=i7 T.x h1
  obtain⟨t,rfl,k3⟩:=cV T.i h2
  obtain⟨c,rfl⟩:=nu T.b h3
  obtain⟨hd,rfl⟩:=nu T.b h4
  have hv:=oO T n h5
  cases n with
  |zero=>exact hv.elim
  |succ n=>
   have hv':=hv
   obtain⟨v,rfl,_⟩:=hv'
   exact⟨⟨id,s,t,c,hd,v⟩,by simp[Mem.c,cU.c],k1,k2,k3,_,hv⟩
theorem AP (T:wK P sch typ sym mem val raw ls lsym lmem lval lraw tx ti t64 tb) {n:Nat} {cs:List PV} (h:typed P n typ cs):∃r:aD,cs=r.c/\r.ok:=by
 cases n with
 |zero=>exact h.elim
 |succ n=>
  obtain⟨fs,hu,hts⟩:=T.t
  obtain⟨r0,q0,rfl,h0,r1,q1,rfl,h1,r2,q2,rfl,h2,r3,q3,rfl,h3,r4,q4,rfl,h4,r5,q5,rfl,h5,r6,q6,rfl,h6,r7,q7,rfl,h7,r8,q8,rfl,h8,r9,q9,rfl,h9,rfl⟩:=bO hu hts h
  obtain⟨kind,rfl,k0⟩:=cV T.i h0
  obtain⟨s,rfl,k1⟩:=i7 T.x h1
  obtain⟨lo,rfl,k2⟩:=cV T.i64 h2
  obtain⟨hi,rfl,k3⟩:=cV T.i64 h3
  obtain⟨mx,rfl,k4⟩:=cV T.i h4
  obtain⟨syms,rfl,k5,g5⟩:=fk T.ly (fun m cs _ hh=>AN T hh) h5
  obtain⟨aS,rfl,k6,g6⟩:=fk T.lm (fun m cs _ hh=>AO T hh) h6
  obtain⟨key,rfl,k7⟩:=cV T.i h7
  obtain⟨el,rfl,k8⟩:=cV T.i h8
  obtain⟨op,rfl⟩:=nu T.b h9
  exact⟨⟨kind,s,lo,hi,mx,syms,aS,key,el,op⟩,rfl,⟨k0,k1,k2,k3,k4,k7,k8⟩,⟨k5,k6⟩,g5,g6⟩
theorem AQ (T:wK P sch typ sym mem val raw ls lsym lmem lval lraw tx ti t64 tb) {n:Nat} {cs:List PV} (h:typed P n sch cs):∃l:List aD,cs=[.ai 0 (l.map aD.c)]/\bT l/\∀t∈l,t.ok:=by
 cases n with
 |zero=>exact h.elim
 |succ n=>
  obtain⟨fs,hu,hts⟩:=T.s
  obtain⟨r0,q0,rfl,h0,rfl⟩:=bO hu hts h
  obtain⟨l,rfl,k,g⟩:=fk T.l (fun m cs _ hh=>AP T hh) h0
  exact⟨l,by simp,k,g⟩
end
end Go.Pv
namespace Go.Pv
theorem oP {M t:Nat} {rows:List (List PV)} (h:Small M (.ai t rows)):rows.length<=M/\∀r∈rows,∀c∈r,Small M c:=by
 cases h with
 |ai _ _ h1 h2=>exact⟨h1,h2⟩
theorem AR {t:aD} (h:∀c∈t.c,Small 1048576 c):t.short:=by
 have h1:=(oP (h (.ai 0 (t.syms.map Sym.c)) (by simp[aD.c]))).1
 have h2:=(oP (h (.ai 0 (t.aS.map Mem.c)) (by simp[aD.c]))).1
 rw[Tl]at h1 h2
 exact⟨h1,h2⟩
theorem AS {l:List aD} (h:∀c∈[PV.ai 0 (l.map aD.c)],Small 1048576 c):l.length<=1048576/\∀t∈l,t.short:=by
 obtain⟨h1,h2⟩:=oP (h _ (Ue.2 rfl))
 rw[Tl]at h1
 exact⟨h1,fun t ht=>AR (h2 _ (List.mem_map_of_mem ht))⟩
theorem wL {k:Nat} {rows:List (List PV)} (h:∀r∈rows,r.length=k):aW k (.inl rows)=true:=by
 simp only[aW,List.all_eq_true,beq_iff_eq]
 exact h
section
variable {α:Type} [Inhabited α]
def nw (lt:α->α->Bool) (x y:α):Prop:=lt x y=true\/lt y x=true
def ET (lt:α->α->Bool) (x:α) (l:List α):Nat->Nat
 |0=>0
 |p+1=>if lt x (l.getD p default)=true then ET lt x l p else p+1
def mn (x:α) (l:List α) (p:Nat):List α:=l.take p++x::l.drop p
def CG (lt:α->α->Bool) (x:α) (l:List α):List α:=mn x l (ET lt x l l.length)
theorem CH (lt:α->α->Bool) (x:α) (l:List α):∀q,ET lt x l q<=q
 |0=>Tj _
 |q+1=>by
  have:=CH lt x l q
  unfold ET
  split<;>omega
omit [Inhabited α] in
theorem rJ (x:α) (l:List α) (p:Nat) (h:p<=l.length):(mn x l p).length=l.length+1:=by simp[mn]; omega
theorem wM (lt:α->α->Bool) (x:α) (l:List α):(CG lt x l).length=l.length+1:=rJ x l _ (CH lt x l _)
omit [Inhabited α] in
theorem zy (x:α) (l:List α) (p:Nat) (h:p<=l.length):(mn x l p)[p]?=some x:=by
 unfold mn
 rw[List.getElem?_append_right (by simp; omega)]
 simp[Nat.min_eq_left h]
theorem yw (x:α) (l:List α) (p:Nat) (h:p<l.length):(mn x l (p+1))[p]?=some (l.getD p default):=by
 unfold mn
 rw[List.getElem?_append_left (by simp; omega),List.getElem?_take,if_pos (by omega)]
 simp[h]
theorem AT (x:α) (l:List α) (p:Nat) (h:p<l.length):((mn x l (p+1)).set (p+1) (l.getD p default)).set p x=mn x l p:=by
 apply TW
 intro i
 have h1:=rJ x l (p+1) (by omega)
 by_cases ip:i=p
 .subst ip
  rw[zy x l i (by omega),List.getElem?_set_self (by simp[h1]; omega)]
 .rw[T7 (Ne.symm ip)]
  by_cases iq:i=p+1
  .subst iq
   rw[TR (by rw[h1]; omega)]
   unfold mn
   rw[List.getElem?_append_right (by simp; omega)]
   simp[Nat.min_eq_left (Nat.le_of_lt h),h]
  .rw[T7 (Ne.symm iq)]
   unfold mn
   rcases Tm i p with hi|hi
   .rw[List.getElem?_append_left (by simp; omega),List.getElem?_append_left (by simp; omega),List.getElem?_take,List.getElem?_take,if_pos (by omega),if_pos hi]
   .rw[List.getElem?_append_right (by simp; omega),List.getElem?_append_right (by simp; omega)]
    obtain⟨q,rfl⟩:∃q,i=p+2+q:=⟨i - (p+2),by omega⟩
    simp only[List.length_take,Nat.min_eq_left (Nat.le_of_lt h),Nat.min_eq_left (Nat.succ_le_of_lt h)]
    rw[show p+2+q - (p+1)=q+1 by omega,show p+2+q - p=q+2 by omega]
    simp only[List.getElem?_cons_succ,List.getElem?_drop]
    congr 1
    omega
def wN (lt:α->α->Bool) (l:List α):List α:=l.foldl (fun o x=>CG lt x o) []
omit [Inhabited α] in
theorem CI {lt:α->α->Bool} (tr:∀x y z,lt x y=true->lt y z=true->lt x z=true) {x:α}:∀{l:List α},l.Pairwise (fun a b=>lt a b=true)->(∀y∈l,nw lt x y)->(ins lt x l).Pairwise (fun a b=>lt a b=true)
 |[],_,_=>List.pairwise_singleton _ _
 |y::r,h,hx=>by
  obtain⟨h1,h2⟩:=TF.1 h
  unfold ins
  split
  .rename_i hc
   refine List.pairwise_cons.2 ⟨fun z hz=>?_,CI tr h2 (fun z hz=>hx z (by simp[hz]))⟩
   rcases Tu.1 ((nk lt x r).subset hz)with rfl|hz
   .exact hc
   .exact h1 z hz
  .rename_i hc
   have hxy:lt x y=true:=(hx y (by simp)).resolve_right (by simpa using hc)
   refine TF.2 ⟨fun z hz=>?_,h⟩
   rcases Tu.1 hz with rfl|hz
   .exact hxy
   .exact tr _ _ _ hxy (h1 z hz)
omit [Inhabited α] in
theorem wO {lt:α->α->Bool} (tr:∀x y z,lt x y=true->lt y z=true->lt x z=true):∀{l:List α},l.Pairwise (nw lt)->(dz lt l).Pairwise (fun a b=>lt a b=true)
 |[],_=>List.Pairwise.nil
 |x::l,h=>by
  obtain⟨h1,h2⟩:=TF.1 h
  exact CI tr (wO tr h2) fun y hy=>h1 y ((eb lt l).subset hy)
omit [Inhabited α] in
theorem tQ {lt:α->α->Bool}:∀{l:List α},l.Pairwise (fun a b=>lt a b=true)->rising lt l=true
 |[],_=>rfl
 |[_],_=>rfl
 |x::y::r,h=>by
  obtain⟨h1,h2⟩:=TF.1 h
  simp only[rising,Bool.and_eq_true]
  exact⟨h1 y (by simp),tQ h2⟩
end
end Go.Pv
namespace Go.Pv
theorem r66 {Pr:bd} (x:Int):res A Pr 66 [.int .i64 x]=some [.bool false]:=by
 refine aq a66 rfl rfl ?_
 simp only[F66,RU]
 simp(disch:=omega)only[go_sem]
theorem r60 {Pr:bd} (hp:Pr 66=none) (x y:Int):res A Pr 60 [.int .i64 x,.int .i64 y]=some [.int .i64 (gI x y)]:=by
 refine aq a60 rfl rfl ?_
 simp only[F60,RS]
 simp(disch:=omega)only[go_sem,wi (by kernel_rfl) hp R0,r66]
 unfold gI
 refine Br.aB (fun h=>?_) (fun h=>?_)<;>simp(disch:=omega)only[go_sem,h]
 refine Br.aB (fun h2=>?_) (fun h2=>?_)<;>simp(disch:=omega)only[go_sem,h,h2]
theorem r58 {Pr:bd} (a:Edge):res A Pr 58 [.agg a.c]=some [.int .i64 a.side]:=by
 refine aq a58 rfl rfl ?_
 simp only[F58,RP]
 simp(disch:=omega)only[go_sem]
 unfold Edge.side
 refine Br.of (fun h=>?_) (fun h=>?_)<;>simp(disch:=omega)only[go_sem,h]
def CJ:List Int->Int
 |[]=>0
 |x::r=>if x≠0 then x else CJ r
theorem fm {α:Type} {l:List α} {k:Nat} {x:α} (h:l[k]?=some x):l.drop k=x::l.drop (k+1):=by
 obtain⟨h1,h2⟩:=Tg.1 h
 rw[List.drop_eq_getElem_cons h1,h2]
theorem get_at {α:Type} {l:List α} {k:Nat} (h:k<l.length):∃x,l[k]?=some x:=⟨_,Th h⟩
theorem jn {α:Type} {l:List α} {k:Nat} (h:¬(k:Int)<l.length):l.drop k=[]:=List.drop_eq_nil_of_le (by omega)
theorem r59 {Pr:bd} (t:Nat) (l:List Int) (hl:l.length<1000):res A Pr 59 [.ai t (ints l)]=some [.int .i64 (CJ l)]:=by
 refine aq a59 rfl rfl ?_
 simp only[F59,RQ]
 simp(disch:=omega)only[go_sem]
 refine W.du l.length (fun k=>⟨[(3,.pv (.int .i64 0)),(6,.pv (.ai t (ints l))),(7,.pv (.int .i64 l.length)),(8,.pv (.int .i64 k))],⟨[],[],[]⟩⟩) (fun k=>CJ l=CJ (l.drop k)) rfl rfl fun k hk hi=>?_
 simp(disch:=omega)only[go_sem]
 refine Br.aB (fun h=>?_) (fun h=>?_)
 .obtain⟨x,hx⟩:=get_at (l:=l) (k:=k) (by omega)
  rw[fm hx,CJ]at hi
  simp(disch:=omega)only[go_sem,hx]
  refine Br.aB (fun h1=>?_) (fun h1=>?_)<;>simp(disch:=omega)only[go_sem]
  .exact .of (by omega) rfl (by simpa [h1]using hi)
  .simp[hi,h1]
 .simp(disch:=omega)only[go_sem]
  simp[hi,jn h,CJ]
theorem r47 {Pr:bd} (h66:Pr 66=none) (h60:Pr 60=none) (h59:Pr 59=none) (h58:Pr 58=none) (a b:Edge):res A Pr 47 [.agg a.c,.agg b.c]=some [.int .i64 (Edge.cmp a b)]:=by
 refine aq a47 rfl rfl ?_
 simp only[F47,RI]
 have e59:=fun x y z=>r59 (Pr:=Pr) 0 [x,y,z] (by simp)
 simp only[ints,List.map_cons,List.map_nil]at e59
 have e58:=fun x=>r58 (Pr:=Pr) x
 simp only[Edge.c]at e58
 simp(disch:=omega)only[go_sem,wi (by kernel_rfl) h60 RZ,wi (by kernel_rfl) h59 RY,wi (by kernel_rfl) h58 RX,r60 h66,e58 a,e58 b,e59]
 by_cases h:gI a.label b.label=0<;>simp[CJ,Edge.cmp,h]
@[go_sem] theorem r44 (a b:Edge):res A ay 44 [.agg [.int .i64 a.fr,.bool a.send,.int .i64 a.label,.int .i64 a.to],.agg [.int .i64 b.fr,.bool b.send,.int .i64 b.label,.int .i64 b.to]]=some [.bool (Edge.lt a b)]:=by
 refine aq a44 rfl rfl ?_
 simp only[F44,RF]
 simp(disch:=omega)only[go_sem]
 unfold Edge.lt
 by_cases h:a.fr=b.fr<;>by_cases h2:a.send=b.send<;>simp(disch:=omega)only[go_sem,h,h2,ne_eq,not_true_eq_false,not_false_eq_true]
theorem aO.CK {a:aO} (h1:a.af<=12) (h2:a.aa.length<=100) (h3:0<=a.start/\a.start<a.af):a.err=if rA a.af none a.aa=true then 0 else 1:=by
 unfold aO.err
 rw[if_neg (by omega),if_pos h3]
theorem aO.lx {a:aO} (h1:a.af<=12) (h2:a.aa.length<=100) (h3:¬(0<=a.start/\a.start<a.af)):a.err=1:=by
 unfold aO.err
 rw[if_neg (by omega),if_neg h3]
theorem aO.lz {a:aO} (h:12<a.af\/100<a.aa.length):a.err=3:=by
 unfold aO.err
 rw[if_pos h]
theorem CL {n:Int} {p:Option Edge} {e:Edge} {r:List Edge} (h:e.fits n=false):rA n p (e::r)=false:=by simp[rA,h]
set_option maxHeartbeats 1000000 in
@[go_sem] theorem r26 (t:Nat) (a:aO) (hl:a.aa.length<=2^63 - 1):res A ay 26 [.agg [.int .i64 a.af,.int .i64 a.start,.ai t (a.aa.map Edge.c)]]=some [.int .i64 a.err]:=by
 refine aq a26 rfl rfl ?_
 simp only[F26,Rs]
 simp(disch:=omega)only[go_sem]
 refine Br.aB (fun h1=>?_) (fun h1=>?_)<;>simp(disch:=omega)only[go_sem,h1]
 .rw[aO.lz (.inl h1)]
 refine Br.aB (fun h2=>?_) (fun h2=>?_)<;>simp(disch:=omega)only[go_sem,h2]
 .rw[aO.lz (.inr (by omega))]
 refine Br.aB (fun h3=>?_) (fun h3=>?_)<;>simp(disch:=omega)only[go_sem,h3]
 .rw[aO.lx (by omega) (by omega) (by omega)]
 refine Br.aB (fun h4=>?_) (fun h4=>?_)<;>simp(disch:=omega)only[go_sem,h4]
 .rw[aO.lx (by omega) (by omega) (by omega)]
 refine Br.aB (fun h5=>?_) (fun h5=>?_)<;>simp(disch:=omega)only[go_sem,h5]
 .rw[aO.lx (by omega) (by omega) (by omega)]
 rw[aO.CK (by omega) (by omega) (by omega)]
 refine W.du a.aa.length (fun k=>⟨[(1,.ptr 1 0),(3,.pv (.int .i64 k))],⟨[(1,[.pv (.int .i64 a.af),.pv (.int .i64 a.start),.pv (.ai t (a.aa.map Edge.c))])],[],[]⟩⟩) (fun k=>rA a.af none a.aa=rA a.af (oF a.aa k) (a.aa.drop k)) rfl rfl fun k hk hi=>?_
 simp(disch:=omega)only[go_sem]
 refine Br.aB (fun h=>?_) (fun h=>?_)
 .obtain⟨e,he⟩:=get_at (l:=a.aa) (k:=k) (by omega)
  rw[fm he]at hi
  have bad:e.fits a.af=false->rA a.af none a.aa=false:=fun hb=>hi.trans (CL hb)
  simp(disch:=omega)only[go_sem,he]
  refine Br.aB (fun g1=>?_) (fun g1=>?_)<;>simp(disch:=omega)only[go_sem,g1]
  .rw[bad (by simp[Edge.fits]; omega)]; rfl
  refine Br.aB (fun g2=>?_) (fun g2=>?_)<;>simp(disch:=omega)only[go_sem,g2]
  .rw[bad (by simp[Edge.fits]; omega)]; rfl
  refine Br.aB (fun g3=>?_) (fun g3=>?_)<;>simp(disch:=omega)only[go_sem,g3]
  .rw[bad (by simp[Edge.fits]; omega)]; rfl
  refine Br.aB (fun g4=>?_) (fun g4=>?_)<;>simp(disch:=omega)only[go_sem,g4]
  .rw[bad (by simp[Edge.fits]; omega)]; rfl
  refine Br.aB (fun g5=>?_) (fun g5=>?_)<;>simp(disch:=omega)only[go_sem,g5]
  .rw[bad (by simp[Edge.fits]; omega)]; rfl
  refine Br.aB (fun g6=>?_) (fun g6=>?_)<;>simp(disch:=omega)only[go_sem,g6]
  .rw[bad (by simp[Edge.fits]; omega)]; rfl
  have fit:e.fits a.af=true:=by simp[Edge.fits]; omega
  refine Br.aB (fun g7=>?_) (fun g7=>?_)<;>simp(disch:=omega)only[go_sem,g7]
  .obtain⟨j,rfl⟩:∃j,k=j+1:=⟨k - 1,by omega⟩
   obtain⟨d,hd⟩:=get_at (l:=a.aa) (k:=j) (by omega)
   have hj:((j+1:Nat):Int) - 1=(j:Int):=by omega
   rw[eT,hd]at hi
   simp(disch:=omega)only[go_sem,hj,hd]
   refine Br.of (fun g8=>?_) (fun g8=>?_)<;>simp(disch:=omega)only[go_sem]
   .exact .of (by omega) rfl (by rw[hi,eT,he]; simp[rA,fit,g8])
   .rw[hi]; simp[rA,g8]
  .obtain rfl:k=0:=by omega
   exact .of (by omega) rfl (by rw[hi,eT,he]; simp[rA,fit,oF])
 .simp(disch:=omega)only[go_sem]
  rw[hi,jn h]
  rfl
@[go_sem] theorem r47a (a b:Edge):res A ay 47 [.agg [.int .i64 a.fr,.bool a.send,.int .i64 a.label,.int .i64 a.to],.agg [.int .i64 b.fr,.bool b.send,.int .i64 b.label,.int .i64 b.to]]=some [.int .i64 (Edge.cmp a b)]:=
 r47 (by kernel_rfl) (by kernel_rfl) (by kernel_rfl) (by kernel_rfl) a b
@[go_sem] theorem r46 (n s:Int) (t:Nat) (cs:List PV):res A ay 46 [.int .i64 n,.ro t (.int .i64 s::cs)]=some [.bool (decide (0<=n)&&decide (n<s))]:=by
 refine aq a46 rfl rfl ?_
 simp only[F46,RH]
 simp(disch:=omega)only[go_sem]
 refine Br.aB (fun h1=>?_) (fun h1=>?_)<;>simp(disch:=omega)only[go_sem,h1]
theorem zA {e:Edge} {n:Int}:e.fits n=(((decide (0<=e.fr)&&decide (e.fr<n))&&(decide (0<=e.to)&&decide (e.to<n)))&&(decide (1<=e.label)&&decide (e.label<=1000))):=by
 simp[Edge.fits,Bool.and_assoc]
set_option maxHeartbeats 2000000 in
@[go_sem] theorem r29 (t:Nat) (a:aO) (hl:a.aa.length<=2^63 - 1):res A ay 29 [.agg [.int .i64 a.af,.int .i64 a.start,.ai t (a.aa.map Edge.c)]]=some [.int .i64 a.err]:=by
 refine aq a29 rfl rfl ?_
 simp only[F29,Rt]
 simp(disch:=omega)only[go_sem]
 refine Br.aB (fun h1=>?_) (fun h1=>?_)<;>simp(disch:=omega)only[go_sem,h1]
 .rw[aO.lz (.inl h1)]
 refine Br.aB (fun h2=>?_) (fun h2=>?_)<;>simp(disch:=omega)only[go_sem,h2]
 .rw[aO.lz (.inr (by omega))]
 refine Br.of (fun h3=>?_) (fun h3=>?_)<;>simp at h3<;>simp(disch:=omega)only[go_sem]
 case refine_2=>rw[aO.lx (by omega) (by omega) (by omega)]
 rw[aO.CK (by omega) (by omega) (by omega)]
 refine W.du a.aa.length (fun k=>⟨[(1,.ptr 1 0),(3,.func 46 [.ptr 1 0]),(22,.pv (.ai t (a.aa.map Edge.c))),(23,.pv (.int .i64 a.aa.length)),(24,.pv (.int .i64 k))],⟨[(1,[.pv (.int .i64 a.af),.pv (.int .i64 a.start),.pv (.ai t (a.aa.map Edge.c))])],[],[]⟩⟩) (fun k=>rA a.af none a.aa=rA a.af (oF a.aa k) (a.aa.drop k)) rfl rfl fun k hk hi=>?_
 simp(disch:=omega)only[go_sem]
 refine Br.aB (fun h=>?_) (fun h=>?_)
 .obtain⟨e,he⟩:=get_at (l:=a.aa) (k:=k) (by omega)
  rw[fm he]at hi
  have bad:e.fits a.af=false->rA a.af none a.aa=false:=fun hb=>hi.trans (CL hb)
  rw[zA]at bad
  simp(disch:=omega)only[go_sem,he]
  refine Br.of (fun g1=>?_) (fun g1=>?_)<;>simp(disch:=omega)only[go_sem,g1]
  case refine_2=>rw[bad (by rw[g1]; rfl)]; rfl
  refine Br.of (fun g2=>?_) (fun g2=>?_)<;>simp(disch:=omega)only[go_sem,g2]
  case refine_2=>rw[bad (by rw[g1,g2]; rfl)]; rfl
  refine Br.aB (fun g3=>?_) (fun g3=>?_)<;>simp(disch:=omega)only[go_sem,g3]
  .rw[bad (by simp; omega)]; rfl
  refine Br.aB (fun g4=>?_) (fun g4=>?_)<;>simp(disch:=omega)only[go_sem,g4]
  .rw[bad (by simp; omega)]; rfl
  have fit:e.fits a.af=true:=by rw[zA,g1,g2]; simp; omega
  refine Br.aB (fun g7=>?_) (fun g7=>?_)<;>simp(disch:=omega)only[go_sem,g7]
  .obtain⟨j,rfl⟩:∃j,k=j+1:=⟨k - 1,by omega⟩
   obtain⟨d,hd⟩:=get_at (l:=a.aa) (k:=j) (by omega)
   have hj:((j+1:Nat):Int) - 1=(j:Int):=by omega
   rw[eT,hd]at hi
   simp(disch:=omega)only[go_sem,hj,hd,Edge.HG]
   refine Br.of (fun g8=>?_) (fun g8=>?_)<;>simp(disch:=omega)only[go_sem]
   .exact .of (by omega) rfl (by rw[hi,eT,he]; simp[rA,fit,g8])
   .rw[hi]; simp[rA,g8]
  .obtain rfl:k=0:=by omega
   exact .of (by omega) rfl (by rw[hi,eT,he]; simp[rA,fit,oF])
 .simp(disch:=omega)only[go_sem]
  rw[hi,jn h]
  rfl
end Go.Pv
