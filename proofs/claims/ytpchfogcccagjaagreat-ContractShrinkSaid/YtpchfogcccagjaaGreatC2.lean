/-
 What the functions of the law give.
-/
import Derived.Test.YtpchfogcccagjaaGreatC1
set_option linter.unusedSimpArgs false
set_option linter.unusedVariables false
open List renaming getElem?_eq_some_iff → Vy, mem_of_getElem? → Vz, getElem?_eq_getElem → VA, length_map → VB, getElem?_append_left → VC, mem_iff_getElem? → VD, length_append → VE, getElem?_map → VF, length_take → VH, getElem?_take → VN, mem_map → VP, pairwise_cons → VQ, take_of_length_le → VS, take_add_one → VT, take_length → VW, mem_cons → V6, length_range → V7, findIdx?_eq_some_iff_getElem → Wd, map_append → Wk, mem_cons_of_mem → Wl, any_eq_false → Wt, getElem_mem → Ww, foldl_cons → Wy, mem_range → WA, getElem_of_mem → WC, any_map → WJ, range_succ → WR, mem_singleton → WU, findIdx?_eq_none_iff → WX, find?_eq_none → Xc, find?_some → Xd, nodup_append → Xg
open Nat renaming lt_or_ge → VG, zero_le → V4
open Bool renaming eq_iff_iff → Wp, false_and → W5
open Int renaming toNat_of_nonneg → Xq
namespace Go.Pv
set_option maxHeartbeats 4000000 in
theorem r319 (x y:Mem) (hx:x.ok) (hy:y.ok):res A az 319 [.agg x.c,.agg y.c]=some [.bool (eqv x y)]:=by
 have hv:=r320v hx.2.2.2 hy.2.2.2
 rw[mJ]at hv
 obtain⟨a1,a2,a3,a4,a5,v⟩:=x
 obtain⟨b1,b2,b3,b4,b5,w⟩:=y
 unfold Mem.c
 unfold dM.c at hv
 dsimp only at *
 have no:∀{p q:Mem},p≠q->(some [PV.bool false]:Option (List PV))=some [PV.bool (eqv p q)]:=fun h=>by rw[hZ h]
 refine ai a319 rfl rfl ?_
 simp only[F319,J3]
 simp(disch:=omega)only[go_sem]
 refine Br.aD (fun e=>?_) (fun e=>?_)<;>simp(disch:=omega)only[go_sem,e]
 rotate_left
 .exact no (fun q=>e (by cases q; rfl))
 subst e
 refine Br.aD (fun e=>?_) (fun e=>?_)<;>simp(disch:=omega)only[go_sem,e]
 rotate_left
 .exact no (fun q=>e (by cases q; rfl))
 subst e
 refine Br.aD (fun e=>?_) (fun e=>?_)<;>simp(disch:=omega)only[go_sem,e]
 rotate_left
 .exact no (fun q=>e (by cases q; rfl))
 subst e
 refine Br.aD (fun e=>?_) (fun e=>?_)<;>simp(disch:=omega)only[go_sem,e]
 rotate_left
 .exact no (fun q=>e (by cases q; rfl))
 subst e
 refine Br.aD (fun e=>?_) (fun e=>?_)<;>simp(disch:=omega)only[go_sem,e]
 rotate_left
 .exact no (fun q=>e (by cases q; rfl))
 subst e
 simp(disch:=omega)only[go_sem,hv]
 congr 3
 rw[Wp,cJ,cJ]
 exact⟨fun e=>by rw[e],fun q=>by cases q; rfl⟩
set_option maxHeartbeats 4000000 in
theorem r316 (x y:Mem) (hx:x.ok) (hy:y.ok):res A az 316 [.agg x.c,.agg y.c]=some [.bool (eqv x y)]:=by
 have hv:=r330v hx.2.2.2 hy.2.2.2
 rw[mJ]at hv
 obtain⟨a1,a2,a3,a4,a5,v⟩:=x
 obtain⟨b1,b2,b3,b4,b5,w⟩:=y
 unfold Mem.c
 unfold dM.c at hv
 dsimp only at *
 have no:∀{p q:Mem},p≠q->(some [PV.bool false]:Option (List PV))=some [PV.bool (eqv p q)]:=fun h=>by rw[hZ h]
 refine ai a316 rfl rfl ?_
 simp only[F316,J0]
 simp(disch:=omega)only[go_sem]
 refine Br.aD (fun e=>?_) (fun e=>?_)<;>simp(disch:=omega)only[go_sem,e]
 rotate_left
 .exact no (fun q=>e (by cases q; rfl))
 subst e
 refine Br.aD (fun e=>?_) (fun e=>?_)<;>simp(disch:=omega)only[go_sem,e]
 rotate_left
 .exact no (fun q=>e (by cases q; rfl))
 subst e
 refine Br.aD (fun e=>?_) (fun e=>?_)<;>simp(disch:=omega)only[go_sem,e]
 rotate_left
 .exact no (fun q=>e (by cases q; rfl))
 subst e
 refine Br.aD (fun e=>?_) (fun e=>?_)<;>simp(disch:=omega)only[go_sem,e]
 rotate_left
 .exact no (fun q=>e (by cases q; rfl))
 subst e
 refine Br.aD (fun e=>?_) (fun e=>?_)<;>simp(disch:=omega)only[go_sem,e]
 rotate_left
 .exact no (fun q=>e (by cases q; rfl))
 subst e
 simp(disch:=omega)only[go_sem,hv]
 congr 3
 rw[Wp,cJ,cJ]
 exact⟨fun e=>by rw[e],fun q=>by cases q; rfl⟩
set_option maxHeartbeats 4000000 in
theorem r318 (t u:Nat) (l m:List Mem) (hl:l.length<=2^63 - 1) (_hm:m.length<=2^63 - 1) (vl:∀r∈l,r.ok) (vm:∀r∈m,r.ok):res A az 318 [.aa t (l.map Mem.c),.aa u (m.map Mem.c),.func 319 []]=some [.bool (eqv l m)]:=by
 refine ai a318 rfl rfl ?_
 simp only[F318,J2]
 simp(disch:=omega)only[go_sem]
 refine Br.aD (fun h=>?_) (fun h=>?_)<;>simp(disch:=omega)only[go_sem]
 .refine W.find (l.zip m) (fun q=>!eqv q.1 q.2) (fun k=>⟨[(1,.pv (.aa u (m.map Mem.c))),(2,.pv (.func 319 [])),(15,.pv (.aa t (l.map Mem.c))),(16,.pv (.int .i64 l.length)),(17,.pv (.int .i64 k))],⟨[],[],[]⟩⟩) rfl (fun k q hq hk hfd=>?_) (fun hn=>?_)
  .obtain⟨h1,h2⟩:=iJ hq
   rw[dF (by omega)]at hk
   have hc:=r319 q.1 q.2 (vl q.1 (Vz h1)) (vm q.2 (Vz h2))
   unfold Mem.c at hc
   simp(disch:=omega)only[go_sem]
   refine Br.aD (fun c=>?_) (fun c=>(c (by omega)).elim)
   simp(disch:=omega)only[go_sem,h1,h2,Mem.c,hc]
   refine Br.of (fun g=>?_) (fun g=>?_)<;>simp(disch:=omega)only[go_sem]
   .exact aX.of (by rw[g]; rfl) rfl
   .rw[(hfd (by rw[g]; rfl)).ne]
  .have hz:(l.zip m).length=l.length:=dF (by omega)
   rw[hz]
   simp(disch:=omega)only[go_sem]
   rw[hn.eq (by omega),eW]
 .rw[hZ (fun e=>h (by rw[e]))]
set_option maxHeartbeats 8000000 in
theorem r297 (x y:aC) (hx:x.ok) (hy:y.ok):res A az 297 [.agg x.c,.agg y.c]=some [.bool (eqv x y)]:=by
 obtain⟨_,⟨lx1,lx2⟩,_,lx3⟩:=hx
 obtain⟨_,⟨ly1,ly2⟩,_,ly3⟩:=hy
 unfold bV at *
 have hs:=fun t u=>r317 t u x.syms y.syms (by omega) (by omega)
 have hm:=fun t u=>r318 t u x.aN y.aN (by omega) (by omega) lx3 ly3
 obtain⟨a1,a2,a3,a4,a5,a6,a7,a8,a9,a10⟩:=x
 obtain⟨b1,b2,b3,b4,b5,b6,b7,b8,b9,b10⟩:=y
 unfold aC.c
 dsimp only at *
 have no:∀{p q:aC},p≠q->(some [PV.bool false]:Option (List PV))=some [PV.bool (eqv p q)]:=fun h=>by rw[hZ h]
 refine ai a297 rfl rfl ?_
 simp only[F297,JK]
 simp(disch:=omega)only[go_sem]
 refine Br.aD (fun e=>?_) (fun e=>?_)<;>simp(disch:=omega)only[go_sem,e]
 rotate_left
 .exact no (fun q=>e (by cases q; rfl))
 subst e
 refine Br.aD (fun e=>?_) (fun e=>?_)<;>simp(disch:=omega)only[go_sem,e]
 rotate_left
 .exact no (fun q=>e (by cases q; rfl))
 subst e
 refine Br.aD (fun e=>?_) (fun e=>?_)<;>simp(disch:=omega)only[go_sem,e]
 rotate_left
 .exact no (fun q=>e (by cases q; rfl))
 subst e
 refine Br.aD (fun e=>?_) (fun e=>?_)<;>simp(disch:=omega)only[go_sem,e]
 rotate_left
 .exact no (fun q=>e (by cases q; rfl))
 subst e
 refine Br.aD (fun e=>?_) (fun e=>?_)<;>simp(disch:=omega)only[go_sem,e]
 rotate_left
 .exact no (fun q=>e (by cases q; rfl))
 subst e
 refine Br.aD (fun e=>?_) (fun e=>?_)<;>simp(disch:=omega)only[go_sem,e]
 rotate_left
 .exact no (fun q=>e (by cases q; rfl))
 subst e
 refine Br.aD (fun e=>?_) (fun e=>?_)<;>simp(disch:=omega)only[go_sem,e]
 rotate_left
 .exact no (fun q=>e (by cases q; rfl))
 subst e
 refine Br.aD (fun e=>?_) (fun e=>?_)<;>simp(disch:=omega)only[go_sem,e]
 rotate_left
 .exact no (fun q=>e (by cases q; rfl))
 subst e
 simp(disch:=omega)only[go_sem,hs]
 refine Br.of (fun e=>?_) (fun e=>?_)<;>simp(disch:=omega)only[go_sem,e]
 rotate_left
 .exact no (fun q=>mb.1 e (by cases q; rfl))
 have e:=cJ.1 e
 subst e
 simp(disch:=omega)only[go_sem,hm]
 congr 3
 rw[Wp,cJ,cJ]
 exact⟨fun e=>by rw[e],fun q=>by cases q; rfl⟩
set_option maxHeartbeats 8000000 in
theorem r295 (x y:aC) (hx:x.ok) (hy:y.ok):res A az 295 [.agg x.c,.agg y.c]=some [.bool (eqv x y)]:=by
 obtain⟨_,⟨lx1,lx2⟩,_,lx3⟩:=hx
 obtain⟨_,⟨ly1,ly2⟩,_,ly3⟩:=hy
 unfold bV at *
 obtain⟨a1,a2,a3,a4,a5,a6,a7,a8,a9,a10⟩:=x
 obtain⟨b1,b2,b3,b4,b5,b6,b7,b8,b9,b10⟩:=y
 unfold aC.c
 dsimp only at *
 have no:∀{p q:aC},p≠q->(some [PV.bool false]:Option (List PV))=some [PV.bool (eqv p q)]:=fun h=>by rw[hZ h]
 refine ai a295 rfl rfl ?_
 simp only[F295,JJ]
 simp(disch:=omega)only[go_sem]
 refine Br.aD (fun e=>?_) (fun e=>?_)<;>simp(disch:=omega)only[go_sem,e]
 rotate_left
 .exact no (fun q=>e (by cases q; rfl))
 subst e
 refine Br.aD (fun e=>?_) (fun e=>?_)<;>simp(disch:=omega)only[go_sem,e]
 rotate_left
 .exact no (fun q=>e (by cases q; rfl))
 subst e
 refine Br.aD (fun e=>?_) (fun e=>?_)<;>simp(disch:=omega)only[go_sem,e]
 rotate_left
 .exact no (fun q=>e (by cases q; rfl))
 subst e
 refine Br.aD (fun e=>?_) (fun e=>?_)<;>simp(disch:=omega)only[go_sem,e]
 rotate_left
 .exact no (fun q=>e (by cases q; rfl))
 subst e
 refine Br.aD (fun e=>?_) (fun e=>?_)<;>simp(disch:=omega)only[go_sem,e]
 rotate_left
 .exact no (fun q=>e (by cases q; rfl))
 subst e
 refine Br.aD (fun e=>?_) (fun e=>?_)<;>simp(disch:=omega)only[go_sem,e]
 rotate_left
 .exact no (fun q=>e (by cases q; rfl))
 subst e
 refine Br.aD (fun e=>?_) (fun e=>?_)<;>simp(disch:=omega)only[go_sem,e]
 rotate_left
 .exact no (fun q=>e (by cases q; rfl))
 subst e
 refine Br.aD (fun e=>?_) (fun e=>?_)<;>simp(disch:=omega)only[go_sem,e]
 rotate_left
 .exact no (fun q=>e (by cases q; rfl))
 subst e
 refine Br.aD (fun e=>?_) (fun e=>?_)<;>simp(disch:=omega)only[go_sem,e]
 rotate_left
 .exact no (fun q=>e (by cases q; rfl))
 refine Br.aD (fun e2=>?_) (fun e2=>?_)<;>simp(disch:=omega)only[go_sem,e2]
 rotate_left
 .exact no (fun q=>e2 (by cases q; rfl))
 refine W.find (a6.zip b6) (fun q=>!eqv q.1 q.2) (fun k=>⟨[(2,.ptr 2 0),(3,.ptr 3 0),(5,.pv (.int .i64 k))],⟨[(2,[.pv (.int .i64 a1),.pv (.str a2),.pv (.int .i64 a3),.pv (.int .i64 a4),.pv (.int .i64 a5),.pv (.aa 0 (a6.map Sym.c)),.pv (.aa 0 (a7.map Mem.c)),.pv (.int .i64 a8),.pv (.int .i64 a9),.pv (.bool a10)]),(3,[.pv (.int .i64 a1),.pv (.str a2),.pv (.int .i64 a3),.pv (.int .i64 a4),.pv (.int .i64 a5),.pv (.aa 0 (b6.map Sym.c)),.pv (.aa 0 (b7.map Mem.c)),.pv (.int .i64 a8),.pv (.int .i64 a9),.pv (.bool a10)])],[],[]⟩⟩) rfl (fun k q hq hk hfd=>?_) (fun hn=>?_)
 .obtain⟨h1,h2⟩:=iJ hq
  rw[dF (by omega)]at hk
  simp(disch:=omega)only[go_sem]
  refine Br.aD (fun c=>?_) (fun c=>(c (by omega)).elim)
  simp(disch:=omega)only[go_sem,h1,h2,Sym.c]
  rw[<- BN]
  refine Br.of (fun g=>?_) (fun g=>?_)<;>simp(disch:=omega)only[go_sem]
  .exact aX.of (by rw[g]; rfl) rfl
  .exact no (fun q=>mb.1 (hfd (by rw[g]; rfl)).ne (by cases q; rfl))
 .have hz:(a6.zip b6).length=a6.length:=dF (by omega)
  rw[hz]
  have e:=hn.eq (by omega)
  subst e
  simp(disch:=omega)only[go_sem]
  refine W.find (a7.zip b7) (fun q=>!eqv q.1 q.2) (fun k=>⟨[(2,.ptr 2 0),(3,.ptr 3 0),(6,.pv (.int .i64 k))],⟨[(2,[.pv (.int .i64 a1),.pv (.str a2),.pv (.int .i64 a3),.pv (.int .i64 a4),.pv (.int .i64 a5),.pv (.aa 0 (a6.map Sym.c)),.pv (.aa 0 (a7.map Mem.c)),.pv (.int .i64 a8),.pv (.int .i64 a9),.pv (.bool a10)]),(3,[.pv (.int .i64 a1),.pv (.str a2),.pv (.int .i64 a3),.pv (.int .i64 a4),.pv (.int .i64 a5),.pv (.aa 0 (a6.map Sym.c)),.pv (.aa 0 (b7.map Mem.c)),.pv (.int .i64 a8),.pv (.int .i64 a9),.pv (.bool a10)])],[],[]⟩⟩) rfl (fun k q hq hk hfd=>?_) (fun hn=>?_)
  .obtain⟨h1,h2⟩:=iJ hq
   rw[dF (by omega)]at hk
   have hc:=r316 q.1 q.2 (lx3 q.1 (Vz h1)) (ly3 q.2 (Vz h2))
   unfold Mem.c at hc
   simp(disch:=omega)only[go_sem]
   refine Br.aD (fun c=>?_) (fun c=>(c (by omega)).elim)
   simp(disch:=omega)only[go_sem,h1,h2,Mem.c,hc]
   refine Br.of (fun g=>?_) (fun g=>?_)<;>simp(disch:=omega)only[go_sem]
   .exact aX.of (by rw[g]; rfl) rfl
   .exact no (fun q=>mb.1 (hfd (by rw[g]; rfl)).ne (by cases q; rfl))
  .have hz:(a7.zip b7).length=a7.length:=dF (by omega)
   rw[hz]
   have e:=hn.eq (by omega)
   subst e
   simp(disch:=omega)only[go_sem]
   rw[eW]
def bd {α:Type} (p:α->Bool) (l:List α):Int:=match l.findIdx? p with
 |some k=>(k:Int)
 |none=> -1
theorem Found.bd {α:Type} {l:List α} {p:α->Bool} {k:Nat} {x:α} (h:Found l p k x):Pv.bd p l=k:=by
 unfold Pv.bd
 rw[h.idx]
theorem kS.bd {α:Type} {l:List α} {p:α->Bool} (h:kS l p):Pv.bd p l= -1:=by
 unfold Pv.bd
 rw[h.idx]
def rD (i:Int) (m:Mem):Bool:=decide (m.id=i)
def uI (i:Int) (m:Sym):Bool:=decide (m.id=i)
@[go_sem] theorem r305 (m:Mem) (u:Nat) (i:Int) (cs:List PV):res A az 305 [.agg m.c,.ro u (.int .i64 i::cs)]=some [.bool (rD i m)]:=by
 refine ai a305 rfl rfl ?_
 simp only[F305,JS]
 simp(disch:=omega)only[go_sem,Mem.c]
 rfl
@[go_sem] theorem r395 (m:Sym) (u:Nat) (i:Int) (cs:List PV):res A az 395 [.agg m.c,.ro u (.int .i64 i::cs)]=some [.bool (uI i m)]:=by
 refine ai a395 rfl rfl ?_
 simp only[F395,Kn]
 simp(disch:=omega)only[go_sem,Sym.c]
 rfl
theorem r304 (t u:Nat) (i:Int) (cs:List PV) (l:List Mem) (hl:l.length<=2^63 - 1):res A az 304 [.aa t (l.map Mem.c),.func 305 [.ro u (.int .i64 i::cs)]]=some [.int .i64 (bd (rD i) l)]:=by
 refine ai a304 rfl rfl ?_
 simp only[F304,JR]
 simp(disch:=omega)only[go_sem]
 refine W.find l (rD i) (fun k=>⟨[(0,.pv (.aa t (l.map Mem.c))),(1,.pv (.func 305 [.ro u (.int .i64 i::cs)])),(7,.pv (.int .i64 l.length)),(8,.pv (.int .i64 k))],⟨[],[],[]⟩⟩) rfl (fun k x hx hk hfd=>?_) (fun hn=>?_)
 .have hfx:=r305 x u i cs
  have hl13:x.c.length=13:=rfl
  have hmap:(x.c.map V.pv).take 13=x.c.map .pv:=rfl
  simp(disch:=omega)only[go_sem]
  refine Br.aD (fun h=>?_) (fun h=>(h (by omega)).elim)
  unfold Mem.c at hfx
  simp(disch:=omega)only[go_sem,hx,Mem.c,hfx]
  refine Br.of (fun h2=>?_) (fun h2=>?_)<;>simp(disch:=omega)only[go_sem]
  .rw[(hfd h2).bd]
  .exact aX.of h2 rfl
 .simp(disch:=omega)only[go_sem]
  rw[hn.bd]
theorem r394 (t u:Nat) (i:Int) (cs:List PV) (l:List Sym) (hl:l.length<=2^63 - 1):res A az 394 [.aa t (l.map Sym.c),.func 395 [.ro u (.int .i64 i::cs)]]=some [.int .i64 (bd (uI i) l)]:=by
 refine ai a394 rfl rfl ?_
 simp only[F394,Km]
 simp(disch:=omega)only[go_sem]
 refine W.find l (uI i) (fun k=>⟨[(0,.pv (.aa t (l.map Sym.c))),(1,.pv (.func 395 [.ro u (.int .i64 i::cs)])),(7,.pv (.int .i64 l.length)),(8,.pv (.int .i64 k))],⟨[],[],[]⟩⟩) rfl (fun k x hx hk hfd=>?_) (fun hn=>?_)
 .have hfx:=r395 x u i cs
  simp(disch:=omega)only[go_sem]
  refine Br.aD (fun h=>?_) (fun h=>(h (by omega)).elim)
  unfold Sym.c at hfx
  simp(disch:=omega)only[go_sem,hx,Sym.c,hfx]
  refine Br.of (fun h2=>?_) (fun h2=>?_)<;>simp(disch:=omega)only[go_sem]
  .rw[(hfd h2).bd]
  .exact aX.of h2 rfl
 .simp(disch:=omega)only[go_sem]
  rw[hn.bd]
theorem CK {α:Type} (p:α->Bool) (l:List α): -1<=bd p l/\bd p l<l.length:=by
 unfold bd
 cases h:l.findIdx? p with
 |none=>
  dsimp only
  omega
 |some k=>
  have:=Wd.1 h
  obtain⟨hk,_⟩:=this
  dsimp only
  omega
theorem r281 (t:aC) (i:Int) (h:t.aN.length<=2^63 - 1):res A az 281 [.agg t.c,.int .i64 i]=some [.int .i64 (max (bd (rD i) t.aN) 0),.bool (decide (0<=bd (rD i) t.aN))]:=by
 refine ai a281 rfl rfl ?_
 simp only[F281,Jz]
 unfold aC.c
 have h304:=fun u=>r304 0 u i [] t.aN h
 simp(disch:=omega)only[go_sem,h304]
theorem r392 (t:aC) (i:Int) (h:t.syms.length<=2^63 - 1):res A az 392 [.agg t.c,.int .i64 i]=some [.int .i64 (max (bd (uI i) t.syms) 0),.bool (decide (0<=bd (uI i) t.syms))]:=by
 refine ai a392 rfl rfl ?_
 simp only[F392,Kk]
 unfold aC.c
 have h394:=fun u=>r394 0 u i [] t.syms h
 simp(disch:=omega)only[go_sem,h394]
theorem r391 (t:aC) (i:Int) (h:t.aN.length<=2^63 - 1):res A az 391 [.agg t.c,.int .i64 i]=some [.int .i64 (max (bd (rD i) t.aN) 0),.bool (decide (0<=bd (rD i) t.aN))]:=by
 refine ai a391 rfl rfl ?_
 simp only[F391,Kj]
 unfold aC.c
 simp(disch:=omega)only[go_sem]
 refine W.find t.aN (rD i) (fun k=>⟨[(1,.pv (.int .i64 i)),(2,.ptr 2 0),(6,.pv (.int .i64 k))],⟨[(2,t.c.map .pv)],[],[]⟩⟩) rfl (fun k x hx hk hfd=>?_) (fun hn=>?_)
 .unfold aC.c
  simp(disch:=omega)only[go_sem,List.map_cons,List.map_nil]
  refine Br.aD (fun h=>?_) (fun h=>(h (by omega)).elim)
  simp(disch:=omega)only[go_sem,hx,Mem.c]
  have hpx:decide (x.id=i)=rD i x:=rfl
  rw[hpx]
  refine Br.of (fun g=>?_) (fun g=>?_)<;>simp(disch:=omega)only[go_sem]
  .rw[(hfd g).bd]
   have h1:max (k:Int) 0=k:=by omega
   have h2:(0:Int)<=k:=by omega
   simp[h1,h2]
  .exact aX.of g rfl
 .unfold aC.c
  simp(disch:=omega)only[go_sem,List.map_cons,List.map_nil]
  rw[hn.bd]
  rfl
theorem r393 (t:aC) (i:Int) (h:t.syms.length<=2^63 - 1):res A az 393 [.agg t.c,.int .i64 i]=some [.int .i64 (max (bd (uI i) t.syms) 0),.bool (decide (0<=bd (uI i) t.syms))]:=by
 refine ai a393 rfl rfl ?_
 simp only[F393,Kl]
 unfold aC.c
 simp(disch:=omega)only[go_sem]
 refine W.find t.syms (uI i) (fun k=>⟨[(1,.pv (.int .i64 i)),(2,.ptr 2 0),(6,.pv (.int .i64 k))],⟨[(2,t.c.map .pv)],[],[]⟩⟩) rfl (fun k x hx hk hfd=>?_) (fun hn=>?_)
 .unfold aC.c
  simp(disch:=omega)only[go_sem,List.map_cons,List.map_nil]
  refine Br.aD (fun h=>?_) (fun h=>(h (by omega)).elim)
  simp(disch:=omega)only[go_sem,hx,Sym.c]
  have hpx:decide (x.id=i)=uI i x:=rfl
  rw[hpx]
  refine Br.of (fun g=>?_) (fun g=>?_)<;>simp(disch:=omega)only[go_sem]
  .rw[(hfd g).bd]
   have h1:max (k:Int) 0=k:=by omega
   have h2:(0:Int)<=k:=by omega
   simp[h1,h2]
  .exact aX.of g rfl
 .unfold aC.c
  simp(disch:=omega)only[go_sem,List.map_cons,List.map_nil]
  rw[hn.bd]
  rfl
theorem r286 (k:Int):res A az 286 [.int .i64 k]=some [.bool (decide (4<=k)&&decide (k<=6))]:=by
 refine ai a286 rfl rfl ?_
 simp only[F286,JD]
 simp(disch:=omega)only[go_sem]
 have hk:(decide (4<=k)&&decide (k<=6))=decide (k=4\/k=5\/k=6):=by
  rw[Wp]
  simp only[Bool.and_eq_true,decide_eq_true_eq]
  omega
 rw[hk]
 refine Br.aD (fun h1=>?_) (fun h1=>?_)
 .have:decide (k=4\/k=5\/k=6)=true:=by simp[h1]
  rw[this]
  simp(disch:=omega)only[go_sem,h1]
 .by_cases h2:k=5
  .have:decide (k=4\/k=5\/k=6)=true:=by simp[h2]
   rw[this]
   simp(disch:=omega)only[go_sem,h2]
  .have:decide (k=4\/k=5\/k=6)=decide (k=6):=by simp[h1,h2]
   rw[this]
   simp(disch:=omega)only[go_sem,h1]
   refine Br.aD (fun h3=>(h2 h3).elim) (fun h3=>?_)
   simp(disch:=omega)only[go_sem,h3]
def ew:aC:=⟨0,⟨#[]⟩,0,0,0,[],[],0,0,false⟩
def e9 (t:aC):aC:=
 if t.kind=1 then { ew with kind:=1 }
 else if t.kind=2 then { ew with kind:=2,low:=t.low,high:=t.high }
 else if t.kind=3 then { ew with kind:=3,max:=t.max }
 else if t.kind=4 then { ew with kind:=4,name:=t.name,syms:=t.syms,ku:=t.ku }
 else if t.kind=5 then { ew with kind:=5,name:=t.name,aN:=t.aN }
 else if t.kind=6 then { ew with kind:=6,name:=t.name,aN:=t.aN,ku:=t.ku }
 else if t.kind=7 then { ew with kind:=7,max:=t.max,elem:=t.elem }
 else if t.kind=8 then { ew with kind:=8,max:=t.max,key:=t.key,elem:=t.elem }
 else { ew with kind:=t.kind,elem:=t.elem }
theorem tj (k:Int):k=1\/k=2\/k=3\/k=4\/k=5\/k=6\/k=7\/k=8\/(k≠1/\k≠2/\k≠3/\k≠4/\k≠5/\k≠6/\k≠7/\k≠8):=by omega
theorem tp:ew.ok:=by
 refine⟨?_,?_,fun s hs=>(List.not_mem_nil hs).elim,fun s hs=>(List.not_mem_nil hs).elim⟩<;>simp[ew,dY,bw,bV]
 exact V4 _
theorem CL {t:aC} (h:t.ok):(e9 t).ok:=by
 obtain⟨⟨h0,h1,h2,h3,h4,h5,h6⟩,⟨h7,h8⟩,h9,h10⟩:=h
 obtain⟨⟨z0,z1,z2,z3,z4,z5,z6⟩,⟨z7,z8⟩,z9,z10⟩:=tp
 have kk:dY 1/\dY 2/\dY 3/\dY 4/\dY 5/\dY 6/\dY 7/\dY 8:=by simp[dY]
 obtain⟨k1,k2,k3,k4,k5,k6,k7,k8⟩:=kk
 unfold e9
 repeat' split
 all_goals exact⟨⟨by assumption,by assumption,by assumption,by assumption,by assumption,by assumption,by assumption⟩,⟨by assumption,by assumption⟩,by assumption,by assumption⟩
set_option maxHeartbeats 4000000 in
theorem r309 (t:aC):res A az 309 [.agg t.c]=some [.agg (e9 t).c]:=by
 obtain⟨k,a2,a3,a4,a5,a6,a7,a8,a9,a10⟩:=t
 refine ai a309 rfl rfl ?_
 simp only[F309,JW]
 unfold e9 aC.c ew
 dsimp only
 rcases tj k with rfl|rfl|rfl|rfl|rfl|rfl|rfl|rfl|⟨n1,n2,n3,n4,n5,n6,n7,n8⟩
 all_goals simp(disch:=omega)only[go_sem, *]
 all_goals simp
noncomputable def kindOk (t:aC):Bool:=
 if t.kind=2 then decide (t.low<=t.high)
 else if t.kind=3 then decide (0<=t.max)&&decide (t.max<=200)
 else if t.kind=4 then kT t.syms
 else if t.kind=5 then eE true t.aN
 else if t.kind=6 then eE false t.aN
 else if t.kind=7 then decide (0<=t.max)&&decide (t.max<=50)
 else if t.kind=8 then decide (0<=t.max)&&decide (t.max<=50)
 else true
noncomputable def gi (t:aC):Bool:=(decide (1<=t.kind)&&decide (t.kind<=9))&&(eqv t (e9 t)&&((!(decide (4<=t.kind)&&decide (t.kind<=6))||isName t.name)&&kindOk t))
structure aC.short (t:aC):Prop where
 syms:t.syms.length<=1048576
 aN:t.aN.length<=1048576
set_option maxHeartbeats 4000000 in
theorem r285 (t : aC) (ht : t.ok) (hs : t.short) : res A az 285 [.agg t.c] = some [.bool (gi t)] := by
  have h309 := r309 t
  have h295 := r295 t (e9 t) ht (CL ht)
  obtain ⟨⟨o0,o1,_⟩,⟨_,_⟩,oS,oM⟩ := ht
  have h310 := r310 t.name o1
  have h286 := r286 t.kind
  have h311 := fun u => r311 u t.syms (by have := hs.syms; omega) (fun p hp => (oS p hp).2)
  have h312 := fun u b => r312 u t.aN b (by have := hs.aN; omega) oM
  unfold gi
  generalize eqv t (e9 t) = e at h295
  generalize e9 t = p at h295 h309
  have hnm : ∀ b,e = false -> (some [PV.bool false] : Option (List PV)) = some [PV.bool (b && (e && ((!(decide (4 <= t.kind) && decide (t.kind <= 6)) || isName t.name) && kindOk t)))] := fun b h => by
    rw [h,W5,Bool.and_false]
  unfold aC.c at *
  refine ai a285 rfl rfl ?_
  simp only [F285,JC]
  simp (disch := omega) only [go_sem]
  refine Br.aD (fun c1 => ?_) (fun c1 => ?_) <;> simp (disch := omega) only [go_sem,c1]
  . have : ¬ 1 <= t.kind := by omega
    simp [this]
  refine Br.aD (fun c2 => ?_) (fun c2 => ?_) <;> simp (disch := omega) only [go_sem,c2]
  . have : ¬ t.kind <= 9 := by omega
    simp [this]
  have k1 : decide (1 <= t.kind) = true := by simp; omega
  have k2 : decide (t.kind <= 9) = true := by simp; omega
  rw [k1,k2]
  simp (disch := omega) only [go_sem,h309,h295]
  refine Br.of (fun c3 => ?_) (fun c3 => ?_) <;> simp (disch := omega) only [go_sem,c3,h286]
  subst c3
  unfold kindOk
  by_cases hn : 4 <= t.kind /\ t.kind <= 6
  . have c4 : (decide (4 <= t.kind) && decide (t.kind <= 6)) = true := by simp [hn]
    rw [c4]
    simp (disch := omega) only [go_sem,h310]
    refine Br.of (fun c5 => ?_) (fun c5 => ?_) <;> simp (disch := omega) only [go_sem,c5]
    have hk : t.kind = 4 \/ t.kind = 5 \/ t.kind = 6 := by omega
    rcases hk with hk | hk | hk
    all_goals simp (disch := omega) only [go_sem,hk,h311,h312]
    all_goals simp [c5]
  . have c4 : (decide (4 <= t.kind) && decide (t.kind <= 6)) = false := by
      rw [Bool.eq_false_iff]
      simp
      omega
    rw [c4]
    simp (disch := omega) only [go_sem]
    have hk : t.kind = 1 \/ t.kind = 2 \/ t.kind = 3 \/ t.kind = 7 \/ t.kind = 8 \/ t.kind = 9 := by omega
    rcases hk with hk | hk | hk | hk | hk | hk
    all_goals simp (disch := omega) only [go_sem,hk]
    all_goals first
      | (simp [hk]
         done)
      | (refine Br.aD (fun c6 => ?_) (fun c6 => ?_) <;> simp (disch := omega) only [go_sem,c6]
         all_goals simp [hk])
set_option maxHeartbeats 8000000 in
theorem r283 (t:aC) (ht:t.ok) (hs:t.short):res A az 283 [.agg t.c]=some [.bool (gi t)]:=by
 have h297:=fun z hz=>r297 z ew hz tp
 have h308:=r308 t ht (by have:=hs.aN; omega)
 have ht':=ht
 obtain⟨⟨o0,o1,o2,o3,o4,o5,o6⟩,⟨l1,l2⟩,oS,oM⟩:=ht
 have h306:=r306 t.name o1
 have h307:=fun u=>r307 u t.syms (by have:=hs.syms; omega) (fun p hp=>(oS p hp).2)
 obtain⟨k,a2,a3,a4,a5,a6,a7,a8,a9,a10⟩:=t
 unfold gi e9 kindOk
 unfold ew aC.c at *
 dsimp only at *
 refine ai a283 rfl rfl ?_
 simp only[F283,JA]
 simp(disch:=omega)only[go_sem]
 have no:∀{z:Bool},z=false->(some [PV.bool false]:Option (List PV))=some [PV.bool z]:=fun h=>by rw[h]
 have ze:∀{x y z p:aC},(x=y↔z=p)->eqv x y=eqv z p:=fun {x y z p} h=>by
  rw[Wp,cJ,cJ]
  exact h
 have okz:∀(k:Int) (a2:ByteArray) (a3 a4 a5:Int) (a6:List Sym) (a7:List Mem) (a8 a9:Int) (a10:Bool),dY k->bw a2->dY a3->dY a4->dY a5->bV a6->bV a7->(∀s∈a6,s.ok)->(∀m∈a7,m.ok)->dY a8->dY a9->(⟨k,a2,a3,a4,a5,a6,a7,a8,a9,a10⟩:aC).ok:=
  fun k a2 a3 a4 a5 a6 a7 a8 a9 a10 h1 h2 h3 h4 h5 h6 h7 h8 h9 h10 h11=>⟨⟨h1,h2,h3,h4,h5,h10,h11⟩,⟨h6,h7⟩,h8,h9⟩
 have i0:dY 0:=by simp[dY]
 have s0:bw ⟨#[]⟩:=by simp[bw]; exact Nat.zero_le _
 have y0:bV ([]:List Sym):=by simp[bV]
 have m0:bV ([]:List Mem):=by simp[bV]
 have y1:∀s∈([]:List Sym),s.ok:=fun s hs=>(List.not_mem_nil hs).elim
 have m1:∀s∈([]:List Mem),s.ok:=fun s hs=>(List.not_mem_nil hs).elim
 rcases tj k with rfl|rfl|rfl|rfl|rfl|rfl|rfl|rfl|⟨n1,n2,n3,n4,n5,n6,n7,n8⟩
 .have hz:=h297 ⟨0,a2,a3,a4,a5,a6,a7,a8,a9,a10⟩ (okz _ _ _ _ _ _ _ _ _ _ i0 o1 o2 o3 o4 l1 l2 oS oM o5 o6)
  simp only[List.map_nil]at hz
  simp(disch:=omega)only[go_sem,hz]
  rw[ze (z:=⟨1,a2,a3,a4,a5,a6,a7,a8,a9,a10⟩) (p:=⟨1,⟨#[]⟩,0,0,0,[],[],0,0,false⟩) (by simp)]
 .have hz:=h297 ⟨0,a2,0,0,a5,a6,a7,a8,a9,a10⟩ (okz _ _ _ _ _ _ _ _ _ _ i0 o1 i0 i0 o4 l1 l2 oS oM o5 o6)
  simp only[List.map_nil]at hz
  simp(disch:=omega)only[go_sem]
  refine Br.aD (fun c=>?_) (fun c=>?_)<;>simp(disch:=omega)only[go_sem,c,hz]
  .rw[ze (z:=⟨2,a2,a3,a4,a5,a6,a7,a8,a9,a10⟩) (p:=⟨2,⟨#[]⟩,a3,a4,0,[],[],0,0,false⟩) (by simp)]
 .have hz:=h297 ⟨0,a2,a3,a4,0,a6,a7,a8,a9,a10⟩ (okz _ _ _ _ _ _ _ _ _ _ i0 o1 o2 o3 i0 l1 l2 oS oM o5 o6)
  simp only[List.map_nil]at hz
  simp(disch:=omega)only[go_sem]
  refine Br.aD (fun c=>?_) (fun c=>?_)<;>simp(disch:=omega)only[go_sem,c]
  .refine Br.aD (fun c2=>?_) (fun c2=>?_)<;>simp(disch:=omega)only[go_sem,c2,hz]
   .rw[ze (z:=⟨3,a2,a3,a4,a5,a6,a7,a8,a9,a10⟩) (p:=⟨3,⟨#[]⟩,0,0,a5,[],[],0,0,false⟩) (by simp)]
    simp[c]
 .have hz:=h297 ⟨0,⟨#[]⟩,a3,a4,a5,[],a7,a8,a9,false⟩ (okz _ _ _ _ _ _ _ _ _ _ i0 s0 o2 o3 o4 y0 l2 y1 oM o5 o6)
  simp only[List.map_nil]at hz
  simp(disch:=omega)only[go_sem,h306]
  refine Br.of (fun c=>?_) (fun c=>?_)<;>simp(disch:=omega)only[go_sem,c,h307]
  .refine Br.of (fun c2=>?_) (fun c2=>?_)<;>simp(disch:=omega)only[go_sem,c2,hz]
   .rw[ze (z:=⟨4,a2,a3,a4,a5,a6,a7,a8,a9,a10⟩) (p:=⟨4,a2,0,0,0,a6,[],0,0,a10⟩) (by simp)]
    simp[c]
 .have hz:=h297 ⟨0,⟨#[]⟩,a3,a4,a5,a6,[],a8,a9,a10⟩ (okz _ _ _ _ _ _ _ _ _ _ i0 s0 o2 o3 o4 l1 m0 oS m1 o5 o6)
  simp only[List.map_nil]at hz
  have h308:=h308 (by simp)
  simp(disch:=omega)only[go_sem,h306]
  refine Br.of (fun c=>?_) (fun c=>?_)<;>simp(disch:=omega)only[go_sem,c,h308]
  .cases a10 with
   |false=>
    simp(disch:=omega)only[go_sem]
    refine Br.of (fun c2=>?_) (fun c2=>?_)<;>simp(disch:=omega)only[go_sem,c2,hz]
    rw[ze (z:=⟨5,a2,a3,a4,a5,a6,a7,a8,a9,false⟩) (p:=⟨5,a2,0,0,0,[],a7,0,0,false⟩) (by simp)]
    have c2':eE true a7=true:=by simpa using c2
    simp[c]
   |true=>
    simp(disch:=omega)only[go_sem]
    refine Br.of (fun c2=>?_) (fun c2=>?_)<;>simp(disch:=omega)only[go_sem,c2,hz]
    rw[ze (z:=⟨5,a2,a3,a4,a5,a6,a7,a8,a9,true⟩) (p:=⟨5,a2,0,0,0,[],a7,0,0,false⟩) (by simp)]
    have c2':eE true a7=true:=by simpa using c2
    simp[c]
  .cases a10<;>simp(disch:=omega)only[go_sem]<;>exact no (by simp[c])
 .have hz:=h297 ⟨0,⟨#[]⟩,a3,a4,a5,a6,[],a8,a9,false⟩ (okz _ _ _ _ _ _ _ _ _ _ i0 s0 o2 o3 o4 l1 m0 oS m1 o5 o6)
  simp only[List.map_nil]at hz
  have h308:=h308 (by simp)
  simp(disch:=omega)only[go_sem,h306]
  refine Br.of (fun c=>?_) (fun c=>?_)<;>simp(disch:=omega)only[go_sem,c,h308]
  .cases a10 with
   |false=>
    simp(disch:=omega)only[go_sem]
    refine Br.of (fun c2=>?_) (fun c2=>?_)<;>simp(disch:=omega)only[go_sem,c2,hz]
    rw[ze (z:=⟨6,a2,a3,a4,a5,a6,a7,a8,a9,false⟩) (p:=⟨6,a2,0,0,0,[],a7,0,0,false⟩) (by simp)]
    have c2':eE false a7=true:=by simpa using c2
    simp[c]
   |true=>
    simp(disch:=omega)only[go_sem]
    refine Br.of (fun c2=>?_) (fun c2=>?_)<;>simp(disch:=omega)only[go_sem,c2,hz]
    rw[ze (z:=⟨6,a2,a3,a4,a5,a6,a7,a8,a9,true⟩) (p:=⟨6,a2,0,0,0,[],a7,0,0,true⟩) (by simp)]
    have c2':eE false a7=true:=by simpa using c2
    simp[c]
  .cases a10<;>simp(disch:=omega)only[go_sem]<;>exact no (by simp[c])
 .have hz:=h297 ⟨0,a2,a3,a4,0,a6,a7,a8,0,a10⟩ (okz _ _ _ _ _ _ _ _ _ _ i0 o1 o2 o3 i0 l1 l2 oS oM o5 i0)
  simp only[List.map_nil]at hz
  simp(disch:=omega)only[go_sem]
  refine Br.aD (fun c=>?_) (fun c=>?_)<;>simp(disch:=omega)only[go_sem,c]
  .refine Br.aD (fun c2=>?_) (fun c2=>?_)<;>simp(disch:=omega)only[go_sem,c2,hz]
   .rw[ze (z:=⟨7,a2,a3,a4,a5,a6,a7,a8,a9,a10⟩) (p:=⟨7,⟨#[]⟩,0,0,a5,[],[],0,a9,false⟩) (by simp)]
    simp[c]
 .have hz:=h297 ⟨0,a2,a3,a4,0,a6,a7,0,0,a10⟩ (okz _ _ _ _ _ _ _ _ _ _ i0 o1 o2 o3 i0 l1 l2 oS oM i0 i0)
  simp only[List.map_nil]at hz
  simp(disch:=omega)only[go_sem]
  refine Br.aD (fun c=>?_) (fun c=>?_)<;>simp(disch:=omega)only[go_sem,c]
  .refine Br.aD (fun c2=>?_) (fun c2=>?_)<;>simp(disch:=omega)only[go_sem,c2,hz]
   .rw[ze (z:=⟨8,a2,a3,a4,a5,a6,a7,a8,a9,a10⟩) (p:=⟨8,⟨#[]⟩,0,0,a5,[],[],a8,a9,false⟩) (by simp)]
    simp[c]
 .have hz:=h297 ⟨0,a2,a3,a4,a5,a6,a7,a8,0,a10⟩ (okz _ _ _ _ _ _ _ _ _ _ i0 o1 o2 o3 o4 l1 l2 oS oM o5 i0)
  simp only[List.map_nil]at hz
  simp(disch:=omega)only[go_sem,n1,n2,n3,n4,n5,n6,n7,n8]
  refine Br.aD (fun c=>?_) (fun c=>?_)<;>simp(disch:=omega)only[go_sem,c,hz]
  .rw[ze (z:=⟨k,a2,a3,a4,a5,a6,a7,a8,a9,a10⟩) (p:=⟨k,⟨#[]⟩,0,0,0,[],[],0,a9,false⟩) (by simp)]
   simp[c]
  .refine no ?_
   have:(decide (1<=k)&&decide (k<=9))=false:=by
    rw[Bool.eq_false_iff]
    simp
    omega
   rw[this,W5]
def qX (t:aC):List Int:=if t.kind=8 then [t.key] else []
def kU (t:aC):List Int:=if 7<=t.kind then [t.elem] else []
def bT (t:aC):List Int:=t.aN.map (·.type)++qX t++kU t
set_option maxHeartbeats 2000000 in
theorem r284 (t:aC) (hs:t.short):res A az 284 [.agg t.c]=some [.aa 0 (ints (bT t))]:=by
 have hl:=hs.aN
 obtain⟨k,a2,a3,a4,a5,a6,l,a8,a9,a10⟩:=t
 unfold bT qX kU aC.c
 dsimp only at *
 refine ai a284 rfl rfl ?_
 simp only[F284,JB]
 simp(disch:=omega)only[go_sem]
 refine W.cD l.length (fun j=>⟨[(1,.ptr 1 0),(3,cY 0 (ints ((l.take j).map (·.type)))),(7,.pv (.aa 0 (l.map Mem.c))),(8,.pv (.int .i64 l.length)),(9,.pv (.int .i64 j))],⟨[(1,[.pv (.int .i64 k),.pv (.str a2),.pv (.int .i64 a3),.pv (.int .i64 a4),.pv (.int .i64 a5),.pv (.aa 0 (a6.map Sym.c)),.pv (.aa 0 (l.map Mem.c)),.pv (.int .i64 a8),.pv (.int .i64 a9),.pv (.bool a10)])],cm 1 (ints ((l.take j).map (·.type))),[]⟩⟩) (fun _=>True) rfl trivial (fun j hj _=>?_)
 rcases VG j l.length with hlt|hge
 .have hp:=VA hlt
  generalize l[j]=p at hp
  have t1:(l.take (j+1)).map (·.type)=(l.take j).map (·.type)++[p.type]:=by rw[VT,hp,Wk]; rfl
  have l1:((l.take j).map (·.type)).length=j:=by simp; omega
  generalize (l.take j).map (·.type)=u at t1 l1
  simp(disch:=omega)only[go_sem]
  refine Br.aD (fun c=>?_) (fun c=>(c (by omega)).elim)
  simp(disch:=omega)only[go_sem,hp,Mem.c]
  refine .of (by omega) ?_ trivial
  rw[t1]
  rfl
 .obtain rfl:j=l.length:=by omega
  rw[VW]
  have l1:(l.map (·.type)).length=l.length:=by simp
  generalize l.map (·.type)=u at l1
  simp(disch:=omega)only[go_sem]
  refine Br.aD (fun c=>?_) (fun c=>?_)<;>simp(disch:=omega)only[go_sem,c]
  .have l2:(u++[a8]).length=l.length+1:=by simp[l1]
   have h7:7<=k:=by omega
   simp(disch:=omega)only[go_sem]
   simp[c]
  .refine Br.aD (fun c2=>?_) (fun c2=>?_)<;>simp(disch:=omega)only[go_sem,c2]
   .simp[c]
   .simp[c]
set_option maxHeartbeats 2000000 in
theorem r287 (t:aC) (hs:t.short) (h9:t.kind<=9):res A az 287 [.agg t.c]=some [.aa 0 (ints (bT t))]:=by
 have hl:=hs.aN
 obtain⟨k,a2,a3,a4,a5,a6,l,a8,a9,a10⟩:=t
 unfold bT qX kU aC.c
 dsimp only at *
 refine ai a287 rfl rfl ?_
 simp only[F287,JE]
 simp(disch:=omega)only[go_sem]
 refine W.cD l.length (fun j=>⟨[(1,.ptr 1 0),(3,cY 0 (ints ((l.take j).map (·.type)))),(4,.pv (.int .i64 j))],⟨[(1,[.pv (.int .i64 k),.pv (.str a2),.pv (.int .i64 a3),.pv (.int .i64 a4),.pv (.int .i64 a5),.pv (.aa 0 (a6.map Sym.c)),.pv (.aa 0 (l.map Mem.c)),.pv (.int .i64 a8),.pv (.int .i64 a9),.pv (.bool a10)])],cm 1 (ints ((l.take j).map (·.type))),[]⟩⟩) (fun _=>True) rfl trivial (fun j hj _=>?_)
 rcases VG j l.length with hlt|hge
 .have hp:=VA hlt
  generalize l[j]=p at hp
  have t1:(l.take (j+1)).map (·.type)=(l.take j).map (·.type)++[p.type]:=by rw[VT,hp,Wk]; rfl
  have l1:((l.take j).map (·.type)).length=j:=by simp; omega
  generalize (l.take j).map (·.type)=u at t1 l1
  simp(disch:=omega)only[go_sem]
  refine Br.aD (fun c=>?_) (fun c=>(c (by omega)).elim)
  simp(disch:=omega)only[go_sem,hp,Mem.c]
  refine .of (by omega) ?_ trivial
  rw[t1]
  rfl
 .obtain rfl:j=l.length:=by omega
  rw[VW]
  have l1:(l.map (·.type)).length=l.length:=by simp
  generalize l.map (·.type)=u at l1
  have l2:(u++[a8]).length=l.length+1:=by simp[l1]
  simp(disch:=omega)only[go_sem]
  refine Br.aD (fun c=>?_) (fun c=>?_)<;>simp(disch:=omega)only[go_sem,c]
  refine Br.aD (fun c2=>?_) (fun c2=>?_)<;>simp(disch:=omega)only[go_sem,c,c2]
  refine Br.aD (fun c3=>?_) (fun c3=>?_)<;>simp(disch:=omega)only[go_sem,c3]
  have h7:¬7<=k:=by omega
  simp[c,h7]
theorem r288 (k:Int):res A az 288 [.int .i64 k]=some [.bool (decide (1<=k)&&decide (k<=4))]:=by
 refine ai a288 rfl rfl ?_
 simp only[F288,JF]
 simp(disch:=omega)only[go_sem]
 refine Br.aD (fun c=>?_) (fun c=>?_)<;>simp(disch:=omega)only[go_sem,c]
def kV (l:List aC) (i:Int):Int:=((l[i.toNat]?).map (·.kind)).getD 0
def iM (l:List aC) (k:Nat) (t:aC):Bool:=!decide (t.name=⟨#[]⟩)&&cy ((l.take k).map (·.name)) t.name
def dh (n:Nat) (u:Int):Bool:=decide (u<0)||decide ((n:Int)<=u)
def er (l:List aC) (t:aC):Bool:=decide (t.kind=8)&&!(decide (1<=kV l t.key)&&decide (kV l t.key<=4))
noncomputable def eF (l:List aC) (k:Nat) (t:aC):Int:=if (!gi t||iM l k t)=true then 1 else if (bT t).any (dh l.length)=true then 4 else if er l t=true then 1 else 0
noncomputable def eR (l:List aC) (k:Nat):Int:=match l[k]? with
 |some t=>eF l k t
 |none=>0
noncomputable def tu (l:List aC) (o:Option Nat):Int:=match o with
 |some k=>eR l k
 |none=>0
noncomputable def bW (l:List aC):Int:=if 32<l.length then 3 else tu l ((List.range l.length).find? fun k=>decide (eR l k≠0))
def ph (l:List aC) (k:Nat):List ByteArray:=((l.take k).map (·.name)).foldl qk []
theorem qn:∀(m s:List ByteArray) (x:ByteArray),x∈m.foldl qk s↔x∈s\/x∈m
 |[],s,x=>by simp
 |y::m,s,x=>by
  rw[Wy,qn m (qk s y) x,ED,V6]
  constructor
  .rintro ((h|h)|h)
   .exact .inl h
   .exact .inr (.inl h)
   .exact .inr (.inr h)
  .rintro (h|h|h)
   .exact .inl (.inl h)
   .exact .inl (.inr h)
   .exact .inr h
theorem vw (l:List aC) (k:Nat) (x:ByteArray):cy (ph l k) x=cy ((l.take k).map (·.name)) x:=by
 rw[Wp,jk,jk,ph,qn]
 simp
theorem AL {l:List aC} {k:Nat} {t:aC} (h:l[k]?=some t):qk (ph l k) t.name=ph l (k+1):=by
 unfold ph
 rw[VT,h,Wk,List.foldl_append]
 rfl
theorem ka {t:aC} (h:t.kind=8):t.key∈bT t:=by simp[bT,qX,h]
set_option maxHeartbeats 4000000 in
theorem r267 (v:Nat) (l:List aC) (hl:l.length<=2147483648) (ho:∀t∈l,t.ok) (hs:∀t∈l,t.short):res A az 267 [.agg [.aa v (l.map aC.c)]]=some [.int .i64 (bW l)]:=by
 refine ai a267 rfl rfl ?_
 simp only[F267,Jt]
 simp(disch:=omega)only[go_sem]
 refine Br.aD (fun c0=>?_) (fun c0=>?_)<;>simp(disch:=omega)only[go_sem,c0]
 .have:32<l.length:=by omega
  simp[bW,this]
 have h32:¬32<l.length:=by omega
 unfold bW
 rw[if_neg h32]
 obtain⟨G,hG⟩:∃G,tu l ((List.range l.length).find? fun k=>decide (eR l k≠0))=G:=⟨_,rfl⟩
 rw[hG]
 refine W.find (List.range l.length) (fun k=>decide (eR l k≠0)) (fun k=>⟨[(1,.ptr 1 0),(3,.map 0),(14,.pv (.aa v (l.map aC.c))),(15,.pv (.int .i64 l.length)),(16,.pv (.int .i64 k))],⟨[(1,[.pv (.aa v (l.map aC.c))])],[],[jj (ph l k)]⟩⟩) rfl (fun k x hx hk hfd=>?_) (fun hn=>?_)
 .obtain⟨rfl,hk⟩:=cL hx
  have hp:=VA hk
  generalize l[x]=p at hp
  have hm:=Vz hp
  have h283:=r283 p (ho p hm) (hs p hm)
  have h284:=r284 p (hs p hm)
  have he:eR l x=eF l x p:=by simp only[eR,hp]
  have hnx:=AL hp
  have hsn:=vw l x p.name
  have done:∀e:Int,eF l x p=e->e≠0->(some [PV.int .i64 e]:Option (List PV))=some [.int .i64 G]:=fun e h1 h2=>by
   rw[<- hG,(hfd (by rw[he,h1]; simpa using h2)).find,tu,he,h1]
  rw[he]
  have hul:(bT p).length<=1048578:=by
   have:=(hs p hm).aN
   unfold bT qX kU
   rw[VE,VE,VB]
   split<;>split<;>simp<;>omega
  unfold aC.c at h283 h284
  simp(disch:=omega)only[go_sem]
  refine Br.aD (fun c=>?_) (fun c=>(c (by omega)).elim)
  simp(disch:=omega)only[go_sem,hp,aC.c,h283]
  refine Br.of (fun c1=>?_) (fun c1=>?_)<;>simp(disch:=omega)only[go_sem,c1]
  rotate_left
  .exact done 1 (by simp[eF,c1]) (by decide)
  have nodup:iM l x p=false->(!gi p||iM l x p)=false:=fun h=>by rw[c1,h]; rfl
  have dup:iM l x p=(!decide (p.name=⟨#[]⟩)&&cy (ph l x) p.name):=by rw[vw]; rfl
  have hown:(gi p)=true:=c1
  refine Br.aD (fun c2=>?_) (fun c2=>?_)
  .have d2:decide (p.name=⟨#[]⟩)=true:=by simp[c2]
   rw[d2]at dup
   have hd:=nodup (by rw[dup]; rfl)
   clear c2
   simp(disch:=omega)only[go_sem,d2,h284,hnx]
   refine W.find (bT p) (dh l.length) (fun j=>⟨[(1,.ptr 1 0),(3,.map 0),(5,.ptr 5 0),(14,.pv (.aa v (l.map aC.c))),(15,.pv (.int .i64 l.length)),(16,.pv (.int .i64 x)),(38,.pv (.aa 0 (ints (bT p)))),(39,.pv (.int .i64 (bT p).length)),(40,.pv (.int .i64 j))],⟨[(1,[.pv (.aa v (l.map aC.c))]),(5,[.pv (.int .i64 p.kind),.pv (.str p.name),.pv (.int .i64 p.low),.pv (.int .i64 p.high),.pv (.int .i64 p.max),.pv (.aa 0 (p.syms.map Sym.c)),.pv (.aa 0 (p.aN.map Mem.c)),.pv (.int .i64 p.key),.pv (.int .i64 p.elem),.pv (.bool p.ku)])],[],[jj (ph l (x+1))]⟩⟩) rfl (fun j u hu hj hfd2=>?_) (fun hn=>?_)
   .have d4:dh l.length u=true->eF l x p=4:=fun g=>by
     rw[eF,hd,(hfd2 g).any]
     rfl
    simp(disch:=omega)only[go_sem]
    refine Br.aD (fun c=>?_) (fun c=>(c (by omega)).elim)
    simp(disch:=omega)only[go_sem,hu]
    refine Br.aD (fun c4=>?_) (fun c4=>?_)<;>simp(disch:=omega)only[go_sem,c4]
    .exact done 4 (d4 (by simp[dh,c4])) (by decide)
    refine Br.aD (fun c5=>?_) (fun c5=>?_)<;>simp(disch:=omega)only[go_sem,c5]
    .exact done 4 (d4 (by simp[dh,c5])) (by decide)
    .exact aX.of (by simp[dh,c4,c5]) rfl
   .have he2:eF l x p=if er l p=true then 1 else 0:=by
     rw[eF,hd,hn.any]
     rfl
    simp(disch:=omega)only[go_sem]
    refine Br.aD (fun c4=>?_) (fun c4=>?_)
    .have hku:=ka c4
     have hout:=Wt.1 hn.any _ hku
     have hk0:0<=p.key/\p.key<l.length:=by
      simp[dh]at hout
      omega
     have hkk:=VA (l:=l) (i:=p.key.toNat) (by omega)
     have hka:kV l p.key=(l[p.key.toNat]'(by omega)).kind:=by rw[kV,hkk]; rfl
     generalize l[p.key.toNat]'(by omega)=q at hkk hka
     have d8:decide (p.kind=8)=true:=by simp[c4]
     have hb:er l p=!(decide (1<=q.kind)&&decide (q.kind<=4)):=by rw[er,d8,hka]; rfl
     have hidx:jz 10 v (l.map aC.c) (some p.key)=some (V.pv (.ro v q.c)):=by
      rw[gQ _ _ _ hk0.1,VF,hkk]
      rfl
     unfold aC.c at hidx
     unfold aC.c
     simp(disch:=omega)only[go_sem,d8,hidx]
     refine Br.aD (fun c6=>?_) (fun c6=>?_)<;>simp(disch:=omega)only[go_sem,c6]
     .refine done 1 ?_ (by decide)
      have:¬1<=q.kind:=by omega
      rw[he2,hb]
      simp[this]
     simp(disch:=omega)only[go_sem,hidx]
     refine Br.aD (fun c7=>?_) (fun c7=>?_)<;>simp(disch:=omega)only[go_sem,c7]
     .refine done 1 ?_ (by decide)
      have:¬q.kind<=4:=by omega
      rw[he2,hb]
      simp[this]
     .refine aX.of ?_ rfl
      have h1:1<=q.kind:=by omega
      have h2:q.kind<=4:=by omega
      rw[he2,hb]
      simp[h1,h2]
    .have d8:decide (p.kind=8)=false:=by simp[c4]
     have hb:er l p=false:=by rw[er,d8]; rfl
     simp(disch:=omega)only[go_sem,d8]
     refine aX.of ?_ rfl
     rw[he2,hb]
     rfl
  .have d2:decide (p.name=⟨#[]⟩)=false:=by simp[c2]
   rw[d2]at dup
   simp(disch:=omega)only[go_sem,d2]
   refine Br.of (fun c3=>?_) (fun c3=>?_)<;>simp(disch:=omega)only[go_sem,c3,h284,hnx]
   .refine done 1 ?_ (by decide)
    rw[eF,dup,c3]
    simp
   have hd:=nodup (by rw[dup,c3]; rfl)
   refine W.find (bT p) (dh l.length) (fun j=>⟨[(1,.ptr 1 0),(3,.map 0),(5,.ptr 5 0),(14,.pv (.aa v (l.map aC.c))),(15,.pv (.int .i64 l.length)),(16,.pv (.int .i64 x)),(38,.pv (.aa 0 (ints (bT p)))),(39,.pv (.int .i64 (bT p).length)),(40,.pv (.int .i64 j))],⟨[(1,[.pv (.aa v (l.map aC.c))]),(5,[.pv (.int .i64 p.kind),.pv (.str p.name),.pv (.int .i64 p.low),.pv (.int .i64 p.high),.pv (.int .i64 p.max),.pv (.aa 0 (p.syms.map Sym.c)),.pv (.aa 0 (p.aN.map Mem.c)),.pv (.int .i64 p.key),.pv (.int .i64 p.elem),.pv (.bool p.ku)])],[],[jj (ph l (x+1))]⟩⟩) rfl (fun j u hu hj hfd2=>?_) (fun hn=>?_)
   .have d4:dh l.length u=true->eF l x p=4:=fun g=>by
     rw[eF,hd,(hfd2 g).any]
     rfl
    simp(disch:=omega)only[go_sem]
    refine Br.aD (fun c=>?_) (fun c=>(c (by omega)).elim)
    simp(disch:=omega)only[go_sem,hu]
    refine Br.aD (fun c4=>?_) (fun c4=>?_)<;>simp(disch:=omega)only[go_sem,c4]
    .exact done 4 (d4 (by simp[dh,c4])) (by decide)
    refine Br.aD (fun c5=>?_) (fun c5=>?_)<;>simp(disch:=omega)only[go_sem,c5]
    .exact done 4 (d4 (by simp[dh,c5])) (by decide)
    .exact aX.of (by simp[dh,c4,c5]) rfl
   .have he2:eF l x p=if er l p=true then 1 else 0:=by
     rw[eF,hd,hn.any]
     rfl
    simp(disch:=omega)only[go_sem]
    refine Br.aD (fun c4=>?_) (fun c4=>?_)
    .have hku:=ka c4
     have hout:=Wt.1 hn.any _ hku
     have hk0:0<=p.key/\p.key<l.length:=by
      simp[dh]at hout
      omega
     have hkk:=VA (l:=l) (i:=p.key.toNat) (by omega)
     have hka:kV l p.key=(l[p.key.toNat]'(by omega)).kind:=by rw[kV,hkk]; rfl
     generalize l[p.key.toNat]'(by omega)=q at hkk hka
     have d8:decide (p.kind=8)=true:=by simp[c4]
     have hb:er l p=!(decide (1<=q.kind)&&decide (q.kind<=4)):=by rw[er,d8,hka]; rfl
     have hidx:jz 10 v (l.map aC.c) (some p.key)=some (V.pv (.ro v q.c)):=by
      rw[gQ _ _ _ hk0.1,VF,hkk]
      rfl
     unfold aC.c at hidx
     unfold aC.c
     simp(disch:=omega)only[go_sem,d8,hidx]
     refine Br.aD (fun c6=>?_) (fun c6=>?_)<;>simp(disch:=omega)only[go_sem,c6]
     .refine done 1 ?_ (by decide)
      have:¬1<=q.kind:=by omega
      rw[he2,hb]
      simp[this]
     simp(disch:=omega)only[go_sem,hidx]
     refine Br.aD (fun c7=>?_) (fun c7=>?_)<;>simp(disch:=omega)only[go_sem,c7]
     .refine done 1 ?_ (by decide)
      have:¬q.kind<=4:=by omega
      rw[he2,hb]
      simp[this]
     .refine aX.of ?_ rfl
      have h1:1<=q.kind:=by omega
      have h2:q.kind<=4:=by omega
      rw[he2,hb]
      simp[h1,h2]
    .have d8:decide (p.kind=8)=false:=by simp[c4]
     have hb:er l p=false:=by rw[er,d8]; rfl
     simp(disch:=omega)only[go_sem,d8]
     refine aX.of ?_ rfl
     rw[he2,hb]
     rfl
 .rw[hn.find]at hG
  rw[V7]
  simp(disch:=omega)only[go_sem]
  rw[<- hG]
  rfl
theorem CM {s:ByteArray} (h:isName s=true):s≠⟨#[]⟩:=by
 rintro rfl
 cases h
theorem wV {t:aC} (hn:¬(4<=t.kind/\t.kind<=6)):(e9 t).name=⟨#[]⟩:=by
 unfold e9
 repeat' split
 all_goals first
  |rfl
  |omega
theorem EG {p:aC} (h:gi p=true):decide (p.name=⟨#[]⟩)=!(decide (4<=p.kind)&&decide (p.kind<=6)):=by
 unfold gi at h
 rw[Bool.and_eq_true,Bool.and_eq_true (eqv p (e9 p)),Bool.and_eq_true (!(decide (4<=p.kind)&&decide (p.kind<=6))||isName p.name),cJ]at h
 obtain⟨h1,h2,h3,h4⟩:=h
 by_cases hn:4<=p.kind/\p.kind<=6
 .have e:(decide (4<=p.kind)&&decide (p.kind<=6))=true:=by simp[hn]
  rw[e]at h3 |-
  have h3:isName p.name=true:=by simpa using h3
  simp[CM h3]
 .have e:(decide (4<=p.kind)&&decide (p.kind<=6))=false:=by
   rw[Bool.eq_false_iff]
   simp
   omega
  rw[e]
  have:p.name=⟨#[]⟩:=by
   rw[h2]
   exact wV hn
  simp[this]
theorem GP {l:List aC} {k:Nat} {p:aC} (h:gi p=true):iM l k p=(l.take k).any fun q=>(decide (4<=p.kind)&&decide (p.kind<=6))&&decide (q.name=p.name):=by
 unfold iM
 rw[EG h,Bool.not_not]
 cases (decide (4<=p.kind)&&decide (p.kind<=6))with
 |false=>simp
 |true=>
  simp only[Bool.true_and]
  unfold cy
  rw[WJ]
  rfl
theorem yW {p:aC} (h:gi p=true):p.kind<=9:=by
 unfold gi at h
 simp only[Bool.and_eq_true,decide_eq_true_eq]at h
 exact h.1.2
set_option maxHeartbeats 4000000 in
theorem r268 (v:Nat) (l:List aC) (hl:l.length<=2147483648) (ho:∀t∈l,t.ok) (hs:∀t∈l,t.short):res A az 268 [.agg [.aa v (l.map aC.c)]]=some [.int .i64 (bW l)]:=by
 refine ai a268 rfl rfl ?_
 simp only[F268,Ju]
 simp(disch:=omega)only[go_sem]
 refine Br.aD (fun c0=>?_) (fun c0=>?_)<;>simp(disch:=omega)only[go_sem,c0]
 .have:32<l.length:=by omega
  simp[bW,this]
 have h32:¬32<l.length:=by omega
 unfold bW
 rw[if_neg h32]
 obtain⟨G,hG⟩:∃G,tu l ((List.range l.length).find? fun k=>decide (eR l k≠0))=G:=⟨_,rfl⟩
 rw[hG]
 refine W.find (List.range l.length) (fun k=>decide (eR l k≠0)) (fun k=>⟨[(1,.ptr 1 0),(3,.pv (.int .i64 k))],⟨[(1,[.pv (.aa v (l.map aC.c))])],[],[]⟩⟩) rfl (fun k x hx hk hfd=>?_) (fun hn=>?_)
 .obtain⟨rfl,hk⟩:=cL hx
  have hp:=VA hk
  generalize l[x]=p at hp
  have hm:=Vz hp
  have h285:=r285 p (ho p hm) (hs p hm)
  have h286:=r286 p.kind
  have he:eR l x=eF l x p:=by simp only[eR,hp]
  have done:∀e:Int,eF l x p=e->e≠0->(some [PV.int .i64 e]:Option (List PV))=some [.int .i64 G]:=fun e h1 h2=>by
   rw[<- hG,(hfd (by rw[he,h1]; simpa using h2)).find,tu,he,h1]
  rw[he]
  have hul:(bT p).length<=1048578:=by
   have:=(hs p hm).aN
   unfold bT qX kU
   rw[VE,VE,VB]
   split<;>split<;>simp<;>omega
  have h287:=fun h9=>r287 p (hs p hm) h9
  unfold aC.c at h285 h287
  simp(disch:=omega)only[go_sem]
  refine Br.aD (fun c=>?_) (fun c=>(c (by omega)).elim)
  simp(disch:=omega)only[go_sem,hp,aC.c,h285]
  refine Br.of (fun c1=>?_) (fun c1=>?_)<;>simp(disch:=omega)only[go_sem,c1]
  rotate_left
  .exact done 1 (by simp[eF,c1]) (by decide)
  have h287:=h287 (yW c1)
  have hdup:=GP (l:=l) (k:=x) c1
  have herr:(!gi p||iM l x p)=iM l x p:=by rw[c1]; rfl
  generalize hnm:(decide (4<=p.kind)&&decide (p.kind<=6))=nm at h286 hdup
  refine W.find (l.take x) (fun q=>nm&&decide (q.name=p.name)) (fun j=>⟨[(1,.ptr 1 0),(3,.pv (.int .i64 x)),(4,.ptr 4 0),(5,.pv (.int .i64 j))],⟨[(1,[.pv (.aa v (l.map aC.c))]),(4,[.pv (.int .i64 p.kind),.pv (.str p.name),.pv (.int .i64 p.low),.pv (.int .i64 p.high),.pv (.int .i64 p.max),.pv (.aa 0 (p.syms.map Sym.c)),.pv (.aa 0 (p.aN.map Mem.c)),.pv (.int .i64 p.key),.pv (.int .i64 p.elem),.pv (.bool p.ku)])],[],[]⟩⟩) rfl (fun j q hj hjl hfd2=>?_) (fun hn=>?_)
  .have hjl':j<x/\j<l.length:=by rw[VH]at hjl; omega
   have hj':l[j]?=some q:=by
    rw[VN,if_pos hjl'.1]at hj
    exact hj
   simp(disch:=omega)only[go_sem]
   refine Br.aD (fun c=>?_) (fun c=>(c (by omega)).elim)
   simp(disch:=omega)only[go_sem,h286]
   refine Br.of (fun c2=>?_) (fun c2=>?_)
   .simp(disch:=omega)only[go_sem,c2,hj',aC.c]
    refine Br.aD (fun c3=>?_) (fun c3=>?_)<;>simp(disch:=omega)only[go_sem,c3]
    .refine done 1 ?_ (by decide)
     rw[eF,herr,hdup,(hfd2 (by simp[c2,c3])).any]
     rfl
    .exact aX.of (by simp[c3]) rfl
   .simp(disch:=omega)only[go_sem,c2]
    exact aX.of (by simp[c2]) rfl
  .have hlx:(l.take x).length=x:=by rw[VH]; omega
   rw[hlx]
   have hd:(!gi p||iM l x p)=false:=by rw[herr,hdup,hn.any]
   simp(disch:=omega)only[go_sem,h287]
   refine W.find (bT p) (dh l.length) (fun j=>⟨[(1,.ptr 1 0),(3,.pv (.int .i64 x)),(4,.ptr 4 0),(6,.pv (.aa 0 (ints (bT p)))),(7,.pv (.int .i64 j))],⟨[(1,[.pv (.aa v (l.map aC.c))]),(4,[.pv (.int .i64 p.kind),.pv (.str p.name),.pv (.int .i64 p.low),.pv (.int .i64 p.high),.pv (.int .i64 p.max),.pv (.aa 0 (p.syms.map Sym.c)),.pv (.aa 0 (p.aN.map Mem.c)),.pv (.int .i64 p.key),.pv (.int .i64 p.elem),.pv (.bool p.ku)])],[],[]⟩⟩) rfl (fun j u hu hj hfd2=>?_) (fun hn=>?_)
   .have d4:dh l.length u=true->eF l x p=4:=fun g=>by
     rw[eF,hd,(hfd2 g).any]
     rfl
    simp(disch:=omega)only[go_sem]
    refine Br.aD (fun c=>?_) (fun c=>(c (by omega)).elim)
    simp(disch:=omega)only[go_sem,hu]
    refine Br.aD (fun c4=>?_) (fun c4=>?_)<;>simp(disch:=omega)only[go_sem,c4]
    .exact done 4 (d4 (by simp[dh,c4])) (by decide)
    simp(disch:=omega)only[go_sem,hu]
    refine Br.aD (fun c5=>?_) (fun c5=>?_)<;>simp(disch:=omega)only[go_sem,c5]
    .exact done 4 (d4 (by simp[dh,c5])) (by decide)
    .exact aX.of (by simp[dh,c4,c5]) rfl
   .have he2:eF l x p=if er l p=true then 1 else 0:=by
     rw[eF,hd,hn.any]
     rfl
    simp(disch:=omega)only[go_sem]
    refine Br.aD (fun c4=>?_) (fun c4=>?_)
    .have hku:=ka c4
     have hout:=Wt.1 hn.any _ hku
     have hk0:0<=p.key/\p.key<l.length:=by
      simp[dh]at hout
      omega
     have hkk:=VA (l:=l) (i:=p.key.toNat) (by omega)
     have hka:kV l p.key=(l[p.key.toNat]'(by omega)).kind:=by rw[kV,hkk]; rfl
     generalize l[p.key.toNat]'(by omega)=q at hkk hka
     have d8:decide (p.kind=8)=true:=by simp[c4]
     have hb:er l p=!(decide (1<=q.kind)&&decide (q.kind<=4)):=by rw[er,d8,hka]; rfl
     have hidx:jz 10 v (l.map aC.c) (some p.key)=some (V.pv (.ro v q.c)):=by
      rw[gQ _ _ _ hk0.1,VF,hkk]
      rfl
     have h288:=r288 q.kind
     generalize (decide (1<=q.kind)&&decide (q.kind<=4))=kk at hb h288
     unfold aC.c at hidx
     unfold aC.c
     simp(disch:=omega)only[go_sem,d8,hidx,h288]
     refine Br.of (fun c6=>?_) (fun c6=>?_)<;>simp(disch:=omega)only[go_sem,c6]
     .refine aX.of ?_ rfl
      rw[he2,hb,c6]
      rfl
     .refine done 1 ?_ (by decide)
      rw[he2,hb,c6]
      rfl
    .have d8:decide (p.kind=8)=false:=by simp[c4]
     have hb:er l p=false:=by rw[er,d8]; rfl
     simp(disch:=omega)only[go_sem,d8]
     refine aX.of ?_ rfl
     rw[he2,hb]
     rfl
 .rw[hn.find]at hG
  rw[V7]
  simp(disch:=omega)only[go_sem]
  rw[<- hG]
  rfl
theorem AM {α:Type} {r:α->α->Prop} (irr:∀x,¬r x x) (tr:∀x y z,r x y->r y z->r x z):∀{l m:List α},l.Pairwise r->m.Pairwise r->(∀x,x∈l↔x∈m)->l=m
 |[],[],_,_,_=>rfl
 |[],y::m,_,_,h=>absurd ((h y).2 (by simp)) (by simp)
 |x::l,[],_,_,h=>absurd ((h x).1 (by simp)) (by simp)
 |x::l,y::m,hl,hm,h=>by
  rw[VQ]at hl hm
  have e:x=y:=by
   rcases List.mem_cons.1 ((h x).1 (by simp))with e|hx
   .exact e
   .rcases List.mem_cons.1 ((h y).2 (by simp))with e|hy
    .exact e.symm
    .exact(irr x (tr x y x (hl.1 y hy) (hm.1 x hx))).elim
  subst e
  congr 1
  refine AM irr tr hl.2 hm.2 fun z=>⟨fun hz=>?_,fun hz=>?_⟩
  .rcases V6.1 ((h z).1 (Wl _ hz))with rfl|hz'
   .exact(irr z (hl.1 z hz)).elim
   .exact hz'
  .rcases V6.1 ((h z).2 (Wl _ hz))with rfl|hz'
   .exact(irr z (hm.1 z hz)).elim
   .exact hz'
theorem wW {l m:List Int} (hl:l.Pairwise (·<·)) (hm:m.Pairwise (·<·)) (h:∀x,x∈l↔x∈m):l=m:=
 AM (r:=(·<·)) (fun x=>Int.lt_irrefl x) (fun _ _ _=>Int.lt_trans) hl hm h
theorem qY {l:List Int} {n:Nat} (hn:l.Nodup) (h:∀x∈l,0<=x/\x<n):l.length<=n:=by
 have:=List.Nodup.length_le_of_subset (l₂:=(List.range n).map Int.ofNat) hn (fun x hx=>by
  have:=h x hx
  rw[VP]
  exact⟨x.toNat,List.mem_range.2 (by omega),by simp; omega⟩)
 simpa using this
section
variable {α:Type} [DecidableEq α]
def dN (o:List α) (x:α):List α:=if x∈o then o else o++[x]
theorem mc {o:List α} {x y:α}:y∈dN o x↔y∈o\/y=x:=by
 unfold dN
 split
 .rename_i h
  exact⟨.inl,fun h'=>h'.elim id (fun e=>e ▸ h)⟩
 .simp
theorem jq {o:List α} {x:α} (h:o.Nodup):(dN o x).Nodup:=by
 unfold dN
 split
 .exact h
 .rename_i hx
  rw[Xg]
  exact⟨h,by simp,fun a ha b hb=>by
   rw[WU]at hb
   subst hb
   exact fun e=>hx (e ▸ ha)⟩
theorem me (o:List α) (x:α):o<+:dN o x:=by
 unfold dN
 split
 .exact List.prefix_refl o
 .exact List.prefix_append o [x]
def wX (o:List α) (l:List α):List α:=l.foldl dN o
theorem mK (o:List α) (x:α) (l:List α):wX o (x::l)=wX (dN o x) l:=rfl
theorem pj:∀{l o:List α} {y:α},y∈wX o l↔y∈o\/y∈l
 |[],o,y=>by simp[wX]
 |x::l,o,y=>by
  rw[mK,pj,mc]
  simp[or_assoc]
theorem nZ:∀{l o:List α},o.Nodup->(wX o l).Nodup
 |[],_,h=>h
 |x::l,o,h=>by
  rw[mK]
  exact nZ (jq h)
theorem tv:∀(o l:List α),o<+:wX o l
 |o,[]=>List.prefix_refl o
 |o,x::l=>by
  rw[mK]
  exact(me o x).trans (tv _ l)
def tw (nx:α->List α):Nat->Nat->List α->List α
 |0,_,o=>o
 |n+1,i,o=>match o[i]? with
  |none=>o
  |some v=>tw nx n (i+1) (wX o (nx v))
theorem pk {nx:α->List α} {n i:Nat} {o:List α} {v:α} (h:o[i]?=some v):tw nx (n+1) i o=tw nx n (i+1) (wX o (nx v)):=by
 simp only[tw,h]
theorem rR {nx:α->List α}:∀{n i:Nat} {o:List α},o.length<=i->tw nx n i o=o
 |0,_,_,_=>rfl
 |n+1,i,o,h=>by simp only[tw,List.getElem?_eq_none h]
theorem wY {nx:α->List α}:∀(n i:Nat) (o:List α),o<+:tw nx n i o
 |0,_,o=>List.prefix_refl o
 |n+1,i,o=>by
  unfold tw
  split
  .exact List.prefix_refl o
  .exact(tv o _).trans (wY n _ _)
theorem qo {nx:α->List α}:∀(n i:Nat) {o:List α},o.Nodup->(tw nx n i o).Nodup
 |0,_,_,h=>h
 |n+1,i,o,h=>by
  unfold tw
  split
  .exact h
  .exact qo n _ (nZ h)
inductive N7 (nx:α->List α) (s:α):α->Prop
 |refl:N7 nx s s
 |step {v x:α}:N7 nx s v->x∈nx v->N7 nx s x
theorem rS {nx:α->List α} {P:α->Prop} (hP:∀v,P v->∀x∈nx v,P x):∀(n i:Nat) {o:List α},(∀v∈o,P v)->∀v∈tw nx n i o,P v
 |0,_,_,h=>h
 |n+1,i,o,h=>by
  unfold tw
  split
  .exact h
  .rename_i v hv
   refine rS hP n _ fun x hx=>?_
   rcases pj.1 hx with hx|hx
   .exact h x hx
   .exact hP v (h v (Vz hv)) x hx
theorem yX {nx:α->List α} {N:Nat} {P:α->Prop} (hP:∀v,P v->∀x∈nx v,P x) (hN:∀o:List α,o.Nodup->(∀v∈o,P v)->o.length<=N):∀(n i:Nat) {o:List α},N<=n+i->o.Nodup->(∀v∈o,P v)->
  (∀j v,j<i->o[j]?=some v->∀x∈nx v,x∈o)->∀v∈tw nx n i o,∀x∈nx v,x∈tw nx n i o
 |0,i,o,hn,hd,ho,hc=>by
  intro v hv x hx
  obtain⟨j,hj,rfl⟩:=WC hv
  have:=hN o hd ho
  have hlt:j<o.length:=hj
  exact hc j o[j] (by omega) (by simp) x hx
 |n+1,i,o,hn,hd,ho,hc=>by
  unfold tw
  split
  .rename_i hnone
   intro v hv x hx
   obtain⟨j,hj,rfl⟩:=WC hv
   have:=List.getElem?_eq_none_iff.1 hnone
   exact hc j o[j] (by omega) (by simp) x hx
  .rename_i v hv
   refine yX hP hN n (i+1) (by omega) (nZ hd) (fun x hx=>?_) (fun j w hj hw x hx=>?_)
   .rcases pj.1 hx with hx|hx
    .exact ho x hx
    .exact hP v (ho v (Vz hv)) x hx
   .rw[pj]
    have hi:i<o.length:=(Vy.1 hv).1
    obtain⟨t,ht⟩:=tv o (nx v)
    rw[<- ht,VC (by omega)]at hw
    rcases VG j i with h|h
    .exact .inl (hc j w h hw x hx)
    .obtain rfl:j=i:=by omega
     rw[hv]at hw
     cases hw
     exact .inr hx
theorem wZ {nx:α->List α} {N:Nat} {P:α->Prop} {s:α} (hP:∀v,P v->∀x∈nx v,P x) (hN:∀o:List α,o.Nodup->(∀v∈o,P v)->o.length<=N) (hs:P s) {v:α}:v∈tw nx N 0 [s]↔N7 nx s v:=by
 constructor
 .exact rS (P:=N7 nx s) (fun v hv x hx=>.step hv hx) N 0 (by simp; exact .refl) v
 .have hc:=yX hP hN N 0 (o:=[s]) (by omega) (by simp) (by simpa using hs) (fun j v hj=>absurd hj (Nat.not_lt_zero _))
  have hp:s∈tw nx N 0 [s]:=(wY N 0 [s]).subset (by simp)
  intro h
  induction h with
  |refl=>exact hp
  |step _ hx ih=>exact hc _ ih _ hx
section
variable {β:Type} [DecidableEq β]
end
end
end Go.Pv
namespace Go.Pv
theorem TQ (t:Nat) (l:List Int) (x:Int) (hl:l.length<=2^63 - 1):res A az 118 [.aa t (ints l),.int .i64 x]=some [.int .i64 (bd (fun y=>decide (y=x)) l)]:=by
 refine ai a118 rfl rfl ?_
 simp only[F118,Js]
 simp(disch:=omega)only[go_sem]
 refine W.find l (fun y=>decide (y=x)) (fun k=>⟨[(0,.pv (.aa t (ints l))),(1,.pv (.int .i64 x)),(7,.pv (.int .i64 l.length)),(8,.pv (.int .i64 k))],⟨[],[],[]⟩⟩) rfl (fun k y hy hk hfd=>?_) (fun hn=>?_)
 .simp(disch:=omega)only[go_sem]
  refine Br.aD (fun c=>?_) (fun c=>(c (by omega)).elim)
  simp(disch:=omega)only[go_sem,hy]
  refine Br.aD (fun g=>?_) (fun g=>?_)<;>simp(disch:=omega)only[go_sem]
  .rw[(hfd (by simp[g])).bd]
  .exact aX.of (by simpa using fun e=>g e.symm) rfl
 .simp(disch:=omega)only[go_sem]
  rw[hn.bd]
theorem AN {l:List Int} {x:Int}:0<=bd (fun y=>decide (y=x)) l↔x∈l:=by
 unfold bd
 cases h:l.findIdx? (fun y=>decide (y=x))with
 |none=>
  rw[WX]at h
  constructor
  .intro hh
   exact absurd hh (by decide)
  .intro hx
   have:=h x hx
   simp at this
 |some k=>
  rw[Wd]at h
  obtain⟨hk,hp,_⟩:=h
  constructor
  .intro _
   have e:l[k]=x:=by simpa using hp
   rw[<- e]
   exact Ww hk
  .intro _
   exact Int.natCast_nonneg k
theorem TR (t:Nat) (l:List Int) (x:Int) (hl:l.length<=2^63 - 1):res A az 110 [.aa t (ints l),.int .i64 x]=some [.bool (decide (x∈l))]:=by
 refine ai a110 rfl rfl ?_
 simp only[F110,Jr]
 have h118:=fun t=>TQ t l x hl
 simp(disch:=omega)only[go_sem,h118]
 simp only[AN]
theorem LD (t:Nat) (l:List Int) (x:Int) (hl:l.length<=2^63 - 1):res A az 293 [.aa t (ints l),.int .i64 x]=some [.bool (decide (x∈l))]:=by
 refine ai a293 rfl rfl ?_
 simp only[F293,JI]
 simp(disch:=omega)only[go_sem]
 refine W.find l (fun y=>decide (y=x)) (fun k=>⟨[(0,.pv (.aa t (ints l))),(1,.pv (.int .i64 x)),(5,.pv (.int .i64 k))],⟨[],[],[]⟩⟩) rfl (fun k y hy hk hfd=>?_) (fun hn=>?_)
 .simp(disch:=omega)only[go_sem]
  refine Br.aD (fun c=>?_) (fun c=>(c (by omega)).elim)
  simp(disch:=omega)only[go_sem,hy]
  refine Br.aD (fun g=>?_) (fun g=>?_)<;>simp(disch:=omega)only[go_sem]
  .have:x∈l:=g ▸ Vz hy
   simp[this]
  .exact aX.of (by simpa using g) rfl
 .simp(disch:=omega)only[go_sem]
  have:¬x∈l:=fun hx=>by simpa using List.any_eq_false.1 hn.any x hx
  simp[this]
noncomputable def gv (l:List aC) (i:Int):Int:=if bW l≠0 then bW l else if dh l.length i=true then 4 else 0
theorem r291 (v:Nat) (l:List aC) (i:Int) (hl:l.length<=2147483648) (ho:∀t∈l,t.ok) (hs:∀t∈l,t.short):res A az 291 [.agg [.aa v (l.map aC.c)],.int .i64 i]=some [.int .i64 (gv l i)]:=by
 refine ai a291 rfl rfl ?_
 simp only[F291,JG]
 have h267:=fun v=>r267 v l hl ho hs
 unfold gv dh
 generalize bW l=e at h267
 simp(disch:=omega)only[go_sem,h267]
 refine Br.aD (fun c=>?_) (fun c=>?_)<;>simp(disch:=omega)only[go_sem,c]
 .refine Br.aD (fun c2=>?_) (fun c2=>?_)<;>simp(disch:=omega)only[go_sem,c2]
  .simp[c]
  .refine Br.aD (fun c3=>?_) (fun c3=>?_)<;>simp(disch:=omega)only[go_sem,c3]
   .simp[c]
   .simp[c,c2]
 .simp[c]
theorem r292 (v:Nat) (l:List aC) (i:Int) (hl:l.length<=2147483648) (ho:∀t∈l,t.ok) (hs:∀t∈l,t.short):res A az 292 [.agg [.aa v (l.map aC.c)],.int .i64 i]=some [.int .i64 (gv l i)]:=by
 refine ai a292 rfl rfl ?_
 simp only[F292,JH]
 have h268:=fun v=>r268 v l hl ho hs
 unfold gv dh
 generalize bW l=e at h268
 simp(disch:=omega)only[go_sem,h268]
 refine Br.aD (fun c=>?_) (fun c=>?_)<;>simp(disch:=omega)only[go_sem,c]
 .refine Br.aD (fun c2=>?_) (fun c2=>?_)<;>simp(disch:=omega)only[go_sem,c2]
  .simp[c]
  .refine Br.aD (fun c3=>?_) (fun c3=>?_)<;>simp(disch:=omega)only[go_sem,c3]
   .simp[c]
   .simp[c,c2]
 .simp[c]
def Q4:aC:=⟨0,⟨#[]⟩,0,0,0,[],[],0,0,false⟩
def bK (l:List aC) (i:Int):aC:=(l[i.toNat]?).getD Q4
structure GQ (l:List aC):Prop where
 len:l.length<=32
 own:∀t∈l,gi t=true
 FM:∀t∈l,∀u∈bT t,0<=u/\u<l.length
theorem bS {l:List aC} (h:bW l=0):GQ l:=by
 unfold bW at h
 split at h
 .cases h
 .rename_i hl
  have hz:∀k,k<l.length->eR l k=0:=by
   cases hf:(List.range l.length).find? (fun k=>decide (eR l k≠0))with
   |none=>
    intro k hk
    have:=Xc.1 hf k (WA.2 hk)
    simpa using this
   |some k=>
    rw[hf]at h
    have:=Xd hf
    simp only[tu]at h
    simp[h]at this
  have hone:∀t∈l,gi t=true/\(bT t).any (dh l.length)=false:=by
   intro t ht
   obtain⟨k,hk⟩:=VD.1 ht
   have:=hz k (Vy.1 hk).1
   simp only[eR,hk,eF]at this
   split at this
   .cases this
   .rename_i h1
    split at this
    .cases this
    .rename_i h2
     simp only[Bool.or_eq_true,Bool.not_eq_true',not_or,Bool.not_eq_false]at h1
     exact⟨h1.1,by simpa using h2⟩
  refine⟨by omega,fun t ht=>(hone t ht).1,fun t ht u hu=>?_⟩
  have:=Wt.1 (hone t ht).2 u hu
  simp[dh]at this
  omega
theorem kW {l:List aC} {i:Int} (h:gv l i=0):bW l=0/\0<=i/\i<l.length:=by
 unfold gv at h
 split at h
 .rename_i h1
  exact absurd h h1
 .rename_i h1
  split at h
  .cases h
  .rename_i h2
   simp only[dh,Bool.or_eq_true,decide_eq_true_eq,not_or]at h2
   exact⟨by omega,by omega,by omega⟩
theorem eL {l:List aC} {i:Int} (h0:0<=i) (h:i<l.length):l[i.toNat]?=some (bK l i):=by
 have:=VA (l:=l) (i:=i.toNat) (by omega)
 rw[bK,this]
 rfl
theorem yY {t:aC} (h:t.short):(bT t).length<=1048578:=by
 have:=h.aN
 unfold bT qX kU
 rw[VE,VE,VB]
 split<;>split<;>simp<;>omega
theorem w4 {v:Nat} {l:List aC} {i:Int} (h0:0<=i) (h:i<l.length):jz 10 v (l.map aC.c) (some i)=some (V.pv (.ro v (bK l i).c)):=by
 rw[gQ _ _ _ h0,VF,eL h0 h]
 rfl
def AO (id aq off len : Nat) (a : aL) : Option (V × Tn) :=
 if len = 0 then some (.dH [],{ ra := some id }) else (match a.body with
    | .inl rows => if a.k = 1 /\ off + len <= rows.length /\ len <= aT then (match aA gq ((rows.drop off).take len) with
     | some l => some (.dH [],{ ar := some (id,⟨aq,1,.inl (rows.take off ++ (ct nu l).map (fun x => [.int .i64 x]) ++ rows.drop (off + len))⟩) })
     | none => none) else none
    | .inr _ => none)
@[go_sem] theorem N8 (h:af):eQ [.tl []] h=some (.dH [],{}):=rfl
@[go_sem] theorem LF (h:af) (id aq off len:Nat):eQ [.own id aq off len] h=(aF h id aq).bind (AO id aq off len):=by
 simp only[eQ]
 cases aF h id aq<;>rfl
theorem tz (l:List Int):aA gq (ints l)=some l:=by
 induction l with
 |nil=>rfl
 |cons x l ih=>
  show aA gq ([.int .i64 x]::ints l)=_
  simp only[aA,gq,ih]
@[go_sem] theorem HT {id aq n:Nat} {l:List Int} (hn:n=l.length) (h0:n≠0) (hm:n<=2147483648):AO id aq 0 n ⟨aq,1,.inl (ints l)⟩=some (.dH [],{ ar:=some (id,⟨aq,1,.inl (ints (ct nu l))⟩) }):=by
 subst hn
 have e1:(ints l).length=l.length:=aH l
 simp[AO,h0,e1,aT,hm,tz,List.take_of_length_le (Nat.le_of_eq e1),List.drop_eq_nil_of_le (Nat.le_of_eq e1)]
 rfl
@[go_sem] theorem AP (h:af):cA h true [.tl []]=some ([.aa 0 []],none):=rfl
@[go_sem] theorem LG (h:af) (x:Int):eQ [.tl [[.int .i64 x]]] h=some (.dH [],{}):=rfl
theorem mL {n b:Nat} {o:List Int} {x:Int} (h:b<=o.length):mI n b (ints (o++[x]))=.own n (o.length - b) 0 (o.length+1):=by
 rw[<- gr,yP (by rw[aH]; exact h),aH]
theorem mM {b:Nat} {o:List Int} {x:Int} (h:b<=o.length):tf 1 b (ints (o++[x]))=[⟨o.length - b,1,.inl (ints (o++[x]))⟩]:=by
 rw[<- gr,yQ (by rw[aH]; exact h),aH]
theorem tA (l:List Int):(ct nu l).length=l.length:=(bJ nu l).length_eq
def N9 (l:List aC) (u:Int):List Int:=bT (bK l u)
def xB (l:List aC) (u:Int):Prop:=0<=u/\u<l.length
def mf (l:List aC) (i:Int):List Int:=tw (N9 l) l.length 0 [i]
noncomputable def bL (l:List aC) (i:Int):List Int×Int:=if gv l i≠0 then ([],gv l i) else (ct nu (mf l i),0)
theorem GQ.next {l:List aC} (h:GQ l):∀v,xB l v->∀x∈N9 l v,xB l x:=fun _v hv x hx=>
 h.FM _ (Vz (eL hv.1 hv.2)) x hx
theorem gw {l:List aC} (o:List Int) (hd:o.Nodup) (h:∀v∈o,xB l v):o.length<=l.length:=qY hd h
set_option maxHeartbeats 4000000 in
theorem r273 (v:Nat) (l:List aC) (i:Int) (hl:l.length<=2147483648) (ho:∀t∈l,t.ok) (hs:∀t∈l,t.short):res A az 273 [.agg [.aa v (l.map aC.c)],.int .i64 i]=some [.aa 0 (ints (bL l i).1),.int .i64 (bL l i).2]:=by
 refine ai a273 rfl rfl ?_
 simp only[F273,Jv]
 have h291:=fun v=>r291 v l i hl ho hs
 unfold bL
 simp(disch:=omega)only[go_sem,h291]
 refine Br.aD (fun c=>?_) (fun c=>?_)<;>simp(disch:=omega)only[go_sem,c]
 rotate_left
 .simp[c,ints]
 obtain⟨hv,hi0,hin⟩:=kW c
 rw[if_neg (by simp[c])]
 have hsane:=bS hv
 have h32:=hsane.len
 refine W.loop (α:=Nat×List Int) (fun x=>⟨[(2,.ptr 2 0),(7,mI 0 1 (ints x.2)),(8,.pv (.int .i64 x.1))],⟨[(2,[.pv (.aa v (l.map aC.c))])],tf 1 1 (ints x.2),[]⟩⟩)
  (fun x=>x.2.Nodup/\(∀v∈x.2,xB l v)/\1<=x.2.length/\x.1<=x.2.length/\tw (N9 l) (l.length - x.1) x.1 x.2=mf l i) (fun x=>l.length - x.1) (0,[i]) rfl ⟨by simp,fun w hw=>(List.mem_singleton.1 hw) ▸ ⟨hi0,hin⟩,by simp,by simp,rfl⟩ fun x hx=>?_
 obtain⟨j,o⟩:=x
 obtain⟨hd,hin',h1,h2,hb⟩:=hx
 dsimp only at hd hin' h1 h2 hb
 have hlen:=gw o hd hin'
 simp(disch:=omega)only[go_sem]
 refine Br.aD (fun h=>?_) (fun h=>?_)
 .have hw:=VA (l:=o) (i:=j) (by omega)
  generalize o[j]'(by omega)=w at hw
  obtain⟨hw0,hw1⟩:=hin' w (Vz hw)
  have hget:=eL hw0 hw1
  have hidx:=w4 (v:=v) hw0 hw1
  have h284:=r284 (bK l w) (hs _ (Vz hget))
  have hul:=yY (hs _ (Vz hget))
  have hnx:N9 l w=bT (bK l w):=rfl
  have huses:=hsane.FM _ (Vz hget)
  generalize bK l w=p at *
  unfold aC.c at h284 hidx
  unfold aC.c at *
  have inner:∀(k:Nat) (o:List Int),(o.Nodup/\(∀v∈o,xB l v)/\1<=o.length/\j<o.length)->∀u∈bT p,(dN o u).Nodup/\(∀v∈dN o u,xB l v)/\1<=(dN o u).length/\j<(dN o u).length:=by
   rintro k o ⟨g1,g2,g3,g4⟩ u hu
   obtain⟨r,hr⟩:=me o u
   refine⟨jq g1,fun x hx=>(mc.1 hx).elim (g2 x) (fun q=>q ▸ huses u hu),by rw[<- hr,VE]; omega,by rw[<- hr,VE]; omega⟩
  have hgl:=gT (b:=1) (rows:=ints o)
  have hVA:∃V0 A0,mI 0 1 (ints o)=V0/\tf 1 1 (ints o)=A0/\((V0=.tl (ints o)/\A0=[])\/∃m,(ints o).length=1+m+1/\V0=.own 0 m 0 (1+m+1)/\A0=[⟨m,1,.inl (ints o)⟩]):=by
   rcases hgl with hc|⟨m,hc⟩
   .exact⟨_,_,eY hc,eZ hc,.inl ⟨rfl,rfl⟩⟩
   .exact⟨_,_,eJ hc,eK hc,.inr ⟨m,hc,rfl,rfl⟩⟩
  obtain⟨V0,A0,hV0,hA0,hcase⟩:=hVA
  rw[hV0,hA0]
  rcases hcase with⟨e1,e2⟩|⟨m,hc,e1,e2⟩
  all_goals rw[e1]at hV0 |-
  all_goals rw[e2]at hA0 |-
  all_goals try rw[aH]at hc
  all_goals simp(disch:=omega)only[go_sem,hw,hidx,h284]
  all_goals
   refine W.fold (bT p) dN o (fun k o=>⟨[(2,.ptr 2 0),(7,mI 0 1 (ints o)),(8,.pv (.int .i64 j)),(33,.pv (.aa 0 (ints (bT p)))),(34,.pv (.int .i64 (bT p).length)),(35,.pv (.int .i64 k))],⟨[(2,[.pv (.aa v (l.map aC.c))])],tf 1 1 (ints o),[]⟩⟩)
    (fun _ o=>o.Nodup/\(∀v∈o,xB l v)/\1<=o.length/\j<o.length) ?_ ⟨hd,hin',h1,by omega⟩ (fun k u o hu hk _ hI=>?_) (fun o hacc hI=>?_)
   .show _=St.mk _ _
    rw[hV0,hA0]
    rfl
   .have hI2:=inner k o hI u (Vz hu)
    obtain⟨g1,g2,g3,g4⟩:=hI
    have hlen:=gw o g1 g2
    have h110:=fun t=>TR t o u (by omega)
    simp(disch:=omega)only[go_sem]
    refine Br.aD (fun c=>?_) (fun c=>(c (by omega)).elim)
    simp(disch:=omega)only[go_sem,hu,h110]
    refine Br.aD (fun c2=>?_) (fun c2=>?_)<;>simp(disch:=omega)only[go_sem,c2]
    .refine cI.of ?_ hI2
     show _=St.mk _ _
     rw[dN,if_pos c2]
     rfl
    .rcases gT (b:=1) (rows:=ints o)with hc|⟨m,hc⟩
     .rw[eY hc,eZ hc]
      rw[aH]at hc
      simp(disch:=omega)only[go_sem]
      refine cI.of ?_ hI2
      show _=St.mk _ _
      rw[dN,if_neg c2,mL g3,mM g3,show o.length - 1=0 by omega]
      rfl
     .rw[eJ hc,eK hc]
      rw[aH]at hc
      simp(disch:=omega)only[go_sem]
      refine cI.of ?_ hI2
      show _=St.mk _ _
      rw[dN,if_neg c2,mL g3,mM g3,show o.length - 1=m+1 by omega,hc]
      rfl
   .obtain⟨g1,g2,g3,g4⟩:=hI
    simp(disch:=omega)only[go_sem]
    refine⟨(j+1,o),⟨g1,g2,g3,g4,?_⟩,by dsimp only; omega,rfl⟩
    dsimp only
    rw[<- hb,hacc]
    obtain⟨q,hq⟩:∃q,l.length - j=q+1:=⟨l.length - j - 1,by omega⟩
    rw[hq,pk hw,hnx]
    congr 1
    omega
 .rw[rR (by omega)]at hb
  rw[<- hb]
  rcases gT (b:=1) (rows:=ints o)with hc|⟨m,hc⟩
  .have hc1:o.length=1:=by rw[aH]at hc; omega
   rw[eY hc,eZ hc]
   obtain⟨y,rfl⟩:=List.length_eq_one_iff.1 hc1
   simp(disch:=omega)only[go_sem,ints,List.map_cons,List.map_nil]
   rfl
  .rw[eJ hc,eK hc]
   rw[aH]at hc
   simp(disch:=omega)only[go_sem]
   rw[VS (by rw[tA]; omega)]
def jr (o:List Int) (n:Nat):List Int:=((List.range n).filter fun(k:Nat)=>decide ((k:Int)∈o)).map fun(k:Nat)=>(k:Int)
theorem vz (o:List Int) (n:Nat):(jr o n).length<=n:=by
 unfold jr
 rw[VB]
 exact Nat.le_trans (List.length_filter_le _ _) (by simp)
theorem tB (o:List Int) (n:Nat):jr o (n+1)=if (n:Int)∈o then jr o n++[(n:Int)] else jr o n:=by
 unfold jr
 rw[WR,List.filter_append,Wk]
 by_cases h:(n:Int)∈o
 .simp[h]
 .simp[h]
theorem CO {o:List Int} {n:Nat} {x:Int}:x∈jr o n↔x∈o/\0<=x/\x<n:=by
 unfold jr
 simp only[List.mem_map,List.mem_filter,List.mem_range,decide_eq_true_eq]
 constructor
 .rintro ⟨k,⟨h1,h2⟩,rfl⟩
  exact⟨h2,by omega,by omega⟩
 .rintro ⟨h1,h2,h3⟩
  exact⟨x.toNat,⟨by omega,by rw[Xq h2]; exact h1⟩,by omega⟩
theorem CP (o:List Int) (n:Nat):(jr o n).Pairwise (·<·):=by
 unfold jr
 rw[List.pairwise_map]
 have:(List.range n).Pairwise (·<·):=List.pairwise_lt_range
 exact(this.filter _).imp (fun h=>by omega)
theorem CQ {o:List Int} (hd:o.Nodup):(ct nu o).Pairwise (·<·):=by
 have h1:=iF o
 have h2:(ct nu o).Nodup:=(bJ nu o).nodup_iff.2 hd
 exact List.Pairwise.imp₂ (fun a b h h'=>by omega) h1 h2
theorem vA {l:List aC} {o:List Int} (hd:o.Nodup) (hin:∀v∈o,xB l v):jr o l.length=ct nu o:=by
 refine wW (CP o _) (CQ hd) fun x=>?_
 rw[CO,(bJ nu o).mem_iff]
 exact⟨fun h=>h.1,fun h=>⟨h,hin x h⟩⟩
set_option maxHeartbeats 4000000 in
theorem r274 (v:Nat) (l:List aC) (i:Int) (hl:l.length<=2147483648) (ho:∀t∈l,t.ok) (hs:∀t∈l,t.short):res A az 274 [.agg [.aa v (l.map aC.c)],.int .i64 i]=some [.aa 0 (ints (bL l i).1),.int .i64 (bL l i).2]:=by
 refine ai a274 rfl rfl ?_
 simp only[F274,Jw]
 have h292:=fun v=>r292 v l i hl ho hs
 unfold bL
 simp(disch:=omega)only[go_sem,h292]
 refine Br.aD (fun c=>?_) (fun c=>?_)<;>simp(disch:=omega)only[go_sem,c]
 rotate_left
 .simp[c,ints]
 obtain⟨hv,hi0,hin⟩:=kW c
 rw[if_neg (by simp[c])]
 have hsane:=bS hv
 have h32:=hsane.len
 refine W.loop (α:=Nat×List Int) (fun x=>⟨[(2,.ptr 2 0),(7,mI 0 1 (ints x.2)),(8,.pv (.int .i64 x.1))],⟨[(2,[.pv (.aa v (l.map aC.c))])],tf 1 1 (ints x.2),[]⟩⟩)
  (fun x=>x.2.Nodup/\(∀v∈x.2,xB l v)/\1<=x.2.length/\x.1<=x.2.length/\tw (N9 l) (l.length - x.1) x.1 x.2=mf l i) (fun x=>l.length - x.1) (0,[i]) rfl ⟨by simp,fun w hw=>(List.mem_singleton.1 hw) ▸ ⟨hi0,hin⟩,by simp,by simp,rfl⟩ fun x hx=>?_
 obtain⟨j,o⟩:=x
 obtain⟨hd,hin',h1,h2,hb⟩:=hx
 dsimp only at hd hin' h1 h2 hb
 have hlen:=gw o hd hin'
 simp(disch:=omega)only[go_sem]
 refine Br.aD (fun h=>?_) (fun h=>?_)
 .have hw:=VA (l:=o) (i:=j) (by omega)
  generalize o[j]'(by omega)=w at hw
  obtain⟨hw0,hw1⟩:=hin' w (Vz hw)
  have hget:=eL hw0 hw1
  have hidx:=w4 (v:=v) hw0 hw1
  have h287:=r287 (bK l w) (hs _ (Vz hget)) (yW (hsane.own _ (Vz hget)))
  have hul:=yY (hs _ (Vz hget))
  have hnx:N9 l w=bT (bK l w):=rfl
  have huses:=hsane.FM _ (Vz hget)
  generalize bK l w=p at *
  unfold aC.c at h287 hidx
  unfold aC.c at *
  have inner:∀(k:Nat) (o:List Int),(o.Nodup/\(∀v∈o,xB l v)/\1<=o.length/\j<o.length)->∀u∈bT p,(dN o u).Nodup/\(∀v∈dN o u,xB l v)/\1<=(dN o u).length/\j<(dN o u).length:=by
   rintro k o ⟨g1,g2,g3,g4⟩ u hu
   obtain⟨r,hr⟩:=me o u
   refine⟨jq g1,fun x hx=>(mc.1 hx).elim (g2 x) (fun q=>q ▸ huses u hu),by rw[<- hr,VE]; omega,by rw[<- hr,VE]; omega⟩
  have hgl:=gT (b:=1) (rows:=ints o)
  have hVA:∃V0 A0,mI 0 1 (ints o)=V0/\tf 1 1 (ints o)=A0/\((V0=.tl (ints o)/\A0=[])\/∃m,(ints o).length=1+m+1/\V0=.own 0 m 0 (1+m+1)/\A0=[⟨m,1,.inl (ints o)⟩]):=by
   rcases hgl with hc|⟨m,hc⟩
   .exact⟨_,_,eY hc,eZ hc,.inl ⟨rfl,rfl⟩⟩
   .exact⟨_,_,eJ hc,eK hc,.inr ⟨m,hc,rfl,rfl⟩⟩
  obtain⟨V0,A0,hV0,hA0,hcase⟩:=hVA
  rw[hV0,hA0]
  rcases hcase with⟨e1,e2⟩|⟨m,hc,e1,e2⟩
  all_goals rw[e1]at hV0 |-
  all_goals rw[e2]at hA0 |-
  all_goals try rw[aH]at hc
  all_goals simp(disch:=omega)only[go_sem,hw,hidx,h287]
  all_goals
   refine W.fold (bT p) dN o (fun k o=>⟨[(2,.ptr 2 0),(7,mI 0 1 (ints o)),(8,.pv (.int .i64 j)),(9,.pv (.aa 0 (ints (bT p)))),(10,.pv (.int .i64 k))],⟨[(2,[.pv (.aa v (l.map aC.c))])],tf 1 1 (ints o),[]⟩⟩)
    (fun _ o=>o.Nodup/\(∀v∈o,xB l v)/\1<=o.length/\j<o.length) ?_ ⟨hd,hin',h1,by omega⟩ (fun k u o hu hk _ hI=>?_) (fun o hacc hI=>?_)
   .show _=St.mk _ _
    rw[hV0,hA0]
    rfl
   .have hI2:=inner k o hI u (Vz hu)
    obtain⟨g1,g2,g3,g4⟩:=hI
    have hlen:=gw o g1 g2
    have h293:=fun t=>LD t o u (by omega)
    simp(disch:=omega)only[go_sem]
    refine Br.aD (fun c=>?_) (fun c=>(c (by omega)).elim)
    simp(disch:=omega)only[go_sem,hu,h293]
    refine Br.aD (fun c2=>?_) (fun c2=>?_)<;>simp(disch:=omega)only[go_sem,c2]
    .refine cI.of ?_ hI2
     show _=St.mk _ _
     rw[dN,if_pos c2]
     rfl
    .rcases gT (b:=1) (rows:=ints o)with hc|⟨m,hc⟩
     .rw[eY hc,eZ hc]
      rw[aH]at hc
      simp(disch:=omega)only[go_sem,hu]
      refine cI.of ?_ hI2
      show _=St.mk _ _
      rw[dN,if_neg c2,mL g3,mM g3,show o.length - 1=0 by omega]
      rfl
     .rw[eJ hc,eK hc]
      rw[aH]at hc
      simp(disch:=omega)only[go_sem,hu]
      refine cI.of ?_ hI2
      show _=St.mk _ _
      rw[dN,if_neg c2,mL g3,mM g3,show o.length - 1=m+1 by omega,hc]
      rfl
   .obtain⟨g1,g2,g3,g4⟩:=hI
    simp(disch:=omega)only[go_sem]
    refine⟨(j+1,o),⟨g1,g2,g3,g4,?_⟩,by dsimp only; omega,rfl⟩
    dsimp only
    rw[<- hb,hacc]
    obtain⟨q,hq⟩:∃q,l.length - j=q+1:=⟨l.length - j - 1,by omega⟩
    rw[hq,pk hw,hnx]
    congr 1
    omega
 .rw[rR (by omega)]at hb
  rw[<- hb]
  rcases gT (b:=1) (rows:=ints o)with hc|⟨m,hc⟩
  .rw[eY hc,eZ hc]
   rw[aH]at hc
   simp(disch:=omega)only[go_sem]
   refine W.cD l.length (fun k=>⟨[(2,.ptr 2 0),(7,.tl (ints o)),(11,cY 0 (ints (jr o k))),(12,.pv (.int .i64 k))],⟨[(2,[.pv (.aa v (l.map aC.c))])],cm 1 (ints (jr o k)),[]⟩⟩) (fun _=>True) rfl trivial (fun k hk _=>?_)
   have hpl:=vz o k
   have hps:=tB o k
   have h293:=fun t=>LD t o (k:Int) (by omega)
   simp(disch:=omega)only[go_sem]
   refine Br.aD (fun c=>?_) (fun c=>?_)<;>simp(disch:=omega)only[go_sem,h293]
   .refine Br.aD (fun c2=>?_) (fun c2=>?_)<;>simp(disch:=omega)only[go_sem,c2]
    .refine .of (by omega) ?_ trivial
     rw[hps,if_pos c2]
     rfl
    .refine .of (by omega) ?_ trivial
     rw[hps,if_neg c2]
     rfl
   .obtain rfl:k=l.length:=by omega
    rw[vA hd hin']
  .rw[eJ hc,eK hc]
   rw[aH]at hc
   simp(disch:=omega)only[go_sem]
   refine W.cD l.length (fun k=>⟨[(2,.ptr 2 0),(7,.own 0 m 0 (1+m+1)),(11,cY 1 (ints (jr o k))),(12,.pv (.int .i64 k))],⟨[(2,[.pv (.aa v (l.map aC.c))])],⟨m,1,.inl (ints o)⟩::cm 1 (ints (jr o k)),[]⟩⟩) (fun _=>True) rfl trivial (fun k hk _=>?_)
   have hpl:=vz o k
   have hps:=tB o k
   have h293:=fun t=>LD t o (k:Int) (by omega)
   have ht:o.take (1+m+1)=o:=VS (by omega)
   simp(disch:=omega)only[go_sem]
   refine Br.aD (fun c=>?_) (fun c=>?_)<;>simp(disch:=omega)only[go_sem,h293,ht]
   .refine Br.aD (fun c2=>?_) (fun c2=>?_)<;>simp(disch:=omega)only[go_sem,c2]
    .refine .of (by omega) ?_ trivial
     rw[hps,if_pos c2]
     rfl
    .refine .of (by omega) ?_ trivial
     rw[hps,if_neg c2]
     rfl
   .obtain rfl:k=l.length:=by omega
    rw[vA hd hin']
theorem vB {l:List aC} {i:Int} (h:gv l i=0):(mf l i).Nodup/\∀v∈mf l i,xB l v:=by
 obtain⟨hv,h0,h1⟩:=kW h
 exact⟨qo _ _ (by simp),rS (bS hv).next _ _ (fun v hv=>(List.mem_singleton.1 hv) ▸ ⟨h0,h1⟩)⟩
theorem tC {l:List aC} {i:Int}:(bL l i).1.length<=l.length:=by
 unfold bL
 split
 .exact V4 _
 .rename_i h
  obtain⟨h1,h2⟩:=vB (l:=l) (i:=i) (by simpa using h)
  show (ct nu (mf l i)).length<=_
  rw[tA]
  exact gw _ h1 h2
end Go.Pv
