/-
 What the functions of the law give.
-/
import Derived.Test.YtpchfogcccagjaaGreatC7
set_option linter.unusedSimpArgs false
set_option linter.unusedVariables false
open List renaming mem_of_getElem? → Wa, getElem?_eq_some_iff → V9, getElem?_append_left → We, length_map → Wg, getElem?_map → Wf, length_append → Wz, take_of_length_le → Wq, getD_eq_getElem?_getD → Ws, length_take → W8, eq_nil_of_length_eq_zero → Wp, take_add_one → WL, mem_map → Wk, getElem?_set_self → WU, length_range → WI, getElem?_set_ne → Xk, mem_cons_of_mem → W3, map_append → WC, mem_cons_self → WH, take_length → WV, mem_append → WT, ext_getElem? → WW, length_set → Xx, getElem?_range → Xr, mem_or_eq_of_mem_set → XK, getElem?_set → afz, mem_range → WJ, length_filter_le → XW, range_succ → Xq, mem_filter → Xl
open Nat renaming le_refl → Wj, not_lt_zero → Xo, mul_le_mul → abA
open Bool renaming true_and → WZ, eq_iff_iff → Xb, false_and → Xu, and_false → abu, and_eq_true → XX
open Int renaming toNat_natCast → WX, eq_ofNat_of_zero_le → XB
namespace Go.Pv
noncomputable def Dj (x y:Sym):Bool:=eqv (tj x) (tj y)
noncomputable def AY (x y:Mem):Bool:=eqv (AX x) (AX y)
theorem aab (x y:Sym):Dj x y=decide (x.id=y.id):=by
 unfold Dj tj eqv
 simp
theorem r496 (t u w:Nat) (l m:List Sym) (hl:l.length<=2^63 - 1) (_hm:m.length<=2^63 - 1):res A aA 496 [.aq t (l.map Sym.c),.aq u (m.map Sym.c),.func 497 [.ro w [.bool false]]]=some [.bool (wM Dj l m)]:=by
 refine aw a496 rfl rfl ?_
 simp only[F496,LO]
 simp(disch:=omega)only[go_sem]
 refine Br.aJ (fun h=>?_) (fun h=>?_)<;>simp(disch:=omega)only[go_sem]
 .refine W.find (l.zip m) (fun q=>!Dj q.1 q.2) (fun k=>⟨[(1,.pv (.aq u (m.map Sym.c))),(2,.pv (.func 497 [.ro w [.bool false]])),(15,.pv (.aq t (l.map Sym.c))),(16,.pv (.int .i64 l.length)),(17,.pv (.int .i64 k))],⟨[],[],[]⟩⟩) rfl (fun k q hq hk hfd=>?_) (fun hn=>?_)
  .obtain⟨h1,h2⟩:=jh hq
   rw[dA (by omega)]at hk
   have hc:=fun v=>r497 v q.1 q.2
   have hg:Dj q.1 q.2=eqv (tj q.1) (tj q.2):=rfl
   rw[<- hg]at hc
   unfold Sym.c at hc
   simp(disch:=omega)only[go_sem]
   refine Br.aJ (fun c=>?_) (fun c=>(c (by omega)).elim)
   simp(disch:=omega)only[go_sem,h1,h2,Sym.c,hc]
   refine Br.of (fun g=>?_) (fun g=>?_)<;>simp(disch:=omega)only[go_sem]
   .exact bB.of (by rw[g]; rfl) rfl
   .rw[wN (hfd (by rw[g]; rfl)).any]
  .have hz:(l.zip m).length=l.length:=dA (by omega)
   rw[hz]
   simp(disch:=omega)only[go_sem]
   rw[ru (by omega) hn.any]
 .rw[p6 (fun e=>h (by rw[e]))]
set_option maxHeartbeats 4000000 in
theorem r498 (u:Nat) (x y:Mem) (hx:x.ok) (hy:y.ok):res A aA 498 [.agg x.c,.agg y.c,.ro u [.bool false]]=some [.bool (AY x y)]:=by
 obtain⟨n,vx⟩:=hx.2.2.2
 obtain⟨k,vy⟩:=hy.2.2.2
 have hv:=r499 n k _ _ vx vy
 rw[oq]at hv
 have hg:AY x y=eqv (AX x) (AX y):=rfl
 rw[hg]
 obtain⟨a1,a2,a3,a4,a5,v⟩:=x
 obtain⟨b1,b2,b3,b4,b5,w⟩:=y
 unfold Mem.c AX
 unfold dz.c at hv
 dsimp only at *
 have no:∀{p q:Int×Bool×Bool×dz},p≠q->(some [PV.bool false]:Option (List PV))=some [PV.bool (eqv p q)]:=fun h=>by rw[fJ h]
 refine aw a498 rfl rfl ?_
 simp only[F498,LQ]
 simp(disch:=omega)only[go_sem]
 refine Br.aJ (fun e=>?_) (fun e=>?_)<;>simp(disch:=omega)only[go_sem,e]
 rotate_left
 .exact no (fun q=>e (by cases q; rfl))
 subst e
 refine Br.aJ (fun e=>?_) (fun e=>?_)<;>simp(disch:=omega)only[go_sem,e]
 rotate_left
 .exact no (fun q=>e (by cases q; rfl))
 subst e
 refine Br.aJ (fun e=>?_) (fun e=>?_)<;>simp(disch:=omega)only[go_sem,e]
 rotate_left
 .exact no (fun q=>e (by cases q; rfl))
 subst e
 simp(disch:=omega)only[go_sem,hv]
 refine Br.of (fun e=>?_) (fun e=>?_)<;>simp(disch:=omega)only[go_sem,e]
 rotate_left
 .exact no (fun q=>mW.1 e (by cases q; rfl))
 have e:=bY.1 e
 subst e
 rw[fI]
theorem r318k (t u w:Nat) (l m:List Mem) (hl:l.length<=2^63 - 1) (_hm:m.length<=2^63 - 1) (vl:∀r∈l,r.ok) (vm:∀r∈m,r.ok):res A aA 318 [.aq t (l.map Mem.c),.aq u (m.map Mem.c),.func 498 [.ro w [.bool false]]]=some [.bool (wM AY l m)]:=by
 refine aw a318 rfl rfl ?_
 simp only[F318,Hn]
 simp(disch:=omega)only[go_sem]
 refine Br.aJ (fun h=>?_) (fun h=>?_)<;>simp(disch:=omega)only[go_sem]
 .refine W.find (l.zip m) (fun q=>!AY q.1 q.2) (fun k=>⟨[(1,.pv (.aq u (m.map Mem.c))),(2,.pv (.func 498 [.ro w [.bool false]])),(15,.pv (.aq t (l.map Mem.c))),(16,.pv (.int .i64 l.length)),(17,.pv (.int .i64 k))],⟨[],[],[]⟩⟩) rfl (fun k q hq hk hfd=>?_) (fun hn=>?_)
  .obtain⟨h1,h2⟩:=jh hq
   rw[dA (by omega)]at hk
   have hc:=fun v=>r498 v q.1 q.2 (vl q.1 (Wa h1)) (vm q.2 (Wa h2))
   unfold Mem.c at hc
   simp(disch:=omega)only[go_sem]
   refine Br.aJ (fun c=>?_) (fun c=>(c (by omega)).elim)
   simp(disch:=omega)only[go_sem,h1,h2,Mem.c,hc]
   refine Br.of (fun g=>?_) (fun g=>?_)<;>simp(disch:=omega)only[go_sem]
   .exact bB.of (by rw[g]; rfl) rfl
   .rw[wN (hfd (by rw[g]; rfl)).any]
  .have hz:(l.zip m).length=l.length:=dA (by omega)
   rw[hz]
   simp(disch:=omega)only[go_sem]
   rw[ru (by omega) hn.any]
 .rw[p6 (fun e=>h (by rw[e]))]
theorem Ym (x y:aH) (h:(x.kind,x.low,x.high,x.max,x.jO)=(y.kind,y.low,y.high,y.max,y.jO)):ep x y=(wM Dj x.syms y.syms&&wM AY x.bc y.bc):=by
 rw[wO tj (g:=Dj) (fun _ _=>rfl),wO AX (g:=AY) (fun _ _=>rfl)]
 unfold ep HP
 rw[h,Xb,XX,bY,bY,bY]
 constructor
 .intro e
  injection e with _ e
  injection e with e1 e2
  exact⟨e1,e2⟩
 .rintro ⟨e1,e2⟩
  rw[e1,e2]
theorem FD {x y:aH} (h:(x.kind,x.low,x.high,x.max,x.jO)≠(y.kind,y.low,y.high,y.max,y.jO)):ep x y=false:=by
 unfold ep
 rw[fJ]
 unfold HP
 intro e
 injection e with e _
 exact h e
set_option maxHeartbeats 8000000 in
theorem r488 (x y:aH) (hx:x.ok) (hy:y.ok):res A aA 488 [.agg x.c,.agg y.c,.bool false]=some [.bool (ep x y)]:=by
 obtain⟨_,⟨lx1,lx2⟩,_,lx3⟩:=hx
 obtain⟨_,⟨ly1,ly2⟩,_,ly3⟩:=hy
 unfold bP at *
 have hs:=fun t u w=>r496 t u w x.syms y.syms (by omega) (by omega)
 have hm:=fun t u w=>r318k t u w x.bc y.bc (by omega) (by omega) lx3 ly3
 have yes:=Ym x y
 have no:(x.kind,x.low,x.high,x.max,x.jO)≠(y.kind,y.low,y.high,y.max,y.jO)->(some [PV.bool false]:Option (List PV))=some [PV.bool (ep x y)]:=fun h=>by rw[FD h]
 generalize ep x y=G at *
 obtain⟨a1,a2,a3,a4,a5,a6,a7,a8,a9,a10⟩:=x
 obtain⟨b1,b2,b3,b4,b5,b6,b7,b8,b9,b10⟩:=y
 unfold aH.c
 dsimp only at *
 refine aw a488 rfl rfl ?_
 simp only[F488,LI]
 simp(disch:=omega)only[go_sem]
 refine Br.aJ (fun e=>?_) (fun e=>?_)<;>simp(disch:=omega)only[go_sem,e]
 rotate_left
 .exact no (fun q=>e (by cases q; rfl))
 subst e
 refine Br.aJ (fun e=>?_) (fun e=>?_)<;>simp(disch:=omega)only[go_sem,e]
 rotate_left
 .exact no (fun q=>e (by cases q; rfl))
 subst e
 refine Br.aJ (fun e=>?_) (fun e=>?_)<;>simp(disch:=omega)only[go_sem,e]
 rotate_left
 .exact no (fun q=>e (by cases q; rfl))
 subst e
 refine Br.aJ (fun e=>?_) (fun e=>?_)<;>simp(disch:=omega)only[go_sem,e]
 rotate_left
 .exact no (fun q=>e (by cases q; rfl))
 subst e
 refine Br.aJ (fun e=>?_) (fun e=>?_)<;>simp(disch:=omega)only[go_sem,e]
 rotate_left
 .exact no (fun q=>e (by cases q; rfl))
 subst e
 rw[yes rfl]
 generalize wM Dj a6 b6=e1 at *
 generalize wM AY a7 b7=e2 at *
 simp(disch:=omega)only[go_sem,hs]
 cases e1 with
 |false=>simp(disch:=omega)only[go_sem,Bool.false_and]
 |true=>simp(disch:=omega)only[go_sem,hm,Bool.true_and]
set_option maxHeartbeats 16000000 in
theorem r500 (x y:aH) (hx:x.ok) (hy:y.ok):res A aA 500 [.agg x.c,.agg y.c,.bool false]=some [.bool (ep x y)]:=by
 obtain⟨_,⟨lx1,lx2⟩,_,lx3⟩:=hx
 obtain⟨_,⟨ly1,ly2⟩,_,ly3⟩:=hy
 unfold bP at *
 have yes:=Ym x y
 have no:(x.kind,x.low,x.high,x.max,x.jO)≠(y.kind,y.low,y.high,y.max,y.jO)->(some [PV.bool false]:Option (List PV))=some [PV.bool (ep x y)]:=fun h=>by rw[FD h]
 generalize ep x y=G at *
 obtain⟨a1,a2,a3,a4,a5,a6,a7,a8,a9,a10⟩:=x
 obtain⟨b1,b2,b3,b4,b5,b6,b7,b8,b9,b10⟩:=y
 unfold aH.c
 dsimp only at *
 refine aw a500 rfl rfl ?_
 simp only[F500,aaY]
 simp(disch:=omega)only[go_sem]
 refine Br.aJ (fun e=>?_) (fun e=>?_)<;>simp(disch:=omega)only[go_sem,e]
 rotate_left
 .exact no (fun q=>e (by cases q; rfl))
 subst e
 refine Br.aJ (fun e=>?_) (fun e=>?_)<;>simp(disch:=omega)only[go_sem,e]
 rotate_left
 .exact no (fun q=>e (by cases q; rfl))
 subst e
 refine Br.aJ (fun e=>?_) (fun e=>?_)<;>simp(disch:=omega)only[go_sem,e]
 rotate_left
 .exact no (fun q=>e (by cases q; rfl))
 subst e
 refine Br.aJ (fun e=>?_) (fun e=>?_)<;>simp(disch:=omega)only[go_sem,e]
 rotate_left
 .exact no (fun q=>e (by cases q; rfl))
 subst e
 refine Br.aJ (fun e=>?_) (fun e=>?_)<;>simp(disch:=omega)only[go_sem,e]
 rotate_left
 .exact no (fun q=>e (by cases q; rfl))
 subst e
 rw[yes rfl]
 clear yes no
 refine Br.aJ (fun e=>?_) (fun e=>?_)<;>simp(disch:=omega)only[go_sem,e]
 rotate_left
 .rw[p6 (fun h=>e (by rw[h])),Xu]
 refine Br.aJ (fun e'=>?_) (fun e'=>?_)<;>simp(disch:=omega)only[go_sem,e']
 rotate_left
 .rw[p6 (g:=AY) (fun h=>e' (by rw[h])),abu]
 refine W.find (a6.zip b6) (fun q=>!Dj q.1 q.2) (fun k=>⟨[(2,.pv (.bool false)),(3,.ptr 3 0),(4,.ptr 4 0),(7,.pv (.int .i64 k))],⟨[(3,[.pv (.int .i64 a1),.pv (.str a2),.pv (.int .i64 a3),.pv (.int .i64 a4),.pv (.int .i64 a5),.pv (.aq 0 (a6.map Sym.c)),.pv (.aq 0 (a7.map Mem.c)),.pv (.int .i64 a8),.pv (.int .i64 a9),.pv (.bool a10)]),(4,[.pv (.int .i64 a1),.pv (.str b2),.pv (.int .i64 a3),.pv (.int .i64 a4),.pv (.int .i64 a5),.pv (.aq 0 (b6.map Sym.c)),.pv (.aq 0 (b7.map Mem.c)),.pv (.int .i64 b8),.pv (.int .i64 b9),.pv (.bool a10)])],[],[]⟩⟩) rfl (fun k q hq hk hfd=>?_) (fun hn=>?_)
 .obtain⟨h1,h2⟩:=jh hq
  rw[dA (by omega)]at hk
  have hg:=aab q.1 q.2
  simp(disch:=omega)only[go_sem]
  refine Br.aJ (fun c=>?_) (fun c=>(c (by omega)).elim)
  cases hd:decide (q.1.id=q.2.id)with
  |true=>
   rw[hd]at hg
   simp(disch:=omega)only[go_sem,h1,h2,Option.map_some,Sym.c,hd]
   exact bB.of (by rw[hg]; rfl) rfl
  |false=>
   rw[hd]at hg
   simp(disch:=omega)only[go_sem,h1,h2,Option.map_some,Sym.c,hd]
   rw[wN (hfd (by rw[hg]; rfl)).any,Xu]
 have hz:(a6.zip b6).length=a6.length:=dA (by omega)
 rw[hz,ru (by omega) hn.any,WZ]
 simp(disch:=omega)only[go_sem]
 refine W.find (a7.zip b7) (fun q=>!AY q.1 q.2) (fun k=>⟨[(2,.pv (.bool false)),(3,.ptr 3 0),(4,.ptr 4 0),(8,.pv (.int .i64 k))],⟨[(3,[.pv (.int .i64 a1),.pv (.str a2),.pv (.int .i64 a3),.pv (.int .i64 a4),.pv (.int .i64 a5),.pv (.aq 0 (a6.map Sym.c)),.pv (.aq 0 (a7.map Mem.c)),.pv (.int .i64 a8),.pv (.int .i64 a9),.pv (.bool a10)]),(4,[.pv (.int .i64 a1),.pv (.str b2),.pv (.int .i64 a3),.pv (.int .i64 a4),.pv (.int .i64 a5),.pv (.aq 0 (b6.map Sym.c)),.pv (.aq 0 (b7.map Mem.c)),.pv (.int .i64 b8),.pv (.int .i64 b9),.pv (.bool a10)])],[],[]⟩⟩) rfl (fun k q hq hk hfd=>?_) (fun hn2=>?_)
 .obtain⟨h1,h2⟩:=jh hq
  rw[dA (by omega)]at hk
  obtain⟨p,r⟩:=q
  have hv:=r330v (lx3 p (Wa h1)).2.2.2 (ly3 r (Wa h2)).2.2.2
  rw[oq]at hv
  have hg:AY p r=eqv (AX p) (AX r):=rfl
  unfold AX at hg
  obtain⟨c1,c2,c3,c4,c5,v⟩:=p
  obtain⟨d1,d2,d3,d4,d5,w⟩:=r
  dsimp only at *
  generalize AY ⟨c1,c2,c3,c4,c5,v⟩ ⟨d1,d2,d3,d4,d5,w⟩=G2 at *
  have no:(c1,c4,c5,v)≠(d1,d4,d5,w)->(some [PV.bool false]:Option (List PV))=some [PV.bool (wM AY a7 b7)]:=fun h=>by
   rw[wN (hfd (by rw[hg,fJ h]; rfl)).any]
  have yes:(c1,c4,c5,v)=(d1,d4,d5,w)->(!G2)=false:=fun h=>by
   rw[hg,h,fI]
   rfl
  unfold dz.c at hv
  simp(disch:=omega)only[go_sem]
  refine Br.aJ (fun c=>?_) (fun c=>(c (by omega)).elim)
  simp(disch:=omega)only[go_sem,h1,h2,Option.map_some,Mem.c]
  refine Br.aJ (fun e=>?_) (fun e=>?_)<;>simp(disch:=omega)only[go_sem,e]
  rotate_left
  .exact no (fun q=>e (by cases q; rfl))
  subst e
  refine Br.aJ (fun e=>?_) (fun e=>?_)<;>simp(disch:=omega)only[go_sem,e]
  rotate_left
  .exact no (fun q=>e (by cases q; rfl))
  subst e
  refine Br.aJ (fun e=>?_) (fun e=>?_)<;>simp(disch:=omega)only[go_sem,e]
  rotate_left
  .exact no (fun q=>e (by cases q; rfl))
  subst e
  simp(disch:=omega)only[go_sem,hv]
  refine Br.of (fun e=>?_) (fun e=>?_)<;>simp(disch:=omega)only[go_sem,e]
  rotate_left
  .exact no (fun q=>mW.1 e (by cases q; rfl))
  have e:=bY.1 e
  subst e
  exact bB.of (yes rfl) rfl
 have hz2:(a7.zip b7).length=a7.length:=dA (by omega)
 rw[hz2,ru (by omega) hn2.any]
 simp(disch:=omega)only[go_sem]
def Yx (g:List Bool->Nat) (M:List (List Bool)):List (List PV):=M.map fun l=>[.aq (g l) (bX l)]
@[go_sem] theorem R4 (g:List Bool->Nat) (M:List (List Bool)) (i:Nat):(Yx g M)[i]?=M[i]?.map fun l=>[.aq (g l) (bX l)]:=by simp[Yx]
structure mB (na nb:Nat) (M:List (List Bool)):Prop where
 len:M.length=na
 row:∀l∈M,l.length=nb
def iY (M:List (List Bool)) (p q:Int):Bool:=(M.getD p.toNat []).getD q.toNat false
theorem mB.get {na nb:Nat} {M:List (List Bool)} (h:mB na nb M) {p q:Int} (hp:0<=p/\p<na) (hq:0<=q/\q<nb):∃l,M[p.toNat]?=some l/\l.length=nb/\l[q.toNat]?=some (iY M p q):=by
 have hl:=h.len
 obtain⟨l,hl⟩:=get_some (l:=M) (k:=p.toNat) (by omega)
 have hr:=h.row l (Wa hl)
 refine⟨l,hl,hr,?_⟩
 have h4:q.toNat<l.length:=by omega
 unfold iY
 simp[hl,h4]
def UU (n:Nat) (l:List (Int×Int)):Prop:=∀u∈l,0<=u.2/\u.2<n
def HQ (M:List (List Bool)) (x y:aH):Bool:=wM (fun u v=>iY M u.2 v.2) (p5 x) (p5 y)
theorem r491 (s v na nb:Nat) (g:List Bool->Nat) (a b:Int×Int) (M:List (List Bool)) (hM:mB na nb M) (hn:na<=1000000/\nb<=1000000) (ha:0<=a.2/\a.2<na) (hb:0<=b.2/\b.2<nb):res A aA 491 [.agg (i6 a),.agg (i6 b),.ro s [.aq v (Yx g M)]]=some [.bool (iY M a.2 b.2)]:=by
 obtain⟨l,h1,h2,h3⟩:=hM.get ha hb
 have h4:=hM.len
 obtain⟨a0,a1⟩:=ha
 obtain⟨b0,b1⟩:=hb
 refine aw a491 rfl rfl ?_
 simp only[F491,LM]
 unfold i6
 simp(disch:=omega)only[go_sem,gB,h1,h3,Option.map_some]
theorem r489 (t u s v na nb:Nat) (g:List Bool->Nat) (l m:List (Int×Int)) (M:List (List Bool)) (hM:mB na nb M) (hn:na<=1000000/\nb<=1000000) (ha:UU na l) (hb:UU nb m) (hl:l.length<=2000000) (hm:m.length<=2000000):res A aA 489 [.aq t (l.map i6),.aq u (m.map i6),.func 491 [.ro s [.aq v (Yx g M)]]]=some [.bool (wM (fun a b=>iY M a.2 b.2) l m)]:=by
 refine aw a489 rfl rfl ?_
 simp only[F489,LJ]
 simp(disch:=omega)only[go_sem]
 refine Br.aJ (fun h=>?_) (fun h=>?_)<;>simp(disch:=omega)only[go_sem]
 .refine W.find (l.zip m) (fun q=>!iY M q.1.2 q.2.2) (fun k=>⟨[(1,.pv (.aq u (m.map i6))),(2,.pv (.func 491 [.ro s [.aq v (Yx g M)]])),(15,.pv (.aq t (l.map i6))),(16,.pv (.int .i64 l.length)),(17,.pv (.int .i64 k))],⟨[],[],[]⟩⟩) rfl (fun k q hq hk hfd=>?_) (fun hn=>?_)
  .obtain⟨h1,h2⟩:=jh hq
   rw[dA (by omega)]at hk
   have hc:=fun s=>r491 s v na nb g q.1 q.2 M hM hn (ha _ (Wa h1)) (hb _ (Wa h2))
   unfold i6 at hc
   simp(disch:=omega)only[go_sem]
   refine Br.aJ (fun c=>?_) (fun c=>(c (by omega)).elim)
   simp(disch:=omega)only[go_sem,h1,h2,Option.map_some,i6,hc]
   refine Br.of (fun g=>?_) (fun g=>?_)<;>simp(disch:=omega)only[go_sem]
   .exact bB.of (by rw[g]; rfl) rfl
   .rw[wN (g:=fun(a b:Int×Int)=>iY M a.2 b.2) (hfd (by rw[g]; rfl)).any]
  .have hz:(l.zip m).length=l.length:=dA (by omega)
   rw[hz]
   simp(disch:=omega)only[go_sem]
   rw[ru (g:=fun(a b:Int×Int)=>iY M a.2 b.2) (by omega) hn.any]
 .rw[p6 (fun e=>h (by rw[e]))]
theorem zd (t:aH):(p5 t).length<=t.bc.length+2:=by
 unfold p5 oP
 rw[Wz,Wz,Wg]
 split<;>split<;>simp<;>omega
theorem Zx {x y:aH} (h:ep x y=true):(p5 x).length=(p5 y).length:=by
 have h:=bY.1 h
 unfold HP at h
 injection h with h1 h
 injection h with h2 h3
 injection h1 with h1 _
 have h3:=congrArg List.length h3
 rw[Wg,Wg]at h3
 unfold p5 oP
 rw[Wz,Wz,Wz,Wz,Wg,Wg,h1,h3]
 split<;>split<;>rfl
theorem r501 (v na nb:Nat) (g:List Bool->Nat) (x y:aH) (M:List (List Bool)) (hM:mB na nb M) (hn:na<=1000000/\nb<=1000000) (hx:x.short/\x.kind<=9) (hy:y.short/\y.kind<=9) (ha:UU na (p5 x)) (hb:UU nb (p5 y)) (hl:(p5 x).length=(p5 y).length):res A aA 501 [.agg x.c,.agg y.c,.aq v (Yx g M)]=some [.bool (HQ M x y)]:=by
 have h5:=r504 x hx.1 hx.2
 have h6:=r504 y hy.1 hy.2
 have h7:=zd x
 have h8:=hx.1.bc
 unfold HQ
 generalize p5 x=l at *
 generalize p5 y=m at *
 refine aw a501 rfl rfl ?_
 simp only[F501,aaZ]
 unfold aH.c at *
 have hMl:=hM.len
 simp(disch:=omega)only[go_sem,h5,h6]
 refine W.find (l.zip m) (fun q=>!iY M q.1.2 q.2.2) (fun k=>⟨[(2,.pv (.aq v (Yx g M))),(7,.pv (.aq 0 (l.map i6))),(8,.pv (.aq 0 (m.map i6))),(9,.pv (.int .i64 k))],⟨[],[],[]⟩⟩) rfl (fun k q hq hk hfd=>?_) (fun hn=>?_)
 .obtain⟨h1,h2⟩:=jh hq
  rw[dA (by omega)]at hk
  have qa:=ha _ (Wa h1)
  have qb:=hb _ (Wa h2)
  obtain⟨r,e1,e2,e3⟩:=hM.get qa qb
  obtain⟨a0,a1⟩:=qa
  obtain⟨b0,b1⟩:=qb
  simp(disch:=omega)only[go_sem]
  refine Br.aJ (fun c=>?_) (fun c=>(c (by omega)).elim)
  simp(disch:=omega)only[go_sem,h1,h2,Option.map_some,i6,gB,e1,e3]
  refine Br.of (fun g=>?_) (fun g=>?_)<;>simp(disch:=omega)only[go_sem]
  .exact bB.of (by rw[g]; rfl) rfl
  .rw[wN (g:=fun(a b:Int×Int)=>iY M a.2 b.2) (hfd (by rw[g]; rfl)).any]
 have hz:(l.zip m).length=l.length:=dA (by omega)
 rw[hz,ru (g:=fun(a b:Int×Int)=>iY M a.2 b.2) (by omega) hn.any]
 simp(disch:=omega)only[go_sem]
def qT (M:List (List Bool)) (p q:Nat):List (List Bool):=M.set p ((M.getD p []).set q false)
theorem B5 {na nb p q:Nat} {M:List (List Bool)} (h:mB na nb M) (hp:p<na):mB na nb (qT M p q) where
 len:=by unfold qT; rw[Xx]; exact h.len
 row l hl:=by
  rcases XK hl with hl|rfl
  .exact h.row l hl
  .rw[Xx]
   have:M[p]?=some (M.getD p []):=by
    have:p<M.length:=by rw[h.len]; exact hp
    simp[this]
   exact h.row _ (Wa this)
theorem FE {na nb p q p' q':Nat} {M:List (List Bool)} (h:mB na nb M) (hp:p<na) (hq:q<nb):iY (qT M p q) p' q'=if p=p'/\q=q' then false else iY M p' q':=by
 have hl:p<M.length:=by rw[h.len]; exact hp
 have hr:(M.getD p []).length=nb:=h.row _ (by
  have:M[p]?=some (M.getD p []):=by simp[hl]
  exact Wa this)
 unfold iY qT
 simp only[Int.toNat_natCast,List.getD_eq_getElem?_getD,List.getElem?_set]
 by_cases e:p=p'
 .subst e
  simp only[List.getD_eq_getElem?_getD]at hr
  by_cases e2:q=q'
  .subst e2
   simp only[hl,if_true,List.getElem?_eq_getElem,Option.getD_some,if_pos,and_self]
   rw[afz,if_pos rfl]
   split<;>rfl
  .simp[hl,e2]
 .simp[e]
abbrev Rel:=List (List Bool)->Nat->Nat->Bool
def FF (R:Rel) (p:Nat) (s:List (List Bool)×Bool) (q:Nat):List (List Bool)×Bool:=if (iY s.1 p q&&!R s.1 p q)=true then (qT s.1 p q,true) else s
def FH (R:Rel) (nb:Nat) (s:List (List Bool)×Bool) (p:Nat):List (List Bool)×Bool:=(List.range nb).foldl (FF R p) s
def GD (R:Rel) (na nb:Nat) (s:List (List Bool)×Bool):List (List Bool)×Bool:=(List.range na).foldl (FH R nb) s
def wP (R:Rel) (na nb:Nat):Nat->List (List Bool)->List (List Bool)
 |0,M=>M
 |n+1,M=>if (GD R na nb (M,false)).2=true then wP R na nb n (GD R na nb (M,false)).1 else (GD R na nb (M,false)).1
def wQ (M:List (List Bool)):Nat:=(M.map fun r=>r.countP id).sum
theorem HS {r:List Bool} {q:Nat} (h:r.getD q false=true):(r.set q false).countP id+1=r.countP id:=by
 induction r generalizing q with
 |nil=>simp at h
 |cons b r ih=>
  cases q with
  |zero=>
   have hb:b=true:=by simpa using h
   subst hb
   simp
  |succ q=>
   have:=ih (q:=q) (by simpa using h)
   rw[List.set_cons_succ,List.countP_cons,List.countP_cons]
   omega
theorem HT {M:List (List Bool)} {p q:Nat} (h:iY M p q=true):wQ (qT M p q)+1=wQ M:=by
 unfold iY at h
 simp only[Int.toNat_natCast]at h
 unfold wQ qT
 induction M generalizing p with
 |nil=>simp at h
 |cons r M ih=>
  cases p with
  |zero=>
   have h:r.getD q false=true:=by simpa using h
   have:=HS h
   simp only[List.getD_cons_zero,List.set_cons_zero,List.map_cons,List.sum_cons]
   omega
  |succ p=>
   have:=ih (p:=p) (by simpa using h)
   simp only[List.getD_cons_succ,List.set_cons_succ,List.map_cons,List.sum_cons]
   omega
def Steps (s t:List (List Bool)×Bool):Prop:=t=s\/(t.2=true/\wQ t.1<wQ s.1)
theorem Steps.trans {s t u:List (List Bool)×Bool} (h:Steps s t) (g:Steps t u):Steps s u:=by
 rcases g with rfl|⟨g1,g2⟩
 .exact h
 .rcases h with rfl|⟨_,h2⟩
  .exact .inr ⟨g1,g2⟩
  .exact .inr ⟨g1,by omega⟩
theorem Dk (R:Rel) (p:Nat) (s:List (List Bool)×Bool) (q:Nat):Steps s (FF R p s q):=by
 unfold FF
 split
 .rename_i h
  rw[XX]at h
  have:=HT h.1
  exact .inr ⟨rfl,by dsimp only; omega⟩
 .exact .inl rfl
theorem FI {α:Type} {f:List (List Bool)×Bool->α->List (List Bool)×Bool} (h:∀s a,Steps s (f s a)):∀(l:List α) (s:List (List Bool)×Bool),Steps s (l.foldl f s)
 |[],_=>.inl rfl
 |a::l,s=>(h s a).trans (FI h l _)
theorem AZ (R:Rel) (nb:Nat) (s:List (List Bool)×Bool) (p:Nat):Steps s (FH R nb s p):=FI (Dk R p) _ _
theorem vu (R:Rel) (na nb:Nat) (s:List (List Bool)×Bool):Steps s (GD R na nb s):=FI (fun s p=>AZ R nb s p) _ _
theorem qE (R:Rel) (na nb:Nat):∀(n m:Nat) (M:List (List Bool)),wQ M<n->wQ M<m->wP R na nb n M=wP R na nb m M
 |0,_,_,h,_=>absurd h (Xo _)
 |_+1,0,_,_,h=>absurd h (Xo _)
 |n+1,m+1,M,h,g=>by
  unfold wP
  split
  .rename_i hf
   rcases vu R na nb (M,false)with e|⟨_,e⟩
   .rw[e]at hf
    cases hf
   .dsimp only at e
    exact qE R na nb n m _ (by omega) (by omega)
  .rfl
def Ys (R:Rel) (na nb:Nat) (M:List (List Bool)):List (List Bool):=wP R na nb (wQ M+1) M
def MI (G:List (List Bool)) (R:Rel) (na nb:Nat) (s:List (List Bool)×Bool):Prop:=mB na nb s.1/\if s.2=true then Ys R na nb s.1=G else s.1=G
def FJ (s:List (List Bool)×Bool):Nat:=if s.2=true then wQ s.1+1 else 0
theorem FK {G:List (List Bool)} {R:Rel} {na nb:Nat} {M:List (List Bool)} (h:MI G R na nb (M,true)) (hk:mB na nb (GD R na nb (M,false)).1):MI G R na nb (GD R na nb (M,false))/\FJ (GD R na nb (M,false))<FJ (M,true):=by
 have h2:Ys R na nb M=G:=h.2
 unfold Ys wP at h2
 rcases vu R na nb (M,false)with e|⟨hf,e⟩
 .rw[e]at h2 |-
  rw[if_neg (by simp)]at h2
  exact⟨⟨h.1,by rw[if_neg (by simp)]; exact h2⟩,by unfold FJ; rw[if_neg (by simp),if_pos rfl]; omega⟩
 .dsimp only at e
  rw[if_pos hf]at h2
  refine⟨⟨hk,?_⟩,?_⟩
  .rw[if_pos hf]
   unfold Ys
   rw[<- h2]
   exact qE R na nb _ _ _ (by omega) (by omega)
  .unfold FJ
   rw[if_pos hf,if_pos rfl]
   dsimp only
   omega
theorem FL {R:Rel} {na nb p q:Nat} {s:List (List Bool)×Bool} (h:mB na nb s.1) (hp:p<na):mB na nb (FF R p s q).1:=by
 unfold FF
 split
 .exact B5 h hp
 .exact h
theorem foldI {α β:Type} {f:β->α->β} {P:β->Prop}:∀(l:List α) (s:β),P s->(∀s a,a∈l->P s->P (f s a))->P (l.foldl f s)
 |[],_,h,_=>h
 |a::l,s,h,g=>foldI l _ (g s a WH h) fun s b hb=>g s b (W3 _ hb)
theorem HU {R:Rel} {na nb p:Nat} {s:List (List Bool)×Bool} (h:mB na nb s.1) (hp:p<na):mB na nb (FH R nb s p).1:=foldI (P:=fun s=>mB na nb s.1) _ s h fun _ _ _ h=>FL h hp
theorem MJ {R:Rel} {na nb:Nat} {s:List (List Bool)×Bool} (h:mB na nb s.1):mB na nb (GD R na nb s).1:=foldI (P:=fun s=>mB na nb s.1) _ s h fun _ _ hp h=>HU h (WJ.1 hp)
theorem vw {R:Rel} {na nb:Nat} {P:List (List Bool)->Prop} (h:∀M p q,p<na->q<nb->P M->iY M p q=true->R M p q=false->P (qT M p q)):∀(n:Nat) (M:List (List Bool)),P M->P (wP R na nb n M)
 |0,_,hM=>hM
 |n+1,M,hM=>by
  have hs:P (GD R na nb (M,false)).1:=foldI (P:=fun(s:List (List Bool)×Bool)=>P s.1) _ _ hM fun s p hp hs=>foldI (P:=fun(s:List (List Bool)×Bool)=>P s.1) _ _ hs fun s q hq hs=>by
   unfold FF
   split
   .rename_i hc
    rw[XX]at hc
    exact h _ p q (List.mem_range.1 hp) (List.mem_range.1 hq) hs hc.1 (by simpa using hc.2)
   .exact hs
  unfold wP
  split
  .exact vw h n _ hs
  .exact hs
theorem HV {R:Rel} {na nb n:Nat} {M:List (List Bool)} (h:mB na nb M):mB na nb (wP R na nb n M):=vw (P:=mB na nb) (fun _ _ _ hp _ h _ _=>B5 h hp) n M h
theorem HW {R:Rel} {na nb:Nat} {M:List (List Bool)} (h:mB na nb M):mB na nb (Ys R na nb M):=HV h
theorem A2 {α β:Type} {f:α->β} {y:β} {l:List α} {k i:Nat} {x:α} (hi:i<k) (hx:l[i]?=some x):(fM f y l k)[i]?=some (f x):=by
 unfold fM
 have hl:=(V9.1 hx).1
 rw[List.getElem?_append_left (by simp; omega),List.getElem?_map,List.getElem?_take,if_pos hi,hx]
 rfl
def aV (es:List Edge) (s:Int):List Edge:=es.filter fun e=>e.fr==s
theorem lK (es:List Edge) (s:Int):(aV es s).length<=es.length:=XW _ _
theorem YO {α:Type} (p:α->Bool) (l:List α):l.foldl (fun o x=>if p x=true then o++[x] else o) []=l.filter p:=by
 have:=fold_filter p id l []
 simpa using this
set_option maxHeartbeats 1000000 in
@[go_sem] theorem r38 (t:Nat) (n s0 s:Int) (es:List Edge) (hl:es.length<=2000000000):res A aA 38 [.agg [.int .i64 n,.int .i64 s0,.aq t (es.map Edge.c)],.int .i64 s]=some [.aq 0 (bF (aV es s))]:=by
 refine aw a38 rfl rfl ?_
 simp only[F38,sy]
 simp(disch:=omega)only[go_sem]
 refine W.fold es (fun o e=>if (e.fr==s)=true then o++[e] else o) [] (fun k o=>⟨[(1,.pv (.int .i64 s)),(2,.ptr 2 0),(5,dh 0 (bF o)),(6,.pv (.int .i64 k))],⟨[(2,[.pv (.int .i64 n),.pv (.int .i64 s0),.pv (.aq t (es.map Edge.c))])],cK 4 (bF o),[]⟩⟩) (fun k o=>o.length<=k) rfl (Wj _) (fun k e o he hk _ hi=>?_) (fun o ho hi=>?_)
 .simp(disch:=omega)only[go_sem]
  refine Br.aJ (fun h=>?_) (fun h=>(h (by omega)).elim)
  simp(disch:=omega)only[go_sem,he]
  refine Br.aJ (fun f=>?_) (fun f=>?_)<;>simp(disch:=omega)only[go_sem,f,he]
  .have hf:(e.fr==s)=true:=by simp[f]
   refine cW.of ?_ (by rw[if_pos hf]; simp; omega)
   show _=St.mk _ _
   rw[if_pos hf]
   have hee:(⟨s,e.send,e.label,e.to⟩:Edge)=e:=by rw[<- f]
   rw[hee]
   rfl
  .have hf:(e.fr==s)=false:=by simp[f]
   refine cW.of ?_ (by rw[hf]; simp; omega)
   show _=St.mk _ _
   rw[hf]
   rfl
 .rw[YO]at ho
  simp(disch:=omega)only[go_sem]
  rw[ho]
  rfl
def I6 (a b:List Edge) (p q:Int):Option Edge:=(aV a p).find? fun e=>!(cO q e.send e.label b).isSome
def Zo:Option Edge->Bool×Int
 |some e=>(e.send,e.label)
 |none=>(false,0)
set_option maxHeartbeats 1000000 in
@[go_sem] theorem r37 (t u:Nat) (n s n' s' p q:Int) (a b:List Edge) (ha:a.length<=2000000000) (hb:b.length<=2000000000):
  res A aA 37 [.agg [.int .i64 n,.int .i64 s,.aq t (a.map Edge.c)],.agg [.int .i64 n',.int .i64 s',.aq u (b.map Edge.c)],.int .i64 p,.int .i64 q]=some [.agg [.bool (Zo (I6 a b p q)).1,.int .i64 (Zo (I6 a b p q)).2],.bool (I6 a b p q).isSome]:=by
 refine aw a37 rfl rfl ?_
 simp only[F37,so]
 have hel:=lK a p
 have h39:=fun(d:Bool) (x:Int)=>r39 u ⟨n',s',b⟩ q d x (show b.length<=2^63 - 1 by omega)
 simp(disch:=omega)only[go_sem]
 refine W.find (aV a p) (fun e=>!(cO q e.send e.label b).isSome) (fun k=>⟨[(3,.pv (.int .i64 q)),(5,.ptr 5 0),(8,.ptr 8 0),(10,.pv (.aq 0 (bF (aV a p)))),(11,.pv (.int .i64 k))],⟨[(5,[.pv (.int .i64 n'),.pv (.int .i64 s'),.pv (.aq u (b.map Edge.c))]),(8,[.pv (.bool false),.pv (.int .i64 0)])],[],[]⟩⟩) rfl (fun k e he hk hf=>?_) (fun hno=>?_)
 .simp(disch:=omega)only[go_sem]
  refine Br.aJ (fun h=>?_) (fun h=>(h (by omega)).elim)
  simp(disch:=omega)only[go_sem,he,h39]
  refine Br.of (fun f=>?_) (fun f=>?_)<;>simp(disch:=omega)only[go_sem,he]
  .exact bB.of (by rw[f]; rfl) rfl
  .have:=(hf (by rw[f]; rfl)).find
   have hle:I6 a b p q=some e:=this
   rw[hle]
   rfl
 .simp(disch:=omega)only[go_sem]
  have hle:I6 a b p q=none:=hno.find
  rw[hle]
  rfl
def ZS (g:List Int->Nat) (M:List (List Int)):List (List PV):=M.map fun l=>[.aq (g l) (ints l)]
@[go_sem] theorem aa8 (g:List Int->Nat) (M:List (List Int)) (i:Nat):(ZS g M)[i]?=M[i]?.map fun l=>[.aq (g l) (ints l)]:=by simp[ZS]
def UW (M:List (List Int)) (p q:Int):Int:=(M.getD p.toNat []).getD q.toNat 0
def R5 (b:List Edge) (M:List (List Int)) (q k:Int) (e:Edge):Bool:=match cO q e.send e.label b with
 |some n=>decide (UW M e.to n=k)
 |none=>false
def R6 (a b:List Edge) (M:List (List Int)) (p q k:Int):Option Edge:=(aV a p).find? (R5 b M q k)
structure vC (na nb:Nat) (M:List (List Int)):Prop where
 len:M.length=na
 row:∀l∈M,l.length=nb
theorem vC.get {na nb:Nat} {M:List (List Int)} (h:vC na nb M) {p q:Int} (hp:0<=p/\p<na) (hq:0<=q/\q<nb):∃l,M[p.toNat]?=some l/\l.length=nb/\l[q.toNat]?=some (UW M p q):=by
 have h1:p.toNat<M.length:=by rw[h.len]; omega
 have h2:M[p.toNat]?=some M[p.toNat]:=by simp
 have h3:=h.row _ (Wa h2)
 refine⟨_,h2,h3,?_⟩
 unfold UW
 have h4:q.toNat<M[p.toNat].length:=by omega
 simp[h1,h4]
set_option maxHeartbeats 1000000 in
@[go_sem] theorem r41 (t u v na nb:Nat) (g:List Int->Nat) (n s n' s' p q k:Int) (a b:List Edge) (M:List (List Int)) (ha:a.length<=2000000000) (hb:b.length<=2000000000) (hM:vC na nb M) (hta:∀e∈a,0<=e.to/\e.to<(na:Int)) (htb:∀e∈b,0<=e.to/\e.to<(nb:Int)):
  res A aA 41 [.agg [.int .i64 n,.int .i64 s,.aq t (a.map Edge.c)],.agg [.int .i64 n',.int .i64 s',.aq u (b.map Edge.c)],.int .i64 p,.int .i64 q,.aq v (ZS g M),.int .i64 k]=some [.agg [.bool (Zo (R6 a b M p q k)).1,.int .i64 (Zo (R6 a b M p q k)).2],.bool (R6 a b M p q k).isSome]:=by
 refine aw a41 rfl rfl ?_
 simp only[F41,c41]
 have hel:=lK a p
 have hml:=hM.len
 have h39:=fun(d:Bool) (x:Int)=>r39 u ⟨n',s',b⟩ q d x (show b.length<=2^63 - 1 by omega)
 simp(disch:=omega)only[go_sem]
 refine W.find (aV a p) (R5 b M q k) (fun j=>⟨[(3,.pv (.int .i64 q)),(4,.pv (.aq v (ZS g M))),(5,.pv (.int .i64 k)),(7,.ptr 7 0),(12,.ptr 12 0),(14,.pv (.aq 0 (bF (aV a p)))),(15,.pv (.int .i64 j))],⟨[(7,[.pv (.int .i64 n'),.pv (.int .i64 s'),.pv (.aq u (b.map Edge.c))]),(12,[.pv (.bool false),.pv (.int .i64 0)])],[],[]⟩⟩) rfl (fun j e he hj hf=>?_) (fun hno=>?_)
 .obtain⟨t0,t1⟩:=hta e (Xl.1 (Wa he)).1
  simp(disch:=omega)only[go_sem]
  refine Br.aJ (fun h=>?_) (fun h=>(h (by omega)).elim)
  simp(disch:=omega)only[go_sem,he,h39]
  cases hn:cO q e.send e.label b with
  |none=>
   have hp:R5 b M q k e=false:=by unfold R5; rw[hn]
   simp(disch:=omega)only[go_sem,Option.isSome_none]
   exact bB.of hp rfl
  |some m=>
   have hp:R5 b M q k e=decide (UW M e.to m=k):=by unfold R5; rw[hn]
   have hmb:0<=m/\m<(nb:Int):=by
    have:∀{es:List Edge},(∀e∈es,0<=e.to/\e.to<(nb:Int))->cO q e.send e.label es=some m->0<=m/\m<(nb:Int):=by
     intro es
     induction es with
     |nil=>intro _ hh; cases hh
     |cons x es ih=>
      intro hh h2
      unfold cO at h2
      split at h2
      .cases h2
       exact hh x (by simp)
      .exact ih (fun y hy=>hh y (by simp[hy])) h2
    exact this htb hn
   obtain⟨l,g1,g2,g3⟩:=hM.get (p:=e.to) (q:=m) ⟨t0,t1⟩ hmb
   obtain⟨m0,m1⟩:=hmb
   simp(disch:=omega)only[go_sem,he,Option.isSome_some,Option.getD_some,gB,g1,g3]
   refine Br.aJ (fun f=>?_) (fun f=>?_)<;>simp(disch:=omega)only[go_sem,he]
   .have:=(hf (by rw[hp]; simp[f])).find
    have hle:R6 a b M p q k=some e:=this
    rw[hle]
    rfl
   .exact bB.of (by rw[hp]; simp[f]) rfl
 .simp(disch:=omega)only[go_sem]
  have hle:R6 a b M p q k=none:=hno.find
  rw[hle]
  rfl
def ownRow (nb p:Nat):V:=.own (p+1) 0 0 nb
def X4 (na nb m:Nat):List V:=fM (ownRow nb) (.tl []) (List.range na) m
theorem X8 {na nb m:Nat} (h:m<=na):(X4 na nb m).length=na:=by
 have:=AM (ownRow nb) (.tl []) (List.range na) (k:=m) (by simpa using h)
 rw[WI]at this
 exact this
theorem Zy (na nb:Nat):X4 na nb 0=List.replicate na (.tl []):=by
 unfold X4
 rw[y5,WI]
theorem ZT {na nb m:Nat} (h:m<na):(X4 na nb m).set m (.own (m+1) 0 0 nb)=X4 na nb (m+1):=AO (f:=ownRow nb) (Xr h)
theorem YX {na nb m i:Nat} (h:i<m) (hm:m<=na):(X4 na nb m)[i]?=some (.own (i+1) 0 0 nb):=A2 (f:=ownRow nb) h (Xr (by omega))
def Zd (r:List Int):aL:=⟨0,1,.inl (ints r)⟩
def YP (M:List (List Int)):List aL:=M.map Zd
@[go_sem] theorem abe (M:List (List Int)):(YP M).length=M.length:=by simp[YP]
@[go_sem] theorem Zp (M:List (List Int)) (i:Nat):(YP M)[i]?=M[i]?.map fun r=>⟨0,1,.inl (ints r)⟩:=by
 unfold YP
 rw[Wf]
 rfl
@[go_sem] theorem abf (M:List (List Int)) (i:Nat) (r:List Int):(YP M).set i ⟨0,1,.inl (ints r)⟩=YP (M.set i r):=by simp[YP,Zd,List.map_set]
@[go_sem] theorem aa9 (M:List (List Int)) (r:List Int):YP M++[⟨0,1,.inl (ints r)⟩]=YP (M++[r]):=by simp[YP,Zd]
theorem ZU (na nb:Nat):X4 na nb na=(List.range na).map (ownRow nb):=by
 have:=AN (ownRow nb) (.tl []) (List.range na)
 rw[WI]at this
 exact this
theorem YY {α:Type} {na nb:Nat} {M:List (List Int)} (hM:vC na nb M) (f:V->Option α) (g:List Int->α) (hf:∀p r,M[p]?=some r->f (.own (p+1) 0 0 nb)=some (g r)):ay (ay f) (cQ (X4 na nb na))=some (M.map fun r=>[g r]):=by
 rw[ZU]
 have key:∀(k:Nat) (N:List (List Int)),N.length=k->(∀p r,N[p]?=some r->f (.own (p+1) 0 0 nb)=some (g r))->ay (ay f) (cQ ((List.range k).map (ownRow nb)))=some (N.map fun r=>[g r]):=by
  intro k
  induction k with
  |zero=>
   intro N hN _
   have:N=[]:=Wp hN
   subst this
   rfl
  |succ k ih=>
   intro N hN hf
   obtain⟨N',r,rfl⟩:∃N' r,N=N'++[r]:=⟨N.dropLast,N.getLast (by intro e; rw[e]at hN; simp at hN),(List.dropLast_concat_getLast _).symm⟩
   have hl:N'.length=k:=by simpa using hN
   have h1:=ih N' hl fun p r hr=>hf p r (by rw[We (V9.1 hr).1]; exact hr)
   have h2:=hf k r (by rw[List.getElem?_append_right (by omega),hl]; simp)
   rw[Xq,WC]
   have happ:∀(a b:List (List V)) (ra rb:List (List α)),ay (ay f) a=some ra->ay (ay f) b=some rb->ay (ay f) (a++b)=some (ra++rb):=by
    intro a
    induction a with
    |nil=>intro b ra rb h1 h2; cases h1; exact h2
    |cons x a ih=>
     intro b ra rb h1 h2
     simp only[ay]at h1
     split at h1
     .rename_i y l' e1 e2
      cases h1
      simp only[List.cons_append,ay,e1,ih b l' rb e2 h2]
     .cases h1
   have h3:ay (ay f) (cQ [ownRow nb k])=some [[g r]]:=by
    simp[cQ,ay,ownRow,h2]
   have h4:=happ _ _ _ _ h1 h3
   rw[WC]
   show ay (ay f) (cQ ((List.range k).map (ownRow nb)++[ownRow nb k]))=_
   unfold cQ at h4 |-
   rw[WC]
   exact h4
 exact key na M hM.len hf
theorem ZV {na nb:Nat} {M:List (List Int)} (hM:vC na nb M) (bx:List (Nat×List V)) (a0:aL) (d:Nat):ay (ay (aR ⟨bx,a0::YP M,[]⟩ (d+1))) (cQ (X4 na nb na))=some (ZS (fun _=>1) M):=
 YY hM (aR ⟨bx,a0::YP M,[]⟩ (d+1)) (fun r=>PV.aq 1 (ints r)) fun p r hr=>by
  have h1:=hM.row r (Wa hr)
  have h2:(ints r).take nb=ints r:=Wq (by rw[bt]; omega)
  simp[aR,aB,Zp,hr,az,h2]
theorem ZW {na nb:Nat} {M:List (List Int)} (hM:vC na nb M) (bx:List (Nat×List V)) (a0:aL) (d:Nat):ay (ay (aY ⟨bx,a0::YP M,[]⟩ (d+1))) (cQ (X4 na nb na))=some (nd M):=
 YY hM (aY ⟨bx,a0::YP M,[]⟩ (d+1)) (fun r=>PV.aq 0 (ints r)) fun p r hr=>by
  have h1:=hM.row r (Wa hr)
  have h2:(ints r).take nb=ints r:=Wq (by rw[bt]; omega)
  simp[dS,aB,Zp,hr,az,h2,bO]
def VM (a b:List Edge) (p q:Int):Bool:=(I6 a b p q).isSome||(I6 b a q p).isSome
def VN (c:Bool):Int:=if c=true then 1 else 0
def VO (a b:List Edge) (nb p q:Nat):List Int:=fM (fun(q:Nat)=>VN (VM a b p q)) 0 (List.range nb) q
theorem Zq {a b:List Edge} {nb p q:Nat} (h:q<=nb):(VO a b nb p q).length=nb:=by
 have:=AM (fun(q:Nat)=>VN (VM a b p q)) 0 (List.range nb) (k:=q) (by simpa using h)
 rw[WI]at this
 exact this
theorem ZX (a b:List Edge) (nb p:Nat):VO a b nb p 0=List.replicate nb 0:=by
 unfold VO
 rw[y5,WI]
theorem aac {a b:List Edge} {nb p q:Nat} (h:q<nb):(VO a b nb p q).set q (VN (VM a b p q))=VO a b nb p (q+1):=AO (f:=fun(q:Nat)=>VN (VM a b p q)) (Xr h)
theorem YZ {α β:Type} {f:α->β} {y:β} {l:List α} {k:Nat} {x:α} (h:l[k]?=some x) (hf:f x=y):fM f y l (k+1)=fM f y l k:=by
 have hk:=(V9.1 h).1
 rw[<- AO h,hf]
 apply WW
 intro i
 by_cases e:k=i
 .subst e
  rw[WU (by rw[AM _ _ _ (by omega)]; exact hk)]
  unfold fM
  rw[List.getElem?_append_right (by simp; omega),List.getElem?_replicate,if_pos (by simp; omega)]
 .rw[Xk e]
theorem ZY {a b:List Edge} {nb p q:Nat} (h:q<nb) (hf:VM a b p q=false):VO a b nb p (q+1)=VO a b nb p q:=YZ (f:=fun(q:Nat)=>VN (VM a b p q)) (List.getElem?_range h) (by simp[hf,VN])
def R7 (a b:List Edge) (nb m:Nat):List (List Int):=(List.range m).map fun p=>VO a b nb p nb
theorem YI (a b:List Edge) (nb m:Nat):(R7 a b nb m).length=m:=by simp[R7]
theorem Ze (a b:List Edge) (nb m:Nat):R7 a b nb (m+1)=R7 a b nb m++[VO a b nb m nb]:=by simp[R7,List.range_succ]
theorem Y0 (a b:List Edge) (nb m:Nat):vC m nb (R7 a b nb m):=⟨YI a b nb m,fun l hl=>by
 obtain⟨p,_,rfl⟩:=Wk.1 hl
 exact Zq (Wj _)⟩
def UX (M:List (List Int)) (p q:Nat) (v:Int):List (List Int):=M.set p ((M.getD p []).set q v)
theorem Zr {na nb p q:Nat} {M:List (List Int)} {v:Int} (h:vC na nb M) (hp:p<na):vC na nb (UX M p q v) where
 len:=by unfold UX; rw[Xx]; exact h.len
 row l hl:=by
  rcases XK hl with hl|rfl
  .exact h.row l hl
  .rw[Xx]
   have:M[p]?=some (M.getD p []):=by
    have:p<M.length:=by rw[h.len]; exact hp
    simp[this]
   exact h.row _ (Wa this)
def R8 (a b:List Edge) (k:Int) (p:Nat) (M:List (List Int)) (q:Nat):List (List Int):=if (R6 a b M p q k).isSome=true/\UW M p q=0 then UX M p q (k+1) else M
def UY (a b:List Edge) (nb:Nat) (k:Int) (M:List (List Int)) (p:Nat):List (List Int):=(List.range nb).foldl (R8 a b k p) M
def MK (a b:List Edge) (na nb:Nat) (k:Int) (M:List (List Int)):List (List Int):=(List.range na).foldl (UY a b nb k) M
def R9 (a b:List Edge) (na nb:Nat):Nat->List (List Int)
 |0=>R7 a b nb na
 |j+1=>MK a b na nb ((j+1:Nat):Int) (R9 a b na nb j)
def differ (a b:aP):List (List Int):=R9 a.af b.af a.aj.toNat b.aj.toNat (a.aj.toNat*b.aj.toNat)
set_option maxHeartbeats 8000000 in
@[go_sem] theorem r31 (t u:Nat) (a b:aP) (hga:a.Good) (hgb:b.Good):
  res A aA 31 [.agg [.int .i64 a.aj,.int .i64 a.start,.aq t (a.af.map Edge.c)],.agg [.int .i64 b.aj,.int .i64 b.start,.aq u (b.af.map Edge.c)]]=some [.aq 0 (nd (differ a b))]:=by
 refine aw a31 rfl rfl ?_
 simp only[F31,pf]
 have hfa:∀e∈a.af,0<=e.to/\e.to<(a.aj.toNat:Int):=fun e he=>by have:=fG.1 (hga.fit e he); omega
 have hfb:∀e∈b.af,0<=e.to/\e.to<(b.aj.toNat:Int):=fun e he=>by have:=fG.1 (hgb.fit e he); omega
 obtain⟨sa,ma,la,_,_⟩:=hga
 obtain⟨sb,mb,lb,_,_⟩:=hgb
 have hd:differ a b=R9 a.af b.af a.aj.toNat b.aj.toNat (a.aj.toNat*b.aj.toNat):=rfl
 rw[hd]
 clear hd
 obtain⟨za,ast,ae⟩:=a
 obtain⟨zb,bst,be⟩:=b
 dsimp only at *
 obtain⟨na,rfl⟩:=XB (show 0<=za by omega)
 obtain⟨nb,rfl⟩:=XB (show 0<=zb by omega)
 simp only[Int.toNat_natCast]at hfa hfb |-
 have hN:(na:Int)*(nb:Int)=((na*nb:Nat):Int):=by simp
 have hNb:na*nb<=144:=abA (show na<=12 by omega) (show nb<=12 by omega)
 generalize hNN:na*nb=N at hN hNb
 simp(disch:=omega)only[go_sem]
 refine W.fv na (fun m=>⟨[(2,.ptr 2 0),(3,.ptr 3 0),(5,.own 0 0 0 na),(6,.pv (.int .i64 m))],⟨[(2,[.pv (.int .i64 (na:Int)),.pv (.int .i64 ast),.pv (.aq t (ae.map Edge.c))]),(3,[.pv (.int .i64 (nb:Int)),.pv (.int .i64 bst),.pv (.aq u (be.map Edge.c))])],⟨0,1,.inr (cQ (X4 na nb m))⟩::YP (R7 ae be nb m),[]⟩⟩) (fun _=>True) (by rw[Zy]; rfl) trivial fun m hm _=>?_
 have hxl:=X8 (nb:=nb) hm
 have hbl:=YI ae be nb m
 simp(disch:=omega)only[go_sem]
 refine Br.aJ (fun h=>?_) (fun h=>?_)
 .have hxs:=ZT (na:=na) (nb:=nb) (m:=m) (by omega)
  simp(disch:=omega)only[go_sem,hbl,hxs]
  have hg1:∀w:List Int,(R7 ae be nb m++[w])[m]?=some w:=fun w=>by rw[List.getElem?_append_right (by omega),hbl]; simp
  have hg2:∀w w':List Int,(R7 ae be nb m++[w]).set m w'=R7 ae be nb m++[w']:=fun w w'=>by rw[List.set_append_right _ _ (by omega),hbl]; simp
  have hxg:=YX (na:=na) (nb:=nb) (m:=m+1) (i:=m) (by omega) (by omega)
  have hxl':=X8 (na:=na) (nb:=nb) (m:=m+1) (by omega)
  refine W.fv nb (fun q=>⟨[(2,.ptr 2 0),(3,.ptr 3 0),(5,.own 0 0 0 na),(6,.pv (.int .i64 m)),(7,.pv (.int .i64 q))],⟨[(2,[.pv (.int .i64 (na:Int)),.pv (.int .i64 ast),.pv (.aq t (ae.map Edge.c))]),(3,[.pv (.int .i64 (nb:Int)),.pv (.int .i64 bst),.pv (.aq u (be.map Edge.c))])],⟨0,1,.inr (cQ (X4 na nb (m+1)))⟩::YP (R7 ae be nb m++[VO ae be nb m q]),[]⟩⟩) (fun _=>True) ?_ trivial fun q hq _=>?_
  .rw[ZX]
   rfl
  have hbt:=Zq (a:=ae) (b:=be) (p:=m) hq
  simp(disch:=omega)only[go_sem]
  refine Br.aJ (fun h=>?_) (fun h=>?_)
  .have hset:=aac (a:=ae) (b:=be) (p:=m) (show q<nb by omega)
   have hsame:=ZY (a:=ae) (b:=be) (p:=m) (show q<nb by omega)
   have hset1:VM ae be m q=true->(VO ae be nb m q).set q 1=VO ae be nb m (q+1):=fun hc=>by rw[<- hset,hc]; rfl
   have hlk:VM ae be m q=((I6 ae be m q).isSome||(I6 be ae q m).isSome):=rfl
   simp(disch:=omega)only[go_sem]
   refine Br.of (fun f1=>?_) (fun f1=>?_)<;>simp(disch:=omega)only[go_sem,f1]
   .rw[f1,Bool.true_or]at hlk
    simp(disch:=omega)only[go_sem,hxg,hg1,hg2,hset1 hlk]
    exact .of (by omega) rfl trivial
   .refine Br.of (fun f2=>?_) (fun f2=>?_)<;>simp(disch:=omega)only[go_sem,f2]
    .rw[f1,f2,Bool.false_or]at hlk
     simp(disch:=omega)only[go_sem,hxg,hg1,hg2,hset1 hlk]
     exact .of (by omega) rfl trivial
    .rw[f1,f2,Bool.false_or]at hlk
     refine .of (by omega) ?_ trivial
     show _=St.mk _ _
     rw[hsame hlk]
     rfl
  .obtain rfl:q=nb:=by omega
   simp(disch:=omega)only[go_sem]
   refine .of (by omega) ?_ trivial
   show _=St.mk _ _
   rw[Ze]
   rfl
 .obtain rfl:m=na:=by omega
  clear h hxl hbl
  simp(disch:=omega)only[go_sem]
  refine W.fv N (fun j=>⟨[(2,.ptr 2 0),(3,.ptr 3 0),(5,.own 0 0 0 m),(12,.pv (.int .i64 (j+1:Nat)))],⟨[(2,[.pv (.int .i64 (m:Int)),.pv (.int .i64 ast),.pv (.aq t (ae.map Edge.c))]),(3,[.pv (.int .i64 (nb:Int)),.pv (.int .i64 bst),.pv (.aq u (be.map Edge.c))])],⟨0,1,.inr (cQ (X4 m nb m))⟩::YP (R9 ae be m nb j),[]⟩⟩) (fun j=>vC m nb (R9 ae be m nb j)) rfl (Y0 ae be nb m) fun j hj hM=>?_
  simp(disch:=omega)only[go_sem,hN]
  refine Br.aJ (fun h=>?_) (fun h=>?_)
  .simp(disch:=omega)only[go_sem]
   refine W.IY m (UY ae be nb ((j+1:Nat):Int)) (R9 ae be m nb j) (fun p M=>⟨[(2,.ptr 2 0),(3,.ptr 3 0),(5,.own 0 0 0 m),(12,.pv (.int .i64 (j+1:Nat))),(13,.pv (.int .i64 p))],⟨[(2,[.pv (.int .i64 (m:Int)),.pv (.int .i64 ast),.pv (.aq t (ae.map Edge.c))]),(3,[.pv (.int .i64 (nb:Int)),.pv (.int .i64 bst),.pv (.aq u (be.map Edge.c))])],⟨0,1,.inr (cQ (X4 m nb m))⟩::YP M,[]⟩⟩) (fun _ M=>vC m nb M) rfl hM (fun p M hp _ hM=>?_) (fun M hMe hM=>?_)
   .simp(disch:=omega)only[go_sem]
    refine Br.aJ (fun h=>?_) (fun h=>(h (by omega)).elim)
    simp(disch:=omega)only[go_sem]
    refine W.IY nb (R8 ae be ((j+1:Nat):Int) p) M (fun q M=>⟨[(2,.ptr 2 0),(3,.ptr 3 0),(5,.own 0 0 0 m),(12,.pv (.int .i64 (j+1:Nat))),(13,.pv (.int .i64 p)),(14,.pv (.int .i64 q))],⟨[(2,[.pv (.int .i64 (m:Int)),.pv (.int .i64 ast),.pv (.aq t (ae.map Edge.c))]),(3,[.pv (.int .i64 (nb:Int)),.pv (.int .i64 bst),.pv (.aq u (be.map Edge.c))])],⟨0,1,.inr (cQ (X4 m nb m))⟩::YP M,[]⟩⟩) (fun _ M=>vC m nb M) rfl hM (fun q M hq _ hM=>?_) (fun M hMe hM=>?_)
    .obtain⟨l,e1,e2,e3⟩:=hM.get (p:=(p:Int)) (q:=(q:Int)) (by omega) (by omega)
     rw[WX]at e1 e3
     have hrt:(cQ (X4 m nb m)).take m=cQ (X4 m nb m):=Wq (by rw[C8,X8 (Wj _)]; exact Wj _)
     have hld:=ZV hM
     have h41:=r41 t u 2 m nb (fun _=>1) (m:Int) ast (nb:Int) bst (p:Int) (q:Int) ((j+1:Nat):Int) ae be M (by omega) (by omega) hM hfa hfb
     have hxg:=YX (na:=m) (nb:=nb) (m:=m) (i:=p) (by omega) (by omega)
     have hxl:=X8 (na:=m) (nb:=nb) (Wj _)
     simp(disch:=omega)only[go_sem]
     refine Br.aJ (fun h=>?_) (fun h=>(h (by omega)).elim)
     simp(disch:=omega)only[go_sem,hrt,hld,h41]
     have hsok:=Zr (q:=q) (v:=((j+1:Nat):Int)+1) hM hp
     have hset:M.set p (l.set q (((j+1:Nat):Int)+1))=UX M p q (((j+1:Nat):Int)+1):=by
      unfold UX
      rw[Ws,e1]
      rfl
     refine Br.of (fun f1=>?_) (fun f1=>?_)<;>simp(disch:=omega)only[go_sem,f1,hxg,e1,e3]
     .refine Br.aJ (fun f2=>?_) (fun f2=>?_)<;>simp(disch:=omega)only[go_sem,f2,hxg,e1,hset]
      .have hst:R8 ae be ((j+1:Nat):Int) p M q=UX M p q (((j+1:Nat):Int)+1):=if_pos ⟨f1,f2⟩
       rw[hst]
       exact cW.of rfl hsok
      .have hst:R8 ae be ((j+1:Nat):Int) p M q=M:=if_neg (fun hc=>f2 hc.2)
       rw[hst]
       exact cW.of rfl hM
     .have hst:R8 ae be ((j+1:Nat):Int) p M q=M:=if_neg (fun hc=>by rw[f1]at hc; cases hc.1)
      rw[hst]
      exact cW.of rfl hM
    .simp(disch:=omega)only[go_sem]
     have hr:UY ae be nb ((j+1:Nat):Int) _ p=M:=hMe.symm
     rw[hr]
     exact cW.of rfl hM
   .simp(disch:=omega)only[go_sem]
    have hr:R9 ae be m nb (j+1)=M:=hMe.symm
    refine .of (by omega) ?_ (by rw[hr]; exact hM)
    show _=St.mk _ _
    rw[hr]
    rfl
  .obtain rfl:j=N:=by omega
   have hrt:(cQ (X4 m nb m)).take m=cQ (X4 m nb m):=Wq (by rw[C8,X8 (Wj _)]; exact Wj _)
   have hkp:=ZW hM
   simp(disch:=omega)only[go_sem,hrt,hkp]
def lL (w nb p:Nat):V:=.own (p+1) w 0 nb
def vz (w na nb m:Nat):List V:=fM (lL w nb) (.tl []) (List.range na) m
theorem mc {w na nb m:Nat} (h:m<=na):(vz w na nb m).length=na:=by
 have:=AM (lL w nb) (.tl []) (List.range na) (k:=m) (by simpa using h)
 rw[WI]at this
 exact this
theorem FM (w na nb:Nat):vz w na nb 0=List.replicate na (.tl []):=by
 unfold vz
 rw[y5,WI]
theorem HX {w na nb m:Nat} (h:m<na):(vz w na nb m).set m (.own (m+1) w 0 nb)=vz w na nb (m+1):=AO (f:=lL w nb) (Xr h)
theorem HY {w na nb m i:Nat} (h:i<m) (hm:m<=na):(vz w na nb m)[i]?=some (.own (i+1) w 0 nb):=A2 (f:=lL w nb) h (Xr (by omega))
theorem HZ (w na nb:Nat):vz w na nb na=(List.range na).map (lL w nb):=by
 have:=AN (lL w nb) (.tl []) (List.range na)
 rw[WI]at this
 exact this
def qU (w:Nat) (M:List (List Bool)):List aL:=M.map fun r=>⟨w,1,.inl (bX r)⟩
@[go_sem] theorem H0 (w:Nat) (M:List (List Bool)):(qU w M).length=M.length:=by simp[qU]
@[go_sem] theorem B6 (w:Nat) (M:List (List Bool)) (i:Nat):(qU w M)[i]?=M[i]?.map fun r=>⟨w,1,.inl (bX r)⟩:=by
 unfold qU
 rw[Wf]
@[go_sem] theorem Tw (w:Nat) (M:List (List Bool)) (i:Nat) (r:List Bool):(qU w M).set i ⟨w,1,.inl (bX r)⟩=qU w (M.set i r):=by simp[qU,List.map_set]
@[go_sem] theorem FN (w:Nat) (M:List (List Bool)) (r:List Bool):qU w M++[⟨w,1,.inl (bX r)⟩]=qU w (M++[r]):=by simp[qU]
theorem vA {α:Type} {w na nb:Nat} {M:List (List Bool)} (hM:mB na nb M) (f:V->Option α) (g:List Bool->α) (hf:∀p r,M[p]?=some r->f (.own (p+1) w 0 nb)=some (g r)):ay (ay f) (cQ (vz w na nb na))=some (M.map fun r=>[g r]):=by
 rw[HZ]
 have key:∀(k:Nat) (N:List (List Bool)),N.length=k->(∀p r,N[p]?=some r->f (.own (p+1) w 0 nb)=some (g r))->ay (ay f) (cQ ((List.range k).map (lL w nb)))=some (N.map fun r=>[g r]):=by
  intro k
  induction k with
  |zero=>
   intro N hN _
   have:N=[]:=Wp hN
   subst this
   rfl
  |succ k ih=>
   intro N hN hf
   obtain⟨N',r,rfl⟩:∃N' r,N=N'++[r]:=⟨N.dropLast,N.getLast (by intro e; rw[e]at hN; simp at hN),(List.dropLast_concat_getLast _).symm⟩
   have hl:N'.length=k:=by simpa using hN
   have h1:=ih N' hl fun p r hr=>hf p r (by rw[We (V9.1 hr).1]; exact hr)
   have h2:=hf k r (by rw[List.getElem?_append_right (by omega),hl]; simp)
   have happ:∀(a b:List (List V)) (ra rb:List (List α)),ay (ay f) a=some ra->ay (ay f) b=some rb->ay (ay f) (a++b)=some (ra++rb):=by
    intro a
    induction a with
    |nil=>intro b ra rb h1 h2; cases h1; exact h2
    |cons x a ih=>
     intro b ra rb h1 h2
     simp only[ay]at h1
     split at h1
     .rename_i y l' e1 e2
      cases h1
      simp only[List.cons_append,ay,e1,ih b l' rb e2 h2]
     .cases h1
   have h3:ay (ay f) (cQ [lL w nb k])=some [[g r]]:=by
    simp[cQ,ay,lL,h2]
   have h4:=happ _ _ _ _ h1 h3
   rw[WC,Xq,WC]
   show ay (ay f) (cQ ((List.range k).map (lL w nb)++[lL w nb k]))=_
   unfold cQ at h4 |-
   rw[WC]
   exact h4
 exact key na M hM.len hf
theorem Dl {w na nb:Nat} {M:List (List Bool)} (hM:mB na nb M) (bx:List (Nat×List V)) (a0:aL) (d:Nat):ay (ay (aR ⟨bx,a0::qU w M,[]⟩ (d+1))) (cQ (vz w na nb na))=some (Yx (fun _=>1) M):=
 vA hM (aR ⟨bx,a0::qU w M,[]⟩ (d+1)) (fun r=>PV.aq 1 (bX r)) fun p r hr=>by
  have h1:=hM.row r (Wa hr)
  have h2:(bX r).take nb=bX r:=Wq (by rw[hV]; omega)
  simp[aR,aB,B6,hr,az,h2]
theorem Dm {w na nb:Nat} {M:List (List Bool)} (hM:mB na nb M) (bx:List (Nat×List V)) (a0:aL) (d:Nat):ay (ay (aY ⟨bx,a0::qU w M,[]⟩ (d+1))) (cQ (vz w na nb na))=some (Yx (fun _=>0) M):=
 vA hM (aY ⟨bx,a0::qU w M,[]⟩ (d+1)) (fun r=>PV.aq 0 (bX r)) fun p r hr=>by
  have h1:=hM.row r (Wa hr)
  have h2:(bX r).take nb=bX r:=Wq (by rw[hV]; omega)
  simp[dS,aB,B6,hr,az,h2,bO]
noncomputable def lM (A B:List aH) (m:Nat):List (List Bool):=(A.take m).map fun x=>B.map (ep x)
noncomputable def af1 (A B:List aH):Rel:=fun M p q=>HQ M (ji A p) (ji B q)
noncomputable def Dn (A B:List aH):List (List Bool):=Ys (af1 A B) A.length B.length (lM A B A.length)
theorem wR (A B:List aH) {m:Nat} (h:m<=A.length):mB m B.length (lM A B m):=⟨by simp[lM]; omega,fun l hl=>by
 obtain⟨x,_,rfl⟩:=Wk.1 hl
 exact Wg _⟩
theorem Dp (A B:List aH) {m:Nat} {x:aH} (h:A[m]?=some x):lM A B (m+1)=lM A B m++[B.map (ep x)]:=by
 unfold lM
 rw[WL,h,WC]
 rfl
theorem oQ {A:List aH} {p:Nat} {x:aH} (h:A[p]?=some x):ji A p=x:=by
 have:=(V9.1 h).1
 have h2:=uT (l:=A) (i:=p) (by omega) (by omega)
 rw[WX,h]at h2
 exact(Option.some.inj h2).symm
def Below (A B:List aH) (M:List (List Bool)):Prop:=∀p q:Nat,iY M p q=true->ep (ji A p) (ji B q)=true
theorem A3 {A B:List aH} {p q:Nat} (h:iY (lM A B A.length) p q=true):ep (ji A p) (ji B q)=true:=by
 unfold iY lM at h
 simp only[Int.toNat_natCast,List.take_length,List.getD_eq_getElem?_getD,List.getElem?_map]at h
 cases hx:A[p]? with
 |none=>simp[hx]at h
 |some x=>
  rw[hx]at h
  simp only[Option.map_some,Option.getD_some,List.getElem?_map]at h
  cases hy:B[q]? with
  |none=>simp[hy]at h
  |some y=>
   rw[hy]at h
   rw[oQ hx,oQ hy]
   exact h
theorem Below.set {A B:List aH} {na nb p q:Nat} {M:List (List Bool)} (h:Below A B M) (hM:mB na nb M) (hp:p<na) (hq:q<nb):Below A B (qT M p q):=fun p' q' he=>by
 rw[FE hM hp hq]at he
 split at he
 .cases he
 .exact h p' q' he
structure FO (A:List aH):Prop where
 ok:∀t∈A,t.ok
 short:∀t∈A,t.short
 len:A.length<=32
 kind:∀t∈A,t.kind<=9
 use:∀t∈A,UU A.length (p5 t)
theorem Dq {t:aH} {u:Int×Int} (h:u∈p5 t) (h9:1<=t.kind/\t.kind<=9):u.2∈cT t:=by
 unfold p5 oP at h
 rcases WT.1 h with h|h
 .rcases WT.1 h with h|h
  .obtain⟨m,hm,rfl⟩:=Wk.1 h
   exact yT hm
  .split at h
   .rename_i hk
    simp only[List.mem_singleton]at h
    subst h
    unfold cT jF
    simp[hk]
   .simp at h
 .split at h
  .rename_i hk
   simp only[List.mem_singleton]at h
   subst h
   exact u7 (by omega)
  .simp at h
set_option maxHeartbeats 16000000 in
theorem r493 (t u:Nat) (A0 B0:List aH) (hA:FO A0) (hB:FO B0):res A aA 493 [.agg [.aq t (A0.map aH.c)],.agg [.aq u (B0.map aH.c)],.bool false]=some [.aq 0 (Yx (fun _=>0) (Dn A0 B0))]:=by
 have la:=hA.len
 have lb:=hB.len
 obtain⟨G,hG⟩:∃G,Dn A0 B0=G:=⟨_,rfl⟩
 rw[hG]
 refine aw a493 rfl rfl ?_
 simp only[F493,aaW]
 simp(disch:=omega)only[go_sem]
 refine W.fv A0.length (fun m=>⟨[(2,.pv (.bool false)),(3,.ptr 3 0),(4,.ptr 4 0),(7,.own 0 0 0 A0.length),(8,.pv (.int .i64 m))],⟨[(3,[.pv (.aq t (A0.map aH.c))]),(4,[.pv (.aq u (B0.map aH.c))])],⟨0,1,.inr (cQ (vz 0 A0.length B0.length m))⟩::qU 0 (lM A0 B0 m),[]⟩⟩) (fun _=>True) (by rw[FM]; rfl) trivial fun m hm _=>?_
 have hxl:=mc (w:=0) (nb:=B0.length) hm
 have hbl:=(wR A0 B0 hm).len
 simp(disch:=omega)only[go_sem]
 refine Br.aJ (fun h=>?_) (fun h=>?_)
 .obtain⟨x,hx⟩:=get_some (l:=A0) (k:=m) (by omega)
  have hxs:=HX (w:=0) (na:=A0.length) (nb:=B0.length) (m:=m) (by omega)
  have hg1:∀w:List Bool,(lM A0 B0 m++[w])[m]?=some w:=fun w=>by rw[List.getElem?_append_right (by omega),hbl]; simp
  have hg2:∀w w':List Bool,(lM A0 B0 m++[w]).set m w'=lM A0 B0 m++[w']:=fun w w'=>by rw[List.set_append_right _ _ (by omega),hbl]; simp
  have hxg:=HY (w:=0) (na:=A0.length) (nb:=B0.length) (m:=m+1) (i:=m) (by omega) (by omega)
  have hxl':=mc (w:=0) (na:=A0.length) (nb:=B0.length) (m:=m+1) (by omega)
  simp(disch:=omega)only[go_sem,hbl,hxs]
  refine W.fv B0.length (fun q=>⟨[(2,.pv (.bool false)),(3,.ptr 3 0),(4,.ptr 4 0),(7,.own 0 0 0 A0.length),(8,.pv (.int .i64 m)),(9,.pv (.int .i64 q))],⟨[(3,[.pv (.aq t (A0.map aH.c))]),(4,[.pv (.aq u (B0.map aH.c))])],⟨0,1,.inr (cQ (vz 0 A0.length B0.length (m+1)))⟩::qU 0 (lM A0 B0 m++[fM (ep x) false B0 q]),[]⟩⟩) (fun _=>True) ?_ trivial fun q hq _=>?_
  .rw[y5]
   rfl
  have hbt:=AM (ep x) false B0 hq
  simp(disch:=omega)only[go_sem,hxg,hg1]
  refine Br.aJ (fun h=>?_) (fun h=>?_)
  .obtain⟨y,hy⟩:=get_some (l:=B0) (k:=q) (by omega)
   have h500:=r500 x y (hA.ok x (Wa hx)) (hB.ok y (Wa hy))
   have hset:=AO (f:=ep x) (y:=false) hy
   generalize ep x y=e at h500 hset
   unfold aH.c at h500
   simp(disch:=omega)only[go_sem,hx,hy,Option.map_some,aH.c,h500,hxg,hg1,hg2]
   refine .of (by omega) ?_ trivial
   show _=St.mk _ _
   rw[hset]
   rfl
  .obtain rfl:q=B0.length:=by omega
   simp(disch:=omega)only[go_sem]
   refine .of (by omega) ?_ trivial
   show _=St.mk _ _
   rw[Dp _ _ hx,AN]
   rfl
 .obtain rfl:m=A0.length:=by omega
  clear h hxl hbl
  simp(disch:=omega)only[go_sem]
  generalize hna:A0.length=na at *
  generalize hnb:B0.length=nb at *
  have hM0:mB na nb (lM A0 B0 na):=by
   have:=wR A0 B0 (Wj _)
   rw[hna,hnb]at this
   exact this
  have hB0:Below A0 B0 (lM A0 B0 na):=fun p q he=>by
   rw[<- hna]at he
   exact A3 he
  have hG':Ys (af1 A0 B0) na nb (lM A0 B0 na)=G:=by
   rw[<- hG,<- hna,<- hnb]
   rfl
  refine W.BZ (fun(s:List (List Bool)×Bool)=>⟨[(3,.ptr 3 0),(4,.ptr 4 0),(7,.own 0 0 0 na),(10,.pv (.bool s.2))],⟨[(3,[.pv (.aq t (A0.map aH.c))]),(4,[.pv (.aq u (B0.map aH.c))])],⟨0,1,.inr (cQ (vz 0 na nb na))⟩::qU 0 s.1,[]⟩⟩) (fun s=>MI G (af1 A0 B0) na nb s/\Below A0 B0 s.1) FJ (lM A0 B0 na,true) rfl ⟨⟨hM0,hG'⟩,hB0⟩ fun s hs=>?_
  obtain⟨M,f⟩:=s
  obtain⟨hs,hb⟩:=hs
  dsimp only at hb
  cases f with
  |false=>
   have hrt:(cQ (vz 0 na nb na)).take na=cQ (vz 0 na nb na):=Wq (by rw[C8,mc (Wj _)]; exact Wj _)
   have hkp:=Dm (w:=0) hs.1
   have hMG:M=G:=hs.2
   subst hMG
   simp(disch:=omega)only[go_sem,hrt,hkp]
  |true=>
   have hM:=hs.1
   dsimp only at hM
   simp(disch:=omega)only[go_sem]
   refine W.IY na (FH (af1 A0 B0) nb) (M,false) (fun p s=>⟨[(3,.ptr 3 0),(4,.ptr 4 0),(7,.own 0 0 0 na),(10,.pv (.bool s.2)),(11,.pv (.int .i64 p))],⟨[(3,[.pv (.aq t (A0.map aH.c))]),(4,[.pv (.aq u (B0.map aH.c))])],⟨0,1,.inr (cQ (vz 0 na nb na))⟩::qU 0 s.1,[]⟩⟩) (fun _ s=>mB na nb s.1/\Below A0 B0 s.1) rfl ⟨hM,hb⟩ (fun p s hp _ hi=>?_) (fun s hse hi=>?_)
   .have hxl:=mc (w:=0) (na:=na) (nb:=nb) (Wj _)
    simp(disch:=omega)only[go_sem]
    refine Br.aJ (fun h=>?_) (fun h=>(h (by omega)).elim)
    simp(disch:=omega)only[go_sem]
    refine W.IY nb (FF (af1 A0 B0) p) s (fun q s=>⟨[(3,.ptr 3 0),(4,.ptr 4 0),(7,.own 0 0 0 na),(10,.pv (.bool s.2)),(11,.pv (.int .i64 p)),(12,.pv (.int .i64 q))],⟨[(3,[.pv (.aq t (A0.map aH.c))]),(4,[.pv (.aq u (B0.map aH.c))])],⟨0,1,.inr (cQ (vz 0 na nb na))⟩::qU 0 s.1,[]⟩⟩) (fun _ s=>mB na nb s.1/\Below A0 B0 s.1) rfl hi (fun q s hq _ hi=>?_) (fun s hse hi=>?_)
    .obtain⟨N,f⟩:=s
     obtain⟨hN,hNb⟩:=hi
     dsimp only at hN hNb
     obtain⟨l,e1,e2,e3⟩:=hN.get (p:=(p:Int)) (q:=(q:Int)) (by omega) (by omega)
     rw[WX]at e1 e3
     obtain⟨x,hx⟩:=get_some (l:=A0) (k:=p) (by omega)
     obtain⟨y,hy⟩:=get_some (l:=B0) (k:=q) (by omega)
     have hxm:=Wa hx
     have hym:=Wa hy
     have hrt:(cQ (vz 0 na nb na)).take na=cQ (vz 0 na nb na):=Wq (by rw[C8,mc (Wj _)]; exact Wj _)
     have hld:=Dl (w:=0) hN
     have hxg:=HY (w:=0) (na:=na) (nb:=nb) (m:=na) (i:=p) (by omega) (by omega)
     have hset:qU 0 (N.set p (l.set q false))=qU 0 (qT N p q):=by
      unfold qT
      rw[Ws,e1]
      rfl
     have hst:FF (af1 A0 B0) p (N,f) q=if (iY N p q&&!HQ N x y)=true then (qT N p q,true) else (N,f):=by
      unfold FF af1
      rw[oQ hx,oQ hy]
     have hbel:=hNb p q
     have hin:mB na nb (FF (af1 A0 B0) p (N,f) q).1/\Below A0 B0 (FF (af1 A0 B0) p (N,f) q).1:=by
      refine⟨FL hN hp,?_⟩
      rw[hst]
      split
      .exact hNb.set hN hp hq
      .exact hNb
     simp(disch:=omega)only[go_sem,hxg,e1]
     refine Br.aJ (fun h=>?_) (fun h=>(h (by omega)).elim)
     cases he:iY N p q with
     |false=>
      rw[he]at e3 hst
      rw[if_neg (by simp)]at hst
      simp(disch:=omega)only[go_sem,hxg,e1,e3]
      rw[hst]at hin |-
      exact cW.of rfl hin
     |true=>
      rw[he]at e3 hst
      rw[WZ]at hst
      have hal:=hbel he
      rw[oQ hx,oQ hy]at hal
      have h501:=r501 2 na nb (fun _=>1) x y N hN (by omega) ⟨hA.short x hxm,hA.kind x hxm⟩ ⟨hB.short y hym,hB.kind y hym⟩ (hna ▸ hA.use x hxm) (hnb ▸ hB.use y hym) (Zx hal)
      generalize HQ N x y=r at h501 hst
      unfold aH.c at h501
      simp(disch:=omega)only[go_sem,hxg,e1,e3,hx,hy,Option.map_some,aH.c,hrt,hld,h501]
      cases r with
      |true=>
       rw[if_neg (by simp)]at hst
       simp(disch:=omega)only[go_sem]
       rw[hst]at hin |-
       exact cW.of rfl hin
      |false=>
       rw[if_pos (by simp)]at hst
       simp(disch:=omega)only[go_sem,hxg,e1,hset]
       rw[hst]at hin |-
       exact cW.of rfl hin
    .obtain⟨l,e1⟩:=get_some (l:=s.1) (k:=p) (by have:=hi.1.len; omega)
     have e2:=hi.1.row l (Wa e1)
     have hxg:=HY (w:=0) (na:=na) (nb:=nb) (m:=na) (i:=p) (by omega) (by omega)
     have hr:FH (af1 A0 B0) nb _ p=s:=hse.symm
     simp(disch:=omega)only[go_sem,hxg,e1]
     rw[hr]
     exact cW.of rfl hi
   .have hr:GD (af1 A0 B0) na nb (M,false)=s:=hse.symm
    have hk:=FK hs (MJ hs.1)
    rw[hr]at hk
    have hxl:=mc (w:=0) (na:=na) (nb:=nb) (Wj _)
    simp(disch:=omega)only[go_sem]
    exact⟨s,⟨hk.1,hi.2⟩,hk.2,rfl⟩
def Dr (w na nb m:Nat) (r:List Bool):List V:=(vz w na nb m).set m (dh (m+1) (bX r))
theorem FP {w na nb m:Nat} (h:m<na):Dr w na nb m []=vz w na nb m:=by
 unfold Dr
 apply WW
 intro i
 by_cases e:m=i
 .subst e
  rw[WU (by rw[mc (by omega)]; exact h)]
  unfold vz fM
  rw[List.getElem?_append_right (by simp; omega),List.getElem?_replicate,if_pos (by simp; omega)]
  rfl
 .rw[Xk e]
theorem FQ {na nb m:Nat} {r:List Bool} (h:m<na) (hr:r.length=nb+1):Dr nb na (nb+1) m r=vz nb na (nb+1) (m+1):=by
 rw[<- HX h]
 unfold Dr
 cases r with
 |nil=>simp at hr
 |cons b r=>
  obtain rfl:r.length=nb:=by simpa using hr
  simp[bX,dh]
theorem FR {w:Nat} {M:List (List Bool)} {r:List Bool} (h:r.length=w+1):qU w M++cK 1 (bX r)=qU w (M++[r]):=by
 cases r with
 |nil=>simp at h
 |cons b r=>
  obtain rfl:r.length=w:=by simpa using h
  rw[<- FN]
  simp[bX,cK]
theorem H2 {w na nb m:Nat} {r:List Bool} (h:m<na):(Dr w na nb m r)[m]?=some (dh (m+1) (bX r)):=by
 unfold Dr
 rw[WU (by rw[mc (by omega)]; exact h)]
theorem H3 {w na nb m:Nat} {r r':List Bool}:(Dr w na nb m r).set m (dh (m+1) (bX r'))=Dr w na nb m r':=by
 unfold Dr
 rw[List.set_set]
theorem H4 {w na nb m:Nat} {r:List Bool} (h:m<na):(Dr w na nb m r).length=na:=by
 unfold Dr
 rw[Xx,mc (by omega)]
theorem H5 (n k:Nat) (rows:List (List PV)) (r:List PV):(tM n k rows r).all=none:=by cases rows<;>rfl
theorem ML (n k:Nat) (rows:List (List PV)) (r:List PV):(tM n k rows r).bx=none:=by cases rows<;>rfl
theorem MM (n k:Nat) (rows:List (List PV)) (r:List PV):(tM n k rows r).mp=none:=by cases rows<;>rfl
theorem Ds (n k:Nat) (rows:List (List PV)) (r:List PV):(tM n k rows r).mD=false:=by cases rows<;>rfl
theorem H6 {α:Type} (o:Option α) (eq:α->α->Bool):jk o none eq=true:=by cases o<;>rfl
set_option maxHeartbeats 16000000 in
theorem r478 (t u:Nat) (A0 B0:List aH) (hA:FO A0) (hB:FO B0) (hb0:1<=B0.length):res A aA 478 [.agg [.aq t (A0.map aH.c)],.agg [.aq u (B0.map aH.c)],.bool false]=some [.aq 0 (Yx (fun _=>0) (Dn A0 B0))]:=by
 have la:=hA.len
 have lb:=hB.len
 obtain⟨G,hG⟩:∃G,Dn A0 B0=G:=⟨_,rfl⟩
 obtain⟨w,hw⟩:∃w,B0.length=w+1:=⟨B0.length - 1,by omega⟩
 rw[hG]
 refine aw a478 rfl rfl ?_
 simp only[F478,LC]
 simp(disch:=omega)only[go_sem]
 refine W.fv A0.length (fun m=>⟨[(2,.pv (.bool false)),(3,.ptr 3 0),(4,.ptr 4 0),(7,.ptr 7 0),(22,.pv (.aq t (A0.map aH.c))),(23,.pv (.int .i64 A0.length)),(24,.pv (.int .i64 m))],⟨[(3,[.pv (.aq t (A0.map aH.c))]),(4,[.pv (.aq u (B0.map aH.c))]),(7,[.own 0 0 0 A0.length])],⟨0,1,.inr (cQ (vz w A0.length B0.length m))⟩::qU w (lM A0 B0 m),[]⟩⟩) (fun _=>True) (by rw[FM]; rfl) trivial fun m hm _=>?_
 have hxl:=mc (w:=w) (nb:=B0.length) hm
 have hbl:=(wR A0 B0 hm).len
 simp(disch:=omega)only[go_sem]
 refine Br.aJ (fun h=>?_) (fun h=>?_)
 .obtain⟨x,hx⟩:=get_some (l:=A0) (k:=m) (by omega)
  simp(disch:=omega)only[go_sem,hx,Option.map_some,aH.c]
  refine W.fv B0.length (fun q=>⟨[(2,.pv (.bool false)),(3,.ptr 3 0),(4,.ptr 4 0),(7,.ptr 7 0),(8,.pv (.int .i64 m)),(9,.ptr 9 0),(22,.pv (.aq t (A0.map aH.c))),(23,.pv (.int .i64 A0.length)),(24,.pv (.int .i64 m)),(30,.pv (.aq u (B0.map aH.c))),(31,.pv (.int .i64 B0.length)),(32,.pv (.int .i64 q))],⟨[(3,[.pv (.aq t (A0.map aH.c))]),(4,[.pv (.aq u (B0.map aH.c))]),(7,[.own 0 0 0 A0.length]),(9,x.c.map .pv)],⟨0,1,.inr (cQ (Dr w A0.length B0.length m ((B0.take q).map (ep x))))⟩::(qU w (lM A0 B0 m)++cK 1 (bX ((B0.take q).map (ep x)))),[]⟩⟩) (fun _=>True) ?_ trivial fun q hq _=>?_
  .rw[List.take_zero,List.map_nil,FP (by omega)]
   simp[bX,cK,aH.c]
  obtain⟨row,hrow⟩:∃row,(B0.take q).map (ep x)=row:=⟨_,rfl⟩
  have hrl:row.length=q:=by rw[<- hrow,Wg,W8]; omega
  rw[hrow]
  simp(disch:=omega)only[go_sem]
  refine Br.aJ (fun h=>?_) (fun h=>?_)
  .obtain⟨y,hy⟩:=get_some (l:=B0) (k:=q) (by omega)
   have h488:=r488 x y (hA.ok x (Wa hx)) (hB.ok y (Wa hy))
   have hnx:(B0.take (q+1)).map (ep x)=row++[ep x y]:=by
    rw[WL,hy,WC,hrow]
    rfl
   generalize ep x y=e at h488 hnx
   have hxg:=H2 (w:=w) (na:=A0.length) (nb:=B0.length) (m:=m) (r:=row) (by omega)
   have hxl':=H4 (w:=w) (na:=A0.length) (nb:=B0.length) (m:=m) (r:=row) (by omega)
   have hxs:=H3 (w:=w) (na:=A0.length) (nb:=B0.length) (m:=m) (r:=row) (r':=row++[e])
   have hg:=fun bx mp (a:aL)=>grow bx mp (a::qU w (lM A0 B0 m)) 1 (bX row) [.bool e] rfl (by rw[hV]; omega)
   have hga:=fun bx mp (a:aL)=>ik bx mp (a::qU w (lM A0 B0 m)) 1 (bX row) [.bool e]
   simp only[List.length_cons,H0,hbl,List.cons_append]at hg hga
   have hsn:bX row++[[PV.bool e]]=bX (row++[e]):=by simp[bX]
   rw[hsn]at hg hga
   have hst:=y6 (id:=0) (row:=m) (ax:=0) (xs:=Dr w A0.length B0.length m row) (y:=dh (m+1) (bX (row++[e]))) (by omega) (Hq _ _)
   rw[hxs]at hst
   unfold aH.c at h488
   simp(disch:=omega)only[go_sem,hst,hy,Option.map_some,aH.c,h488,hxg,List.map_cons,List.map_nil,hg,hga,H5,ML,MM,Ds,H6,Option.isNone_none,Option.map_none,Bool.not_false,Bool.and_true]
   refine .of (by omega) ?_ trivial
   show _=St.mk _ _
   rw[hnx]
   rfl
  .obtain rfl:q=B0.length:=by omega
   rw[WV]at hrow
   have hf:=FQ (na:=A0.length) (nb:=w) (m:=m) (r:=row) (by omega) (by omega)
   rw[<- hw]at hf
   have hba:=FR (w:=w) (M:=lM A0 B0 m) (r:=row) (by omega)
   simp(disch:=omega)only[go_sem]
   refine .of (by omega) ?_ trivial
   show _=St.mk _ _
   rw[Dp _ _ hx,hrow,hba,hf]
   rfl
 .obtain rfl:m=A0.length:=by omega
  clear h hxl hbl
  simp(disch:=omega)only[go_sem]
  generalize hna:A0.length=na at *
  generalize hnb:B0.length=nb at *
  have hM0:mB na nb (lM A0 B0 na):=by
   have:=wR A0 B0 (Wj _)
   rw[hna,hnb]at this
   exact this
  have hB0:Below A0 B0 (lM A0 B0 na):=fun p q he=>by
   rw[<- hna]at he
   exact A3 he
  have hG':Ys (af1 A0 B0) na nb (lM A0 B0 na)=G:=by
   rw[<- hG,<- hna,<- hnb]
   rfl
  have hrt:(cQ (vz w na nb na)).take na=cQ (vz w na nb na):=Wq (by rw[C8,mc (Wj _)]; exact Wj _)
  have hxl:=mc (w:=w) (na:=na) (nb:=nb) (Wj _)
  refine W.BZ (fun(s:List (List Bool)×Bool)=>⟨[(3,.ptr 3 0),(4,.ptr 4 0),(7,.ptr 7 0),(12,.pv (.bool s.2))],⟨[(3,[.pv (.aq t (A0.map aH.c))]),(4,[.pv (.aq u (B0.map aH.c))]),(7,[.own 0 0 0 na])],⟨0,1,.inr (cQ (vz w na nb na))⟩::qU w s.1,[]⟩⟩) (fun s=>MI G (af1 A0 B0) na nb s/\Below A0 B0 s.1) FJ (lM A0 B0 na,true) rfl ⟨⟨hM0,hG'⟩,hB0⟩ fun s hs=>?_
  obtain⟨M,f⟩:=s
  obtain⟨hs,hb⟩:=hs
  dsimp only at hb
  cases f with
  |false=>
   have hkp:=Dm (w:=w) hs.1
   have hMG:M=G:=hs.2
   subst hMG
   simp(disch:=omega)only[go_sem,hrt,hkp]
  |true=>
   have hM:=hs.1
   dsimp only at hM
   simp(disch:=omega)only[go_sem]
   refine W.IY na (FH (af1 A0 B0) nb) (M,false) (fun p s=>⟨[(3,.ptr 3 0),(4,.ptr 4 0),(7,.ptr 7 0),(12,.pv (.bool s.2)),(53,.pv (.aq t (A0.map aH.c))),(54,.pv (.int .i64 na)),(55,.pv (.int .i64 p))],⟨[(3,[.pv (.aq t (A0.map aH.c))]),(4,[.pv (.aq u (B0.map aH.c))]),(7,[.own 0 0 0 na])],⟨0,1,.inr (cQ (vz w na nb na))⟩::qU w s.1,[]⟩⟩) (fun _ s=>mB na nb s.1/\Below A0 B0 s.1) (by simp only[hna]; rfl) ⟨hM,hb⟩ (fun p s hp _ hi=>?_) (fun s hse hi=>?_)
   .obtain⟨x,hx⟩:=get_some (l:=A0) (k:=p) (by omega)
    have hxm:=Wa hx
    have h490:=r490 x (hA.short x hxm) (hA.kind x hxm)
    unfold aH.c at h490
    simp(disch:=omega)only[go_sem]
    refine Br.aJ (fun h=>?_) (fun h=>(h (by omega)).elim)
    simp(disch:=omega)only[go_sem,hx,Option.map_some,aH.c]
    refine W.IY nb (FF (af1 A0 B0) p) s (fun q s=>⟨[(3,.ptr 3 0),(4,.ptr 4 0),(7,.ptr 7 0),(12,.pv (.bool s.2)),(13,.pv (.int .i64 p)),(14,.ptr 14 0),(53,.pv (.aq t (A0.map aH.c))),(54,.pv (.int .i64 na)),(55,.pv (.int .i64 p)),(61,.pv (.aq u (B0.map aH.c))),(62,.pv (.int .i64 nb)),(63,.pv (.int .i64 q))],⟨[(3,[.pv (.aq t (A0.map aH.c))]),(4,[.pv (.aq u (B0.map aH.c))]),(7,[.own 0 0 0 na]),(14,x.c.map .pv)],⟨0,1,.inr (cQ (vz w na nb na))⟩::qU w s.1,[]⟩⟩) (fun _ s=>mB na nb s.1/\Below A0 B0 s.1) (by simp only[hnb]; rfl) hi (fun q s hq _ hi=>?_) (fun s hse hi=>?_)
    .obtain⟨N,f⟩:=s
     obtain⟨hN,hNb⟩:=hi
     dsimp only at hN hNb
     obtain⟨l,e1,e2,e3⟩:=hN.get (p:=(p:Int)) (q:=(q:Int)) (by omega) (by omega)
     rw[WX]at e1 e3
     obtain⟨y,hy⟩:=get_some (l:=B0) (k:=q) (by omega)
     have hym:=Wa hy
     have h490':=r490 y (hB.short y hym) (hB.kind y hym)
     unfold aH.c at h490'
     have hld:=Dl (w:=w) hN
     have hxg:=HY (w:=w) (na:=na) (nb:=nb) (m:=na) (i:=p) (by omega) (by omega)
     have hset:qU w (N.set p (l.set q false))=qU w (qT N p q):=by
      unfold qT
      rw[Ws,e1]
      rfl
     have hst:FF (af1 A0 B0) p (N,f) q=if (iY N p q&&!HQ N x y)=true then (qT N p q,true) else (N,f):=by
      unfold FF af1
      rw[oQ hx,oQ hy]
     have hin:mB na nb (FF (af1 A0 B0) p (N,f) q).1/\Below A0 B0 (FF (af1 A0 B0) p (N,f) q).1:=by
      refine⟨FL hN hp,?_⟩
      rw[hst]
      split
      .exact hNb.set hN hp hq
      .exact hNb
     have hul:=zd x
     have hxs:=(hA.short x hxm).bc
     have hul':=zd y
     have hys:=(hB.short y hym).bc
     have h489:=fun t u s v=>r489 t u s v na nb (fun _=>1) (p5 x) (p5 y) N hN (by omega) (hna ▸ hA.use x hxm) (hnb ▸ hB.use y hym) (by omega) (by omega)
     have hrel:HQ N x y=wM (fun u v=>iY N u.2 v.2) (p5 x) (p5 y):=rfl
     rw[<- hrel]at h489
     generalize HQ N x y=r at h489 hst
     simp(disch:=omega)only[go_sem,hxg,e1]
     refine Br.aJ (fun h=>?_) (fun h=>(h (by omega)).elim)
     simp(disch:=omega)only[go_sem,hy,Option.map_some,aH.c]
     cases he:iY N p q with
     |false=>
      rw[he]at e3 hst
      rw[if_neg (by simp)]at hst
      simp(disch:=omega)only[go_sem,hxg,e1,e3]
      rw[hst]at hin |-
      exact cW.of rfl hin
     |true=>
      rw[he]at e3 hst
      rw[WZ]at hst
      simp(disch:=omega)only[go_sem,hxg,e1,e3,hrt,hld,h490,h490',h489]
      cases r with
      |true=>
       rw[if_neg (by simp)]at hst
       simp(disch:=omega)only[go_sem]
       rw[hst]at hin |-
       exact cW.of rfl hin
      |false=>
       rw[if_pos (by simp)]at hst
       simp(disch:=omega)only[go_sem,hxg,e1,hset]
       rw[hst]at hin |-
       exact cW.of rfl hin
    .have hr:FH (af1 A0 B0) nb _ p=s:=hse.symm
     simp(disch:=omega)only[go_sem]
     rw[hr]
     exact cW.of rfl hi
   .have hr:GD (af1 A0 B0) na nb (M,false)=s:=hse.symm
    have hk:=FK hs (MJ hs.1)
    rw[hr]at hk
    simp(disch:=omega)only[go_sem]
    exact⟨s,⟨hk.1,hi.2⟩,hk.2,rfl⟩
theorem H7 {p:aH} (h:dO p=true):1<=p.kind:=by
 unfold dO at h
 simp only[Bool.and_eq_true,decide_eq_true_eq]at h
 exact h.1.1
structure VT (A:List aH):Prop where
 l:A.length<=2147483648
 o:∀t∈A,t.ok
 s:∀t∈A,t.short
 v:cS A=0
theorem VT.vW {A:List aH} (h:VT A):FO A:=by
 have hs:=eZ h.v
 exact⟨h.o,h.s,hs.len,fun t ht=>yx (hs.own t ht),fun t ht u hu=>hs.Np t ht _ (Dq hu ⟨H7 (hs.own t ht),yx (hs.own t ht)⟩)⟩
theorem r477 (t:Nat) (A0:List aH) (x:Int) (h:VT A0) (hx:0<=x/\x<A0.length):res A aA 477 [.agg [.aq t (A0.map aH.c),.int .i64 x]]=some [.int .i64 0]:=by
 have h267:=fun v=>r267 v A0 h.l h.o fun t ht=>(h.s t ht).held
 rw[h.v]at h267
 have hl:=h.l
 obtain⟨x0,x1⟩:=hx
 have e1:decide (x<0)=false:=decide_eq_false (by omega)
 have e2:decide ((A0.length:Int)<=x)=false:=decide_eq_false (by omega)
 refine aw a477 rfl rfl ?_
 simp only[F477,LB]
 simp(disch:=omega)only[go_sem,h267,e1,e2]
theorem r492 (t:Nat) (A0:List aH) (x:Int) (h:VT A0) (hx:0<=x/\x<A0.length):res A aA 492 [.agg [.aq t (A0.map aH.c),.int .i64 x]]=some [.int .i64 0]:=by
 have h268:=fun v=>r268 v A0 h.l h.o fun t ht=>(h.s t ht).held
 rw[h.v]at h268
 have hl:=h.l
 obtain⟨x0,x1⟩:=hx
 have e1:decide (x<0)=false:=decide_eq_false (by omega)
 have e2:decide ((A0.length:Int)<=x)=false:=decide_eq_false (by omega)
 refine aw a492 rfl rfl ?_
 simp only[F492,aaV]
 simp(disch:=omega)only[go_sem,h268,e1,e2]
noncomputable def gG (A B:List aH) (x y:Int):Bool:=iY (Dn A B) x y
theorem B7 (A B:List aH):mB A.length B.length (Dn A B):=HW (wR A B (Wj _))
theorem r468 (t u:Nat) (A0 B0:List aH) (x y:Int) (hA:VT A0) (hB:VT B0) (hx:0<=x/\x<A0.length) (hy:0<=y/\y<B0.length):res A aA 468 [.agg [.aq t (A0.map aH.c),.int .i64 x],.agg [.aq u (B0.map aH.c),.int .i64 y],.bool false]=some [.bool (gG A0 B0 x y)]:=by
 have h1:=fun t=>r477 t A0 x hA hx
 have h2:=fun t=>r477 t B0 y hB hy
 have h3:=fun t u=>r478 t u A0 B0 hA.vW hB.vW (by omega)
 obtain⟨l,g1,g2,g3⟩:=(B7 A0 B0).get hx hy
 have g4:=(B7 A0 B0).len
 have hw:iY (Dn A0 B0) x y=gG A0 B0 x y:=rfl
 rw[hw]at g3
 generalize gG A0 B0 x y=G at *
 generalize Dn A0 B0=M at *
 have hal:=hA.vW.len
 have hbl:=hB.vW.len
 obtain⟨x0,x1⟩:=hx
 obtain⟨y0,y1⟩:=hy
 refine aw a468 rfl rfl ?_
 simp only[F468,Lv]
 simp(disch:=omega)only[go_sem,h1,h2,h3,gB,g1,g3]
theorem r479 (t u:Nat) (A0 B0:List aH) (x y:Int) (hA:VT A0) (hB:VT B0) (hx:0<=x/\x<A0.length) (hy:0<=y/\y<B0.length):res A aA 479 [.agg [.aq t (A0.map aH.c),.int .i64 x],.agg [.aq u (B0.map aH.c),.int .i64 y],.bool false]=some [.bool (gG A0 B0 x y)]:=by
 have h1:=fun t=>r492 t A0 x hA hx
 have h2:=fun t=>r492 t B0 y hB hy
 have h3:=fun t u=>r493 t u A0 B0 hA.vW hB.vW
 obtain⟨l,g1,g2,g3⟩:=(B7 A0 B0).get hx hy
 have g4:=(B7 A0 B0).len
 have hw:iY (Dn A0 B0) x y=gG A0 B0 x y:=rfl
 rw[hw]at g3
 generalize gG A0 B0 x y=G at *
 generalize Dn A0 B0=M at *
 have hal:=hA.vW.len
 have hbl:=hB.vW.len
 obtain⟨x0,x1⟩:=hx
 obtain⟨y0,y1⟩:=hy
 refine aw a479 rfl rfl ?_
 simp only[F479,aaQ]
 simp(disch:=omega)only[go_sem,h1,h2,h3,gB,g1,g3]
theorem r456 (t u:Nat) (A0 B0:List aH) (x y:Int) (hA:VT A0) (hB:VT B0) (hx:0<=x/\x<A0.length) (hy:0<=y/\y<B0.length):res A aA 456 [.agg [.aq t (A0.map aH.c),.int .i64 x],.agg [.aq u (B0.map aH.c),.int .i64 y]]=some [.bool (gG A0 B0 x y)]:=by
 have h1:=fun t u=>r468 t u A0 B0 x y hA hB hx hy
 refine aw a456 rfl rfl ?_
 simp only[F456,Lr]
 simp(disch:=omega)only[go_sem,h1]
theorem r469 (t u:Nat) (A0 B0:List aH) (x y:Int) (hA:VT A0) (hB:VT B0) (hx:0<=x/\x<A0.length) (hy:0<=y/\y<B0.length):res A aA 469 [.agg [.aq t (A0.map aH.c),.int .i64 x],.agg [.aq u (B0.map aH.c),.int .i64 y]]=some [.bool (gG A0 B0 x y)]:=by
 have h1:=fun t u=>r479 t u A0 B0 x y hA hB hx hy
 refine aw a469 rfl rfl ?_
 simp only[F469,aaM]
 simp(disch:=omega)only[go_sem,h1]
theorem r458 (t1 t2 t3 t4 u1 u2 u3 u4:Nat) (v w:ij) (x y:Int) (hA:VT v.types) (hB:VT w.types) (hx:0<=x/\x<v.types.length) (hy:0<=y/\y<w.types.length):res A aA 458 [.agg (lB t1 t2 t3 t4 v),.int .i64 x,.agg (lB u1 u2 u3 u4 w),.int .i64 y]=some [.bool (gG v.types w.types x y)]:=by
 have h1:=fun t u=>r469 t u v.types w.types x y hA hB hx hy
 refine aw a458 rfl rfl ?_
 simp only[F458,aaH,lB]
 simp(disch:=omega)only[go_sem,h1]
end Go.Pv
