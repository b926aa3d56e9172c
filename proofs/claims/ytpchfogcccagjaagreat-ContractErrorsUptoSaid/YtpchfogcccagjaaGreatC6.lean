/-
 What the functions of the law give.
-/
import Derived.Test.YtpchfogcccagjaaGreatC5
set_option linter.unusedSimpArgs false
set_option linter.unusedVariables false
open List renaming mem_of_getElem? → Tf, getElem?_eq_some_iff → Tg, length_map → Tl, getElem?_map → To, getElem?_append_left → Tp, take_of_length_le → Ts, length_range → Tv, eq_nil_of_length_eq_zero → Tx, mem_map → TA, getD_eq_getElem?_getD → TC, all_eq_true → TD, length_append → TH, map_append → TI, mem_cons_of_mem → TJ, take_add_one → TM, mem_append → TO, mem_cons_self → TP, getElem?_set_self → TR, any_eq_false → TU, ext_getElem? → TW, take_length → T4, getElem?_set_ne → T7, getElem?_range → T9, length_set → Ua, any_eq_true → Uf, mem_or_eq_of_mem_set → Un, map_cons → UH, mem_range → UO
open Nat renaming le_refl → Tj, not_lt_zero → Ur, mul_le_mul → UM
open Bool renaming true_and → TL, eq_iff_iff → TQ, false_and → T1, and_false → Um, eq_false_iff → Us, and_eq_true → UE
open Int renaming toNat_natCast → T0, eq_ofNat_of_zero_le → T6
namespace Go.Pv
def dK (u:Int×Int):List PV:=[.int .i64 u.1,.int .i64 u.2]
def gh (l:List Mem):List (Int×Int):=l.map fun m=>(m.id,m.type)
def gO (t:aD):List (Int×Int):=gh t.aS++(if t.kind=8 then [(0,t.key)] else [])++(if 7<=t.kind then [(-1,t.elem)] else [])
theorem E4 (k:Nat) (rows:List (List PV)) (r1 r2:List PV) (h1:r1.length=k) (h2:r2.length=k) (hm:rows.length+2<=2147483648):
  ∃V1 T ar',(∀bx,aV ⟨bx,et k rows,[]⟩ k (dR 0 rows) (.tl [r1,r2])=some (V1,T))/\(∀bx,T.apply ⟨bx,et k rows,[]⟩=⟨bx,ar',[]⟩)/\V1.cells=[V1]/\V1.calm=true/\(∀b,dP b V1=V1)/\∀bx,cx ⟨bx,ar',[]⟩ false V1=some (.ai 0 (rows++[r1,r2])):=by
 cases rows with
 |nil=>exact⟨.own 0 0 0 2,{ push:=[⟨0,k,.inl [r1,r2]⟩],base:=0 },[⟨0,k,.inl [r1,r2]⟩],fun bx=>by simp[aV,dR,et,bB,aW,aJ,h1,h2,bN,aT],fun bx=>by simp[Tn.apply,et],rfl,rfl,fun _=>rfl,fun bx=>by simp[cx,fJ,aE,cr,aI]⟩
 |cons x q=>
  refine⟨.own 0 (q.length+1) 0 (q.length+3),{ ar:=some (0,⟨q.length+1,k,.inl (x::q++[r1,r2])⟩) },[⟨q.length+1,k,.inl (x::q++[r1,r2])⟩],fun bx=>?_,fun bx=>by simp[Tn.apply,et],rfl,rfl,fun _=>rfl,fun bx=>?_⟩
  .have e1:aE ⟨bx,et k (x::q),[]⟩ 0 q.length=some ⟨q.length,k,.inl (x::q)⟩:=by simp[aE,et]
   have e2:(⟨q.length,k,.inl (x::q)⟩:aR).size=q.length+1:=rfl
   simp only[List.length_cons]at hm
   simp[aV,dR,bB,aW,aJ,h1,h2,e1,e2,bN,aI,aT]
   omega
  .simp[cx,fJ,aE,cr,aI]
   exact List.take_of_length_le (by simp)
set_option maxHeartbeats 4000000 in
theorem r490 (t:aD) (hs:t.short) (h9:t.kind<=9):res A ay 490 [.agg t.c]=some [.ai 0 ((gO t).map dK)]:=by
 have hl:=hs.aS
 obtain⟨k,a2,a3,a4,a5,a6,l,a8,a9,a10⟩:=t
 unfold gO aD.c
 dsimp only at *
 refine aq a490 rfl rfl ?_
 simp only[F490,Ju]
 simp(disch:=omega)only[go_sem]
 refine W.du l.length (fun j=>⟨[(1,.ptr 1 0),(3,dR 0 ((gh (l.take j)).map dK)),(7,.pv (.ai 0 (l.map Mem.c))),(8,.pv (.int .i64 l.length)),(9,.pv (.int .i64 j))],⟨[(1,[.pv (.int .i64 k),.pv (.str a2),.pv (.int .i64 a3),.pv (.int .i64 a4),.pv (.int .i64 a5),.pv (.ai 0 (a6.map Sym.c)),.pv (.ai 0 (l.map Mem.c)),.pv (.int .i64 a8),.pv (.int .i64 a9),.pv (.bool a10)])],et 2 ((gh (l.take j)).map dK),[]⟩⟩) (fun _=>True) rfl trivial fun j hj _=>?_
 simp(disch:=omega)only[go_sem]
 refine Br.aB (fun c=>?_) (fun c=>?_)
 .obtain⟨p,hp⟩:=get_some (l:=l) (k:=j) (by omega)
  have hR:(gh (l.take (j+1))).map dK=(gh (l.take j)).map dK++[[.int .i64 p.id,.int .i64 p.type]]:=by
   rw[TM,hp]
   simp[gh,dK]
  have hRl:((gh (l.take j)).map dK).length<=j:=by simp[gh]; omega
  generalize (gh (l.take j)).map dK=rows at *
  have hg:∀bx mp,aV ⟨bx,et 2 rows,mp⟩ 2 (dR 0 rows) (.tl [[.int .i64 p.id,.int .i64 p.type]])=some (dR 0 (rows++[[.int .i64 p.id,.int .i64 p.type]]),tL 0 2 rows [.int .i64 p.id,.int .i64 p.type]):=fun bx mp=>grow bx mp [] 2 rows _ rfl (by omega)
  simp(disch:=omega)only[go_sem,hp,Option.map_some,Mem.c,hg]
  refine .of (by omega) ?_ trivial
  rw[hR]
  rfl
 obtain rfl:j=l.length:=by omega
 rw[T4]
 have hRl:((gh l).map dK).length=l.length:=by simp[gh]
 rw[TI,TI]
 generalize (gh l).map dK=rows at *
 simp(disch:=omega)only[go_sem]
 obtain⟨V1,T,ar',happ,hT,hc1,hc2,hsc,hk⟩:=E4 2 rows [.int .i64 0,.int .i64 a8] [.int .i64 (-1),.int .i64 a9] rfl rfl (by omega)
 have hg:∀bx mp,aV ⟨bx,et 2 rows,mp⟩ 2 (dR 0 rows) (.tl [[.int .i64 (-1),.int .i64 a9]])=some (dR 0 (rows++[[.int .i64 (-1),.int .i64 a9]]),tL 0 2 rows [.int .i64 (-1),.int .i64 a9]):=fun bx mp=>grow bx mp [] 2 rows _ rfl (by omega)
 refine Br.aB (fun c8=>?_) (fun c8=>?_)
 .rw[if_pos c8,if_pos (by omega)]
  simp(disch:=omega)only[go_sem,happ,hT,hc1,hc2,hsc,hk]
  simp[dK]
 .rw[if_neg c8]
  cases h7:decide (k=7)with
  |true=>
   have c7:=of_decide_eq_true h7
   rw[if_pos (by omega)]
   simp(disch:=omega)only[go_sem,h7,hg]
   simp[dK]
  |false=>
   have c7:=of_decide_eq_false h7
   cases h9':decide (k=9)with
   |true=>
    have c9:=of_decide_eq_true h9'
    rw[if_pos (by omega)]
    simp(disch:=omega)only[go_sem,h7,h9',hg]
    simp[dK]
   |false=>
    have c9:=of_decide_eq_false h9'
    rw[if_neg (by omega)]
    simp(disch:=omega)only[go_sem,h7,h9',List.append_nil]
set_option maxHeartbeats 4000000 in
theorem r504 (t:aD) (hs:t.short) (h9:t.kind<=9):res A ay 504 [.agg t.c]=some [.ai 0 ((gO t).map dK)]:=by
 have hl:=hs.aS
 obtain⟨k,a2,a3,a4,a5,a6,l,a8,a9,a10⟩:=t
 unfold gO aD.c
 dsimp only at *
 refine aq a504 rfl rfl ?_
 simp only[F504,JI]
 simp(disch:=omega)only[go_sem]
 refine W.du l.length (fun j=>⟨[(1,.ptr 1 0),(3,dR 0 ((gh (l.take j)).map dK)),(4,.pv (.int .i64 j))],⟨[(1,[.pv (.int .i64 k),.pv (.str a2),.pv (.int .i64 a3),.pv (.int .i64 a4),.pv (.int .i64 a5),.pv (.ai 0 (a6.map Sym.c)),.pv (.ai 0 (l.map Mem.c)),.pv (.int .i64 a8),.pv (.int .i64 a9),.pv (.bool a10)])],et 2 ((gh (l.take j)).map dK),[]⟩⟩) (fun _=>True) rfl trivial fun j hj _=>?_
 simp(disch:=omega)only[go_sem]
 refine Br.aB (fun c=>?_) (fun c=>?_)
 .obtain⟨p,hp⟩:=get_some (l:=l) (k:=j) (by omega)
  have hR:(gh (l.take (j+1))).map dK=(gh (l.take j)).map dK++[[.int .i64 p.id,.int .i64 p.type]]:=by
   rw[TM,hp]
   simp[gh,dK]
  have hRl:((gh (l.take j)).map dK).length<=j:=by simp[gh]; omega
  generalize (gh (l.take j)).map dK=rows at *
  have hg:∀bx mp,aV ⟨bx,et 2 rows,mp⟩ 2 (dR 0 rows) (.tl [[.int .i64 p.id,.int .i64 p.type]])=some (dR 0 (rows++[[.int .i64 p.id,.int .i64 p.type]]),tL 0 2 rows [.int .i64 p.id,.int .i64 p.type]):=fun bx mp=>grow bx mp [] 2 rows _ rfl (by omega)
  simp(disch:=omega)only[go_sem,hp,Option.map_some,Mem.c,hg]
  refine .of (by omega) ?_ trivial
  rw[hR]
  rfl
 obtain rfl:j=l.length:=by omega
 rw[T4]
 have hRl:((gh l).map dK).length=l.length:=by simp[gh]
 rw[TI,TI]
 generalize (gh l).map dK=rows at *
 have hg:∀bx mp (rows:List (List PV)) (x y:Int),rows.length<=2000000->aV ⟨bx,et 2 rows,mp⟩ 2 (dR 0 rows) (.tl [[.int .i64 x,.int .i64 y]])=some (dR 0 (rows++[[.int .i64 x,.int .i64 y]]),tL 0 2 rows [.int .i64 x,.int .i64 y]):=fun bx mp rows x y h=>grow bx mp [] 2 rows _ rfl (by omega)
 have g1:=fun bx mp x y=>hg bx mp rows x y (by omega)
 have g2:=fun bx mp x y=>hg bx mp (rows++[[.int .i64 0,.int .i64 a8]]) x y (by rw[TH,List.length_singleton]; omega)
 simp(disch:=omega)only[go_sem]
 cases h8:decide (k=8)with
 |true=>
  have c8:=of_decide_eq_true h8
  rw[if_pos c8,if_pos (by omega)]
  simp(disch:=omega)only[go_sem,h8,g1,g2]
  simp[dK]
 |false=>
  have c8:=of_decide_eq_false h8
  rw[if_neg c8]
  cases h7:decide (k=7)with
  |true=>
   have c7:=of_decide_eq_true h7
   rw[if_pos (by omega)]
   simp(disch:=omega)only[go_sem,h8,h7,g1]
   simp[dK]
  |false=>
   have c7:=of_decide_eq_false h7
   cases h9':decide (k=9)with
   |true=>
    have c9:=of_decide_eq_true h9'
    rw[if_pos (by omega)]
    simp(disch:=omega)only[go_sem,h8,h7,h9',g1]
    simp[dK]
   |false=>
    have c9:=of_decide_eq_false h9'
    rw[if_neg (by omega)]
    simp(disch:=omega)only[go_sem,h8,h7,h9',List.append_nil,List.map_nil]
set_option maxHeartbeats 4000000 in
theorem r499:∀(n k:Nat) (cs ds:List PV),iZ n cs->iZ k ds->res A ay 499 [.agg cs,.agg ds]=some [.bool (eqv cs ds)]
 |0,_,_,_,h,_=>h.elim
 |_+1,0,_,_,_,h=>h.elim
 |n+1,k+1,cs,ds,h,h'=>by
  obtain⟨v,rfl,⟨h1,h2,h3,h4⟩,⟨h5,h6,h7⟩,h8,h9,h10⟩:=h
  obtain⟨w,rfl,⟨g1,g2,g3,g4⟩,⟨g5,g6,g7⟩,g8,g9,g10⟩:=h'
  have ih:=r499 n k
  unfold bT at h5 h6 h7 g5 g6 g7
  have hk:=fun t u=>r334g cw499 t u v.keys w.keys (by omega) (by omega) (fun r hr=>(h8 r hr).val) (fun r hr=>(g8 r hr).val) (fun r hr q hq=>ih r q (h8 r hr) (g8 q hq))
  have hi:=fun t u=>r334g cw499 t u v.items w.items (by omega) (by omega) (fun r hr=>(h9 r hr).val) (fun r hr=>(g9 r hr).val) (fun r hr q hq=>ih r q (h9 r hr) (g9 q hq))
  have hr:=fun t u=>r333 t u v.rest w.rest (by omega) (by omega)
  rw[gL]
  obtain⟨a1,a2,a3,a4,a5,a6,a7,a8⟩:=v
  obtain⟨b1,b2,b3,b4,b5,b6,b7,b8⟩:=w
  unfold cU.c
  dsimp only at *
  clear ih
  refine aq a499 rfl rfl ?_
  simp only[F499,JD]
  simp(disch:=omega)only[go_sem]
  have no:∀{p q:cU},p≠q->(some [PV.bool false]:Option (List PV))=some [PV.bool (eqv p q)]:=fun h=>by rw[dE h]
  refine Br.aB (fun e=>?_) (fun e=>?_)<;>simp(disch:=omega)only[go_sem,e]
  rotate_left
  .exact no (fun q=>e (by cases q; rfl))
  subst e
  refine Br.aB (fun e=>?_) (fun e=>?_)<;>simp(disch:=omega)only[go_sem,e]
  rotate_left
  .exact no (fun q=>e (by cases q; rfl))
  subst e
  refine Br.aB (fun e=>?_) (fun e=>?_)<;>simp(disch:=omega)only[go_sem,e]
  rotate_left
  .exact no (fun q=>e (by cases q; rfl))
  subst e
  refine Br.aB (fun e=>?_) (fun e=>?_)<;>simp(disch:=omega)only[go_sem,e]
  rotate_left
  .exact no (fun q=>e (by cases q; rfl))
  subst e
  refine Br.aB (fun e=>?_) (fun e=>?_)<;>simp(disch:=omega)only[go_sem,e]
  rotate_left
  .exact no (fun q=>e (by cases q; rfl))
  subst e
  simp(disch:=omega)only[go_sem,hr]
  refine Br.of (fun e=>?_) (fun e=>?_)<;>simp(disch:=omega)only[go_sem,e]
  rotate_left
  .exact no (fun q=>gq.1 e (by cases q; rfl))
  have e:=br.1 e
  subst e
  simp(disch:=omega)only[go_sem,hk]
  refine Br.of (fun e=>?_) (fun e=>?_)<;>simp(disch:=omega)only[go_sem,e]
  rotate_left
  .exact no (fun q=>gq.1 e (by cases q; rfl))
  have e:=br.1 e
  subst e
  simp(disch:=omega)only[go_sem,hi]
  congr 3
  rw[TQ,br,br]
  exact⟨fun e=>by rw[e],fun q=>by cases q; rfl⟩
def sN {α β:Type} (g:α->β->Bool) (l:List α) (m:List β):Bool:=decide (l.length=m.length)&&(l.zip m).all fun q=>g q.1 q.2
theorem jY {α β:Type} {g:α->β->Bool} {l:List α} {m:List β} (h:¬l.length=m.length):sN g l m=false:=by
 unfold sN
 rw[decide_eq_false h]
 rfl
theorem kT {α β:Type} {g:α->β->Bool} {l:List α} {m:List β} (h:(l.zip m).any (fun q=>!g q.1 q.2)=true):sN g l m=false:=by
 unfold sN
 have:(l.zip m).all (fun q=>g q.1 q.2)=false:=by
  rw[Us]
  intro h2
  obtain⟨q,hq,hn⟩:=Uf.1 h
  have:=TD.1 h2 q hq
  rw[this]at hn
  cases hn
 rw[this,Um]
theorem iQ {α β:Type} {g:α->β->Bool} {l:List α} {m:List β} (h:l.length=m.length) (h2:(l.zip m).any (fun q=>!g q.1 q.2)=false):sN g l m=true:=by
 unfold sN
 rw[decide_eq_true h,TL,TD]
 intro q hq
 have:=TU.1 h2 q hq
 simpa using this
theorem uV {α β:Type} (k:α->β) {g:α->α->Bool} (h:∀x y,g x y=eqv (k x) (k y)):∀l m:List α,sN g l m=eqv (l.map k) (m.map k)
 |[],[]=>by rw[dJ]; rfl
 |[],y::m=>by rw[jY (by simp),dE (by simp)]
 |x::l,[]=>by rw[jY (by simp),dE (by simp)]
 |x::l,y::m=>by
  have ih:=uV k h l m
  unfold sN at ih |-
  rw[List.zip_cons_cons,List.all_cons]
  dsimp only
  rw[h x y]
  by_cases e:k x=k y
  .rw[e,dJ,TL,UH,UH,e]
   have e2:decide ((x::l).length=(y::m).length)=decide (l.length=m.length):=by simp
   rw[e2,ih,TQ,br,br]
   exact⟨fun h=>by rw[h],fun h=>List.tail_eq_of_cons_eq h⟩
  .rw[dE e,T1,Um,dE]
   intro h2
   rw[UH,UH]at h2
   exact e (List.head_eq_of_cons_eq h2)
def pX (s:Sym):Int:=s.id
def sO (m:Mem):Int×Bool×Bool×cU:=(m.id,m.BA,m.has,m.fQ)
def Dc (t:aD):(Int×Int×Int×Int×Bool)×List Int×List (Int×Bool×Bool×cU):=((t.kind,t.low,t.high,t.max,t.lL),t.syms.map pX,t.aS.map sO)
noncomputable def cK (x y:aD):Bool:=eqv (Dc x) (Dc y)
theorem r497 (u:Nat) (x y:Sym):res A ay 497 [.agg x.c,.agg y.c,.ro u [.bool false]]=some [.bool (eqv (pX x) (pX y))]:=by
 have e:eqv (pX x) (pX y)=decide (x.id=y.id):=by
  unfold pX eqv
  simp
 rw[e]
 refine aq a497 rfl rfl ?_
 simp only[F497,JB]
 unfold Sym.c
 simp(disch:=omega)only[go_sem]
 refine Br.aB (fun c=>?_) (fun c=>?_)<;>simp(disch:=omega)only[go_sem,c,decide_true,decide_false]
noncomputable def uW (x y:Sym):Bool:=eqv (pX x) (pX y)
noncomputable def pY (x y:Mem):Bool:=eqv (sO x) (sO y)
theorem E5 (x y:Sym):uW x y=decide (x.id=y.id):=by
 unfold uW pX eqv
 simp
theorem r496 (t u w:Nat) (l m:List Sym) (hl:l.length<=2^63 - 1) (_hm:m.length<=2^63 - 1):res A ay 496 [.ai t (l.map Sym.c),.ai u (m.map Sym.c),.func 497 [.ro w [.bool false]]]=some [.bool (sN uW l m)]:=by
 refine aq a496 rfl rfl ?_
 simp only[F496,JA]
 simp(disch:=omega)only[go_sem]
 refine Br.aB (fun h=>?_) (fun h=>?_)<;>simp(disch:=omega)only[go_sem]
 .refine W.find (l.zip m) (fun q=>!uW q.1 q.2) (fun k=>⟨[(1,.pv (.ai u (m.map Sym.c))),(2,.pv (.func 497 [.ro w [.bool false]])),(15,.pv (.ai t (l.map Sym.c))),(16,.pv (.int .i64 l.length)),(17,.pv (.int .i64 k))],⟨[],[],[]⟩⟩) rfl (fun k q hq hk hfd=>?_) (fun hn=>?_)
  .obtain⟨h1,h2⟩:=dq hq
   rw[bF (by omega)]at hk
   have hc:=fun v=>r497 v q.1 q.2
   have hg:uW q.1 q.2=eqv (pX q.1) (pX q.2):=rfl
   rw[<- hg]at hc
   unfold Sym.c at hc
   simp(disch:=omega)only[go_sem]
   refine Br.aB (fun c=>?_) (fun c=>(c (by omega)).elim)
   simp(disch:=omega)only[go_sem,h1,h2,Sym.c,hc]
   refine Br.of (fun g=>?_) (fun g=>?_)<;>simp(disch:=omega)only[go_sem]
   .exact aN.of (by rw[g]; rfl) rfl
   .rw[kT (hfd (by rw[g]; rfl)).any]
  .have hz:(l.zip m).length=l.length:=bF (by omega)
   rw[hz]
   simp(disch:=omega)only[go_sem]
   rw[iQ (by omega) hn.any]
 .rw[jY (fun e=>h (by rw[e]))]
set_option maxHeartbeats 4000000 in
theorem r498 (u:Nat) (x y:Mem) (hx:x.ok) (hy:y.ok):res A ay 498 [.agg x.c,.agg y.c,.ro u [.bool false]]=some [.bool (pY x y)]:=by
 obtain⟨n,vx⟩:=hx.2.2.2
 obtain⟨k,vy⟩:=hy.2.2.2
 have hv:=r499 n k _ _ vx vy
 rw[gL]at hv
 have hg:pY x y=eqv (sO x) (sO y):=rfl
 rw[hg]
 obtain⟨a1,a2,a3,a4,a5,v⟩:=x
 obtain⟨b1,b2,b3,b4,b5,w⟩:=y
 unfold Mem.c sO
 unfold cU.c at hv
 dsimp only at *
 have no:∀{p q:Int×Bool×Bool×cU},p≠q->(some [PV.bool false]:Option (List PV))=some [PV.bool (eqv p q)]:=fun h=>by rw[dE h]
 refine aq a498 rfl rfl ?_
 simp only[F498,JC]
 simp(disch:=omega)only[go_sem]
 refine Br.aB (fun e=>?_) (fun e=>?_)<;>simp(disch:=omega)only[go_sem,e]
 rotate_left
 .exact no (fun q=>e (by cases q; rfl))
 subst e
 refine Br.aB (fun e=>?_) (fun e=>?_)<;>simp(disch:=omega)only[go_sem,e]
 rotate_left
 .exact no (fun q=>e (by cases q; rfl))
 subst e
 refine Br.aB (fun e=>?_) (fun e=>?_)<;>simp(disch:=omega)only[go_sem,e]
 rotate_left
 .exact no (fun q=>e (by cases q; rfl))
 subst e
 simp(disch:=omega)only[go_sem,hv]
 refine Br.of (fun e=>?_) (fun e=>?_)<;>simp(disch:=omega)only[go_sem,e]
 rotate_left
 .exact no (fun q=>gq.1 e (by cases q; rfl))
 have e:=br.1 e
 subst e
 rw[dJ]
theorem r318k (t u w:Nat) (l m:List Mem) (hl:l.length<=2^63 - 1) (_hm:m.length<=2^63 - 1) (vl:∀r∈l,r.ok) (vm:∀r∈m,r.ok):res A ay 318 [.ai t (l.map Mem.c),.ai u (m.map Mem.c),.func 498 [.ro w [.bool false]]]=some [.bool (sN pY l m)]:=by
 refine aq a318 rfl rfl ?_
 simp only[F318,EL]
 simp(disch:=omega)only[go_sem]
 refine Br.aB (fun h=>?_) (fun h=>?_)<;>simp(disch:=omega)only[go_sem]
 .refine W.find (l.zip m) (fun q=>!pY q.1 q.2) (fun k=>⟨[(1,.pv (.ai u (m.map Mem.c))),(2,.pv (.func 498 [.ro w [.bool false]])),(15,.pv (.ai t (l.map Mem.c))),(16,.pv (.int .i64 l.length)),(17,.pv (.int .i64 k))],⟨[],[],[]⟩⟩) rfl (fun k q hq hk hfd=>?_) (fun hn=>?_)
  .obtain⟨h1,h2⟩:=dq hq
   rw[bF (by omega)]at hk
   have hc:=fun v=>r498 v q.1 q.2 (vl q.1 (Tf h1)) (vm q.2 (Tf h2))
   unfold Mem.c at hc
   simp(disch:=omega)only[go_sem]
   refine Br.aB (fun c=>?_) (fun c=>(c (by omega)).elim)
   simp(disch:=omega)only[go_sem,h1,h2,Mem.c,hc]
   refine Br.of (fun g=>?_) (fun g=>?_)<;>simp(disch:=omega)only[go_sem]
   .exact aN.of (by rw[g]; rfl) rfl
   .rw[kT (hfd (by rw[g]; rfl)).any]
  .have hz:(l.zip m).length=l.length:=bF (by omega)
   rw[hz]
   simp(disch:=omega)only[go_sem]
   rw[iQ (by omega) hn.any]
 .rw[jY (fun e=>h (by rw[e]))]
theorem pH (x y:aD) (h:(x.kind,x.low,x.high,x.max,x.lL)=(y.kind,y.low,y.high,y.max,y.lL)):cK x y=(sN uW x.syms y.syms&&sN pY x.aS y.aS):=by
 rw[uV pX (g:=uW) (fun _ _=>rfl),uV sO (g:=pY) (fun _ _=>rfl)]
 unfold cK Dc
 rw[h,TQ,UE,br,br,br]
 constructor
 .intro e
  injection e with _ e
  injection e with e1 e2
  exact⟨e1,e2⟩
 .rintro ⟨e1,e2⟩
  rw[e1,e2]
theorem w4 {x y:aD} (h:(x.kind,x.low,x.high,x.max,x.lL)≠(y.kind,y.low,y.high,y.max,y.lL)):cK x y=false:=by
 unfold cK
 rw[dE]
 unfold Dc
 intro e
 injection e with e _
 exact h e
set_option maxHeartbeats 8000000 in
theorem r488 (x y:aD) (hx:x.ok) (hy:y.ok):res A ay 488 [.agg x.c,.agg y.c,.bool false]=some [.bool (cK x y)]:=by
 obtain⟨_,⟨lx1,lx2⟩,_,lx3⟩:=hx
 obtain⟨_,⟨ly1,ly2⟩,_,ly3⟩:=hy
 unfold bT at *
 have hs:=fun t u w=>r496 t u w x.syms y.syms (by omega) (by omega)
 have hm:=fun t u w=>r318k t u w x.aS y.aS (by omega) (by omega) lx3 ly3
 have yes:=pH x y
 have no:(x.kind,x.low,x.high,x.max,x.lL)≠(y.kind,y.low,y.high,y.max,y.lL)->(some [PV.bool false]:Option (List PV))=some [PV.bool (cK x y)]:=fun h=>by rw[w4 h]
 generalize cK x y=G at *
 obtain⟨a1,a2,a3,a4,a5,a6,a7,a8,a9,a10⟩:=x
 obtain⟨b1,b2,b3,b4,b5,b6,b7,b8,b9,b10⟩:=y
 unfold aD.c
 dsimp only at *
 refine aq a488 rfl rfl ?_
 simp only[F488,Js]
 simp(disch:=omega)only[go_sem]
 refine Br.aB (fun e=>?_) (fun e=>?_)<;>simp(disch:=omega)only[go_sem,e]
 rotate_left
 .exact no (fun q=>e (by cases q; rfl))
 subst e
 refine Br.aB (fun e=>?_) (fun e=>?_)<;>simp(disch:=omega)only[go_sem,e]
 rotate_left
 .exact no (fun q=>e (by cases q; rfl))
 subst e
 refine Br.aB (fun e=>?_) (fun e=>?_)<;>simp(disch:=omega)only[go_sem,e]
 rotate_left
 .exact no (fun q=>e (by cases q; rfl))
 subst e
 refine Br.aB (fun e=>?_) (fun e=>?_)<;>simp(disch:=omega)only[go_sem,e]
 rotate_left
 .exact no (fun q=>e (by cases q; rfl))
 subst e
 refine Br.aB (fun e=>?_) (fun e=>?_)<;>simp(disch:=omega)only[go_sem,e]
 rotate_left
 .exact no (fun q=>e (by cases q; rfl))
 subst e
 rw[yes rfl]
 generalize sN uW a6 b6=e1 at *
 generalize sN pY a7 b7=e2 at *
 simp(disch:=omega)only[go_sem,hs]
 cases e1 with
 |false=>simp(disch:=omega)only[go_sem,Bool.false_and]
 |true=>simp(disch:=omega)only[go_sem,hm,Bool.true_and]
set_option maxHeartbeats 16000000 in
theorem r500 (x y:aD) (hx:x.ok) (hy:y.ok):res A ay 500 [.agg x.c,.agg y.c,.bool false]=some [.bool (cK x y)]:=by
 obtain⟨_,⟨lx1,lx2⟩,_,lx3⟩:=hx
 obtain⟨_,⟨ly1,ly2⟩,_,ly3⟩:=hy
 unfold bT at *
 have yes:=pH x y
 have no:(x.kind,x.low,x.high,x.max,x.lL)≠(y.kind,y.low,y.high,y.max,y.lL)->(some [PV.bool false]:Option (List PV))=some [PV.bool (cK x y)]:=fun h=>by rw[w4 h]
 generalize cK x y=G at *
 obtain⟨a1,a2,a3,a4,a5,a6,a7,a8,a9,a10⟩:=x
 obtain⟨b1,b2,b3,b4,b5,b6,b7,b8,b9,b10⟩:=y
 unfold aD.c
 dsimp only at *
 refine aq a500 rfl rfl ?_
 simp only[F500,JE]
 simp(disch:=omega)only[go_sem]
 refine Br.aB (fun e=>?_) (fun e=>?_)<;>simp(disch:=omega)only[go_sem,e]
 rotate_left
 .exact no (fun q=>e (by cases q; rfl))
 subst e
 refine Br.aB (fun e=>?_) (fun e=>?_)<;>simp(disch:=omega)only[go_sem,e]
 rotate_left
 .exact no (fun q=>e (by cases q; rfl))
 subst e
 refine Br.aB (fun e=>?_) (fun e=>?_)<;>simp(disch:=omega)only[go_sem,e]
 rotate_left
 .exact no (fun q=>e (by cases q; rfl))
 subst e
 refine Br.aB (fun e=>?_) (fun e=>?_)<;>simp(disch:=omega)only[go_sem,e]
 rotate_left
 .exact no (fun q=>e (by cases q; rfl))
 subst e
 refine Br.aB (fun e=>?_) (fun e=>?_)<;>simp(disch:=omega)only[go_sem,e]
 rotate_left
 .exact no (fun q=>e (by cases q; rfl))
 subst e
 rw[yes rfl]
 clear yes no
 refine Br.aB (fun e=>?_) (fun e=>?_)<;>simp(disch:=omega)only[go_sem,e]
 rotate_left
 .rw[jY (fun h=>e (by rw[h])),T1]
 refine Br.aB (fun e'=>?_) (fun e'=>?_)<;>simp(disch:=omega)only[go_sem,e']
 rotate_left
 .rw[jY (g:=pY) (fun h=>e' (by rw[h])),Um]
 refine W.find (a6.zip b6) (fun q=>!uW q.1 q.2) (fun k=>⟨[(2,.pv (.bool false)),(3,.ptr 3 0),(4,.ptr 4 0),(7,.pv (.int .i64 k))],⟨[(3,[.pv (.int .i64 a1),.pv (.str a2),.pv (.int .i64 a3),.pv (.int .i64 a4),.pv (.int .i64 a5),.pv (.ai 0 (a6.map Sym.c)),.pv (.ai 0 (a7.map Mem.c)),.pv (.int .i64 a8),.pv (.int .i64 a9),.pv (.bool a10)]),(4,[.pv (.int .i64 a1),.pv (.str b2),.pv (.int .i64 a3),.pv (.int .i64 a4),.pv (.int .i64 a5),.pv (.ai 0 (b6.map Sym.c)),.pv (.ai 0 (b7.map Mem.c)),.pv (.int .i64 b8),.pv (.int .i64 b9),.pv (.bool a10)])],[],[]⟩⟩) rfl (fun k q hq hk hfd=>?_) (fun hn=>?_)
 .obtain⟨h1,h2⟩:=dq hq
  rw[bF (by omega)]at hk
  have hg:=E5 q.1 q.2
  simp(disch:=omega)only[go_sem]
  refine Br.aB (fun c=>?_) (fun c=>(c (by omega)).elim)
  cases hd:decide (q.1.id=q.2.id)with
  |true=>
   rw[hd]at hg
   simp(disch:=omega)only[go_sem,h1,h2,Option.map_some,Sym.c,hd]
   exact aN.of (by rw[hg]; rfl) rfl
  |false=>
   rw[hd]at hg
   simp(disch:=omega)only[go_sem,h1,h2,Option.map_some,Sym.c,hd]
   rw[kT (hfd (by rw[hg]; rfl)).any,T1]
 have hz:(a6.zip b6).length=a6.length:=bF (by omega)
 rw[hz,iQ (by omega) hn.any,TL]
 simp(disch:=omega)only[go_sem]
 refine W.find (a7.zip b7) (fun q=>!pY q.1 q.2) (fun k=>⟨[(2,.pv (.bool false)),(3,.ptr 3 0),(4,.ptr 4 0),(8,.pv (.int .i64 k))],⟨[(3,[.pv (.int .i64 a1),.pv (.str a2),.pv (.int .i64 a3),.pv (.int .i64 a4),.pv (.int .i64 a5),.pv (.ai 0 (a6.map Sym.c)),.pv (.ai 0 (a7.map Mem.c)),.pv (.int .i64 a8),.pv (.int .i64 a9),.pv (.bool a10)]),(4,[.pv (.int .i64 a1),.pv (.str b2),.pv (.int .i64 a3),.pv (.int .i64 a4),.pv (.int .i64 a5),.pv (.ai 0 (b6.map Sym.c)),.pv (.ai 0 (b7.map Mem.c)),.pv (.int .i64 b8),.pv (.int .i64 b9),.pv (.bool a10)])],[],[]⟩⟩) rfl (fun k q hq hk hfd=>?_) (fun hn2=>?_)
 .obtain⟨h1,h2⟩:=dq hq
  rw[bF (by omega)]at hk
  obtain⟨p,r⟩:=q
  have hv:=r330v (lx3 p (Tf h1)).2.2.2 (ly3 r (Tf h2)).2.2.2
  rw[gL]at hv
  have hg:pY p r=eqv (sO p) (sO r):=rfl
  unfold sO at hg
  obtain⟨c1,c2,c3,c4,c5,v⟩:=p
  obtain⟨d1,d2,d3,d4,d5,w⟩:=r
  dsimp only at *
  generalize pY ⟨c1,c2,c3,c4,c5,v⟩ ⟨d1,d2,d3,d4,d5,w⟩=G2 at *
  have no:(c1,c4,c5,v)≠(d1,d4,d5,w)->(some [PV.bool false]:Option (List PV))=some [PV.bool (sN pY a7 b7)]:=fun h=>by
   rw[kT (hfd (by rw[hg,dE h]; rfl)).any]
  have yes:(c1,c4,c5,v)=(d1,d4,d5,w)->(!G2)=false:=fun h=>by
   rw[hg,h,dJ]
   rfl
  unfold cU.c at hv
  simp(disch:=omega)only[go_sem]
  refine Br.aB (fun c=>?_) (fun c=>(c (by omega)).elim)
  simp(disch:=omega)only[go_sem,h1,h2,Option.map_some,Mem.c]
  refine Br.aB (fun e=>?_) (fun e=>?_)<;>simp(disch:=omega)only[go_sem,e]
  rotate_left
  .exact no (fun q=>e (by cases q; rfl))
  subst e
  refine Br.aB (fun e=>?_) (fun e=>?_)<;>simp(disch:=omega)only[go_sem,e]
  rotate_left
  .exact no (fun q=>e (by cases q; rfl))
  subst e
  refine Br.aB (fun e=>?_) (fun e=>?_)<;>simp(disch:=omega)only[go_sem,e]
  rotate_left
  .exact no (fun q=>e (by cases q; rfl))
  subst e
  simp(disch:=omega)only[go_sem,hv]
  refine Br.of (fun e=>?_) (fun e=>?_)<;>simp(disch:=omega)only[go_sem,e]
  rotate_left
  .exact no (fun q=>gq.1 e (by cases q; rfl))
  have e:=br.1 e
  subst e
  exact aN.of (yes rfl) rfl
 have hz2:(a7.zip b7).length=a7.length:=bF (by omega)
 rw[hz2,iQ (by omega) hn2.any]
 simp(disch:=omega)only[go_sem]
def rZ (g:List Bool->Nat) (M:List (List Bool)):List (List PV):=M.map fun l=>[.ai (g l) (bD l)]
@[go_sem] theorem Pl (g:List Bool->Nat) (M:List (List Bool)) (i:Nat):(rZ g M)[i]?=M[i]?.map fun l=>[.ai (g l) (bD l)]:=by simp[rZ]
structure j9 (na nb:Nat) (M:List (List Bool)):Prop where
 len:M.length=na
 row:∀l∈M,l.length=nb
def fq (M:List (List Bool)) (p q:Int):Bool:=(M.getD p.toNat []).getD q.toNat false
theorem j9.get {na nb:Nat} {M:List (List Bool)} (h:j9 na nb M) {p q:Int} (hp:0<=p/\p<na) (hq:0<=q/\q<nb):∃l,M[p.toNat]?=some l/\l.length=nb/\l[q.toNat]?=some (fq M p q):=by
 have hl:=h.len
 obtain⟨l,hl⟩:=get_some (l:=M) (k:=p.toNat) (by omega)
 have hr:=h.row l (Tf hl)
 refine⟨l,hl,hr,?_⟩
 have h4:q.toNat<l.length:=by omega
 unfold fq
 simp[hl,h4]
def Pm (n:Nat) (l:List (Int×Int)):Prop:=∀u∈l,0<=u.2/\u.2<n
def w5 (M:List (List Bool)) (x y:aD):Bool:=sN (fun u v=>fq M u.2 v.2) (gO x) (gO y)
theorem r491 (s v na nb:Nat) (g:List Bool->Nat) (a b:Int×Int) (M:List (List Bool)) (hM:j9 na nb M) (hn:na<=1000000/\nb<=1000000) (ha:0<=a.2/\a.2<na) (hb:0<=b.2/\b.2<nb):res A ay 491 [.agg (dK a),.agg (dK b),.ro s [.ai v (rZ g M)]]=some [.bool (fq M a.2 b.2)]:=by
 obtain⟨l,h1,h2,h3⟩:=hM.get ha hb
 have h4:=hM.len
 obtain⟨a0,a1⟩:=ha
 obtain⟨b0,b1⟩:=hb
 refine aq a491 rfl rfl ?_
 simp only[F491,Jv]
 unfold dK
 simp(disch:=omega)only[go_sem,dv,h1,h3,Option.map_some]
theorem r489 (t u s v na nb:Nat) (g:List Bool->Nat) (l m:List (Int×Int)) (M:List (List Bool)) (hM:j9 na nb M) (hn:na<=1000000/\nb<=1000000) (ha:Pm na l) (hb:Pm nb m) (hl:l.length<=2000000) (hm:m.length<=2000000):res A ay 489 [.ai t (l.map dK),.ai u (m.map dK),.func 491 [.ro s [.ai v (rZ g M)]]]=some [.bool (sN (fun a b=>fq M a.2 b.2) l m)]:=by
 refine aq a489 rfl rfl ?_
 simp only[F489,Jt]
 simp(disch:=omega)only[go_sem]
 refine Br.aB (fun h=>?_) (fun h=>?_)<;>simp(disch:=omega)only[go_sem]
 .refine W.find (l.zip m) (fun q=>!fq M q.1.2 q.2.2) (fun k=>⟨[(1,.pv (.ai u (m.map dK))),(2,.pv (.func 491 [.ro s [.ai v (rZ g M)]])),(15,.pv (.ai t (l.map dK))),(16,.pv (.int .i64 l.length)),(17,.pv (.int .i64 k))],⟨[],[],[]⟩⟩) rfl (fun k q hq hk hfd=>?_) (fun hn=>?_)
  .obtain⟨h1,h2⟩:=dq hq
   rw[bF (by omega)]at hk
   have hc:=fun s=>r491 s v na nb g q.1 q.2 M hM hn (ha _ (Tf h1)) (hb _ (Tf h2))
   unfold dK at hc
   simp(disch:=omega)only[go_sem]
   refine Br.aB (fun c=>?_) (fun c=>(c (by omega)).elim)
   simp(disch:=omega)only[go_sem,h1,h2,Option.map_some,dK,hc]
   refine Br.of (fun g=>?_) (fun g=>?_)<;>simp(disch:=omega)only[go_sem]
   .exact aN.of (by rw[g]; rfl) rfl
   .rw[kT (g:=fun(a b:Int×Int)=>fq M a.2 b.2) (hfd (by rw[g]; rfl)).any]
  .have hz:(l.zip m).length=l.length:=bF (by omega)
   rw[hz]
   simp(disch:=omega)only[go_sem]
   rw[iQ (g:=fun(a b:Int×Int)=>fq M a.2 b.2) (by omega) hn.any]
 .rw[jY (fun e=>h (by rw[e]))]
theorem sf (t:aD):(gO t).length<=t.aS.length+2:=by
 unfold gO gh
 rw[TH,TH,Tl]
 split<;>split<;>simp<;>omega
theorem Bc {x y:aD} (h:cK x y=true):(gO x).length=(gO y).length:=by
 have h:=br.1 h
 unfold Dc at h
 injection h with h1 h
 injection h with h2 h3
 injection h1 with h1 _
 have h3:=congrArg List.length h3
 rw[Tl,Tl]at h3
 unfold gO gh
 rw[TH,TH,TH,TH,Tl,Tl,h1,h3]
 split<;>split<;>rfl
theorem r501 (v na nb:Nat) (g:List Bool->Nat) (x y:aD) (M:List (List Bool)) (hM:j9 na nb M) (hn:na<=1000000/\nb<=1000000) (hx:x.short/\x.kind<=9) (hy:y.short/\y.kind<=9) (ha:Pm na (gO x)) (hb:Pm nb (gO y)) (hl:(gO x).length=(gO y).length):res A ay 501 [.agg x.c,.agg y.c,.ai v (rZ g M)]=some [.bool (w5 M x y)]:=by
 have h5:=r504 x hx.1 hx.2
 have h6:=r504 y hy.1 hy.2
 have h7:=sf x
 have h8:=hx.1.aS
 unfold w5
 generalize gO x=l at *
 generalize gO y=m at *
 refine aq a501 rfl rfl ?_
 simp only[F501,JF]
 unfold aD.c at *
 have hMl:=hM.len
 simp(disch:=omega)only[go_sem,h5,h6]
 refine W.find (l.zip m) (fun q=>!fq M q.1.2 q.2.2) (fun k=>⟨[(2,.pv (.ai v (rZ g M))),(7,.pv (.ai 0 (l.map dK))),(8,.pv (.ai 0 (m.map dK))),(9,.pv (.int .i64 k))],⟨[],[],[]⟩⟩) rfl (fun k q hq hk hfd=>?_) (fun hn=>?_)
 .obtain⟨h1,h2⟩:=dq hq
  rw[bF (by omega)]at hk
  have qa:=ha _ (Tf h1)
  have qb:=hb _ (Tf h2)
  obtain⟨r,e1,e2,e3⟩:=hM.get qa qb
  obtain⟨a0,a1⟩:=qa
  obtain⟨b0,b1⟩:=qb
  simp(disch:=omega)only[go_sem]
  refine Br.aB (fun c=>?_) (fun c=>(c (by omega)).elim)
  simp(disch:=omega)only[go_sem,h1,h2,Option.map_some,dK,dv,e1,e3]
  refine Br.of (fun g=>?_) (fun g=>?_)<;>simp(disch:=omega)only[go_sem]
  .exact aN.of (by rw[g]; rfl) rfl
  .rw[kT (g:=fun(a b:Int×Int)=>fq M a.2 b.2) (hfd (by rw[g]; rfl)).any]
 have hz:(l.zip m).length=l.length:=bF (by omega)
 rw[hz,iQ (g:=fun(a b:Int×Int)=>fq M a.2 b.2) (by omega) hn.any]
 simp(disch:=omega)only[go_sem]
def mu (M:List (List Bool)) (p q:Nat):List (List Bool):=M.set p ((M.getD p []).set q false)
theorem zN {na nb p q:Nat} {M:List (List Bool)} (h:j9 na nb M) (hp:p<na):j9 na nb (mu M p q) where
 len:=by unfold mu; rw[Ua]; exact h.len
 row l hl:=by
  rcases Un hl with hl|rfl
  .exact h.row l hl
  .rw[Ua]
   have:M[p]?=some (M.getD p []):=by
    have:p<M.length:=by rw[h.len]; exact hp
    simp[this]
   exact h.row _ (Tf this)
theorem Dd {na nb p q p' q':Nat} {M:List (List Bool)} (h:j9 na nb M) (hp:p<na) (hq:q<nb):fq (mu M p q) p' q'=if p=p'/\q=q' then false else fq M p' q':=by
 have hl:p<M.length:=by rw[h.len]; exact hp
 have hr:(M.getD p []).length=nb:=h.row _ (by
  have:M[p]?=some (M.getD p []):=by simp[hl]
  exact Tf this)
 unfold fq mu
 simp only[Int.toNat_natCast,List.getD_eq_getElem?_getD,List.getElem?_set]
 by_cases e:p=p'
 .subst e
  simp only[List.getD_eq_getElem?_getD]at hr
  by_cases e2:q=q'
  .subst e2
   simp only[hl,if_true,List.getElem?_eq_getElem,Option.getD_some,if_pos,and_self]
   rw[List.getElem?_set,if_pos rfl]
   split<;>rfl
  .simp[hl,e2]
 .simp[e]
abbrev Rel:=List (List Bool)->Nat->Nat->Bool
def xn (R:Rel) (p:Nat) (s:List (List Bool)×Bool) (q:Nat):List (List Bool)×Bool:=if (fq s.1 p q&&!R s.1 p q)=true then (mu s.1 p q,true) else s
def yL (R:Rel) (nb:Nat) (s:List (List Bool)×Bool) (p:Nat):List (List Bool)×Bool:=(List.range nb).foldl (xn R p) s
def De (R:Rel) (na nb:Nat) (s:List (List Bool)×Bool):List (List Bool)×Bool:=(List.range na).foldl (yL R nb) s
def uX (R:Rel) (na nb:Nat):Nat->List (List Bool)->List (List Bool)
 |0,M=>M
 |n+1,M=>if (De R na nb (M,false)).2=true then uX R na nb n (De R na nb (M,false)).1 else (De R na nb (M,false)).1
def uY (M:List (List Bool)):Nat:=(M.map fun r=>r.countP id).sum
theorem E6 {r:List Bool} {q:Nat} (h:r.getD q false=true):(r.set q false).countP id+1=r.countP id:=by
 induction r generalizing q with
 |nil=>simp at h
 |cons b r ih=>
  cases q with
  |zero=>
   have hb:b=true:=by simpa using h
   subst hb
   simp
  |succ q=>
   have:=ih (q:=q) (by simpa using h)
   rw[List.set_cons_succ,List.countP_cons,List.countP_cons]
   omega
theorem E7 {M:List (List Bool)} {p q:Nat} (h:fq M p q=true):uY (mu M p q)+1=uY M:=by
 unfold fq at h
 simp only[Int.toNat_natCast]at h
 unfold uY mu
 induction M generalizing p with
 |nil=>simp at h
 |cons r M ih=>
  cases p with
  |zero=>
   have h:r.getD q false=true:=by simpa using h
   have:=E6 h
   simp only[List.getD_cons_zero,List.set_cons_zero,List.map_cons,List.sum_cons]
   omega
  |succ p=>
   have:=ih (p:=p) (by simpa using h)
   simp only[List.getD_cons_succ,List.set_cons_succ,List.map_cons,List.sum_cons]
   omega
def Steps (s t:List (List Bool)×Bool):Prop:=t=s\/(t.2=true/\uY t.1<uY s.1)
theorem Steps.trans {s t u:List (List Bool)×Bool} (h:Steps s t) (g:Steps t u):Steps s u:=by
 rcases g with rfl|⟨g1,g2⟩
 .exact h
 .rcases h with rfl|⟨_,h2⟩
  .exact .inr ⟨g1,g2⟩
  .exact .inr ⟨g1,by omega⟩
theorem Bd (R:Rel) (p:Nat) (s:List (List Bool)×Bool) (q:Nat):Steps s (xn R p s q):=by
 unfold xn
 split
 .rename_i h
  rw[UE]at h
  have:=E7 h.1
  exact .inr ⟨rfl,by dsimp only; omega⟩
 .exact .inl rfl
theorem Df {α:Type} {f:List (List Bool)×Bool->α->List (List Bool)×Bool} (h:∀s a,Steps s (f s a)):∀(l:List α) (s:List (List Bool)×Bool),Steps s (l.foldl f s)
 |[],_=>.inl rfl
 |a::l,s=>(h s a).trans (Df h l _)
theorem yM (R:Rel) (nb:Nat) (s:List (List Bool)×Bool) (p:Nat):Steps s (yL R nb s p):=Df (Bd R p) _ _
theorem tV (R:Rel) (na nb:Nat) (s:List (List Bool)×Bool):Steps s (De R na nb s):=Df (fun s p=>yM R nb s p) _ _
theorem pI (R:Rel) (na nb:Nat):∀(n m:Nat) (M:List (List Bool)),uY M<n->uY M<m->uX R na nb n M=uX R na nb m M
 |0,_,_,h,_=>absurd h (Ur _)
 |_+1,0,_,_,h=>absurd h (Ur _)
 |n+1,m+1,M,h,g=>by
  unfold uX
  split
  .rename_i hf
   rcases tV R na nb (M,false)with e|⟨_,e⟩
   .rw[e]at hf
    cases hf
   .dsimp only at e
    exact pI R na nb n m _ (by omega) (by omega)
  .rfl
def w6 (R:Rel) (na nb:Nat) (M:List (List Bool)):List (List Bool):=uX R na nb (uY M+1) M
def E8 (G:List (List Bool)) (R:Rel) (na nb:Nat) (s:List (List Bool)×Bool):Prop:=j9 na nb s.1/\if s.2=true then w6 R na nb s.1=G else s.1=G
def Be (s:List (List Bool)×Bool):Nat:=if s.2=true then uY s.1+1 else 0
theorem w7 {G:List (List Bool)} {R:Rel} {na nb:Nat} {M:List (List Bool)} (h:E8 G R na nb (M,true)) (hk:j9 na nb (De R na nb (M,false)).1):E8 G R na nb (De R na nb (M,false))/\Be (De R na nb (M,false))<Be (M,true):=by
 have h2:w6 R na nb M=G:=h.2
 unfold w6 uX at h2
 rcases tV R na nb (M,false)with e|⟨hf,e⟩
 .rw[e]at h2 |-
  rw[if_neg (by simp)]at h2
  exact⟨⟨h.1,by rw[if_neg (by simp)]; exact h2⟩,by unfold Be; rw[if_neg (by simp),if_pos rfl]; omega⟩
 .dsimp only at e
  rw[if_pos hf]at h2
  refine⟨⟨hk,?_⟩,?_⟩
  .rw[if_pos hf]
   unfold w6
   rw[<- h2]
   exact pI R na nb _ _ _ (by omega) (by omega)
  .unfold Be
   rw[if_pos hf,if_pos rfl]
   dsimp only
   omega
theorem yN {R:Rel} {na nb p q:Nat} {s:List (List Bool)×Bool} (h:j9 na nb s.1) (hp:p<na):j9 na nb (xn R p s q).1:=by
 unfold xn
 split
 .exact zN h hp
 .exact h
theorem foldI {α β:Type} {f:β->α->β} {P:β->Prop}:∀(l:List α) (s:β),P s->(∀s a,a∈l->P s->P (f s a))->P (l.foldl f s)
 |[],_,h,_=>h
 |a::l,s,h,g=>foldI l _ (g s a TP h) fun s b hb=>g s b (TJ _ hb)
theorem E9 {R:Rel} {na nb p:Nat} {s:List (List Bool)×Bool} (h:j9 na nb s.1) (hp:p<na):j9 na nb (yL R nb s p).1:=foldI (P:=fun s=>j9 na nb s.1) _ s h fun _ _ _ h=>yN h hp
theorem Dg {R:Rel} {na nb:Nat} {s:List (List Bool)×Bool} (h:j9 na nb s.1):j9 na nb (De R na nb s).1:=foldI (P:=fun s=>j9 na nb s.1) _ s h fun _ _ hp h=>E9 h (UO.1 hp)
theorem tW {R:Rel} {na nb:Nat} {P:List (List Bool)->Prop} (h:∀M p q,p<na->q<nb->P M->fq M p q=true->R M p q=false->P (mu M p q)):∀(n:Nat) (M:List (List Bool)),P M->P (uX R na nb n M)
 |0,_,hM=>hM
 |n+1,M,hM=>by
  have hs:P (De R na nb (M,false)).1:=foldI (P:=fun(s:List (List Bool)×Bool)=>P s.1) _ _ hM fun s p hp hs=>foldI (P:=fun(s:List (List Bool)×Bool)=>P s.1) _ _ hs fun s q hq hs=>by
   unfold xn
   split
   .rename_i hc
    rw[UE]at hc
    exact h _ p q (List.mem_range.1 hp) (List.mem_range.1 hq) hs hc.1 (by simpa using hc.2)
   .exact hs
  unfold uX
  split
  .exact tW h n _ hs
  .exact hs
theorem Fa {R:Rel} {na nb n:Nat} {M:List (List Bool)} (h:j9 na nb M):j9 na nb (uX R na nb n M):=tW (P:=j9 na nb) (fun _ _ _ hp _ h _ _=>zN h hp) n M h
theorem Fb {R:Rel} {na nb:Nat} {M:List (List Bool)} (h:j9 na nb M):j9 na nb (w6 R na nb M):=Fa h
theorem sg {α β:Type} {f:α->β} {y:β} {l:List α} {k i:Nat} {x:α} (hi:i<k) (hx:l[i]?=some x):(dF f y l k)[i]?=some (f x):=by
 unfold dF
 have hl:=(Tg.1 hx).1
 rw[List.getElem?_append_left (by simp; omega),List.getElem?_map,List.getElem?_take,if_pos hi,hx]
 rfl
def aH (es:List Edge) (s:Int):List Edge:=es.filter fun e=>e.fr==s
theorem gi (es:List Edge) (s:Int):(aH es s).length<=es.length:=List.length_filter_le _ _
theorem uZ {α:Type} (p:α->Bool) (l:List α):l.foldl (fun o x=>if p x=true then o++[x] else o) []=l.filter p:=by
 have:=fold_filter p id l []
 simpa using this
set_option maxHeartbeats 1000000 in
@[go_sem] theorem r38 (t:Nat) (n s0 s:Int) (es:List Edge) (hl:es.length<=2000000000):res A ay 38 [.agg [.int .i64 n,.int .i64 s0,.ai t (es.map Edge.c)],.int .i64 s]=some [.ai 0 (bG (aH es s))]:=by
 refine aq a38 rfl rfl ?_
 simp only[F38,RB]
 simp(disch:=omega)only[go_sem]
 refine W.fold es (fun o e=>if (e.fr==s)=true then o++[e] else o) [] (fun k o=>⟨[(1,.pv (.int .i64 s)),(2,.ptr 2 0),(5,dR 0 (bG o)),(6,.pv (.int .i64 k))],⟨[(2,[.pv (.int .i64 n),.pv (.int .i64 s0),.pv (.ai t (es.map Edge.c))])],et 4 (bG o),[]⟩⟩) (fun k o=>o.length<=k) rfl (Tj _) (fun k e o he hk _ hi=>?_) (fun o ho hi=>?_)
 .simp(disch:=omega)only[go_sem]
  refine Br.aB (fun h=>?_) (fun h=>(h (by omega)).elim)
  simp(disch:=omega)only[go_sem,he]
  refine Br.aB (fun f=>?_) (fun f=>?_)<;>simp(disch:=omega)only[go_sem,f,he]
  .have hf:(e.fr==s)=true:=by simp[f]
   refine bQ.of ?_ (by rw[if_pos hf]; simp; omega)
   show _=St.mk _ _
   rw[if_pos hf]
   have hee:(⟨s,e.send,e.label,e.to⟩:Edge)=e:=by rw[<- f]
   rw[hee]
   rfl
  .have hf:(e.fr==s)=false:=by simp[f]
   refine bQ.of ?_ (by rw[hf]; simp; omega)
   show _=St.mk _ _
   rw[hf]
   rfl
 .rw[uZ]at ho
  simp(disch:=omega)only[go_sem]
  rw[ho]
  rfl
def kU (a b:List Edge) (p q:Int):Option Edge:=(aH a p).find? fun e=>!(aU q e.send e.label b).isSome
def zO:Option Edge->Bool×Int
 |some e=>(e.send,e.label)
 |none=>(false,0)
set_option maxHeartbeats 1000000 in
@[go_sem] theorem r37 (t u:Nat) (n s n' s' p q:Int) (a b:List Edge) (ha:a.length<=2000000000) (hb:b.length<=2000000000):
  res A ay 37 [.agg [.int .i64 n,.int .i64 s,.ai t (a.map Edge.c)],.agg [.int .i64 n',.int .i64 s',.ai u (b.map Edge.c)],.int .i64 p,.int .i64 q]=some [.agg [.bool (zO (kU a b p q)).1,.int .i64 (zO (kU a b p q)).2],.bool (kU a b p q).isSome]:=by
 refine aq a37 rfl rfl ?_
 simp only[F37,RA]
 have hel:=gi a p
 have h39:=fun(d:Bool) (x:Int)=>r39 u ⟨n',s',b⟩ q d x (show b.length<=2^63 - 1 by omega)
 simp(disch:=omega)only[go_sem]
 refine W.find (aH a p) (fun e=>!(aU q e.send e.label b).isSome) (fun k=>⟨[(3,.pv (.int .i64 q)),(5,.ptr 5 0),(8,.ptr 8 0),(10,.pv (.ai 0 (bG (aH a p)))),(11,.pv (.int .i64 k))],⟨[(5,[.pv (.int .i64 n'),.pv (.int .i64 s'),.pv (.ai u (b.map Edge.c))]),(8,[.pv (.bool false),.pv (.int .i64 0)])],[],[]⟩⟩) rfl (fun k e he hk hf=>?_) (fun hno=>?_)
 .simp(disch:=omega)only[go_sem]
  refine Br.aB (fun h=>?_) (fun h=>(h (by omega)).elim)
  simp(disch:=omega)only[go_sem,he,h39]
  refine Br.of (fun f=>?_) (fun f=>?_)<;>simp(disch:=omega)only[go_sem,he]
  .exact aN.of (by rw[f]; rfl) rfl
  .have:=(hf (by rw[f]; rfl)).find
   have hle:kU a b p q=some e:=this
   rw[hle]
   rfl
 .simp(disch:=omega)only[go_sem]
  have hle:kU a b p q=none:=hno.find
  rw[hle]
  rfl
def Dh (g:List Int->Nat) (M:List (List Int)):List (List PV):=M.map fun l=>[.ai (g l) (ints l)]
@[go_sem] theorem Pn (g:List Int->Nat) (M:List (List Int)) (i:Nat):(Dh g M)[i]?=M[i]?.map fun l=>[.ai (g l) (ints l)]:=by simp[Dh]
def mz (M:List (List Int)) (p q:Int):Int:=(M.getD p.toNat []).getD q.toNat 0
def pJ (b:List Edge) (M:List (List Int)) (q k:Int) (e:Edge):Bool:=match aU q e.send e.label b with
 |some n=>decide (mz M e.to n=k)
 |none=>false
def iC (a b:List Edge) (M:List (List Int)) (p q k:Int):Option Edge:=(aH a p).find? (pJ b M q k)
structure fC (na nb:Nat) (M:List (List Int)):Prop where
 len:M.length=na
 row:∀l∈M,l.length=nb
theorem fC.get {na nb:Nat} {M:List (List Int)} (h:fC na nb M) {p q:Int} (hp:0<=p/\p<na) (hq:0<=q/\q<nb):∃l,M[p.toNat]?=some l/\l.length=nb/\l[q.toNat]?=some (mz M p q):=by
 have h1:p.toNat<M.length:=by rw[h.len]; omega
 have h2:M[p.toNat]?=some M[p.toNat]:=by simp
 have h3:=h.row _ (Tf h2)
 refine⟨_,h2,h3,?_⟩
 unfold mz
 have h4:q.toNat<M[p.toNat].length:=by omega
 simp[h1,h4]
set_option maxHeartbeats 1000000 in
@[go_sem] theorem r41 (t u v na nb:Nat) (g:List Int->Nat) (n s n' s' p q k:Int) (a b:List Edge) (M:List (List Int)) (ha:a.length<=2000000000) (hb:b.length<=2000000000) (hM:fC na nb M) (hta:∀e∈a,0<=e.to/\e.to<(na:Int)) (htb:∀e∈b,0<=e.to/\e.to<(nb:Int)):
  res A ay 41 [.agg [.int .i64 n,.int .i64 s,.ai t (a.map Edge.c)],.agg [.int .i64 n',.int .i64 s',.ai u (b.map Edge.c)],.int .i64 p,.int .i64 q,.ai v (Dh g M),.int .i64 k]=some [.agg [.bool (zO (iC a b M p q k)).1,.int .i64 (zO (iC a b M p q k)).2],.bool (iC a b M p q k).isSome]:=by
 refine aq a41 rfl rfl ?_
 simp only[F41,RD]
 have hel:=gi a p
 have hml:=hM.len
 have h39:=fun(d:Bool) (x:Int)=>r39 u ⟨n',s',b⟩ q d x (show b.length<=2^63 - 1 by omega)
 simp(disch:=omega)only[go_sem]
 refine W.find (aH a p) (pJ b M q k) (fun j=>⟨[(3,.pv (.int .i64 q)),(4,.pv (.ai v (Dh g M))),(5,.pv (.int .i64 k)),(7,.ptr 7 0),(12,.ptr 12 0),(14,.pv (.ai 0 (bG (aH a p)))),(15,.pv (.int .i64 j))],⟨[(7,[.pv (.int .i64 n'),.pv (.int .i64 s'),.pv (.ai u (b.map Edge.c))]),(12,[.pv (.bool false),.pv (.int .i64 0)])],[],[]⟩⟩) rfl (fun j e he hj hf=>?_) (fun hno=>?_)
 .obtain⟨t0,t1⟩:=hta e (List.mem_filter.1 (Tf he)).1
  simp(disch:=omega)only[go_sem]
  refine Br.aB (fun h=>?_) (fun h=>(h (by omega)).elim)
  simp(disch:=omega)only[go_sem,he,h39]
  cases hn:aU q e.send e.label b with
  |none=>
   have hp:pJ b M q k e=false:=by unfold pJ; rw[hn]
   simp(disch:=omega)only[go_sem,Option.isSome_none]
   exact aN.of hp rfl
  |some m=>
   have hp:pJ b M q k e=decide (mz M e.to m=k):=by unfold pJ; rw[hn]
   have hmb:0<=m/\m<(nb:Int):=by
    have:∀{es:List Edge},(∀e∈es,0<=e.to/\e.to<(nb:Int))->aU q e.send e.label es=some m->0<=m/\m<(nb:Int):=by
     intro es
     induction es with
     |nil=>intro _ hh; cases hh
     |cons x es ih=>
      intro hh h2
      unfold aU at h2
      split at h2
      .cases h2
       exact hh x (by simp)
      .exact ih (fun y hy=>hh y (by simp[hy])) h2
    exact this htb hn
   obtain⟨l,g1,g2,g3⟩:=hM.get (p:=e.to) (q:=m) ⟨t0,t1⟩ hmb
   obtain⟨m0,m1⟩:=hmb
   simp(disch:=omega)only[go_sem,he,Option.isSome_some,Option.getD_some,dv,g1,g3]
   refine Br.aB (fun f=>?_) (fun f=>?_)<;>simp(disch:=omega)only[go_sem,he]
   .have:=(hf (by rw[hp]; simp[f])).find
    have hle:iC a b M p q k=some e:=this
    rw[hle]
    rfl
   .exact aN.of (by rw[hp]; simp[f]) rfl
 .simp(disch:=omega)only[go_sem]
  have hle:iC a b M p q k=none:=hno.find
  rw[hle]
  rfl
def ownRow (nb p:Nat):V:=.own (p+1) 0 0 nb
def jZ (na nb m:Nat):List V:=dF (ownRow nb) (.tl []) (List.range na) m
theorem kV {na nb m:Nat} (h:m<=na):(jZ na nb m).length=na:=by
 have:=iz (ownRow nb) (.tl []) (List.range na) (k:=m) (by simpa using h)
 rw[Tv]at this
 exact this
theorem Bf (na nb:Nat):jZ na nb 0=List.replicate na (.tl []):=by
 unfold jZ
 rw[iP,Tv]
theorem Di {na nb m:Nat} (h:m<na):(jZ na nb m).set m (.own (m+1) 0 0 nb)=jZ na nb (m+1):=iA (f:=ownRow nb) (T9 h)
theorem w8 {na nb m i:Nat} (h:i<m) (hm:m<=na):(jZ na nb m)[i]?=some (.own (i+1) 0 0 nb):=sg (f:=ownRow nb) h (T9 (by omega))
def yO (r:List Int):aR:=⟨0,1,.inl (ints r)⟩
def u0 (M:List (List Int)):List aR:=M.map yO
@[go_sem] theorem QN (M:List (List Int)):(u0 M).length=M.length:=by simp[u0]
@[go_sem] theorem zP (M:List (List Int)) (i:Nat):(u0 M)[i]?=M[i]?.map fun r=>⟨0,1,.inl (ints r)⟩:=by
 unfold u0
 rw[To]
 rfl
@[go_sem] theorem QO (M:List (List Int)) (i:Nat) (r:List Int):(u0 M).set i ⟨0,1,.inl (ints r)⟩=u0 (M.set i r):=by simp[u0,yO,List.map_set]
@[go_sem] theorem Po (M:List (List Int)) (r:List Int):u0 M++[⟨0,1,.inl (ints r)⟩]=u0 (M++[r]):=by simp[u0,yO]
theorem Dj (na nb:Nat):jZ na nb na=(List.range na).map (ownRow nb):=by
 have:=jX (ownRow nb) (.tl []) (List.range na)
 rw[Tv]at this
 exact this
theorem w9 {α:Type} {na nb:Nat} {M:List (List Int)} (hM:fC na nb M) (f:V->Option α) (g:List Int->α) (hf:∀p r,M[p]?=some r->f (.own (p+1) 0 0 nb)=some (g r)):az (az f) (bf (jZ na nb na))=some (M.map fun r=>[g r]):=by
 rw[Dj]
 have key:∀(k:Nat) (N:List (List Int)),N.length=k->(∀p r,N[p]?=some r->f (.own (p+1) 0 0 nb)=some (g r))->az (az f) (bf ((List.range k).map (ownRow nb)))=some (N.map fun r=>[g r]):=by
  intro k
  induction k with
  |zero=>
   intro N hN _
   have:N=[]:=Tx hN
   subst this
   rfl
  |succ k ih=>
   intro N hN hf
   obtain⟨N',r,rfl⟩:∃N' r,N=N'++[r]:=⟨N.dropLast,N.getLast (by intro e; rw[e]at hN; simp at hN),(List.dropLast_concat_getLast _).symm⟩
   have hl:N'.length=k:=by simpa using hN
   have h1:=ih N' hl fun p r hr=>hf p r (by rw[Tp (Tg.1 hr).1]; exact hr)
   have h2:=hf k r (by rw[List.getElem?_append_right (by omega),hl]; simp)
   rw[List.range_succ,TI]
   have happ:∀(a b:List (List V)) (ra rb:List (List α)),az (az f) a=some ra->az (az f) b=some rb->az (az f) (a++b)=some (ra++rb):=by
    intro a
    induction a with
    |nil=>intro b ra rb h1 h2; cases h1; exact h2
    |cons x a ih=>
     intro b ra rb h1 h2
     simp only[az]at h1
     split at h1
     .rename_i y l' e1 e2
      cases h1
      simp only[List.cons_append,az,e1,ih b l' rb e2 h2]
     .cases h1
   have h3:az (az f) (bf [ownRow nb k])=some [[g r]]:=by
    simp[bf,az,ownRow,h2]
   have h4:=happ _ _ _ _ h1 h3
   rw[TI]
   show az (az f) (bf ((List.range k).map (ownRow nb)++[ownRow nb k]))=_
   unfold bf at h4 |-
   rw[TI]
   exact h4
 exact key na M hM.len hf
theorem Dk {na nb:Nat} {M:List (List Int)} (hM:fC na nb M) (bx:List (Nat×List V)) (a0:aR) (d:Nat):az (az (aQ ⟨bx,a0::u0 M,[]⟩ (d+1))) (bf (jZ na nb na))=some (Dh (fun _=>1) M):=
 w9 hM (aQ ⟨bx,a0::u0 M,[]⟩ (d+1)) (fun r=>PV.ai 1 (ints r)) fun p r hr=>by
  have h1:=hM.row r (Tf hr)
  have h2:(ints r).take nb=ints r:=Ts (by rw[bq]; omega)
  simp[aQ,aE,zP,hr,aI,h2]
theorem Dl {na nb:Nat} {M:List (List Int)} (hM:fC na nb M) (bx:List (Nat×List V)) (a0:aR) (d:Nat):az (az (bw ⟨bx,a0::u0 M,[]⟩ (d+1))) (bf (jZ na nb na))=some (QJ M):=
 w9 hM (bw ⟨bx,a0::u0 M,[]⟩ (d+1)) (fun r=>PV.ai 0 (ints r)) fun p r hr=>by
  have h1:=hM.row r (Tf hr)
  have h2:(ints r).take nb=ints r:=Ts (by rw[bq]; omega)
  simp[fJ,aE,zP,hr,aI,h2,cr]
def zQ (a b:List Edge) (p q:Int):Bool:=(kU a b p q).isSome||(kU b a q p).isSome
def D0 (c:Bool):Int:=if c=true then 1 else 0
def Bg (a b:List Edge) (nb p q:Nat):List Int:=dF (fun(q:Nat)=>D0 (zQ a b p q)) 0 (List.range nb) q
theorem zR {a b:List Edge} {nb p q:Nat} (h:q<=nb):(Bg a b nb p q).length=nb:=by
 have:=iz (fun(q:Nat)=>D0 (zQ a b p q)) 0 (List.range nb) (k:=q) (by simpa using h)
 rw[Tv]at this
 exact this
theorem Dm (a b:List Edge) (nb p:Nat):Bg a b nb p 0=List.replicate nb 0:=by
 unfold Bg
 rw[iP,Tv]
theorem Fc {a b:List Edge} {nb p q:Nat} (h:q<nb):(Bg a b nb p q).set q (D0 (zQ a b p q))=Bg a b nb p (q+1):=iA (f:=fun(q:Nat)=>D0 (zQ a b p q)) (T9 h)
theorem xa {α β:Type} {f:α->β} {y:β} {l:List α} {k:Nat} {x:α} (h:l[k]?=some x) (hf:f x=y):dF f y l (k+1)=dF f y l k:=by
 have hk:=(Tg.1 h).1
 rw[<- iA h,hf]
 apply TW
 intro i
 by_cases e:k=i
 .subst e
  rw[TR (by rw[iz _ _ _ (by omega)]; exact hk)]
  unfold dF
  rw[List.getElem?_append_right (by simp; omega),List.getElem?_replicate,if_pos (by simp; omega)]
 .rw[T7 e]
theorem Dn {a b:List Edge} {nb p q:Nat} (h:q<nb) (hf:zQ a b p q=false):Bg a b nb p (q+1)=Bg a b nb p q:=xa (f:=fun(q:Nat)=>D0 (zQ a b p q)) (List.getElem?_range h) (by simp[hf,D0])
def jr (a b:List Edge) (nb m:Nat):List (List Int):=(List.range m).map fun p=>Bg a b nb p nb
theorem tX (a b:List Edge) (nb m:Nat):(jr a b nb m).length=m:=by simp[jr]
theorem yP (a b:List Edge) (nb m:Nat):jr a b nb (m+1)=jr a b nb m++[Bg a b nb m nb]:=by simp[jr,List.range_succ]
theorem xb (a b:List Edge) (nb m:Nat):fC m nb (jr a b nb m):=⟨tX a b nb m,fun l hl=>by
 obtain⟨p,_,rfl⟩:=TA.1 hl
 exact zR (Tj _)⟩
def xc (M:List (List Int)) (p q:Nat) (v:Int):List (List Int):=M.set p ((M.getD p []).set q v)
theorem zS {na nb p q:Nat} {M:List (List Int)} {v:Int} (h:fC na nb M) (hp:p<na):fC na nb (xc M p q v) where
 len:=by unfold xc; rw[Ua]; exact h.len
 row l hl:=by
  rcases Un hl with hl|rfl
  .exact h.row l hl
  .rw[Ua]
   have:M[p]?=some (M.getD p []):=by
    have:p<M.length:=by rw[h.len]; exact hp
    simp[this]
   exact h.row _ (Tf this)
def nO (a b:List Edge) (k:Int) (p:Nat) (M:List (List Int)) (q:Nat):List (List Int):=if (iC a b M p q k).isSome=true/\mz M p q=0 then xc M p q (k+1) else M
def Fe (a b:List Edge) (nb:Nat) (k:Int) (M:List (List Int)) (p:Nat):List (List Int):=(List.range nb).foldl (nO a b k p) M
def u5 (a b:List Edge) (na nb:Nat) (k:Int) (M:List (List Int)):List (List Int):=(List.range na).foldl (Fe a b nb k) M
def nP (a b:List Edge) (na nb:Nat):Nat->List (List Int)
 |0=>jr a b nb na
 |j+1=>u5 a b na nb ((j+1:Nat):Int) (nP a b na nb j)
def differ (a b:aO):List (List Int):=nP a.aa b.aa a.af.toNat b.af.toNat (a.af.toNat*b.af.toNat)
set_option maxHeartbeats 8000000 in
@[go_sem] theorem r31 (t u:Nat) (a b:aO) (hga:a.Good) (hgb:b.Good):
  res A ay 31 [.agg [.int .i64 a.af,.int .i64 a.start,.ai t (a.aa.map Edge.c)],.agg [.int .i64 b.af,.int .i64 b.start,.ai u (b.aa.map Edge.c)]]=some [.ai 0 (QJ (differ a b))]:=by
 refine aq a31 rfl rfl ?_
 simp only[F31,Ru]
 have hfa:∀e∈a.aa,0<=e.to/\e.to<(a.af.toNat:Int):=fun e he=>by have:=ew.1 (hga.fit e he); omega
 have hfb:∀e∈b.aa,0<=e.to/\e.to<(b.af.toNat:Int):=fun e he=>by have:=ew.1 (hgb.fit e he); omega
 obtain⟨sa,ma,la,_,_⟩:=hga
 obtain⟨sb,mb,lb,_,_⟩:=hgb
 have hd:differ a b=nP a.aa b.aa a.af.toNat b.af.toNat (a.af.toNat*b.af.toNat):=rfl
 rw[hd]
 clear hd
 obtain⟨za,ast,ae⟩:=a
 obtain⟨zb,bst,be⟩:=b
 dsimp only at *
 obtain⟨na,rfl⟩:=T6 (show 0<=za by omega)
 obtain⟨nb,rfl⟩:=T6 (show 0<=zb by omega)
 simp only[Int.toNat_natCast]at hfa hfb |-
 have hN:(na:Int)*(nb:Int)=((na*nb:Nat):Int):=by simp
 have hNb:na*nb<=144:=UM (show na<=12 by omega) (show nb<=12 by omega)
 generalize hNN:na*nb=N at hN hNb
 simp(disch:=omega)only[go_sem]
 refine W.du na (fun m=>⟨[(2,.ptr 2 0),(3,.ptr 3 0),(5,.own 0 0 0 na),(6,.pv (.int .i64 m))],⟨[(2,[.pv (.int .i64 (na:Int)),.pv (.int .i64 ast),.pv (.ai t (ae.map Edge.c))]),(3,[.pv (.int .i64 (nb:Int)),.pv (.int .i64 bst),.pv (.ai u (be.map Edge.c))])],⟨0,1,.inr (bf (jZ na nb m))⟩::u0 (jr ae be nb m),[]⟩⟩) (fun _=>True) (by rw[Bf]; rfl) trivial fun m hm _=>?_
 have hxl:=kV (nb:=nb) hm
 have hbl:=tX ae be nb m
 simp(disch:=omega)only[go_sem]
 refine Br.aB (fun h=>?_) (fun h=>?_)
 .have hxs:=Di (na:=na) (nb:=nb) (m:=m) (by omega)
  simp(disch:=omega)only[go_sem,hbl,hxs]
  have hg1:∀w:List Int,(jr ae be nb m++[w])[m]?=some w:=fun w=>by rw[List.getElem?_append_right (by omega),hbl]; simp
  have hg2:∀w w':List Int,(jr ae be nb m++[w]).set m w'=jr ae be nb m++[w']:=fun w w'=>by rw[List.set_append_right _ _ (by omega),hbl]; simp
  have hxg:=w8 (na:=na) (nb:=nb) (m:=m+1) (i:=m) (by omega) (by omega)
  have hxl':=kV (na:=na) (nb:=nb) (m:=m+1) (by omega)
  refine W.du nb (fun q=>⟨[(2,.ptr 2 0),(3,.ptr 3 0),(5,.own 0 0 0 na),(6,.pv (.int .i64 m)),(7,.pv (.int .i64 q))],⟨[(2,[.pv (.int .i64 (na:Int)),.pv (.int .i64 ast),.pv (.ai t (ae.map Edge.c))]),(3,[.pv (.int .i64 (nb:Int)),.pv (.int .i64 bst),.pv (.ai u (be.map Edge.c))])],⟨0,1,.inr (bf (jZ na nb (m+1)))⟩::u0 (jr ae be nb m++[Bg ae be nb m q]),[]⟩⟩) (fun _=>True) ?_ trivial fun q hq _=>?_
  .rw[Dm]
   rfl
  have hbt:=zR (a:=ae) (b:=be) (p:=m) hq
  simp(disch:=omega)only[go_sem]
  refine Br.aB (fun h=>?_) (fun h=>?_)
  .have hset:=Fc (a:=ae) (b:=be) (p:=m) (show q<nb by omega)
   have hsame:=Dn (a:=ae) (b:=be) (p:=m) (show q<nb by omega)
   have hset1:zQ ae be m q=true->(Bg ae be nb m q).set q 1=Bg ae be nb m (q+1):=fun hc=>by rw[<- hset,hc]; rfl
   have hlk:zQ ae be m q=((kU ae be m q).isSome||(kU be ae q m).isSome):=rfl
   simp(disch:=omega)only[go_sem]
   refine Br.of (fun f1=>?_) (fun f1=>?_)<;>simp(disch:=omega)only[go_sem,f1]
   .rw[f1,Bool.true_or]at hlk
    simp(disch:=omega)only[go_sem,hxg,hg1,hg2,hset1 hlk]
    exact .of (by omega) rfl trivial
   .refine Br.of (fun f2=>?_) (fun f2=>?_)<;>simp(disch:=omega)only[go_sem,f2]
    .rw[f1,f2,Bool.false_or]at hlk
     simp(disch:=omega)only[go_sem,hxg,hg1,hg2,hset1 hlk]
     exact .of (by omega) rfl trivial
    .rw[f1,f2,Bool.false_or]at hlk
     refine .of (by omega) ?_ trivial
     show _=St.mk _ _
     rw[hsame hlk]
     rfl
  .obtain rfl:q=nb:=by omega
   simp(disch:=omega)only[go_sem]
   refine .of (by omega) ?_ trivial
   show _=St.mk _ _
   rw[yP]
   rfl
 .obtain rfl:m=na:=by omega
  clear h hxl hbl
  simp(disch:=omega)only[go_sem]
  refine W.du N (fun j=>⟨[(2,.ptr 2 0),(3,.ptr 3 0),(5,.own 0 0 0 m),(12,.pv (.int .i64 (j+1:Nat)))],⟨[(2,[.pv (.int .i64 (m:Int)),.pv (.int .i64 ast),.pv (.ai t (ae.map Edge.c))]),(3,[.pv (.int .i64 (nb:Int)),.pv (.int .i64 bst),.pv (.ai u (be.map Edge.c))])],⟨0,1,.inr (bf (jZ m nb m))⟩::u0 (nP ae be m nb j),[]⟩⟩) (fun j=>fC m nb (nP ae be m nb j)) rfl (xb ae be nb m) fun j hj hM=>?_
  simp(disch:=omega)only[go_sem,hN]
  refine Br.aB (fun h=>?_) (fun h=>?_)
  .simp(disch:=omega)only[go_sem]
   refine W.tM m (Fe ae be nb ((j+1:Nat):Int)) (nP ae be m nb j) (fun p M=>⟨[(2,.ptr 2 0),(3,.ptr 3 0),(5,.own 0 0 0 m),(12,.pv (.int .i64 (j+1:Nat))),(13,.pv (.int .i64 p))],⟨[(2,[.pv (.int .i64 (m:Int)),.pv (.int .i64 ast),.pv (.ai t (ae.map Edge.c))]),(3,[.pv (.int .i64 (nb:Int)),.pv (.int .i64 bst),.pv (.ai u (be.map Edge.c))])],⟨0,1,.inr (bf (jZ m nb m))⟩::u0 M,[]⟩⟩) (fun _ M=>fC m nb M) rfl hM (fun p M hp _ hM=>?_) (fun M hMe hM=>?_)
   .simp(disch:=omega)only[go_sem]
    refine Br.aB (fun h=>?_) (fun h=>(h (by omega)).elim)
    simp(disch:=omega)only[go_sem]
    refine W.tM nb (nO ae be ((j+1:Nat):Int) p) M (fun q M=>⟨[(2,.ptr 2 0),(3,.ptr 3 0),(5,.own 0 0 0 m),(12,.pv (.int .i64 (j+1:Nat))),(13,.pv (.int .i64 p)),(14,.pv (.int .i64 q))],⟨[(2,[.pv (.int .i64 (m:Int)),.pv (.int .i64 ast),.pv (.ai t (ae.map Edge.c))]),(3,[.pv (.int .i64 (nb:Int)),.pv (.int .i64 bst),.pv (.ai u (be.map Edge.c))])],⟨0,1,.inr (bf (jZ m nb m))⟩::u0 M,[]⟩⟩) (fun _ M=>fC m nb M) rfl hM (fun q M hq _ hM=>?_) (fun M hMe hM=>?_)
    .obtain⟨l,e1,e2,e3⟩:=hM.get (p:=(p:Int)) (q:=(q:Int)) (by omega) (by omega)
     rw[T0]at e1 e3
     have hrt:(bf (jZ m nb m)).take m=bf (jZ m nb m):=Ts (by rw[jq,kV (Tj _)]; exact Tj _)
     have hld:=Dk hM
     have h41:=r41 t u 2 m nb (fun _=>1) (m:Int) ast (nb:Int) bst (p:Int) (q:Int) ((j+1:Nat):Int) ae be M (by omega) (by omega) hM hfa hfb
     have hxg:=w8 (na:=m) (nb:=nb) (m:=m) (i:=p) (by omega) (by omega)
     have hxl:=kV (na:=m) (nb:=nb) (Tj _)
     simp(disch:=omega)only[go_sem]
     refine Br.aB (fun h=>?_) (fun h=>(h (by omega)).elim)
     simp(disch:=omega)only[go_sem,hrt,hld,h41]
     have hsok:=zS (q:=q) (v:=((j+1:Nat):Int)+1) hM hp
     have hset:M.set p (l.set q (((j+1:Nat):Int)+1))=xc M p q (((j+1:Nat):Int)+1):=by
      unfold xc
      rw[TC,e1]
      rfl
     refine Br.of (fun f1=>?_) (fun f1=>?_)<;>simp(disch:=omega)only[go_sem,f1,hxg,e1,e3]
     .refine Br.aB (fun f2=>?_) (fun f2=>?_)<;>simp(disch:=omega)only[go_sem,f2,hxg,e1,hset]
      .have hst:nO ae be ((j+1:Nat):Int) p M q=xc M p q (((j+1:Nat):Int)+1):=if_pos ⟨f1,f2⟩
       rw[hst]
       exact bQ.of rfl hsok
      .have hst:nO ae be ((j+1:Nat):Int) p M q=M:=if_neg (fun hc=>f2 hc.2)
       rw[hst]
       exact bQ.of rfl hM
     .have hst:nO ae be ((j+1:Nat):Int) p M q=M:=if_neg (fun hc=>by rw[f1]at hc; cases hc.1)
      rw[hst]
      exact bQ.of rfl hM
    .simp(disch:=omega)only[go_sem]
     have hr:Fe ae be nb ((j+1:Nat):Int) _ p=M:=hMe.symm
     rw[hr]
     exact bQ.of rfl hM
   .simp(disch:=omega)only[go_sem]
    have hr:nP ae be m nb (j+1)=M:=hMe.symm
    refine .of (by omega) ?_ (by rw[hr]; exact hM)
    show _=St.mk _ _
    rw[hr]
    rfl
  .obtain rfl:j=N:=by omega
   have hrt:(bf (jZ m nb m)).take m=bf (jZ m nb m):=Ts (by rw[jq,kV (Tj _)]; exact Tj _)
   have hkp:=Dl hM
   simp(disch:=omega)only[go_sem,hrt,hkp]
def kW (w nb p:Nat):V:=.own (p+1) w 0 nb
def nQ (w na nb m:Nat):List V:=dF (kW w nb) (.tl []) (List.range na) m
theorem eB {w na nb m:Nat} (h:m<=na):(nQ w na nb m).length=na:=by
 have:=iz (kW w nb) (.tl []) (List.range na) (k:=m) (by simpa using h)
 rw[Tv]at this
 exact this
theorem xd (w na nb:Nat):nQ w na nb 0=List.replicate na (.tl []):=by
 unfold nQ
 rw[iP,Tv]
theorem zT {w na nb m:Nat} (h:m<na):(nQ w na nb m).set m (.own (m+1) w 0 nb)=nQ w na nb (m+1):=iA (f:=kW w nb) (T9 h)
theorem qn {w na nb m i:Nat} (h:i<m) (hm:m<=na):(nQ w na nb m)[i]?=some (.own (i+1) w 0 nb):=sg (f:=kW w nb) h (T9 (by omega))
theorem Ff (w na nb:Nat):nQ w na nb na=(List.range na).map (kW w nb):=by
 have:=jX (kW w nb) (.tl []) (List.range na)
 rw[Tv]at this
 exact this
def lS (w:Nat) (M:List (List Bool)):List aR:=M.map fun r=>⟨w,1,.inl (bD r)⟩
@[go_sem] theorem Fg (w:Nat) (M:List (List Bool)):(lS w M).length=M.length:=by simp[lS]
@[go_sem] theorem zU (w:Nat) (M:List (List Bool)) (i:Nat):(lS w M)[i]?=M[i]?.map fun r=>⟨w,1,.inl (bD r)⟩:=by
 unfold lS
 rw[To]
@[go_sem] theorem QP (w:Nat) (M:List (List Bool)) (i:Nat) (r:List Bool):(lS w M).set i ⟨w,1,.inl (bD r)⟩=lS w (M.set i r):=by simp[lS,List.map_set]
@[go_sem] theorem Dp (w:Nat) (M:List (List Bool)) (r:List Bool):lS w M++[⟨w,1,.inl (bD r)⟩]=lS w (M++[r]):=by simp[lS]
theorem tY {α:Type} {w na nb:Nat} {M:List (List Bool)} (hM:j9 na nb M) (f:V->Option α) (g:List Bool->α) (hf:∀p r,M[p]?=some r->f (.own (p+1) w 0 nb)=some (g r)):az (az f) (bf (nQ w na nb na))=some (M.map fun r=>[g r]):=by
 rw[Ff]
 have key:∀(k:Nat) (N:List (List Bool)),N.length=k->(∀p r,N[p]?=some r->f (.own (p+1) w 0 nb)=some (g r))->az (az f) (bf ((List.range k).map (kW w nb)))=some (N.map fun r=>[g r]):=by
  intro k
  induction k with
  |zero=>
   intro N hN _
   have:N=[]:=Tx hN
   subst this
   rfl
  |succ k ih=>
   intro N hN hf
   obtain⟨N',r,rfl⟩:∃N' r,N=N'++[r]:=⟨N.dropLast,N.getLast (by intro e; rw[e]at hN; simp at hN),(List.dropLast_concat_getLast _).symm⟩
   have hl:N'.length=k:=by simpa using hN
   have h1:=ih N' hl fun p r hr=>hf p r (by rw[Tp (Tg.1 hr).1]; exact hr)
   have h2:=hf k r (by rw[List.getElem?_append_right (by omega),hl]; simp)
   have happ:∀(a b:List (List V)) (ra rb:List (List α)),az (az f) a=some ra->az (az f) b=some rb->az (az f) (a++b)=some (ra++rb):=by
    intro a
    induction a with
    |nil=>intro b ra rb h1 h2; cases h1; exact h2
    |cons x a ih=>
     intro b ra rb h1 h2
     simp only[az]at h1
     split at h1
     .rename_i y l' e1 e2
      cases h1
      simp only[List.cons_append,az,e1,ih b l' rb e2 h2]
     .cases h1
   have h3:az (az f) (bf [kW w nb k])=some [[g r]]:=by
    simp[bf,az,kW,h2]
   have h4:=happ _ _ _ _ h1 h3
   rw[TI,List.range_succ,TI]
   show az (az f) (bf ((List.range k).map (kW w nb)++[kW w nb k]))=_
   unfold bf at h4 |-
   rw[TI]
   exact h4
 exact key na M hM.len hf
theorem tZ {w na nb:Nat} {M:List (List Bool)} (hM:j9 na nb M) (bx:List (Nat×List V)) (a0:aR) (d:Nat):az (az (aQ ⟨bx,a0::lS w M,[]⟩ (d+1))) (bf (nQ w na nb na))=some (rZ (fun _=>1) M):=
 tY hM (aQ ⟨bx,a0::lS w M,[]⟩ (d+1)) (fun r=>PV.ai 1 (bD r)) fun p r hr=>by
  have h1:=hM.row r (Tf hr)
  have h2:(bD r).take nb=bD r:=Ts (by rw[gJ]; omega)
  simp[aQ,aE,zU,hr,aI,h2]
theorem ua {w na nb:Nat} {M:List (List Bool)} (hM:j9 na nb M) (bx:List (Nat×List V)) (a0:aR) (d:Nat):az (az (bw ⟨bx,a0::lS w M,[]⟩ (d+1))) (bf (nQ w na nb na))=some (rZ (fun _=>0) M):=
 tY hM (bw ⟨bx,a0::lS w M,[]⟩ (d+1)) (fun r=>PV.ai 0 (bD r)) fun p r hr=>by
  have h1:=hM.row r (Tf hr)
  have h2:(bD r).take nb=bD r:=Ts (by rw[gJ]; omega)
  simp[fJ,aE,zU,hr,aI,h2,cr]
noncomputable def gj (A B:List aD) (m:Nat):List (List Bool):=(A.take m).map fun x=>B.map (cK x)
noncomputable def je (A B:List aD):Rel:=fun M p q=>w5 M (ns A p) (ns B q)
noncomputable def sP (A B:List aD):List (List Bool):=w6 (je A B) A.length B.length (gj A B A.length)
theorem nR (A B:List aD) {m:Nat} (h:m<=A.length):j9 m B.length (gj A B m):=⟨by simp[gj]; omega,fun l hl=>by
 obtain⟨x,_,rfl⟩:=TA.1 hl
 exact Tl _⟩
theorem ub (A B:List aD) {m:Nat} {x:aD} (h:A[m]?=some x):gj A B (m+1)=gj A B m++[B.map (cK x)]:=by
 unfold gj
 rw[TM,h,TI]
 rfl
theorem gk {A:List aD} {p:Nat} {x:aD} (h:A[p]?=some x):ns A p=x:=by
 have:=(Tg.1 h).1
 have h2:=AL (l:=A) (i:=p) (by omega) (by omega)
 rw[T0,h]at h2
 exact(Option.some.inj h2).symm
def Below (A B:List aD) (M:List (List Bool)):Prop:=∀p q:Nat,fq M p q=true->cK (ns A p) (ns B q)=true
theorem sh {A B:List aD} {p q:Nat} (h:fq (gj A B A.length) p q=true):cK (ns A p) (ns B q)=true:=by
 unfold fq gj at h
 simp only[Int.toNat_natCast,List.take_length,List.getD_eq_getElem?_getD,List.getElem?_map]at h
 cases hx:A[p]? with
 |none=>simp[hx]at h
 |some x=>
  rw[hx]at h
  simp only[Option.map_some,Option.getD_some,List.getElem?_map]at h
  cases hy:B[q]? with
  |none=>simp[hy]at h
  |some y=>
   rw[hy]at h
   rw[gk hx,gk hy]
   exact h
theorem Below.set {A B:List aD} {na nb p q:Nat} {M:List (List Bool)} (h:Below A B M) (hM:j9 na nb M) (hp:p<na) (hq:q<nb):Below A B (mu M p q):=fun p' q' he=>by
 rw[Dd hM hp hq]at he
 split at he
 .cases he
 .exact h p' q' he
structure xe (A:List aD):Prop where
 ok:∀t∈A,t.ok
 short:∀t∈A,t.short
 len:A.length<=32
 kind:∀t∈A,t.kind<=9
 use:∀t∈A,Pm A.length (gO t)
theorem Bh {t:aD} {u:Int×Int} (h:u∈gO t) (h9:1<=t.kind/\t.kind<=9):u.2∈cY t:=by
 unfold gO gh at h
 rcases TO.1 h with h|h
 .rcases TO.1 h with h|h
  .obtain⟨m,hm,rfl⟩:=TA.1 h
   exact rR hm
  .split at h
   .rename_i hk
    simp only[List.mem_singleton]at h
    subst h
    unfold cY rE
    simp[hk]
   .simp at h
 .split at h
  .rename_i hk
   simp only[List.mem_singleton]at h
   subst h
   exact oV (by omega)
  .simp at h
set_option maxHeartbeats 16000000 in
theorem r493 (t u:Nat) (A0 B0:List aD) (hA:xe A0) (hB:xe B0):res A ay 493 [.agg [.ai t (A0.map aD.c)],.agg [.ai u (B0.map aD.c)],.bool false]=some [.ai 0 (rZ (fun _=>0) (sP A0 B0))]:=by
 have la:=hA.len
 have lb:=hB.len
 obtain⟨G,hG⟩:∃G,sP A0 B0=G:=⟨_,rfl⟩
 rw[hG]
 refine aq a493 rfl rfl ?_
 simp only[F493,Jx]
 simp(disch:=omega)only[go_sem]
 refine W.du A0.length (fun m=>⟨[(2,.pv (.bool false)),(3,.ptr 3 0),(4,.ptr 4 0),(7,.own 0 0 0 A0.length),(8,.pv (.int .i64 m))],⟨[(3,[.pv (.ai t (A0.map aD.c))]),(4,[.pv (.ai u (B0.map aD.c))])],⟨0,1,.inr (bf (nQ 0 A0.length B0.length m))⟩::lS 0 (gj A0 B0 m),[]⟩⟩) (fun _=>True) (by rw[xd]; rfl) trivial fun m hm _=>?_
 have hxl:=eB (w:=0) (nb:=B0.length) hm
 have hbl:=(nR A0 B0 hm).len
 simp(disch:=omega)only[go_sem]
 refine Br.aB (fun h=>?_) (fun h=>?_)
 .obtain⟨x,hx⟩:=get_some (l:=A0) (k:=m) (by omega)
  have hxs:=zT (w:=0) (na:=A0.length) (nb:=B0.length) (m:=m) (by omega)
  have hg1:∀w:List Bool,(gj A0 B0 m++[w])[m]?=some w:=fun w=>by rw[List.getElem?_append_right (by omega),hbl]; simp
  have hg2:∀w w':List Bool,(gj A0 B0 m++[w]).set m w'=gj A0 B0 m++[w']:=fun w w'=>by rw[List.set_append_right _ _ (by omega),hbl]; simp
  have hxg:=qn (w:=0) (na:=A0.length) (nb:=B0.length) (m:=m+1) (i:=m) (by omega) (by omega)
  have hxl':=eB (w:=0) (na:=A0.length) (nb:=B0.length) (m:=m+1) (by omega)
  simp(disch:=omega)only[go_sem,hbl,hxs]
  refine W.du B0.length (fun q=>⟨[(2,.pv (.bool false)),(3,.ptr 3 0),(4,.ptr 4 0),(7,.own 0 0 0 A0.length),(8,.pv (.int .i64 m)),(9,.pv (.int .i64 q))],⟨[(3,[.pv (.ai t (A0.map aD.c))]),(4,[.pv (.ai u (B0.map aD.c))])],⟨0,1,.inr (bf (nQ 0 A0.length B0.length (m+1)))⟩::lS 0 (gj A0 B0 m++[dF (cK x) false B0 q]),[]⟩⟩) (fun _=>True) ?_ trivial fun q hq _=>?_
  .rw[iP]
   rfl
  have hbt:=iz (cK x) false B0 hq
  simp(disch:=omega)only[go_sem,hxg,hg1]
  refine Br.aB (fun h=>?_) (fun h=>?_)
  .obtain⟨y,hy⟩:=get_some (l:=B0) (k:=q) (by omega)
   have h500:=r500 x y (hA.ok x (Tf hx)) (hB.ok y (Tf hy))
   have hset:=iA (f:=cK x) (y:=false) hy
   generalize cK x y=e at h500 hset
   unfold aD.c at h500
   simp(disch:=omega)only[go_sem,hx,hy,Option.map_some,aD.c,h500,hxg,hg1,hg2]
   refine .of (by omega) ?_ trivial
   show _=St.mk _ _
   rw[hset]
   rfl
  .obtain rfl:q=B0.length:=by omega
   simp(disch:=omega)only[go_sem]
   refine .of (by omega) ?_ trivial
   show _=St.mk _ _
   rw[ub _ _ hx,jX]
   rfl
 .obtain rfl:m=A0.length:=by omega
  clear h hxl hbl
  simp(disch:=omega)only[go_sem]
  generalize hna:A0.length=na at *
  generalize hnb:B0.length=nb at *
  have hM0:j9 na nb (gj A0 B0 na):=by
   have:=nR A0 B0 (Tj _)
   rw[hna,hnb]at this
   exact this
  have hB0:Below A0 B0 (gj A0 B0 na):=fun p q he=>by
   rw[<- hna]at he
   exact sh he
  have hG':w6 (je A0 B0) na nb (gj A0 B0 na)=G:=by
   rw[<- hG,<- hna,<- hnb]
   rfl
  refine W.wX (fun(s:List (List Bool)×Bool)=>⟨[(3,.ptr 3 0),(4,.ptr 4 0),(7,.own 0 0 0 na),(10,.pv (.bool s.2))],⟨[(3,[.pv (.ai t (A0.map aD.c))]),(4,[.pv (.ai u (B0.map aD.c))])],⟨0,1,.inr (bf (nQ 0 na nb na))⟩::lS 0 s.1,[]⟩⟩) (fun s=>E8 G (je A0 B0) na nb s/\Below A0 B0 s.1) Be (gj A0 B0 na,true) rfl ⟨⟨hM0,hG'⟩,hB0⟩ fun s hs=>?_
  obtain⟨M,f⟩:=s
  obtain⟨hs,hb⟩:=hs
  dsimp only at hb
  cases f with
  |false=>
   have hrt:(bf (nQ 0 na nb na)).take na=bf (nQ 0 na nb na):=Ts (by rw[jq,eB (Tj _)]; exact Tj _)
   have hkp:=ua (w:=0) hs.1
   have hMG:M=G:=hs.2
   subst hMG
   simp(disch:=omega)only[go_sem,hrt,hkp]
  |true=>
   have hM:=hs.1
   dsimp only at hM
   simp(disch:=omega)only[go_sem]
   refine W.tM na (yL (je A0 B0) nb) (M,false) (fun p s=>⟨[(3,.ptr 3 0),(4,.ptr 4 0),(7,.own 0 0 0 na),(10,.pv (.bool s.2)),(11,.pv (.int .i64 p))],⟨[(3,[.pv (.ai t (A0.map aD.c))]),(4,[.pv (.ai u (B0.map aD.c))])],⟨0,1,.inr (bf (nQ 0 na nb na))⟩::lS 0 s.1,[]⟩⟩) (fun _ s=>j9 na nb s.1/\Below A0 B0 s.1) rfl ⟨hM,hb⟩ (fun p s hp _ hi=>?_) (fun s hse hi=>?_)
   .have hxl:=eB (w:=0) (na:=na) (nb:=nb) (Tj _)
    simp(disch:=omega)only[go_sem]
    refine Br.aB (fun h=>?_) (fun h=>(h (by omega)).elim)
    simp(disch:=omega)only[go_sem]
    refine W.tM nb (xn (je A0 B0) p) s (fun q s=>⟨[(3,.ptr 3 0),(4,.ptr 4 0),(7,.own 0 0 0 na),(10,.pv (.bool s.2)),(11,.pv (.int .i64 p)),(12,.pv (.int .i64 q))],⟨[(3,[.pv (.ai t (A0.map aD.c))]),(4,[.pv (.ai u (B0.map aD.c))])],⟨0,1,.inr (bf (nQ 0 na nb na))⟩::lS 0 s.1,[]⟩⟩) (fun _ s=>j9 na nb s.1/\Below A0 B0 s.1) rfl hi (fun q s hq _ hi=>?_) (fun s hse hi=>?_)
    .obtain⟨N,f⟩:=s
     obtain⟨hN,hNb⟩:=hi
     dsimp only at hN hNb
     obtain⟨l,e1,e2,e3⟩:=hN.get (p:=(p:Int)) (q:=(q:Int)) (by omega) (by omega)
     rw[T0]at e1 e3
     obtain⟨x,hx⟩:=get_some (l:=A0) (k:=p) (by omega)
     obtain⟨y,hy⟩:=get_some (l:=B0) (k:=q) (by omega)
     have hxm:=Tf hx
     have hym:=Tf hy
     have hrt:(bf (nQ 0 na nb na)).take na=bf (nQ 0 na nb na):=Ts (by rw[jq,eB (Tj _)]; exact Tj _)
     have hld:=tZ (w:=0) hN
     have hxg:=qn (w:=0) (na:=na) (nb:=nb) (m:=na) (i:=p) (by omega) (by omega)
     have hset:lS 0 (N.set p (l.set q false))=lS 0 (mu N p q):=by
      unfold mu
      rw[TC,e1]
      rfl
     have hst:xn (je A0 B0) p (N,f) q=if (fq N p q&&!w5 N x y)=true then (mu N p q,true) else (N,f):=by
      unfold xn je
      rw[gk hx,gk hy]
     have hbel:=hNb p q
     have hin:j9 na nb (xn (je A0 B0) p (N,f) q).1/\Below A0 B0 (xn (je A0 B0) p (N,f) q).1:=by
      refine⟨yN hN hp,?_⟩
      rw[hst]
      split
      .exact hNb.set hN hp hq
      .exact hNb
     simp(disch:=omega)only[go_sem,hxg,e1]
     refine Br.aB (fun h=>?_) (fun h=>(h (by omega)).elim)
     cases he:fq N p q with
     |false=>
      rw[he]at e3 hst
      rw[if_neg (by simp)]at hst
      simp(disch:=omega)only[go_sem,hxg,e1,e3]
      rw[hst]at hin |-
      exact bQ.of rfl hin
     |true=>
      rw[he]at e3 hst
      rw[TL]at hst
      have hal:=hbel he
      rw[gk hx,gk hy]at hal
      have h501:=r501 2 na nb (fun _=>1) x y N hN (by omega) ⟨hA.short x hxm,hA.kind x hxm⟩ ⟨hB.short y hym,hB.kind y hym⟩ (hna ▸ hA.use x hxm) (hnb ▸ hB.use y hym) (Bc hal)
      generalize w5 N x y=r at h501 hst
      unfold aD.c at h501
      simp(disch:=omega)only[go_sem,hxg,e1,e3,hx,hy,Option.map_some,aD.c,hrt,hld,h501]
      cases r with
      |true=>
       rw[if_neg (by simp)]at hst
       simp(disch:=omega)only[go_sem]
       rw[hst]at hin |-
       exact bQ.of rfl hin
      |false=>
       rw[if_pos (by simp)]at hst
       simp(disch:=omega)only[go_sem,hxg,e1,hset]
       rw[hst]at hin |-
       exact bQ.of rfl hin
    .obtain⟨l,e1⟩:=get_some (l:=s.1) (k:=p) (by have:=hi.1.len; omega)
     have e2:=hi.1.row l (Tf e1)
     have hxg:=qn (w:=0) (na:=na) (nb:=nb) (m:=na) (i:=p) (by omega) (by omega)
     have hr:yL (je A0 B0) nb _ p=s:=hse.symm
     simp(disch:=omega)only[go_sem,hxg,e1]
     rw[hr]
     exact bQ.of rfl hi
   .have hr:De (je A0 B0) na nb (M,false)=s:=hse.symm
    have hk:=w7 hs (Dg hs.1)
    rw[hr]at hk
    have hxl:=eB (w:=0) (na:=na) (nb:=nb) (Tj _)
    simp(disch:=omega)only[go_sem]
    exact⟨s,⟨hk.1,hi.2⟩,hk.2,rfl⟩
end Go.Pv
