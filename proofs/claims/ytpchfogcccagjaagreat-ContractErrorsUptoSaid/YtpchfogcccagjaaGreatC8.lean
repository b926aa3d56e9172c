/-
 What the functions of the law give.
-/
import Derived.Test.YtpchfogcccagjaaGreatC7
set_option linter.unusedSimpArgs false
set_option linter.unusedVariables false
open List renaming mem_of_getElem? → Tf, mem_cons → Tu, all_eq_true → TD, pairwise_cons → TF, mem_cons_of_mem → TJ, mem_append → TO, mem_cons_self → TP, append_assoc → TT, any_eq_false → TU, mem_append_left → TX, mem_append_right → Uc, mem_singleton → Ue, any_eq_true → Uf, foldl_cons → Uy, not_mem_nil → US
open Bool renaming true_and → TL, false_and → T1, and_false → Um, eq_false_iff → Us
open Option renaming isSome_iff_exists → T5
open Nat renaming mul_le_mul → UM
namespace Go.Pv
@[go_sem] theorem cw404 (vs:List V) (h:aw) (K:V->Tn->Prop):CW A ay 404 vs h K=CN A ay false 404 vs h K:=bA vs h K
theorem Bo {a b c d:Edge} (h1:a.act=c.act) (h2:b.act=d.act):dT a b=dT c d:=by
 simp only[Edge.act,Prod.mk.injEq]at h1 h2
 unfold dT
 rw[h1.1,h1.2,h2.1,h2.2]
theorem gV {a b:Edge} (h:a.act=b.act):dT a b=false:=by
 rw[Bo h rfl]
 simp[dT]
theorem xg {a b c:Edge} (h1:dT a b=true) (h2:dT b c=true):dT a c=true:=by
 unfold dT at *
 cases ha:a.send<;>cases hb:b.send<;>cases hc:c.send<;>simp_all<;>omega
theorem Bp {a b:Edge} (h1:dT a b=false) (h2:dT b a=false):a.act=b.act:=by
 unfold dT at *
 unfold Edge.act
 cases ha:a.send<;>cases hb:b.send<;>simp_all<;>omega
def Fu (l:List Edge):Prop:=l.Pairwise fun x y=>dT x y=true
theorem aO.Good.Fv {a:aO} (h:a.Good) (s:Int):Fu (aH a.aa s):=by
 unfold Fu aH
 rw[List.pairwise_filter]
 refine h.SB.imp ?_
 intro x y hxy hx hy
 simp only[beq_iff_eq]at hx hy
 unfold Edge.lt at hxy
 unfold dT
 rw[hx,hy]at hxy
 cases hs:x.send<;>cases ht:y.send<;>simp_all
theorem kX (o:Bool):∀(la lb:List Edge),Fu la->Fu lb->match lK o la lb with
  |none=>(∀x∈la,∃y∈lb,y.act=x.act)/\(o=false->∀y∈lb,∃x∈la,x.act=y.act)
  |some (e,w)=>(w=0/\e∈la/\∀y∈lb,y.act≠e.act)\/(w=1/\o=false/\e∈lb/\∀x∈la,x.act≠e.act)
 |[],[],_,_=>by
  rw[Dz]
  exact⟨fun x hx=>(US hx).elim,fun _ y hy=>(US hy).elim⟩
 |x::l,[],_,_=>by
  rw[DA]
  exact .inl ⟨rfl,by simp,fun y hy=>(List.not_mem_nil hy).elim⟩
 |[],y::m,ha,hb=>by
  rw[DB]
  cases o with
  |true=>
   rw[if_pos rfl]
   have h:=kX true [] m ha (TF.1 hb).2
   revert h
   cases lK true [] m with
   |none=>exact fun _=>⟨fun x hx=>(US hx).elim,fun h=>by cases h⟩
   |some r=>
    rintro (⟨_,h,_⟩|⟨_,h,_⟩)
    .cases h
    .cases h
  |false=>
   rw[if_neg (by simp)]
   exact .inr ⟨rfl,rfl,by simp,fun x hx=>(List.not_mem_nil hx).elim⟩
 |x::l,y::m,ha,hb=>by
  obtain⟨ha1,ha2⟩:=TF.1 ha
  obtain⟨hb1,hb2⟩:=TF.1 hb
  have keya:∀{z},dT z x=true->∀u∈x::l,u.act≠z.act:=fun {z} hz u hu e=>by
   rcases Tu.1 hu with rfl|hu
   .rw[gV e.symm]at hz; cases hz
   .have:=xg hz (ha1 u hu)
    rw[gV e.symm]at this; cases this
  have keyb:∀{z},dT z y=true->∀u∈y::m,u.act≠z.act:=fun {z} hz u hu e=>by
   rcases Tu.1 hu with rfl|hu
   .rw[gV e.symm]at hz; cases hz
   .have:=xg hz (hb1 u hu)
    rw[gV e.symm]at this; cases this
  rw[DC]
  by_cases h1:dT x y=true
  .rw[if_pos h1]
   exact .inl ⟨rfl,by simp,keyb h1⟩
  .rw[if_neg h1]
   by_cases h2:dT y x=true
   .rw[if_pos h2]
    cases o with
    |true=>
     rw[if_pos rfl]
     have h:=kX true (x::l) m ha hb2
     revert h
     cases lK true (x::l) m with
     |none=>
      rintro ⟨h,_⟩
      refine⟨fun u hu=>?_,fun h=>by cases h⟩
      obtain⟨v,hv,e⟩:=h u hu
      exact⟨v,TJ _ hv,e⟩
     |some r=>
      rintro (⟨h3,h4,h5⟩|⟨_,h,_⟩)
      .refine .inl ⟨h3,h4,fun v hv=>?_⟩
       rcases Tu.1 hv with rfl|hv
       .exact fun e=>keya h2 _ h4 e.symm
       .exact h5 v hv
      .cases h
    |false=>
     rw[if_neg (by simp)]
     exact .inr ⟨rfl,rfl,by simp,keya h2⟩
   .rw[if_neg h2]
    have he:x.act=y.act:=Bp (by simpa using h1) (by simpa using h2)
    have h:=kX o l m ha2 hb2
    revert h
    cases lK o l m with
    |none=>
     rintro ⟨h3,h4⟩
     refine⟨fun u hu=>?_,fun ho u hu=>?_⟩
     .rcases Tu.1 hu with rfl|hu
      .exact⟨y,by simp,he.symm⟩
      .obtain⟨v,hv,e⟩:=h3 u hu
       exact⟨v,TJ _ hv,e⟩
     .rcases Tu.1 hu with rfl|hu
      .exact⟨x,by simp,he⟩
      .obtain⟨v,hv,e⟩:=h4 ho u hu
       exact⟨v,TJ _ hv,e⟩
    |some r=>
     rintro (⟨h3,h4,h5⟩|⟨h3,h0,h4,h5⟩)
     .refine .inl ⟨h3,TJ _ h4,fun v hv=>?_⟩
      rcases Tu.1 hv with rfl|hv
      .intro e
       have:=ha1 _ h4
       rw[gV (he.trans e)]at this
       cases this
      .exact h5 v hv
     .refine .inr ⟨h3,h0,TJ _ h4,fun v hv=>?_⟩
      rcases Tu.1 hv with rfl|hv
      .intro e
       have:=hb1 _ h4
       rw[gV (he.symm.trans e)]at this
       cases this
      .exact h5 v hv
termination_by la lb=>la.length+lb.length
inductive PR (a b:List Edge) (s t:Int):List (Bool×Int)->Int->Int->Prop
 |nil:PR a b s t [] s t
 |snoc {p:List (Bool×Int)} {x y x' y':Int} {d:Bool} {l:Int}:PR a b s t p x y->aU x d l a=some x'->aU y d l b=some y'->PR a b s t (p++[(d,l)]) x' y'
theorem mw {a b:aO} {k:Nat} {n:sQ} (hb:b.Good):∀(l:List Edge) (seen:List (Int×Int)) (q:List sQ),(∀e∈l,0<=e.to/\e.to<a.af)->n.path.length<seen.length->pL a b k seen q->
  ∃seen' qs,l.foldl (fD b.aa n) (seen,q)=(seen',q++qs)/\pL a b k seen' (q++qs)/\(∀p∈seen,p∈seen')/\(∀p∈seen',p∈seen\/∃m∈qs,(m.x,m.y)=p)/\
   (∀m∈qs,∃e∈l,aU n.y e.send e.label b.aa=some m.y/\m.x=e.to/\m.path=n.path++[e.act])/\(∀e∈l,∀y,aU n.y e.send e.label b.aa=some y->(e.to,y)∈seen')
 |[],seen,q,_,_,hD=>⟨seen,[],by simp,by simpa using hD,fun _ h=>h,fun _ h=>.inl h,fun _ h=>(List.not_mem_nil h).elim,fun _ h=>(List.not_mem_nil h).elim⟩
 |e::l,seen,q,hl,hp,hD=>by
  have hl':∀e∈l,0<=e.to/\e.to<a.af:=fun f hf=>hl f (TJ _ hf)
  rw[Uy]
  by_cases hadd:∃y,aU n.y e.send e.label b.aa=some y/\(e.to,y)∉seen
  .obtain⟨y,hy,hns⟩:=hadd
   have hy':=hb.ft hy
   unfold aO.inr at hy'
   have h0:fD b.aa n (seen,q) e=(seen++[(e.to,y)],q++[⟨e.to,y,n.path++[e.act]⟩]):=by simp[fD,hy,hns]
   obtain⟨seen',qs,h1,h2,h3,h4,h5,h6⟩:=mw (n:=n) hb l _ _ hl' (by simp; omega) (hD.push (p:=n.path++[e.act]) hns ⟨hl e (by simp),hy'⟩ (by simp; omega))
   refine⟨seen',⟨e.to,y,n.path++[e.act]⟩::qs,?_,?_,?_,?_,?_,?_⟩
   .rw[h0,h1,TT]
    rfl
   .rw[TT]at h2
    exact h2
   .exact fun p hp=>h3 p (by simp[hp])
   .intro p hp
    rcases h4 p hp with h|⟨m,hm,h⟩
    .rw[TO,Ue]at h
     rcases h with h|rfl
     .exact .inl h
     .exact .inr ⟨_,TP ..,rfl⟩
    .exact .inr ⟨m,TJ _ hm,h⟩
   .intro m hm
    rcases Tu.1 hm with rfl|hm
    .exact⟨e,by simp,hy,rfl,rfl⟩
    .obtain⟨f,hf,h⟩:=h5 m hm
     exact⟨f,TJ _ hf,h⟩
   .intro f hf z hz
    rcases Tu.1 hf with rfl|hf
    .rw[hy]at hz
     cases hz
     exact h3 _ (by simp)
    .exact h6 f hf z hz
  .have h0:fD b.aa n (seen,q) e=(seen,q):=by
    unfold fD
    cases hn:aU n.y e.send e.label b.aa with
    |none=>rfl
    |some y=>
     have:(e.to,y)∈seen:=Classical.byContradiction fun h=>hadd ⟨y,hn,h⟩
     simp[this]
   obtain⟨seen',qs,h1,h2,h3,h4,h5,h6⟩:=mw (n:=n) hb l seen q hl' hp hD
   refine⟨seen',qs,by rw[h0,h1],h2,h3,h4,?_,?_⟩
   .intro m hm
    obtain⟨f,hf,h⟩:=h5 m hm
    exact⟨f,TJ _ hf,h⟩
   .intro f hf z hz
    rcases Tu.1 hf with rfl|hf
    .exact h3 _ (Classical.byContradiction fun h=>hadd ⟨z,hz,h⟩)
    .exact h6 f hf z hz
theorem nT {a b:aO} (ha:a.Good) (hb:b.Good) (o:Bool):∀(k:Nat) (seen:List (Int×Int)) (q:List sQ),pL a b k seen q->(∀n∈q,PR a.aa b.aa a.start b.start n.path n.x n.y)->
  (∀x y,(x,y)∈seen->(∃n∈q,n.x=x/\n.y=y)\/(lK o (aH a.aa x) (aH b.aa y)=none/\∀d l x' y',aU x d l a.aa=some x'->aU y d l b.aa=some y'->(x',y')∈seen))->(a.start,b.start)∈seen->
  match sk a.aa b.aa o k (seen,q)with
  |none=>∀p x y,PR a.aa b.aa a.start b.start p x y->lK o (aH a.aa x) (aH b.aa y)=none
  |some (p,w)=>∃(n:sQ) (e:Edge),PR a.aa b.aa a.start b.start n.path n.x n.y/\lK o (aH a.aa n.x) (aH b.aa n.y)=some (e,w)/\p=n.path++[e.act]/\n.path.length<1000
 |k,seen,[],hD,_,hs,h0=>by
  have:sk a.aa b.aa o k (seen,[])=none:=by cases k<;>rfl
  rw[this]
  have hin:∀p x y,PR a.aa b.aa a.start b.start p x y->(x,y)∈seen:=fun p x y h=>by
   induction h with
   |nil=>exact h0
   |snoc _ h1 h2 ih=>
    rcases hs _ _ ih with⟨n,hn,_⟩|⟨_,h⟩
    .cases hn
    .exact h _ _ _ _ h1 h2
  intro p x y h
  rcases hs _ _ (hin p x y h)with⟨n,hn,_⟩|⟨h,_⟩
  .cases hn
  .exact h
 |0,seen,n::q,hD,_,_,_=>by
  have h1:=hD.count
  have h2:=iR hD.nodup (n:=a.af.toNat) (m:=b.af.toNat) (fun p hp=>by
   have:=hD.mem p hp
   omega)
  simp at h1
  omega
 |k+1,seen,n::q,hD,hq,hs,h0=>by
  have hdif:sk a.aa b.aa o (k+1) (seen,n::q)=match lK o (aH a.aa n.x) (aH b.aa n.y)with
   |some (e,w)=>some (n.path++[e.act],w)
   |none=>sk a.aa b.aa o k ((aH a.aa n.x).foldl (fD b.aa n) (seen,q)):=rfl
  rw[hdif]
  cases hm:lK o (aH a.aa n.x) (aH b.aa n.y)with
  |some r=>
   obtain⟨e,w⟩:=r
   refine⟨n,e,hq n (by simp),hm,rfl,?_⟩
   have h1:=(hD.node n (by simp)).2.2
   have h2:=iR hD.nodup (n:=a.af.toNat) (m:=b.af.toNat) (fun p hp=>by
    have:=hD.mem p hp
    omega)
   have h3:=ha.mx
   have h4:=hb.mx
   have:=UM (show a.af.toNat<=12 by omega) (show b.af.toNat<=12 by omega)
   omega
  |none=>
   dsimp only
   have hl:=(hD.node n (by simp)).2.2
   obtain⟨seen',qs,h1,h2,h3,h4,h5,h6⟩:=mw (a:=a) (k:=k) (n:=n) hb (aH a.aa n.x) seen q (fun e he=>by
    rw[cO]at he
    have:=ew.1 (ha.fit e he.1)
    exact⟨this.2.2.1,this.2.2.2.1⟩) hl ⟨hD.nodup,hD.mem,by have:=hD.count; rw[List.length_cons]at this; omega,fun m hm=>hD.node m (TJ _ hm),by have:=hD.le; omega⟩
   rw[h1]
   refine nT ha hb o k seen' (q++qs) h2 ?_ ?_ (h3 _ h0)
   .intro m hm'
    rcases TO.1 hm' with hm'|hm'
    .exact hq m (TJ _ hm')
    .obtain⟨e,he,h7,h8,h9⟩:=h5 m hm'
     rw[cO]at he
     rw[h9,h8]
     refine PR.snoc (d:=e.send) (l:=e.label) (hq n (by simp)) ((cW ha.nw).2 ?_) h7
     have:(⟨n.x,e.send,e.label,e.to⟩:Edge)=e:=by rw[<- he.2]
     rw[this]
     exact he.1
   .intro x y hxy
    have done:∀x y,((∃m∈n::q,m.x=x/\m.y=y)\/(lK o (aH a.aa x) (aH b.aa y)=none/\∀d l x' y',aU x d l a.aa=some x'->aU y d l b.aa=some y'->(x',y')∈seen))->(∃n∈q++qs,n.x=x/\n.y=y)\/(lK o (aH a.aa x) (aH b.aa y)=none/\∀d l x' y',aU x d l a.aa=some x'->aU y d l b.aa=some y'->(x',y')∈seen'):=by
     rintro x y (⟨m,hm',rfl,rfl⟩|⟨h,h'⟩)
     .rcases Tu.1 hm' with rfl|hm'
      .refine .inr ⟨hm,fun d l x' y' hx hy=>?_⟩
       exact h6 ⟨m.x,d,l,x'⟩ (cO.2 ⟨(cW ha.nw).1 hx,rfl⟩) y' hy
      .exact .inl ⟨m,TX _ hm',rfl,rfl⟩
     .exact .inr ⟨h,fun d l x' y' hx hy=>h3 _ (h' d l x' y' hx hy)⟩
    rcases h4 _ hxy with h|⟨m,hm',h⟩
    .exact done x y (hs x y h)
    .simp only[Prod.mk.injEq]at h
     exact .inl ⟨m,Uc _ hm',h.1,h.2⟩
def aO.sk (a b:aO) (o:Bool):Option (List (Bool×Int)×Int):=Pv.sk a.aa b.aa o (a.af.toNat*b.af.toNat+1) ([(a.start,b.start)],[⟨a.start,b.start,[]⟩])
theorem aO.nT {a b:aO} (ha:a.Good) (hb:b.Good) (o:Bool):match a.sk b o with
  |none=>∀p x y,PR a.aa b.aa a.start b.start p x y->lK o (aH a.aa x) (aH b.aa y)=none
  |some (p,w)=>∃(n:sQ) (e:Edge),PR a.aa b.aa a.start b.start n.path n.x n.y/\lK o (aH a.aa n.x) (aH b.aa n.y)=some (e,w)/\p=n.path++[e.act]/\n.path.length<1000:=by
 have h1:=ha.st
 have h2:=hb.st
 have h3:=ha.mx
 have h4:=hb.mx
 have:=UM (show a.af.toNat<=12 by omega) (show b.af.toNat<=12 by omega)
 refine Pv.nT ha hb o _ _ _ ⟨by simp,by simp; omega,by simp,by simp; omega,by omega⟩ ?_ ?_ (by simp)
 .intro n hn
  rw[Ue]at hn
  subst hn
  exact .nil
 .intro x y hxy
  simp only[List.mem_singleton,Prod.mk.injEq]at hxy
  exact .inl ⟨_,Ue.2 rfl,hxy.1.symm,hxy.2.symm⟩
def gl (a b:aO):Int:=if a.err=0 then b.err else a.err
set_option maxHeartbeats 1000000 in
@[go_sem] theorem r34 (t u:Nat) (a b:aO) (ha:a.aa.length<=2000000000) (hb:b.aa.length<=2000000000):res A ay 34 [.agg [.int .i64 a.af,.int .i64 a.start,.ai t (a.aa.map Edge.c)],.agg [.int .i64 b.af,.int .i64 b.start,.ai u (b.aa.map Edge.c)]]=some [.int .i64 (gl a b)]:=by
 refine aq a34 rfl rfl ?_
 simp only[F34,Rx]
 simp(disch:=omega)only[go_sem]
 refine Br.aB (fun h=>?_) (fun h=>?_)<;>simp(disch:=omega)only[go_sem,h]
 .unfold gl
  rw[if_pos h]
 .unfold gl
  rw[if_neg h]
set_option maxHeartbeats 1000000 in
@[go_sem] theorem r36 (t u:Nat) (a b:aO) (ha:a.aa.length<=2000000000) (hb:b.aa.length<=2000000000):res A ay 36 [.agg [.int .i64 a.af,.int .i64 a.start,.ai t (a.aa.map Edge.c)],.agg [.int .i64 b.af,.int .i64 b.start,.ai u (b.aa.map Edge.c)]]=some [.int .i64 (gl a b)]:=by
 refine aq a36 rfl rfl ?_
 simp only[F36,Rz]
 simp(disch:=omega)only[go_sem]
 refine Br.aB (fun h=>?_) (fun h=>?_)<;>simp(disch:=omega)only[go_sem,h]
 .unfold gl
  rw[if_pos h]
 .unfold gl
  rw[if_neg h]
theorem js {a b:aO} (h:gl a b=0):a.Good/\b.Good:=by
 unfold gl at h
 by_cases h1:a.err=0
 .rw[if_pos h1]at h
  exact⟨aO.kN.1 h1,aO.kN.1 h⟩
 .rw[if_neg h1]at h
  exact(h1 h).elim
theorem DD (r:Option (List (Bool×Int)×Int)):sR r=[.ai 0 (fw (r.getD ([],0)).1),.int .i64 (r.getD ([],0)).2,.bool r.isSome]:=by
 cases r with
 |none=>rfl
 |some r=>rfl
@[go_sem] theorem r35a (t u:Nat) (a b:aO) (only:Bool) (ht:t<=1) (hu:u<=1) (h:gl a b=0):res A ay 35 [.agg [.int .i64 a.af,.int .i64 a.start,.ai t (a.aa.map Edge.c)],.agg [.int .i64 b.af,.int .i64 b.start,.ai u (b.aa.map Edge.c)],.bool only]=some [.ai 0 (fw ((a.sk b only).getD ([],0)).1),.int .i64 ((a.sk b only).getD ([],0)).2,.bool (a.sk b only).isSome]:=by
 rw[r35 t u a b only ht hu (js h).1 (js h).2,DD]
 rfl
set_option maxHeartbeats 1000000 in
@[go_sem] theorem r16 (t u:Nat) (a b:aO) (ht:t<=1) (hu:u<=1) (ha:a.aa.length<=2000000000) (hb:b.aa.length<=2000000000):res A ay 16 [.agg [.int .i64 a.af,.int .i64 a.start,.ai t (a.aa.map Edge.c)],.agg [.int .i64 b.af,.int .i64 b.start,.ai u (b.aa.map Edge.c)]]=some [.bool (decide (gl a b=0)&&!(a.sk b false).isSome),.int .i64 (gl a b)]:=by
 refine aq a16 rfl rfl ?_
 simp only[F16,Rq]
 simp(disch:=omega)only[go_sem]
 refine Br.aB (fun h=>?_) (fun h=>?_)
 .have h0:=h
  simp(disch:=omega)only[go_sem,h0,r35a t u a b false ht hu h0]
 .simp(disch:=omega)only[go_sem,h]
set_option maxHeartbeats 1000000 in
@[go_sem] theorem r17 (t u:Nat) (a b:aO) (_ht:t<=1) (_hu:u<=1) (ha:a.aa.length<=2000000000) (hb:b.aa.length<=2000000000):res A ay 17 [.agg [.int .i64 a.af,.int .i64 a.start,.ai t (a.aa.map Edge.c)],.agg [.int .i64 b.af,.int .i64 b.start,.ai u (b.aa.map Edge.c)]]=some [.bool (decide (gl a b=0)&&decide (mz (differ a b) a.start b.start=0)),.int .i64 (gl a b)]:=by
 refine aq a17 rfl rfl ?_
 simp only[F17,Rr]
 simp(disch:=omega)only[go_sem]
 refine Br.aB (fun h=>?_) (fun h=>?_)
 .have h0:=h
  obtain⟨h1,h2⟩:=js h0
  have hM:fC a.af.toNat b.af.toNat (differ a b):=(sj h1 h2 _).1
  obtain⟨l,g1,g2,g3⟩:=hM.get (p:=a.start) (q:=b.start) (by have:=h1.st; omega) (by have:=h2.st; omega)
  have s1:=h1.st
  have s2:=h2.st
  have s3:=hM.len
  have s4:=h1.mx
  have s5:=h2.mx
  simp(disch:=omega)only[go_sem,h0,r31 t u a b h1 h2,dv,g1,g3]
 .simp(disch:=omega)only[go_sem,h]
noncomputable def iS (v w:iN) (c:mj):Bool:=match dA (fun d=>decide (d.name=c.name)) w.calls with
 |some d=>cZ v.types w.types c.p4 d.p4&&cZ v.types w.types c.rep d.rep
 |none=>false
noncomputable def ka (v w:iN) (c:lP):Bool:=match dA (fun d=>decide (d.name=c.name)) w.aL with
 |some d=>cZ v.types w.types c.ty d.ty
 |none=>false
noncomputable def sr (v w:iN) (m n:eo):Bool:=decide (m.id=n.id)&&cZ v.types w.types m.ty n.ty
def yS (a b:aO):Bool:=decide (gl a b=0)&&!(a.sk b false).isSome
noncomputable def xh (v w:iN) (x y:dw):Bool:=sN (sr v w) x.msgs y.msgs&&yS x.auto y.auto
noncomputable def jt (v w:iN) (x:dw):Bool:=match dA (fun d=>decide (d.name=x.name)) w.aF with
 |some y=>xh v w x y
 |none=>false
noncomputable def zY (v w:iN):Bool:=(decide (v.calls.length=w.calls.length)&&decide (v.aF.length=w.aF.length)&&decide (v.aL.length=w.aL.length))&&(v.calls.all (iS v w)&&v.aL.all (ka v w)&&v.aF.all (jt v w))
noncomputable def pM (v w:iN):Bool×Int:=if sM v≠0 then (false,sM v) else if sM w≠0 then (false,sM w) else (zY v w,0)
theorem oX {α:Type} {f:α->Bool} {l:List α} (h:l.any (fun x=>!f x)=true):l.all f=false:=by
 obtain⟨x,hx,hn⟩:=Uf.1 h
 rw[Us]
 intro h2
 have:=TD.1 h2 x hx
 rw[this]at hn
 cases hn
theorem lE {α:Type} {f:α->Bool} {l:List α} (h:l.any (fun x=>!f x)=false):l.all f=true:=by
 rw[TD]
 intro x hx
 have:=TU.1 h x hx
 simpa using this
theorem kS.vt {v:iN} (h:kS v) (hv:gz v):VT v.types:=⟨hv.tl,hv.to,hv.ts,h.valid⟩
theorem ju {α:Type} {p:α->Bool} {l:List α} {x:α} (h:dA p l=some x):x∈l:=by
 unfold dA at h
 cases hf:l.findIdx? p with
 |none=>rw[hf]at h; cases h
 |some j=>rw[hf]at h; exact Tf h
theorem r455 (s s' t1 t2 t3 t4 u1 u2 u3 u4:Nat) (v w:iN) (x y:Int) (hA:VT v.types) (hB:VT w.types) (hx:0<=x/\x<v.types.length) (hy:0<=y/\y<w.types.length):res A ay 455 [.int .i64 x,.int .i64 y,.ro s (dc t1 t2 t3 t4 v),.ro s' (dc u1 u2 u3 u4 w)]=some [.bool (cZ v.types w.types x y)]:=by
 have h1:=fun t u=>r456 t u v.types w.types x y hA hB hx hy
 refine aq a455 rfl rfl ?_
 simp only[F455,IY,dc]
 simp(disch:=omega)only[go_sem,h1]
set_option maxHeartbeats 16000000 in
theorem r421 (t1 t2 t3 t4 u1 u2 u3 u4:Nat) (v w:iN) (hv:gz v) (hw:gz w):res A ay 421 [.agg (dc t1 t2 t3 t4 v),.agg (dc u1 u2 u3 u4 w)]=some [.bool (pM v w).1,.int .i64 (pM v w).2]:=by
 have h407:=r407 t1 t2 t3 t4 v hv
 have h407':=r407 u1 u2 u3 u4 w hw
 have l1:=hv.cl
 have l2:=hv.sl
 have l3:=hv.pl
 have m1:=hw.cl
 have m2:=hw.sl
 have m3:=hw.pl
 have h410:=fun nm=>r410 u1 u2 u3 u4 w nm hw.cl
 have h414:=fun nm=>r414 u1 u2 u3 u4 w nm hw.pl
 have h455:=fun s s' x y=>r455 s s' t1 t2 t3 t4 u1 u2 u3 u4 v w x y
 unfold pM
 refine aq a421 rfl rfl ?_
 simp only[F421,ID,dc]at *
 simp(disch:=omega)only[go_sem,h407]
 refine Br.aB (fun c=>?_) (fun c=>?_)<;>simp(disch:=omega)only[go_sem]
 rotate_left
 .rw[if_pos c]
 rw[if_neg (by simp[c])]
 simp(disch:=omega)only[go_sem,h407']
 refine Br.aB (fun c'=>?_) (fun c'=>?_)<;>simp(disch:=omega)only[go_sem]
 rotate_left
 .rw[if_pos c']
 rw[if_neg (by simp[c'])]
 have gv:=lD c
 have gw:=lD c'
 have tv:=gv.vt hv
 have tw:=gw.vt hw
 have hm:∀z∈w.aF,z.msgs.length<=2147483648/\z.auto.aa.length<=2147483648:=fun z hz=>by
  have h1:=(gw.nN z hz).AH
  have h2:=(hw.ss z hz).2.2.2
  omega
 have h412:=fun nm=>r412 u1 u2 u3 u4 w nm hw.sl hm
 simp only[dc]at h412
 unfold zY
 cases d1:decide ((v.calls.length:Int)=w.calls.length)with
 |false=>
  have:=of_decide_eq_false d1
  rw[decide_eq_false (show ¬v.calls.length=w.calls.length by omega)]
  simp(disch:=omega)only[go_sem,d1]
 |true=>
 have d1':=of_decide_eq_true d1
 cases d2:decide ((v.aF.length:Int)=w.aF.length)with
 |false=>
  have:=of_decide_eq_false d2
  rw[decide_eq_false (show ¬v.aF.length=w.aF.length by omega),Um]
  simp(disch:=omega)only[go_sem,d1,d2]
 |true=>
 have d2':=of_decide_eq_true d2
 cases d3:decide ((v.aL.length:Int)=w.aL.length)with
 |false=>
  have:=of_decide_eq_false d3
  rw[decide_eq_false (show ¬v.aL.length=w.aL.length by omega),Um]
  simp(disch:=omega)only[go_sem,d1,d2,d3]
 |true=>
 have d3':=of_decide_eq_true d3
 simp(disch:=omega)only[go_sem,d1,d2,d3]
 rw[decide_eq_true (show v.calls.length=w.calls.length by omega),decide_eq_true (show v.aF.length=w.aF.length by omega),decide_eq_true (show v.aL.length=w.aL.length by omega),TL,TL,TL]
 refine W.find v.calls (fun c=>!iS v w c) (fun k=>⟨[(2,.ptr 2 0),(3,.ptr 3 0),(8,.func 455 [.ptr 2 0,.ptr 3 0]),(62,.pv (.ai t2 (cQ v.calls))),(63,.pv (.int .i64 v.calls.length)),(64,.pv (.int .i64 k))],⟨[(2,[.pv (.str v.name),.pv (.ai t1 (v.types.map aD.c)),.pv (.ai t2 (cQ v.calls)),.pv (.ai t3 (aF v.aF)),.pv (.ai t4 (cM v.aL))]),(3,[.pv (.str w.name),.pv (.ai u1 (w.types.map aD.c)),.pv (.ai u2 (cQ w.calls)),.pv (.ai u3 (aF w.aF)),.pv (.ai u4 (cM w.aL))])],[],[]⟩⟩) rfl (fun k x hx hk hfd=>?_) (fun hn=>?_)
 .have done:iS v w x=false->(some [PV.bool false,PV.int .i64 0]:Option (List PV))=some [.bool (v.calls.all (iS v w)&&v.aL.all (ka v w)&&v.aF.all (jt v w)),.int .i64 0]:=fun h=>by
   rw[oX (hfd (by rw[h]; rfl)).any]
   rfl
  have hcl:=gv.call x (Tf hx)
  simp(disch:=omega)only[go_sem]
  refine Br.aB (fun c=>?_) (fun c=>(c (by omega)).elim)
  simp(disch:=omega)only[go_sem,hx,Option.map_some,mj.c,h410]
  unfold iS at done
  cases hp:dA (fun d=>decide (d.name=x.name)) w.calls with
  |none=>
   rw[hp]at done
   simp(disch:=omega)only[go_sem,AU]
   exact done rfl
  |some d=>
   rw[hp]at done
   dsimp only at done
   have hd:=gw.call d (ju hp)
   have e1:=fun s s'=>h455 s s' x.p4 d.p4 tv tw hcl.1 hd.1
   have e2:=fun s s'=>h455 s s' x.rep d.rep tv tw hcl.2 hd.2
   have hcs:iS v w x=(cZ v.types w.types x.p4 d.p4&&cZ v.types w.types x.rep d.rep):=by
    unfold iS
    rw[hp]
   generalize cZ v.types w.types x.p4 d.p4=b1 at *
   generalize cZ v.types w.types x.rep d.rep=b2 at *
   simp(disch:=omega)only[go_sem,AU,mj.c,e1]
   cases b1 with
   |false=>
    simp(disch:=omega)only[go_sem]
    exact done rfl
   |true=>
    simp(disch:=omega)only[go_sem,e2]
    cases b2 with
    |false=>
     simp(disch:=omega)only[go_sem]
     exact done rfl
    |true=>
     simp(disch:=omega)only[go_sem]
     exact aN.of (by rw[hcs]; rfl) rfl
 rw[lE hn.any,TL]
 clear hn
 simp(disch:=omega)only[go_sem]
 refine W.find v.aL (fun c=>!ka v w c) (fun k=>⟨[(2,.ptr 2 0),(3,.ptr 3 0),(8,.func 455 [.ptr 2 0,.ptr 3 0]),(97,.pv (.ai t4 (cM v.aL))),(98,.pv (.int .i64 v.aL.length)),(99,.pv (.int .i64 k))],⟨[(2,[.pv (.str v.name),.pv (.ai t1 (v.types.map aD.c)),.pv (.ai t2 (cQ v.calls)),.pv (.ai t3 (aF v.aF)),.pv (.ai t4 (cM v.aL))]),(3,[.pv (.str w.name),.pv (.ai u1 (w.types.map aD.c)),.pv (.ai u2 (cQ w.calls)),.pv (.ai u3 (aF w.aF)),.pv (.ai u4 (cM w.aL))])],[],[]⟩⟩) rfl (fun k x hx hk hfd=>?_) (fun hn=>?_)
 .have done:ka v w x=false->(some [PV.bool false,PV.int .i64 0]:Option (List PV))=some [.bool (v.aL.all (ka v w)&&v.aF.all (jt v w)),.int .i64 0]:=fun h=>by
   rw[oX (hfd (by rw[h]; rfl)).any]
   rfl
  have hcl:=gv.zM x (Tf hx)
  simp(disch:=omega)only[go_sem]
  refine Br.aB (fun c=>?_) (fun c=>(c (by omega)).elim)
  simp(disch:=omega)only[go_sem,hx,Option.map_some,lP.c,h414]
  unfold ka at done
  cases hp:dA (fun d=>decide (d.name=x.name)) w.aL with
  |none=>
   rw[hp]at done
   simp(disch:=omega)only[go_sem,AV]
   exact done rfl
  |some d=>
   rw[hp]at done
   dsimp only at done
   have hd:=gw.zM d (ju hp)
   have e1:=fun s s'=>h455 s s' x.ty d.ty tv tw hcl hd
   have hcs:ka v w x=cZ v.types w.types x.ty d.ty:=by
    unfold ka
    rw[hp]
   generalize cZ v.types w.types x.ty d.ty=b1 at *
   simp(disch:=omega)only[go_sem,AV,lP.c,e1]
   cases b1 with
   |false=>
    simp(disch:=omega)only[go_sem]
    exact done rfl
   |true=>
    simp(disch:=omega)only[go_sem]
    exact aN.of (by rw[hcs]; rfl) rfl
 rw[lE hn.any,TL]
 clear hn
 simp(disch:=omega)only[go_sem]
 refine W.find v.aF (fun c=>!jt v w c) (fun k=>⟨[(3,.ptr 3 0),(8,.func 455 [.ptr 2 0,.ptr 3 0]),(123,.pv (.ai t3 (aF v.aF))),(124,.pv (.int .i64 v.aF.length)),(125,.pv (.int .i64 k))],⟨[(2,[.pv (.str v.name),.pv (.ai t1 (v.types.map aD.c)),.pv (.ai t2 (cQ v.calls)),.pv (.ai t3 (aF v.aF)),.pv (.ai t4 (cM v.aL))]),(3,[.pv (.str w.name),.pv (.ai u1 (w.types.map aD.c)),.pv (.ai u2 (cQ w.calls)),.pv (.ai u3 (aF w.aF)),.pv (.ai u4 (cM w.aL))])],[],[]⟩⟩) rfl (fun k x hx hk hfd=>?_) (fun hn=>?_)
 .have done:jt v w x=false->(some [PV.bool false,PV.int .i64 0]:Option (List PV))=some [.bool (v.aF.all (jt v w)),.int .i64 0]:=fun h=>by
   rw[oX (hfd (by rw[h]; rfl)).any]
  have hxm:=Tf hx
  have hcl:=gv.nN x hxm
  have hce:=(hv.ss x hxm).2.2.2
  have hfe:=hcl.AH
  simp(disch:=omega)only[go_sem]
  refine Br.aB (fun c=>?_) (fun c=>(c (by omega)).elim)
  simp(disch:=omega)only[go_sem,hx,Option.map_some,dw.c,h412]
  cases hp:dA (fun d=>decide (d.name=x.name)) w.aF with
  |none=>
   have hcs:jt v w x=false:=by
    unfold jt
    rw[hp]
   simp(disch:=omega)only[go_sem,sJ]
   exact done hcs
  |some y=>
   have hym:=ju hp
   have hd:=gw.nN y hym
   have hde:=(hw.ss y hym).2.2.2
   have hfd':=hd.AH
   have hcs:jt v w x=(sN (sr v w) x.msgs y.msgs&&yS x.auto y.auto):=by
    unfold jt
    rw[hp]
    rfl
   simp(disch:=omega)only[go_sem,sJ,dw.c]
   cases d4:decide ((x.msgs.length:Int)=y.msgs.length)with
   |false=>
    have:=of_decide_eq_false d4
    rw[jY (fun e=>this (by rw[e])),T1]at hcs
    simp(disch:=omega)only[go_sem]
    exact done hcs
   |true=>
   have d4':=of_decide_eq_true d4
   simp(disch:=omega)only[go_sem]
   refine W.find (x.msgs.zip y.msgs) (fun q=>!sr v w q.1 q.2) (fun j=>⟨[(3,.ptr 3 0),(8,.func 455 [.ptr 2 0,.ptr 3 0]),(18,.ptr 18 0),(19,.ptr 19 0),(123,.pv (.ai t3 (aF v.aF))),(124,.pv (.int .i64 v.aF.length)),(125,.pv (.int .i64 k)),(148,.pv (.ai 0 (x.msgs.map eo.c))),(149,.pv (.int .i64 x.msgs.length)),(150,.pv (.int .i64 j))],⟨[(2,[.pv (.str v.name),.pv (.ai t1 (v.types.map aD.c)),.pv (.ai t2 (cQ v.calls)),.pv (.ai t3 (aF v.aF)),.pv (.ai t4 (cM v.aL))]),(3,[.pv (.str w.name),.pv (.ai u1 (w.types.map aD.c)),.pv (.ai u2 (cQ w.calls)),.pv (.ai u3 (aF w.aF)),.pv (.ai u4 (cM w.aL))]),(18,x.c.map .pv),(19,y.c.map .pv)],[],[]⟩⟩) rfl (fun j q hq hj hfq=>?_) (fun hn=>?_)
   .obtain⟨h1,h2⟩:=dq hq
    rw[bF (by omega)]at hj
    have ha:=hcl.ty q.1 (Tf h1)
    have hb:=hd.ty q.2 (Tf h2)
    have e1:=fun s s'=>h455 s s' q.1.ty q.2.ty tv tw ha hb
    have hg:sr v w q.1 q.2=(decide (q.1.id=q.2.id)&&cZ v.types w.types q.1.ty q.2.ty):=rfl
    have done2:sr v w q.1 q.2=false->jt v w x=false:=fun h=>by
     rw[hcs,kT (hfq (by rw[h]; rfl)).any]
     rfl
    generalize cZ v.types w.types q.1.ty q.2.ty=b1 at *
    simp(disch:=omega)only[go_sem]
    refine Br.aB (fun c=>?_) (fun c=>(c (by omega)).elim)
    simp(disch:=omega)only[go_sem,h1,h2,Option.map_some,eo.c,dw.c]
    cases d5:decide (q.1.id=q.2.id)with
    |false=>
     simp(disch:=omega)only[go_sem]
     exact done (done2 (by rw[hg,d5]; rfl))
    |true=>
     simp(disch:=omega)only[go_sem,h1,h2,Option.map_some,eo.c,dw.c,e1]
     cases b1 with
     |false=>
      simp(disch:=omega)only[go_sem]
      exact done (done2 (by rw[hg,d5]; rfl))
     |true=>
      simp(disch:=omega)only[go_sem]
      exact aN.of (by rw[hg,d5]; rfl) rfl
   .have hz:(x.msgs.zip y.msgs).length=x.msgs.length:=bF (by omega)
    rw[iQ (g:=sr v w) (by omega) hn.any,TL]at hcs
    rw[hz]
    have ha:(decide (gl x.auto y.auto=0)&&!(x.auto.sk y.auto false).isSome)=yS x.auto y.auto:=rfl
    simp(disch:=omega)only[go_sem,dw.c,ha]
    cases d6:yS x.auto y.auto with
    |false=>
     rw[d6]at hcs
     simp(disch:=omega)only[go_sem]
     exact done hcs
    |true=>
     rw[d6]at hcs
     simp(disch:=omega)only[go_sem]
     exact aN.of (by rw[hcs]; rfl) rfl
 .rw[lE hn.any]
  simp(disch:=omega)only[go_sem]
theorem gP {a:aO} (ha:a.Good) {x:Int} {d:Bool} {l t:Int} (h:aU x d l a.aa=some t):(⟨x,d,l,t⟩:Edge)∈aH a.aa x:=cO.2 ⟨(cW ha.nw).1 h,rfl⟩
theorem gQ {a:aO} (ha:a.Good) {x:Int} {e:Edge} (h:e∈aH a.aa x):aU x e.send e.label a.aa=some e.to:=by
 obtain⟨h1,h2⟩:=cO.1 h
 refine(cW ha.nw).2 ?_
 have:(⟨x,e.send,e.label,e.to⟩:Edge)=e:=by rw[<- h2]
 rw[this]
 exact h1
theorem DE {a b:aO} (ha:a.Good) (hb:b.Good) {o:Bool} {x y:Int} (h:lK o (aH a.aa x) (aH b.aa y)=none):(∀d l,(aU x d l a.aa).isSome=true->(aU y d l b.aa).isSome=true)/\(o=false->∀d l,(aU y d l b.aa).isSome=true->(aU x d l a.aa).isSome=true):=by
 have hs:=kX o _ _ (ha.Fv x) (hb.Fv y)
 rw[h]at hs
 refine⟨fun d l hd=>?_,fun ho d l hd=>?_⟩
 .obtain⟨t,ht⟩:=T5.1 hd
  obtain⟨f,hf,he⟩:=hs.1 _ (gP ha ht)
  simp only[Edge.act,Prod.mk.injEq]at he
  have:=gQ hb hf
  rw[he.1,he.2]at this
  rw[this]; rfl
 .obtain⟨t,ht⟩:=T5.1 hd
  obtain⟨f,hf,he⟩:=hs.2 ho _ (gP hb ht)
  simp only[Edge.act,Prod.mk.injEq]at he
  have:=gQ ha hf
  rw[he.1,he.2]at this
  rw[this]; rfl
theorem DF {a b:aO} (ha:a.Good) (hb:b.Good) {o:Bool} {x y:Int} {e:Edge} {w:Int} (h:lK o (aH a.aa x) (aH b.aa y)=some (e,w)):
  (w=0/\(aU x e.send e.label a.aa).isSome=true/\aU y e.send e.label b.aa=none)\/(w=1/\o=false/\(aU y e.send e.label b.aa).isSome=true/\aU x e.send e.label a.aa=none):=by
 have hs:=kX o _ _ (ha.Fv x) (hb.Fv y)
 rw[h]at hs
 rcases hs with⟨h1,h2,h3⟩|⟨h1,h0,h2,h3⟩
 .refine .inl ⟨h1,by rw[gQ ha h2]; rfl,?_⟩
  cases hn:aU y e.send e.label b.aa with
  |none=>rfl
  |some t=>exact(h3 _ (gP hb hn) rfl).elim
 .refine .inr ⟨h1,h0,by rw[gQ hb h2]; rfl,?_⟩
  cases hn:aU x e.send e.label a.aa with
  |none=>rfl
  |some t=>exact(h3 _ (gP ha hn) rfl).elim
theorem PR.ev {a b:aO} {p:List (Bool×Int)} {x y:Int} (h:PR a.aa b.aa a.start b.start p x y) (he:∀j,Ev a.aa b.aa j a.start b.start):∀j,Ev a.aa b.aa j x y:=by
 induction h with
 |nil=>exact he
 |@snoc _ _ _ _ _ d l _ h1 h2 ih=>
  intro j
  have:=ih (j+1) d l
  rw[h1,h2]at this
  exact this
theorem DG {a b:aO} (ha:a.Good) (hb:b.Good):a.sk b false=none↔∀j,Ev a.aa b.aa j a.start b.start:=by
 have hs:=aO.nT ha hb false
 constructor
 .intro h
  rw[h]at hs
  have key:∀j p x y,PR a.aa b.aa a.start b.start p x y->Ev a.aa b.aa j x y:=by
   intro j
   induction j with
   |zero=>exact fun _ _ _ _=>trivial
   |succ j ih=>
    intro p x y hp d l
    obtain⟨h1,h2⟩:=DE ha hb (hs p x y hp)
    have h1:=h1 d l
    have h2:=h2 rfl d l
    cases hx:aU x d l a.aa with
    |none=>
     cases hy:aU y d l b.aa with
     |none=>trivial
     |some t=>rw[hx,hy]at h2; cases h2 rfl
    |some t=>
     cases hy:aU y d l b.aa with
     |none=>rw[hx,hy]at h1; cases h1 rfl
     |some u=>exact ih _ t u (hp.snoc hx hy)
  exact fun j=>key j [] _ _ .nil
 .intro he
  cases h:a.sk b false with
  |none=>rfl
  |some r=>
   obtain⟨p,w⟩:=r
   rw[h]at hs
   obtain⟨n,e,hp,hm,_⟩:=hs
   have h1:=hp.ev he 1 e.send e.label
   rcases DF ha hb hm with⟨_,h2,h3⟩|⟨_,_,h2,h3⟩
   .rw[h3]at h1
    obtain⟨t,ht⟩:=T5.1 h2
    rw[ht]at h1
    exact h1.elim
   .rw[h3]at h1
    obtain⟨t,ht⟩:=T5.1 h2
    rw[ht]at h1
    exact h1.elim
theorem yT {a b:aO} (ha:a.Good) (hb:b.Good):decide (mz (differ a b) a.start b.start=0)=!(a.sk b false).isSome:=by
 have h1:=xf ha hb (p:=a.start) (q:=b.start) ha.st hb.st
 have h2:=DG ha hb
 cases hd:a.sk b false with
 |none=>
  have:=h1.2 (h2.1 hd)
  simp[this]
 |some r=>
  have:¬mz (differ a b) a.start b.start=0:=fun h=>by
   have:=h2.2 (h1.1 h)
   rw[hd]at this
   cases this
  simp[this]
theorem DH (a b:aO):(decide (gl a b=0)&&decide (mz (differ a b) a.start b.start=0))=yS a b:=by
 unfold yS
 by_cases h:gl a b=0
 .rw[yT (js h).1 (js h).2]
 .simp[h]
set_option maxHeartbeats 8000000 in
theorem r459 (t1 t2 t3 t4 u1 u2 u3 u4:Nat) (v w:iN) (x y:dw) (hA:VT v.types) (hB:VT w.types) (hx:wZ v.types.length x) (hy:wZ w.types.length y) (hxe:x.auto.aa.length<=2000000000) (hye:y.auto.aa.length<=2000000000):res A ay 459 [.agg (dc t1 t2 t3 t4 v),.agg x.c,.agg (dc u1 u2 u3 u4 w),.agg y.c]=some [.bool (xh v w x y)]:=by
 have h458:=fun m n=>r458 t1 t2 t3 t4 u1 u2 u3 u4 v w m n hA hB
 have f1:=hx.AH
 have f2:=hy.AH
 unfold xh
 refine aq a459 rfl rfl ?_
 simp only[F459,I1,dc,dw.c]at *
 simp(disch:=omega)only[go_sem]
 refine Br.aB (fun d4=>?_) (fun d4=>?_)<;>simp(disch:=omega)only[go_sem]
 rotate_left
 .rw[jY (fun e=>d4 (by rw[e])),T1]
 refine W.find (x.msgs.zip y.msgs) (fun q=>!sr v w q.1 q.2) (fun j=>⟨[(4,.ptr 4 0),(5,.ptr 5 0),(6,.ptr 6 0),(7,.ptr 7 0),(9,.pv (.int .i64 j))],⟨[(4,[.pv (.str v.name),.pv (.ai t1 (v.types.map aD.c)),.pv (.ai t2 (cQ v.calls)),.pv (.ai t3 (aF v.aF)),.pv (.ai t4 (cM v.aL))]),(5,x.c.map .pv),(6,[.pv (.str w.name),.pv (.ai u1 (w.types.map aD.c)),.pv (.ai u2 (cQ w.calls)),.pv (.ai u3 (aF w.aF)),.pv (.ai u4 (cM w.aL))]),(7,y.c.map .pv)],[],[]⟩⟩) rfl (fun j q hq hj hfq=>?_) (fun hn=>?_)
 .obtain⟨h1,h2⟩:=dq hq
  rw[bF (by omega)]at hj
  have ha:=hx.ty q.1 (Tf h1)
  have hb:=hy.ty q.2 (Tf h2)
  have e1:=h458 q.1.ty q.2.ty ha hb
  have hg:sr v w q.1 q.2=(decide (q.1.id=q.2.id)&&cZ v.types w.types q.1.ty q.2.ty):=rfl
  have done:sr v w q.1 q.2=false->(some [PV.bool false]:Option (List PV))=some [.bool (sN (sr v w) x.msgs y.msgs&&yS x.auto y.auto)]:=fun h=>by
   rw[kT (hfq (by rw[h]; rfl)).any]
   rfl
  generalize cZ v.types w.types q.1.ty q.2.ty=b1 at *
  simp(disch:=omega)only[go_sem,dw.c]
  refine Br.aB (fun c=>?_) (fun c=>(c (by omega)).elim)
  simp(disch:=omega)only[go_sem,h1,h2,Option.map_some,eo.c,dw.c]
  cases d5:decide (q.1.id=q.2.id)with
  |false=>
   simp(disch:=omega)only[go_sem]
   exact done (by rw[hg,d5]; rfl)
  |true=>
   simp(disch:=omega)only[go_sem,h1,h2,Option.map_some,eo.c,dw.c,e1]
   cases b1 with
   |false=>
    simp(disch:=omega)only[go_sem]
    exact done (by rw[hg,d5]; rfl)
   |true=>
    simp(disch:=omega)only[go_sem]
    exact aN.of (by rw[hg,d5]; rfl) rfl
 .have hz:(x.msgs.zip y.msgs).length=x.msgs.length:=bF (by omega)
  rw[iQ (g:=sr v w) (by omega) hn.any,TL,hz]
  have ha:=DH x.auto y.auto
  simp(disch:=omega)only[go_sem,dw.c,ha]
set_option maxHeartbeats 16000000 in
theorem r423 (t1 t2 t3 t4 u1 u2 u3 u4:Nat) (v w:iN) (hv:gz v) (hw:gz w):res A ay 423 [.agg (dc t1 t2 t3 t4 v),.agg (dc u1 u2 u3 u4 w)]=some [.bool (pM v w).1,.int .i64 (pM v w).2]:=by
 have h406:=r406 t1 t2 t3 t4 v hv
 have h406':=r406 u1 u2 u3 u4 w hw
 have l1:=hv.cl
 have l2:=hv.sl
 have l3:=hv.pl
 have m1:=hw.cl
 have m2:=hw.sl
 have m3:=hw.pl
 have h411:=fun nm=>r411 u1 u2 u3 u4 w nm hw.cl
 have h415:=fun nm=>r415 u1 u2 u3 u4 w nm hw.pl
 have h413:=fun nm=>r413 u1 u2 u3 u4 w nm hw.sl
 have h458:=fun x y=>r458 t1 t2 t3 t4 u1 u2 u3 u4 v w x y
 have h459:=fun x y=>r459 t1 t2 t3 t4 u1 u2 u3 u4 v w x y
 unfold pM
 refine aq a423 rfl rfl ?_
 simp only[F423,IE,dc]at *
 simp(disch:=omega)only[go_sem,h406]
 refine Br.aB (fun c=>?_) (fun c=>?_)<;>simp(disch:=omega)only[go_sem]
 rotate_left
 .rw[if_pos c]
 rw[if_neg (by simp[c])]
 simp(disch:=omega)only[go_sem,h406']
 refine Br.aB (fun c'=>?_) (fun c'=>?_)<;>simp(disch:=omega)only[go_sem]
 rotate_left
 .rw[if_pos c']
 rw[if_neg (by simp[c'])]
 have gv:=lD c
 have gw:=lD c'
 have tv:=gv.vt hv
 have tw:=gw.vt hw
 have hsame:zY v w=((decide (v.calls.length=w.calls.length)&&decide (v.aF.length=w.aF.length)&&decide (v.aL.length=w.aL.length))&&(v.calls.all (iS v w)&&v.aF.all (jt v w)&&v.aL.all (ka v w))):=by
  unfold zY
  rw[Bool.and_assoc (v.calls.all _),Bool.and_comm (v.aL.all _),<- Bool.and_assoc (v.calls.all _)]
 rw[hsame]
 cases d1:decide ((v.calls.length:Int)=w.calls.length)with
 |false=>
  have:=of_decide_eq_false d1
  rw[decide_eq_false (show ¬v.calls.length=w.calls.length by omega)]
  simp(disch:=omega)only[go_sem,d1]
 |true=>
 have d1':=of_decide_eq_true d1
 cases d2:decide ((v.aF.length:Int)=w.aF.length)with
 |false=>
  have:=of_decide_eq_false d2
  rw[decide_eq_false (show ¬v.aF.length=w.aF.length by omega),Um]
  simp(disch:=omega)only[go_sem,d1,d2]
 |true=>
 have d2':=of_decide_eq_true d2
 cases d3:decide ((v.aL.length:Int)=w.aL.length)with
 |false=>
  have:=of_decide_eq_false d3
  rw[decide_eq_false (show ¬v.aL.length=w.aL.length by omega),Um]
  simp(disch:=omega)only[go_sem,d1,d2,d3]
 |true=>
 have d3':=of_decide_eq_true d3
 simp(disch:=omega)only[go_sem,d1,d2,d3]
 rw[decide_eq_true (show v.calls.length=w.calls.length by omega),decide_eq_true (show v.aF.length=w.aF.length by omega),decide_eq_true (show v.aL.length=w.aL.length by omega),TL,TL,TL]
 refine W.find v.calls (fun c=>!iS v w c) (fun k=>⟨[(2,.ptr 2 0),(3,.ptr 3 0),(8,.pv (.int .i64 k))],⟨[(2,[.pv (.str v.name),.pv (.ai t1 (v.types.map aD.c)),.pv (.ai t2 (cQ v.calls)),.pv (.ai t3 (aF v.aF)),.pv (.ai t4 (cM v.aL))]),(3,[.pv (.str w.name),.pv (.ai u1 (w.types.map aD.c)),.pv (.ai u2 (cQ w.calls)),.pv (.ai u3 (aF w.aF)),.pv (.ai u4 (cM w.aL))])],[],[]⟩⟩) rfl (fun k x hx hk hfd=>?_) (fun hn=>?_)
 .have done:iS v w x=false->(some [PV.bool false,PV.int .i64 0]:Option (List PV))=some [.bool (v.calls.all (iS v w)&&v.aF.all (jt v w)&&v.aL.all (ka v w)),.int .i64 0]:=fun h=>by
   rw[oX (hfd (by rw[h]; rfl)).any]
   rfl
  have hcl:=gv.call x (Tf hx)
  simp(disch:=omega)only[go_sem]
  refine Br.aB (fun c=>?_) (fun c=>(c (by omega)).elim)
  simp(disch:=omega)only[go_sem,hx,Option.map_some,mj.c,h411]
  unfold iS at done
  cases hp:dA (fun d=>decide (d.name=x.name)) w.calls with
  |none=>
   rw[hp]at done
   simp(disch:=omega)only[go_sem,AU]
   exact done rfl
  |some d=>
   rw[hp]at done
   dsimp only at done
   have hd:=gw.call d (ju hp)
   have e1:=h458 x.p4 d.p4 tv tw hcl.1 hd.1
   have e2:=h458 x.rep d.rep tv tw hcl.2 hd.2
   have hcs:iS v w x=(cZ v.types w.types x.p4 d.p4&&cZ v.types w.types x.rep d.rep):=by
    unfold iS
    rw[hp]
   generalize cZ v.types w.types x.p4 d.p4=b1 at *
   generalize cZ v.types w.types x.rep d.rep=b2 at *
   simp(disch:=omega)only[go_sem,AU,mj.c,e1]
   cases b1 with
   |false=>
    simp(disch:=omega)only[go_sem]
    exact done rfl
   |true=>
    simp(disch:=omega)only[go_sem,e2]
    cases b2 with
    |false=>
     simp(disch:=omega)only[go_sem]
     exact done rfl
    |true=>
     simp(disch:=omega)only[go_sem]
     exact aN.of (by rw[hcs]; rfl) rfl
 rw[lE hn.any,TL]
 clear hn
 simp(disch:=omega)only[go_sem]
 refine W.find v.aF (fun c=>!jt v w c) (fun k=>⟨[(2,.ptr 2 0),(3,.ptr 3 0),(12,.pv (.int .i64 k))],⟨[(2,[.pv (.str v.name),.pv (.ai t1 (v.types.map aD.c)),.pv (.ai t2 (cQ v.calls)),.pv (.ai t3 (aF v.aF)),.pv (.ai t4 (cM v.aL))]),(3,[.pv (.str w.name),.pv (.ai u1 (w.types.map aD.c)),.pv (.ai u2 (cQ w.calls)),.pv (.ai u3 (aF w.aF)),.pv (.ai u4 (cM w.aL))])],[],[]⟩⟩) rfl (fun k x hx hk hfd=>?_) (fun hn=>?_)
 .have done:jt v w x=false->(some [PV.bool false,PV.int .i64 0]:Option (List PV))=some [.bool (v.aF.all (jt v w)&&v.aL.all (ka v w)),.int .i64 0]:=fun h=>by
   rw[oX (hfd (by rw[h]; rfl)).any]
   rfl
  have hxm:=Tf hx
  have hcl:=gv.nN x hxm
  have hce:=(hv.ss x hxm).2.2.2
  simp(disch:=omega)only[go_sem]
  refine Br.aB (fun c=>?_) (fun c=>(c (by omega)).elim)
  simp(disch:=omega)only[go_sem,hx,Option.map_some,dw.c,h413]
  cases hp:dA (fun d=>decide (d.name=x.name)) w.aF with
  |none=>
   have hcs:jt v w x=false:=by
    unfold jt
    rw[hp]
   simp(disch:=omega)only[go_sem,sJ]
   exact done hcs
  |some y=>
   have hym:=ju hp
   have e1:=h459 x y tv tw hcl (gw.nN y hym) hce (hw.ss y hym).2.2.2
   simp only[dw.c]at e1
   have hcs:jt v w x=xh v w x y:=by
    unfold jt
    rw[hp]
   generalize xh v w x y=b1 at *
   simp(disch:=omega)only[go_sem,hx,Option.map_some,sJ,dw.c,e1]
   cases b1 with
   |false=>
    simp(disch:=omega)only[go_sem]
    exact done hcs
   |true=>
    simp(disch:=omega)only[go_sem]
    exact aN.of (by rw[hcs]; rfl) rfl
 rw[lE hn.any,TL]
 clear hn
 simp(disch:=omega)only[go_sem]
 refine W.find v.aL (fun c=>!ka v w c) (fun k=>⟨[(2,.ptr 2 0),(3,.ptr 3 0),(15,.pv (.int .i64 k))],⟨[(2,[.pv (.str v.name),.pv (.ai t1 (v.types.map aD.c)),.pv (.ai t2 (cQ v.calls)),.pv (.ai t3 (aF v.aF)),.pv (.ai t4 (cM v.aL))]),(3,[.pv (.str w.name),.pv (.ai u1 (w.types.map aD.c)),.pv (.ai u2 (cQ w.calls)),.pv (.ai u3 (aF w.aF)),.pv (.ai u4 (cM w.aL))])],[],[]⟩⟩) rfl (fun k x hx hk hfd=>?_) (fun hn=>?_)
 .have done:ka v w x=false->(some [PV.bool false,PV.int .i64 0]:Option (List PV))=some [.bool (v.aL.all (ka v w)),.int .i64 0]:=fun h=>by
   rw[oX (hfd (by rw[h]; rfl)).any]
  have hcl:=gv.zM x (Tf hx)
  simp(disch:=omega)only[go_sem]
  refine Br.aB (fun c=>?_) (fun c=>(c (by omega)).elim)
  simp(disch:=omega)only[go_sem,hx,Option.map_some,lP.c,h415]
  cases hp:dA (fun d=>decide (d.name=x.name)) w.aL with
  |none=>
   have hcs:ka v w x=false:=by
    unfold ka
    rw[hp]
   simp(disch:=omega)only[go_sem,AV]
   exact done hcs
  |some d=>
   have hd:=gw.zM d (ju hp)
   have e1:=h458 x.ty d.ty tv tw hcl hd
   have hcs:ka v w x=cZ v.types w.types x.ty d.ty:=by
    unfold ka
    rw[hp]
   generalize cZ v.types w.types x.ty d.ty=b1 at *
   simp(disch:=omega)only[go_sem,hx,Option.map_some,AV,lP.c,e1]
   cases b1 with
   |false=>
    simp(disch:=omega)only[go_sem]
    exact done hcs
   |true=>
    simp(disch:=omega)only[go_sem]
    exact aN.of (by rw[hcs]; rfl) rfl
 .rw[lE hn.any]
  simp(disch:=omega)only[go_sem]
structure MC (v:iN):Prop where
 o:∀t∈v.types,t.ok
 s:∀t∈v.types,t.short
 tl:v.types.length<=2147483648
 sl:v.aF.length<=2^63 - 1
 n:bh v.name
 c:∀c∈v.calls,bh c.name
 w:∀w∈v.aF,bh w.name/\∀m∈w.msgs,bh m.name
 p:∀c∈v.aL,bh c.name
theorem MC.small {v:iN} (h:MC v) (hf:w3 v=true):gz v:=yK hf h.n h.o h.s h.tl h.c h.w h.p
set_option maxHeartbeats 8000000 in
theorem r401 (r404:res A ay 404 []=some [.bool true]) (v w:iN) (hv:MC v) (hw:MC w):res A ay 401 [.agg (dc 0 0 0 0 v),.agg (dc 0 0 0 0 w)]=some [.bool true]:=by
 refine aq a401 rfl rfl ?_
 simp only[F401,It]
 have h405:=r405 0 0 0 0 v hv.o hv.sl
 have h405':=r405 0 0 0 0 w hw.o hw.sl
 cases hf:w3 v with
 |false=>
  rw[hf]at h405
  simp only[dc]at h405 |-
  simp(disch:=omega)only[go_sem,r404,h405]
 |true=>
  cases hg:w3 w with
  |false=>
   rw[hf]at h405
   rw[hg]at h405'
   simp only[dc]at h405 h405' |-
   simp(disch:=omega)only[go_sem,r404,h405,h405']
  |true=>
   rw[hf]at h405
   rw[hg]at h405'
   have h421:=r421 0 0 0 0 0 0 0 0 v w (hv.small hf) (hw.small hg)
   have h423:=r423 0 0 0 0 0 0 0 0 v w (hv.small hf) (hw.small hg)
   generalize (pM v w).1=b at *
   generalize (pM v w).2=e at *
   simp only[dc]at h405 h405' h421 h423 |-
   simp(disch:=omega)only[go_sem,r404,h405,h405',h421,h423]
theorem r404:res A ay 404 []=some [.bool true]:=jh.2 ⟨3000,by kernel_rfl⟩
variable {P:Program}
def mj.ok (x:mj):Prop:=bh x.name/\fT x.p4/\fT x.rep
def lP.ok (x:lP):Prop:=bh x.name/\fT x.ty
def eo.ok (x:eo):Prop:=fT x.id/\bh x.name/\fT x.ty
def dw.ok (x:dw):Prop:=bh x.name/\(bT x.msgs/\∀m∈x.msgs,m.ok)/\x.auto.r64
def iN.ok (v:iN):Prop:=bh v.name/\(bT v.types/\∀t∈v.types,t.ok)/\(bT v.calls/\∀c∈v.calls,c.ok)/\(bT v.aF/\∀w∈v.aF,w.ok)/\bT v.aL/\∀c∈v.aL,c.ok
structure xi (P:Program) (aA sch lc cl ls ss lm mg lp tp au le ed ti tx tb:TypeId):Prop where
 i:P.underlying ti=some (.int .i64)
 b:P.underlying tb=some .bool
 x:P.underlying tx=some .string
 v:∃fs,P.underlying aA=some (.struct fs)/\fs.toList.map (·.type)=[tx,sch,lc,ls,lp]
 lc:P.underlying lc=some (.slice cl)
 c:∃fs,P.underlying cl=some (.struct fs)/\fs.toList.map (·.type)=[tx,ti,ti]
 ls:P.underlying ls=some (.slice ss)
 s:∃fs,P.underlying ss=some (.struct fs)/\fs.toList.map (·.type)=[tx,lm,au]
 lm:P.underlying lm=some (.slice mg)
 m:∃fs,P.underlying mg=some (.struct fs)/\fs.toList.map (·.type)=[ti,tx,ti]
 lp:P.underlying lp=some (.slice tp)
 t:∃fs,P.underlying tp=some (.struct fs)/\fs.toList.map (·.type)=[tx,ti]
 a:∃fs,P.underlying au=some (.struct fs)/\fs.toList.map (·.type)=[ti,ti,le]
 le:P.underlying le=some (.slice ed)
 e:∃fs,P.underlying ed=some (.struct fs)/\fs.toList.map (·.type)=[ti,tb,ti,ti]
section
variable {aA sch lc cl ls ss lm mg lp tp au le ed ti tx tb:TypeId}
theorem Bq (T:xi P aA sch lc cl ls ss lm mg lp tp au le ed ti tx tb) {n:Nat} {cs:List PV} (h:typed P n cl cs):∃x:mj,cs=x.c/\x.ok:=by
 cases n with
 |zero=>exact h.elim
 |succ n=>
  obtain⟨fs,hu,hts⟩:=T.c
  obtain⟨r0,q0,rfl,h0,r1,q1,rfl,h1,r2,q2,rfl,h2,rfl⟩:=bO hu hts h
  obtain⟨s,rfl,hs⟩:=i7 T.x h0
  obtain⟨a,rfl,ha⟩:=cV T.i h1
  obtain⟨b,rfl,hb⟩:=cV T.i h2
  exact⟨⟨s,a,b⟩,rfl,hs,ha,hb⟩
theorem Bs (T:xi P aA sch lc cl ls ss lm mg lp tp au le ed ti tx tb) {n:Nat} {cs:List PV} (h:typed P n tp cs):∃x:lP,cs=x.c/\x.ok:=by
 cases n with
 |zero=>exact h.elim
 |succ n=>
  obtain⟨fs,hu,hts⟩:=T.t
  obtain⟨r0,q0,rfl,h0,r1,q1,rfl,h1,rfl⟩:=bO hu hts h
  obtain⟨s,rfl,hs⟩:=i7 T.x h0
  obtain⟨a,rfl,ha⟩:=cV T.i h1
  exact⟨⟨s,a⟩,rfl,hs,ha⟩
theorem Bt (T:xi P aA sch lc cl ls ss lm mg lp tp au le ed ti tx tb) {n:Nat} {cs:List PV} (h:typed P n mg cs):∃x:eo,cs=x.c/\x.ok:=by
 cases n with
 |zero=>exact h.elim
 |succ n=>
  obtain⟨fs,hu,hts⟩:=T.m
  obtain⟨r0,q0,rfl,h0,r1,q1,rfl,h1,r2,q2,rfl,h2,rfl⟩:=bO hu hts h
  obtain⟨a,rfl,ha⟩:=cV T.i h0
  obtain⟨s,rfl,hs⟩:=i7 T.x h1
  obtain⟨b,rfl,hb⟩:=cV T.i h2
  exact⟨⟨a,s,b⟩,rfl,ha,hs,hb⟩
theorem Bu (T:xi P aA sch lc cl ls ss lm mg lp tp au le ed ti tx tb) {n:Nat} {cs:List PV} (h:typed P n ed cs):∃x:Edge,cs=x.c/\x.r64:=by
 cases n with
 |zero=>exact h.elim
 |succ n=>
  obtain⟨fs,hu,hts⟩:=T.e
  obtain⟨r0,q0,rfl,h0,r1,q1,rfl,h1,r2,q2,rfl,h2,r3,q3,rfl,h3,rfl⟩:=bO hu hts h
  obtain⟨a,rfl,ha⟩:=cV T.i h0
  obtain⟨d,rfl⟩:=nu T.b h1
  obtain⟨b,rfl,hb⟩:=cV T.i h2
  obtain⟨c,rfl,hc⟩:=cV T.i h3
  unfold fT at ha hb hc
  exact⟨⟨a,d,b,c⟩,rfl,ha,hb,hc⟩
theorem Bv (T:xi P aA sch lc cl ls ss lm mg lp tp au le ed ti tx tb) {n:Nat} {cs:List PV} (h:typed P n au cs):∃a:aO,cs=[.int .i64 a.af,.int .i64 a.start,.ai 0 (a.aa.map Edge.c)]/\a.r64:=by
 cases n with
 |zero=>exact h.elim
 |succ n=>
  obtain⟨fs,hu,hts⟩:=T.a
  obtain⟨r0,q0,rfl,h0,r1,q1,rfl,h1,r2,q2,rfl,h2,rfl⟩:=bO hu hts h
  obtain⟨a,rfl,ha⟩:=cV T.i h0
  obtain⟨b,rfl,hb⟩:=cV T.i h1
  obtain⟨l,rfl,hl,ho⟩:=fk T.le (fun m cs _ h=>Bu T h) h2
  unfold fT at ha hb
  exact⟨⟨a,b,l⟩,rfl,ha,hb,by simpa [bT,maxLen]using hl,ho⟩
theorem Bw (T:xi P aA sch lc cl ls ss lm mg lp tp au le ed ti tx tb) {n:Nat} {cs:List PV} (h:typed P n ss cs):∃x:dw,cs=x.c/\x.ok:=by
 cases n with
 |zero=>exact h.elim
 |succ n=>
  obtain⟨fs,hu,hts⟩:=T.s
  obtain⟨r0,q0,rfl,h0,r1,q1,rfl,h1,r2,q2,rfl,h2,rfl⟩:=bO hu hts h
  obtain⟨s,rfl,hs⟩:=i7 T.x h0
  obtain⟨l,rfl,hl,ho⟩:=fk T.lm (fun m cs _ h=>Bt T h) h1
  obtain⟨a,rfl,ha⟩:=Bv T h2
  exact⟨⟨s,l,a⟩,rfl,hs,⟨hl,ho⟩,ha⟩
theorem ud (T:xi P aA sch lc cl ls ss lm mg lp tp au le ed ti tx tb) {typ sym mem val raw lt lsym lmem lval lraw t64:TypeId} (U:wK P sch typ sym mem val raw lt lsym lmem lval lraw tx ti t64 tb) {n:Nat} {cs:List PV} (h:typed P n aA cs):∃v:iN,cs=[.str v.name,.ai 0 (v.types.map aD.c),.ai 0 (cQ v.calls),.ai 0 (aF v.aF),.ai 0 (cM v.aL)]/\v.ok:=by
 cases n with
 |zero=>exact h.elim
 |succ n=>
  obtain⟨fs,hu,hts⟩:=T.v
  obtain⟨r0,q0,rfl,h0,r1,q1,rfl,h1,r2,q2,rfl,h2,r3,q3,rfl,h3,r4,q4,rfl,h4,rfl⟩:=bO hu hts h
  obtain⟨s,rfl,hs⟩:=i7 T.x h0
  obtain⟨l,rfl,hl,ho⟩:=AQ U h1
  obtain⟨c,rfl,hc,hco⟩:=fk T.lc (fun m cs _ h=>Bq T h) h2
  obtain⟨w,rfl,hw,hwo⟩:=fk T.ls (fun m cs _ h=>Bw T h) h3
  obtain⟨p,rfl,hp,hpo⟩:=fk T.lp (fun m cs _ h=>Bs T h) h4
  exact⟨⟨s,l,c,w,p⟩,rfl,hs,⟨hl,ho⟩,⟨hc,hco⟩,⟨hw,hwo⟩,hp,hpo⟩
end
end Go.Pv
namespace Go.Pv
theorem ue {v:iN} (h:∀c∈[PV.str v.name,.ai 0 (v.types.map aD.c),.ai 0 (cQ v.calls),.ai 0 (aF v.aF),.ai 0 (cM v.aL)],Small 1048576 c):v.types.length<=1048576/\∀t∈v.types,t.short:=AS fun c hc=>h c (by rw[List.mem_singleton]at hc; rw[hc]; simp)
end Go.Pv
