/-
 What the functions of the law give.
-/
import Derived.Test.YtpchfogcccagjaaGreatC4
set_option linter.unusedSimpArgs false
set_option linter.unusedVariables false
open List renaming getElem?_eq_some_iff → Wq, mem_of_getElem? → Wr, getElem?_eq_getElem → Ws, mem_iff_getElem? → Wt, length_map → Wu, getElem?_map → Wv, getElem?_append_left → Ww, mem_map → Wz, mem_cons → WC, pairwise_cons → WH, eq_nil_of_length_eq_zero → WL, findIdx?_eq_some_iff_getElem → WM, getD_eq_getElem?_getD → WS, take_of_length_le → WU, length_append → WX, map_append → WZ, getElem?_take → W0, mem_cons_self → W1, append_assoc → W2, length_range → W3, mem_range → W4, take_add_one → W5, getElem?_set_self → W8, ext_getElem? → Xa, any_eq_false → Xc, mem_singleton → Xi, getElem_mem → Xq, pairwise_iff_getElem → Xs, getElem?_set_ne → Xw, mem_filter → Xx, foldl_cons → Xy, any_eq_true → XB, find?_eq_none → XC, getElem?_range → XI, map_map → XM, length_set → XN, pairwise_singleton → XR, find?_some → XV, length_replicate → Yc, length_filter_le → Yd
open Nat renaming lt_or_ge → Wx, le_refl → Wy, eq_zero_or_pos → XA, zero_add → X3
open Int renaming toNat_natCast → Xb, eq_ofNat_of_zero_le → XF, emod_nonneg → X7
open Bool renaming eq_iff_iff → Xo
namespace Go.Pv
structure aL.Good (a:aL):Prop where
 st:0<=a.start/\a.start<a.ai
 mx:a.ai<=12
 len:a.aa.length<=100
 fit:∀e∈a.aa,e.fits a.ai=true
 NI:a.aa.Pairwise (fun x y=>Edge.lt x y=true)
theorem Edge.Fz (x:Edge):Edge.lt x x=false:=by simp[Edge.lt]
theorem Edge.vB (x y z:Edge) (h1:Edge.lt x y=true) (h2:Edge.lt y z=true):Edge.lt x z=true:=by
 unfold Edge.lt at *
 by_cases a1:x.fr=y.fr<;>by_cases a2:y.fr=z.fr<;>by_cases b1:x.send=y.send<;>by_cases b2:y.send=z.send<;>simp_all<;>(try omega)
 all_goals (try (have:¬x.fr=z.fr:=by omega); simp_all; omega)
theorem Edge.wQ {x y:Edge}:mw Edge.lt x y↔¬(x.fr=y.fr/\x.send=y.send/\x.label=y.label):=by
 unfold mw Edge.lt
 by_cases a1:x.fr=y.fr
 .cases h1:x.send<;>cases h2:y.send<;>simp[a1]<;>omega
 .have:¬y.fr=x.fr:=fun h=>a1 h.symm
  simp[a1,this]
  omega
theorem Ca {n:Int}:∀{p:Option Edge} {l:List Edge},sS n p l=true->l.Pairwise (fun x y=>Edge.lt x y=true)/\∀q,p=some q->∀e∈l,Edge.lt q e=true
 |_,[],_=>⟨List.Pairwise.nil,fun _ _ e he=>absurd he (by simp)⟩
 |p,x::r,h=>by
  simp only[sS,Bool.and_eq_true]at h
  obtain⟨h1,h2⟩:=Ca h.2
  refine⟨WH.2 ⟨h2 x rfl,h1⟩,fun q hq e he=>?_⟩
  subst hq
  have hx:Edge.lt q x=true:=h.1.2
  rcases WC.1 he with rfl|he
  .exact hx
  .exact Edge.vB _ _ _ hx (h2 x rfl e he)
theorem FA {n:Int}:∀{p:Option Edge} {l:List Edge},l.Pairwise (fun x y=>Edge.lt x y=true)->(∀e∈l,e.fits n=true)->(∀q,p=some q->∀e∈l,Edge.lt q e=true)->sS n p l=true
 |_,[],_,_,_=>rfl
 |p,x::r,h1,h2,h3=>by
  obtain⟨g1,g2⟩:=WH.1 h1
  simp only[sS,Bool.and_eq_true]
  refine⟨⟨h2 x (by simp),?_⟩,FA g2 (fun e he=>h2 e (by simp[he])) fun q hq e he=>?_⟩
  .cases p with
   |none=>rfl
   |some q=>exact h3 q rfl x (by simp)
  .cases hq
   exact g1 e he
theorem aL.iV {a:aL}:a.err=0↔a.Good:=by
 unfold aL.err
 constructor
 .intro h
  split at h
  .cases h
  .split at h
   .split at h
    .rename_i h1 h2 h3
     exact⟨h2,by omega,by omega,yq h3,(Ca h3).1⟩
    .cases h
   .cases h
 .intro h
  have:=h.mx; have:=h.len
  rw[if_neg (by omega),if_pos h.st,if_pos (FA h.NI h.fit (fun q hq=>by cases hq))]
theorem fe {s:Int} {d:Bool} {x t:Int}:∀{es:List Edge},es.Pairwise (mw Edge.lt)->(bh s d x es=some t↔⟨s,d,x,t⟩∈es)
 |[],_=>by simp[bh]
 |e::r,h=>by
  obtain⟨h1,h2⟩:=WH.1 h
  unfold bh
  split
  .rename_i hc
   constructor
   .intro h
    cases h
    obtain⟨rfl,rfl,rfl⟩:=hc
    exact W1 ..
   .intro hm
    rcases WC.1 hm with hm|hm
    .rw[<- hm]
    .exact(Edge.wQ.1 (h1 _ hm) hc).elim
  .rename_i hc
   rw[fe h2,WC]
   refine⟨.inr,fun h=>h.elim (fun h=>?_) id⟩
   rw[<- h]at hc
   exact(hc ⟨rfl,rfl,rfl⟩).elim
theorem aL.Good.mw {a:aL} (h:a.Good):a.aa.Pairwise (mw Edge.lt):=h.NI.imp .inl
def outs (es:List Edge) (v:Int):List Int:=(es.filter fun e=>e.fr==v).map (·.to)
theorem tu {es:List Edge} {v x:Int}:x∈outs es v↔∃e∈es,e.fr=v/\e.to=x:=by simp[outs,and_assoc]
def aL.from (a:aL) (s:Int):List Int:=pY (outs a.aa) a.ai.toNat 0 [s]
def aL.order (a:aL):List Int:=a.from a.start
def aL.inr (a:aL) (v:Int):Prop:=0<=v/\v<a.ai
theorem aL.Good.Cb {a:aL} (h:a.Good):∀v,a.inr v->∀x∈outs a.aa v,a.inr x:=by
 intro v _ x hx
 obtain⟨e,he,_,rfl⟩:=tu.1 hx
 have:=eh.1 (h.fit e he)
 exact⟨this.2.2.1,this.2.2.2.1⟩
theorem aL.bound {a:aL}:∀o:List Int,o.Nodup->(∀v∈o,a.inr v)->o.length<=a.ai.toNat:=fun o hd ho=>yG hd fun x hx=>by
 have:=ho x hx
 unfold aL.inr at this
 omega
theorem aL.Good.y5 {a:aL} (h:a.Good) {s v:Int} (hs:a.inr s):v∈a.from s↔Pq (outs a.aa) s v:=HV h.Cb a.bound hs
theorem aL.tz (a:aL) (s:Int):(a.from s).Nodup:=vg _ _ (by simp)
theorem aL.Good.Ia {a:aL} (h:a.Good) {s:Int} (hs:a.inr s):∀v∈a.from s,a.inr v:=wK h.Cb _ _ (by simpa using hs)
theorem aL.Good.lI {a:aL} (h:a.Good) {s:Int} (hs:a.inr s):(a.from s).length<=a.ai.toNat:=a.bound _ (a.tz s) (h.Ia hs)
theorem aL.Good.oQ {a:aL} (h:a.Good) {e:Edge} (he:e∈a.aa) (hf:e.fr∈a.order):e.to∈a.order:=(h.y5 h.st).2 (.step ((h.y5 h.st).1 hf) (tu.2 ⟨e,he,rfl,rfl⟩))
theorem aL.nq (a:aL):∃r,a.order=a.start::r:=by
 obtain⟨t,ht⟩:=wJ (nx:=outs a.aa) a.ai.toNat 0 [a.start]
 exact⟨t,ht.symm⟩
theorem tA {x:Int}:∀{l:List Int} {k:Nat},x∈l->∃j,ek x k l=((k+j:Nat):Int)/\l[j]?=some x
 |[],_,h=>absurd h (by simp)
 |y::r,k,h=>by
  unfold ek
  split
  .rename_i hy
   exact⟨0,rfl,by simp[hy]⟩
  .rename_i hy
   rcases WC.1 h with rfl|h
   .exact(hy rfl).elim
   .obtain⟨j,h1,h2⟩:=tA (k:=k+1) h
    exact⟨j+1,by rw[h1]; omega,by simpa using h2⟩
theorem rH {x:Int} {l:List Int} (h:x∈l):∃j:Nat,jP x l=(j:Int)/\l[j]?=some x:=by
 obtain⟨j,h1,h2⟩:=tA (k:=0) h
 exact⟨j,by unfold jP; rw[h1,X3],h2⟩
theorem MZ {x:Int} {l:List Int} {j:Nat} (hd:l.Nodup) (h:l[j]?=some x):jP x l=j:=by
 obtain⟨i,h1,h2⟩:=rH (Wr h)
 rw[h1]
 obtain⟨g1,g2⟩:=Wq.1 h
 obtain⟨f1,f2⟩:=Wq.1 h2
 have:=(Xs.1 hd)
 rcases Nat.lt_trichotomy i j with hl|rfl|hl
 .exact(this i j f1 g1 hl (f2.trans g2.symm)).elim
 .rfl
 .exact(this j i g1 f1 hl (g2.trans f2.symm)).elim
theorem wR {x y:Int} {l:List Int} (hx:x∈l) (hy:y∈l) (h:jP x l=jP y l):x=y:=by
 obtain⟨i,h1,h2⟩:=rH hx
 obtain⟨j,g1,g2⟩:=rH hy
 rw[h1,g1]at h
 have:i=j:=by omega
 subst this
 rw[h2]at g2
 exact Option.some.inj g2
theorem vC {x:Int} {l:List Int} (hx:x∈l):0<=jP x l/\jP x l<l.length:=by
 obtain⟨i,h1,h2⟩:=rH hx
 have:=(Wq.1 h2).1
 omega
def iota (n:Nat):List Int:=(List.range n).map Int.ofNat
theorem FB {n k:Nat} (h:k<n):(iota n)[k]?=some (k:Int):=by simp[iota,h]
theorem y6 {n:Nat} {x:Int}:x∈iota n↔0<=x/\x<n:=by
 unfold iota
 rw[Wz]
 constructor
 .rintro ⟨k,hk,rfl⟩
  have:=W4.1 hk
  simp
  omega
 .intro h
  exact⟨x.toNat,List.mem_range.2 (by omega),by simp; omega⟩
theorem Ib {l:List Int} (hd:l.Nodup):l.map (jP · l)=iota l.length:=by
 apply Xa
 intro i
 rw[Wv]
 rcases Wx i l.length with h|h
 .rw[Ws h,FB h]
  simp only[Option.map_some]
  rw[MZ hd (Ws h)]
 .rw[List.getElem?_eq_none h,List.getElem?_eq_none (by simp[iota,h])]
  rfl
def Edge.GZ (o:List Int) (e:Edge):Edge:=⟨jP e.fr o,e.send,e.label,jP e.to o⟩
def kept (o:List Int) (es:List Edge):List Edge:=(es.filter fun e=>decide (e.fr∈o)).map (Edge.GZ o)
def aL.trim (a:aL):aL:=⟨a.order.length,0,dm Edge.lt (kept a.order a.aa)⟩
theorem FC {o:List Int} {es:List Edge} {x:Edge}:x∈kept o es↔∃e∈es,e.fr∈o/\e.GZ o=x:=by simp[kept,and_assoc]
theorem tB {o:List Int} {es:List Edge} (h:es.Pairwise (mw Edge.lt)):(kept o es).Pairwise (mw Edge.lt):=by
 unfold kept
 rw[List.pairwise_map]
 have h2:=h.filter (fun e=>decide (e.fr∈o))
 refine List.Pairwise.imp_of_mem (fun {x y} hx hy hxy=>?_) h2
 have hx':=(Xx.1 hx).2
 have hy':=(Xx.1 hy).2
 simp only[decide_eq_true_eq]at hx' hy'
 rw[Edge.wQ]at hxy |-
 exact fun⟨e1,e2,e3⟩=>hxy ⟨wR hx' hy' e1,e2,e3⟩
theorem aL.tD {a:aL} {x:Edge}:x∈a.trim.aa↔∃e∈a.aa,e.fr∈a.order/\e.GZ a.order=x:=by
 show x∈dm _ _↔_
 rw[(db _ _).mem_iff,FC]
theorem aL.Good.trim {a:aL} (h:a.Good):a.trim.Good where
 st:=by
  obtain⟨r,hr⟩:=a.nq
  show (0:Int)<=0/\(0:Int)<(a.order.length:Int)
  rw[hr]
  simp
 mx:=by
  have:=h.lI h.st
  have:=h.mx
  show (a.order.length:Int)<=12
  unfold aL.order
  omega
 len:=by
  show (dm _ (kept _ _)).length<=100
  rw[(db _ _).length_eq]
  have:=Yd (fun e:Edge=>decide (e.fr∈a.order)) a.aa
  have:=h.len
  simp only[kept,List.length_map]
  omega
 fit x hx:=by
  obtain⟨e,he,hf,rfl⟩:=aL.tD.1 hx
  have:=eh.1 (h.fit e he)
  have h1:=vC hf
  have h2:=vC (h.oQ he hf)
  rw[eh]
  show 0<=jP e.fr a.order/\jP e.fr a.order<(a.order.length:Int)/\0<=jP e.to a.order/\jP e.to a.order<(a.order.length:Int)/\_
  exact⟨h1.1,h1.2,h2.1,h2.2,this.2.2.2.2⟩
 NI:=oI Edge.vB (tB h.mw)
theorem aL.Good.Dd {a:aL} (h:a.Good) {v:Int} (hv:v∈a.order):outs a.trim.aa (jP v a.order)=(outs a.aa v).map (jP · a.order):=by
 have key:(a.trim.aa.filter fun e=>e.fr==jP v a.order)=(a.aa.filter fun e=>e.fr==v).map (Edge.GZ a.order):=by
  refine B3 Edge.Fz Edge.vB (h.trim.NI.filter _) ?_ fun x=>?_
  .rw[List.pairwise_map]
   refine List.Pairwise.imp_of_mem (fun {x y} hx hy hxy=>?_) (h.NI.filter _)
   have hx':=(Xx.1 hx).2
   have hy':=(Xx.1 hy).2
   simp only[beq_iff_eq]at hx' hy'
   unfold Edge.lt at hxy |-
   simp only[Edge.GZ,hx',hy',ne_eq,not_true_eq_false,if_false]at hxy |-
   exact hxy
  .rw[Xx,aL.tD,Wz]
   simp only[beq_iff_eq]
   constructor
   .rintro ⟨⟨e,he,hf,rfl⟩,hx⟩
    exact⟨e,List.mem_filter.2 ⟨he,by simpa using wR hf hv hx⟩,rfl⟩
   .rintro ⟨e,he,rfl⟩
    obtain⟨he,hf⟩:=Xx.1 he
    simp only[beq_iff_eq]at hf
    exact⟨⟨e,he,hf ▸ hv,rfl⟩,by simp[Edge.GZ,hf]⟩
 unfold outs
 rw[key,XM,XM]
 rfl
theorem aL.Good.De {a:aL} (h:a.Good) {s:Int} (hs:s∈a.order):a.trim.from (jP s a.order)=(a.from s).map (jP · a.order):=by
 have hcl:∀v,v∈a.order->∀x∈outs a.aa v,x∈a.order:=fun v hv x hx=>by
  obtain⟨e,he,rfl,rfl⟩:=tu.1 hx
  exact h.oQ he hv
 have hm:=BS (g:=(jP · a.order)) (P:=fun v=>v∈a.order) (nx:=outs a.aa) (nx':=outs a.trim.aa) (fun x y hx hy e=>wR hx hy e) hcl (fun v hv=>h.Dd hv) a.order.length 0 (o:=[s]) (by simpa using hs)
 show pY (outs a.trim.aa) ((a.order.length:Int)).toNat 0 [jP s a.order]=_
 rw[Xb]
 refine hm.trans ?_
 congr 1
 refine yK (N:=a.order.length) hcl (fun o hd ho=>List.Nodup.length_le_of_subset hd ho) _ _ 0 (by omega) ?_ (by simp) (by simpa using hs)
 have:=h.lI h.st
 unfold aL.order
 omega
theorem aL.Df (a:aL):a.start∈a.order:=by
 obtain⟨r,hr⟩:=a.nq
 rw[hr]
 simp
theorem aL.Good.AP {a:aL} (h:a.Good):a.trim.order=iota a.order.length:=by
 obtain⟨r,hr⟩:=a.nq
 have h0:jP a.start a.order=0:=by
  rw[hr]
  simp[jP,ek]
 have:=h.De a.Df
 rw[h0]at this
 show a.trim.from 0=_
 rw[this]
 exact Ib (a.tz a.start)
def aL.proper (a:aL):Bool:=a.order.all fun v=>(a.from v).any fun w=>Fq w a.aa
@[go_sem] theorem M0 (l:List Edge) (f:Int) (d:Bool) (x t:Int):bD l++[[.int .i64 f,.bool d,.int .i64 x,.int .i64 t]]=bD (l++[⟨f,d,x,t⟩]):=by simp[bD,Edge.c]
theorem FD (e:Edge):(⟨e.fr,e.send,e.label,e.to⟩:Edge)=e:=rfl
@[go_sem] theorem M1 {id row ax:Nat} {f x t:Int} {d:Bool} {l:List Edge} (h1:row<l.length):dj id row 0 [.pv (.int .i64 f),.pv (.bool d),.pv (.int .i64 x),.pv (.int .i64 t)] ⟨ax,4,.inl (bD l)⟩=some { ar:=some (id,⟨ax,4,.inl (bD (l.set row ⟨f,d,x,t⟩))⟩) }:=by
 rw[kf (l:=[.int .i64 f,.bool d,.int .i64 x,.int .i64 t]) (by rw[bL]; exact h1) rfl (by simp) rfl]
 have:over row 0 [.int .i64 f,.bool d,.int .i64 x,.int .i64 t] (bD l)=bD (l.set row ⟨f,d,x,t⟩):=by
  unfold over bD
  rw[List.map_set]
  congr 1
  obtain⟨e,he⟩:∃e,l[row]?=some e:=⟨l[row],by simp[h1]⟩
  simp[he,Edge.c]
 rw[this]
set_option maxHeartbeats 2000000 in
@[go_sem] theorem r43 (t:Nat) (a:aL) (hl:a.aa.length<=2000000000):
  res A az 43 [.agg [.int .i64 a.ai,.int .i64 a.start,.aq t (a.aa.map Edge.c)]]=some [.agg [.int .i64 a.ai,.int .i64 a.start,.aq 0 (bD (mG Edge.lt a.aa))]]:=by
 refine aw a43 rfl rfl ?_
 simp only[F43,Uw]
 simp(disch:=omega)only[go_sem]
 refine W.fold a.aa (fun o x=>uo Edge.lt x o) [] (fun k o=>⟨[(1,.ptr 1 0),(2,.ptr 2 0),(3,.ptr 3 0),(4,.pv (.int .i64 k))],⟨[(1,[.pv (.int .i64 a.ai),.pv (.int .i64 a.start),.pv (.aq t (a.aa.map Edge.c))]),(2,[.pv (.int .i64 0),.pv (.int .i64 0),.tl []]),(3,[.pv (.int .i64 a.ai),.pv (.int .i64 a.start),dc 0 (bD o)])],cJ 4 (bD o),[]⟩⟩) (fun k o=>o.length=k) rfl rfl (fun k e o he hk _ hi=>?_) (fun o ho hi=>?_)
 .simp(disch:=omega)only[go_sem]
  refine Br.aJ (fun h=>?_) (fun h=>(h (by omega)).elim)
  simp(disch:=omega)only[go_sem,he]
  have hlen:(bD (o++[e])).length=o.length+1:=by simp[bD]
  refine W.eG o.length (fun j=>⟨[(1,.ptr 1 0),(2,.ptr 2 0),(3,.ptr 3 0),(4,.pv (.int .i64 k)),(5,.pv (.int .i64 (o.length - j:Nat)))],⟨[(1,[.pv (.int .i64 a.ai),.pv (.int .i64 a.start),.pv (.aq t (a.aa.map Edge.c))]),(2,[.pv (.int .i64 0),.pv (.int .i64 0),.tl []]),(3,[.pv (.int .i64 a.ai),.pv (.int .i64 a.start),.own 0 o.length 0 (o.length+1)])],[⟨o.length,4,.inl (bD (kK e o (o.length - j)))⟩],[]⟩⟩)
   (fun j=>vp Edge.lt e o o.length=vp Edge.lt e o (o.length - j)) ?_ rfl fun j hj hq=>?_
  .rw[rF hlen,lX hlen,show (((o.length+1:Nat):Int) - 1)=((o.length - 0:Nat):Int) by omega]
   simp[kK]
  have hpl:=ta e o (o.length - j) (by omega)
  have hp0:=B2 e o (o.length - j) (by omega)
  simp(disch:=omega)only[go_sem]
  have fin:vp Edge.lt e o o.length=o.length - j->uo Edge.lt e o=kK e o (o.length - j):=fun hb=>by unfold uo; rw[hb]
  refine Br.aJ (fun f1=>?_) (fun f1=>?_)
  .obtain⟨p,hp⟩:∃p,o.length - j=p+1:=⟨o.length - j - 1,by omega⟩
   have hpb:=AI e o p (by omega)
   have hpd:=C7 e o p (by omega)
   have e1:((p+1:Nat):Int) - 1=(p:Int):=by omega
   have e2:o.length - (j+1)=p:=by omega
   rw[hp]at hq hpl hp0 fin
   have f2:(0:Int)<((p+1:Nat):Int):=by omega
   have hpl2:((kK e o (p+1)).set (p+1) (o.getD p default)).length=o.length+1:=by rw[XN]; exact hpl
   simp(disch:=omega)only[go_sem,hp,hp0,f2,e1,hpb]
   refine Br.of (fun f3=>?_) (fun f3=>?_)<;>simp(disch:=omega)only[go_sem,f3,hp0,e1,hpb,hpd,FD]
   .refine .of (by omega) ?_ ?_
    .show _=St.mk _ _
     rw[e2]
    .rw[hq,e2]
     simp only[vp,f3,if_true]
   .refine cV.of ?_ ?_
    .show _=St.mk _ _
     rw[fin (by rw[hq]; simp only[vp,f3,Bool.false_eq_true,if_false]),rF (by rw[bL]; exact hpl),lX (by rw[bL]; exact hpl)]
     rfl
    .rw[yS]
     omega
  .have h0:o.length - j=0:=by omega
   simp(disch:=omega)only[go_sem,f1]
   rw[h0]at hq hpl hp0 fin |-
   refine cV.of ?_ ?_
   .show _=St.mk _ _
    rw[fin hq,rF (by rw[bL]; exact hpl),lX (by rw[bL]; exact hpl)]
    rfl
   .rw[yS]
    omega
 .simp(disch:=omega)only[go_sem]
  rw[ho]
  rfl
theorem fold_filter {α β:Type} (p:α->Bool) (f:α->β):∀(l:List α) (o:List β),l.foldl (fun o x=>if p x=true then o++[f x] else o) o=o++(l.filter p).map f
 |[],o=>by simp
 |x::l,o=>by
  rw[Xy,fold_filter p f l]
  by_cases h:p x=true<;>simp[h]
@[go_sem] theorem r43e (t:Nat) (n s:Int) (l:List Edge) (hl:l.length<=2000000000):res A az 43 [.agg [.int .i64 n,.int .i64 s,.aq t (bD l)]]=some [.agg [.int .i64 n,.int .i64 s,.aq 0 (bD (mG Edge.lt l))]]:=r43 t ⟨n,s,l⟩ hl
theorem qL (h:ae) (t:Nat) (l:List Edge) (ht:t<=1) (hl:l.length<=2147483648):aZ 4 [.pv (.aq t (l.map Edge.c))] h=some (if l.length=0 then (.tl [],{}) else (.own h.ar.length 0 0 l.length,{ push:=[⟨0,4,.inl (bD l)⟩],base:=h.ar.length })):=by
 have h1:((l.map Edge.c).all fun x=>x.length==4)=true:=by simp[Edge.c]
 have h2:l.length<=aQ:=hl
 by_cases h0:l.length=0<;>simp[aZ,aW,aP,ht,h1,h2,h0,bD]
theorem FE (l:List Edge):ay Edge.dec (bD l)=some l:=by
 induction l with
 |nil=>rfl
 |cons x l ih=>
  show ay Edge.dec (x.c::bD l)=_
  have:Edge.dec x.c=some x:=rfl
  simp only[ay,this,ih]
theorem AQ {h:ae} {id ax n:Nat} {l:List Edge} (hn:n=l.length) (ho:aB h id ax=some ⟨ax,4,.inl (bD l)⟩) (h0:l.length≠0) (hm:l.length<=2147483648) (hap:l.Pairwise (mw Edge.lt)):
  jD 4 (gE Edge.c Edge.dec Edge.lt) 47 [.own id ax 0 n,.func 47 []] h=some (.dv [],{ ar:=some (id,⟨ax,4,.inl (bD (dm Edge.lt l))⟩) }):=by
 subst hn
 have e1:(bD l).length=l.length:=bL l
 have hr:=vz (oI Edge.vB hap)
 simp[jD,ho,h0,e1,aQ,hm,gE,FE,hr,List.take_of_length_le (Nat.le_of_eq e1),List.drop_eq_nil_of_le (Nat.le_of_eq e1)]
 rfl
@[go_sem] theorem r39e (t:Nat) (n s0:Int) (l:List Edge) (s:Int) (d:Bool) (x:Int) (hl:l.length<=2^63 - 1):
  res A az 39 [.agg [.int .i64 n,.int .i64 s0,.aq t (bD l)],.int .i64 s,.bool d,.int .i64 x]=some [.int .i64 ((bh s d x l).getD 0),.bool (bh s d x l).isSome]:=r39 t ⟨n,s0,l⟩ s d x hl
structure vD where
 fr:Int
 act:Int
 to:Int
 deriving DecidableEq,Inhabited
structure eo where
 n:Int
 gJ:List vD
 deriving DecidableEq,Inhabited
def vD.c (x:vD):List PV:=[.int .u8 x.fr,.int .u8 x.act,.int .u8 x.to]
def vD.ok (x:vD):Prop:=(0<=x.fr/\x.fr<=255)/\(0<=x.act/\x.act<=255)/\(0<=x.to/\x.to<=255)
def eo.ok (d:eo):Prop:=(0<=d.n/\d.n<=255)/\d.gJ.length<=2^63 - 1/\∀x∈d.gJ,x.ok
def vD.p9 (st:Int) (x:vD):Edge:=⟨x.fr%st,decide (x.act%2=1),1+x.act/2%3,x.to%st⟩
def ns (es:List Edge) (e:Edge):List Edge:=if (bh e.fr e.send e.label es).isSome=true then es else es++[e]
def eo.raw (d:eo):List Edge:=(d.gJ.take 12).foldl (fun es x=>ns es (x.p9 (1+d.n%4))) []
def eo.auto (d:eo):aL:=⟨1+d.n%4,0,mG Edge.lt d.raw⟩
theorem tE {s:Int} {d:Bool} {x:Int}:∀{es:List Edge},(bh s d x es).isSome=false↔∀e∈es,¬(e.fr=s/\e.send=d/\e.label=x)
 |[]=>by simp[bh]
 |e::r=>by
  unfold bh
  split
  .rename_i h
   simp[h]
  .rename_i h
   rw[tE]
   simp only[List.mem_cons]
   exact⟨fun hh y hy=>hy.elim (fun e=>e ▸ h) (hh y),fun hh y hy=>hh y (.inr hy)⟩
theorem FF {es:List Edge} {e:Edge} (h:es.Pairwise (mw Edge.lt)):(ns es e).Pairwise (mw Edge.lt):=by
 unfold ns
 split
 .exact h
 .rename_i hn
  have hn':=tE.1 (by simpa using hn)
  rw[List.pairwise_append]
  refine⟨h,XR _ _,fun a ha b hb=>?_⟩
  rw[Xi]at hb
  subst hb
  rw[Edge.wQ]
  exact hn' a ha
theorem y7 (es:List Edge) (e:Edge):(ns es e).length<=es.length+1:=by
 unfold ns
 split<;>simp
theorem y8 {es:List Edge} {e x:Edge} (h:x∈ns es e):x∈es\/x=e:=by
 unfold ns at h
 split at h
 .exact .inl h
 .simpa using h
theorem y9 {st:Int} (hs:1<=st/\st<=4):∀(l:List vD) (es:List Edge),(∀x∈l,x.ok)->es.Pairwise (mw Edge.lt)->(∀e∈es,e.fits st=true)->
  (l.foldl (fun es x=>ns es (x.p9 st)) es).Pairwise (mw Edge.lt)/\(∀e∈l.foldl (fun es x=>ns es (x.p9 st)) es,e.fits st=true)/\(l.foldl (fun es x=>ns es (x.p9 st)) es).length<=es.length+l.length
 |[],es,_,h1,h2=>⟨h1,h2,by simp⟩
 |x::l,es,hx,h1,h2=>by
  have hxo:=hx x (by simp)
  have hf:(x.p9 st).fits st=true:=by
   rw[eh]
   have a1:=X7 x.fr (b:=st) (by omega)
   have a2:=Int.emod_lt_of_pos x.fr (b:=st) (by omega)
   have a3:=X7 x.to (b:=st) (by omega)
   have a4:=Int.emod_lt_of_pos x.to (b:=st) (by omega)
   simp only[vD.p9]
   omega
  obtain⟨g1,g2,g3⟩:=y9 hs l (ns es (x.p9 st)) (fun y hy=>hx y (by simp[hy])) (FF h1) fun e he=>by
   rcases y8 he with h|h
   .exact h2 e h
   .exact h ▸ hf
  have:=y7 es (x.p9 st)
  exact⟨g1,g2,by simp only[List.foldl_cons,List.length_cons]; omega⟩
theorem eo.st {d:eo}:1<=1+d.n%4/\1+d.n%4<=4:=by omega
theorem eo.wS {d:eo} (h:d.ok):d.raw.Pairwise (mw Edge.lt)/\(∀e∈d.raw,e.fits (1+d.n%4)=true)/\d.raw.length<=12:=by
 obtain⟨h1,h2,h3⟩:=y9 d.st (d.gJ.take 12) [] (fun x hx=>h.2.2 x (List.mem_of_mem_take hx)) List.Pairwise.nil (fun e he=>absurd he (by simp))
 refine⟨h1,h2,?_⟩
 have:(d.gJ.take 12).length<=12:=by simp; omega
 simp only[List.length_nil]at h3
 unfold eo.raw
 omega
theorem eo.len {d:eo} (h:d.ok):d.auto.aa.length<=12:=by
 have:=(ku Edge.lt d.raw).length_eq
 have:=d.wS h
 show (mG Edge.lt d.raw).length<=12
 omega
theorem eo.ub {d:eo} (h:d.ok) {s:Int} (hs:0<=s/\s<1+d.n%4):(⟨1+d.n%4,s,d.auto.aa⟩:aL).Good where
 st:=hs
 mx:=by
  have:=d.st
  show 1+d.n%4<=12
  omega
 len:=by
  have:=d.len h
  show d.auto.aa.length<=100
  omega
 fit e he:=(d.wS h).2.1 e ((ku Edge.lt d.raw).subset he)
 NI:=oH Edge.vB (d.wS h).1
@[go_sem] theorem Ic {k:IntKind} {a b:Int} (ha:0<=a) (hb:0<b):cA .rem (.pv (.int k a)) (.pv (.int k b))=some (.pv (.int k (a%b))):=by
 rw[yh (by omega),Int.tmod_eq_emod_of_nonneg ha]
@[go_sem] theorem Jv {a b:Int} (ha:0<=a) (hb:0<b) (h2:a<=255):cA .quo (.pv (.int .u8 a)) (.pv (.int .u8 b))=some (.pv (.int .u8 (a/b))):=by
 rw[yg (by omega),Int.tdiv_eq_ediv_of_nonneg ha,wrap_u8]
 .exact Int.ediv_nonneg ha (by omega)
 .exact Int.le_trans (Int.ediv_le_self b ha) h2
attribute [go_sem] wrap_u8
set_option maxHeartbeats 2000000 in
@[go_sem] theorem r25 (t:Nat) (d:eo) (hd:d.ok):res A az 25 [.agg [.int .u8 d.n,.aq t (d.gJ.map vD.c)]]=some [.agg [.int .i64 (1+d.n%4),.int .i64 0,.aq 0 (bD d.auto.aa)],.bool (decide ((d.gJ.length:Int)<=12))]:=by
 refine aw a25 rfl rfl ?_
 simp only[F25,Uo]
 obtain⟨d1,d2,d3⟩:=hd
 have hst:=d.st
 simp(disch:=omega)only[go_sem]
 refine W.fold (d.gJ.take 12) (fun es x=>ns es (x.p9 (1+d.n%4))) [] (fun k o=>⟨[(1,.ptr 1 0),(2,.ptr 2 0),(4,.ptr 4 0),(5,.pv (.int .i64 k))],⟨[(1,[.pv (.int .u8 d.n),.pv (.aq t (d.gJ.map vD.c))]),(2,[.pv (.int .i64 0),.pv (.int .i64 0),.tl []]),(4,[.pv (.int .i64 (1+d.n%4)),.pv (.int .i64 0),dc 0 (bD o)])],cJ 4 (bD o),[]⟩⟩) (fun k o=>o.length<=k) rfl (by simp) (fun k x o hx hk _ hi=>?_) (fun o ho hi=>?_)
 .have hk2:k<d.gJ.length/\k<12:=by simp at hk; omega
  have hx':d.gJ[k]?=some x:=by rw[W0,if_pos hk2.2]at hx; exact hx
  have hxo:=d3 x (Wr hx')
  unfold vD.ok at hxo
  have q1:(k:Int)<(d.gJ.length:Int):=by omega
  have q2:(k:Int)<12:=by omega
  have al:=y7 o (x.p9 (1+d.n%4))
  have a1:=X7 x.fr (b:=1+d.n%4) (by omega)
  have a2:=X7 x.to (b:=1+d.n%4) (by omega)
  simp(disch:=omega)only[go_sem,hx',q1,q2,vD.c]
  have ha:ns o (x.p9 (1+d.n%4))=if (bh (x.fr%(1+d.n%4)) (decide (x.act%2=1)) (1+x.act/2%3) o).isSome=true then o else o++[x.p9 (1+d.n%4)]:=rfl
  refine Br.of (fun g=>?_) (fun g=>?_)<;>simp(disch:=omega)only[go_sem,g]
  .refine cV.of ?_ (by omega)
   show _=St.mk _ _
   rw[ha,if_pos g]
   rfl
  .refine cV.of ?_ (by omega)
   show _=St.mk _ _
   rw[ha,if_neg (by simp[g])]
   rfl
 .have hr:o=d.raw:=ho
  have hro:=d.wS ⟨d1,d2,d3⟩
  have hlen:=d.len ⟨d1,d2,d3⟩
  rcases Wx d.gJ.length 12 with hc|hc
  .have e1:(d.gJ.take 12).length=d.gJ.length:=by simp; omega
   rw[e1]
   have q1:¬((d.gJ.length:Int)<(d.gJ.length:Int)):=by omega
   subst hr
   simp(disch:=omega)only[go_sem,q1]
   rfl
  .have e1:(d.gJ.take 12).length=12:=by simp; omega
   rw[e1]
   subst hr
   simp(disch:=omega)only[go_sem]
   have q3:¬(((12:Nat):Int)<12):=by omega
   refine Br.aJ (fun g=>?_) (fun g=>?_)<;>simp(disch:=omega)only[go_sem,g,q3]<;>rfl
theorem vE (es:List Edge) (v:Int):∀o:List Int,es.foldl (fun o e=>if e.fr=v then fw o e.to else o) o=sZ o (outs es v):=by
 induction es with
 |nil=>intro o; rfl
 |cons e es ih=>
  intro o
  rw[Xy,ih]
  by_cases h:e.fr=v
  .rw[if_pos h]
   simp[outs,h,ik]
  .rw[if_neg h]
   simp[outs,h]
theorem oR {n b:Nat} {o:List Int} {x:Int} (h:b<=o.length):uk n b (ints (o++[x]))=.own n (o.length - b) 0 (o.length+1):=by
 rw[<- lY,EU (by rw[bt]; exact h),bt]
theorem oT {b:Nat} {o:List Int} {x:Int} (h:b<=o.length):CT 1 b (ints (o++[x]))=[⟨o.length - b,1,.inl (ints (o++[x]))⟩]:=by
 rw[<- lY,EV (by rw[bt]; exact h),bt]
theorem cn (l:List Int):(ints l).length=l.length:=bt l
set_option maxHeartbeats 4000000 in
@[go_sem] theorem r52 (t:Nat) (a:aL) (hg:a.Good):
  res A az 52 [.agg [.int .i64 a.ai,.int .i64 a.start,.aq t (a.aa.map Edge.c)]]=some [.aq 0 (ints a.order)]:=by
 refine aw a52 rfl rfl ?_
 simp only[F52,UC]
 obtain⟨g1,g2,g3,g4,g5⟩:=hg
 have hg:a.Good:=⟨g1,g2,g3,g4,g5⟩
 simp(disch:=omega)only[go_sem]
 refine W.loop (α:=Nat×List Int) (fun x=>⟨[(1,.ptr 1 0),(3,uk 0 1 (ints x.2)),(4,.pv (.int .i64 x.1))],⟨[(1,[.pv (.int .i64 a.ai),.pv (.int .i64 a.start),.pv (.aq t (a.aa.map Edge.c))])],CT 1 1 (ints x.2),[]⟩⟩)
  (fun x=>x.2.Nodup/\(∀v∈x.2,a.inr v)/\1<=x.2.length/\x.1<=x.2.length/\pY (outs a.aa) (a.ai.toNat - x.1) x.1 x.2=a.order) (fun x=>a.ai.toNat - x.1) (0,[a.start]) rfl ⟨by simp,fun w hw=>(List.mem_singleton.1 hw) ▸ hg.st,by simp,by simp,rfl⟩ fun x hx=>?_
 obtain⟨i,o⟩:=x
 obtain⟨hd,hin,h1,h2,hb⟩:=hx
 dsimp only at hd hin h1 h2 hb
 have hlen:=a.bound o hd hin
 simp(disch:=omega)only[go_sem]
 refine Br.aJ (fun h=>?_) (fun h=>?_)
 .obtain⟨v,hv⟩:=get_at (l:=o) (k:=i) (by omega)
  simp(disch:=omega)only[go_sem]
  refine W.fold a.aa (fun o e=>if e.fr=v then fw o e.to else o) o (fun k o=>⟨[(1,.ptr 1 0),(3,uk 0 1 (ints o)),(4,.pv (.int .i64 i)),(5,.pv (.int .i64 k))],⟨[(1,[.pv (.int .i64 a.ai),.pv (.int .i64 a.start),.pv (.aq t (a.aa.map Edge.c))])],CT 1 1 (ints o),[]⟩⟩)
   (fun _ o=>o.Nodup/\(∀v∈o,a.inr v)/\1<=o.length/\o[i]?=some v) rfl ⟨hd,hin,h1,hv⟩ (fun k e o he hk _ hi=>?_) (fun o ho hi=>?_)
  .obtain⟨hd,hin,h1,hv⟩:=hi
   have hlen:=a.bound o hd hin
   have hef:=eh.1 (g4 e (Wr he))
   have hto:a.inr e.to:=⟨hef.2.2.1,hef.2.2.2.1⟩
   have hI:(if e.fr=v then fw o e.to else o).Nodup/\(∀w∈(if e.fr=v then fw o e.to else o),a.inr w)/\1<=(if e.fr=v then fw o e.to else o).length/\(if e.fr=v then fw o e.to else o)[i]?=some v:=by
    split
    .obtain⟨r,hr⟩:=sY o e.to
     have hil:=(Wq.1 hv).1
     refine⟨nf hd,fun x hx=>(oC.1 hx).elim (hin x) (fun q=>q ▸ hto),by rw[<- hr,WX]; omega,by rw[<- hr,Ww hil]; exact hv⟩
    .exact⟨hd,hin,h1,hv⟩
   have hstay:e.fr=v->¬jP e.to o<0->(if e.fr=v then fw o e.to else o)=o:=fun h1 h2=>by rw[if_pos h1,fw,if_pos (rG.1 (by omega))]
   have hmore:e.fr=v->jP e.to o<0->(if e.fr=v then fw o e.to else o)=o++[e.to]:=fun h1 h2=>by rw[if_pos h1,fw,if_neg (oJ.1 h2)]
   rcases yB (b:=1) (rows:=ints o)with hc|⟨m,hc⟩
   .rw[lZ hc,l6 hc]
    rw[cn]at hc
    simp(disch:=omega)only[go_sem]
    refine Br.aJ (fun h=>?_) (fun h=>(h (by omega)).elim)
    simp(disch:=omega)only[go_sem,he,hv]
    refine Br.aJ (fun f1=>?_) (fun f1=>?_)<;>simp(disch:=omega)only[go_sem,f1]
    .refine Br.aJ (fun f2=>?_) (fun f2=>?_)<;>simp(disch:=omega)only[go_sem,f2]
     .refine cV.of ?_ hI
      show _=St.mk _ _
      rw[hmore f1 f2,oR h1,oT h1,show o.length - 1=0 by omega]
      rfl
     .refine cV.of ?_ hI
      show _=St.mk _ _
      rw[hstay f1 f2,lZ (by rw[cn]; exact hc),l6 (by rw[cn]; exact hc)]
      rfl
    .refine cV.of ?_ hI
     show _=St.mk _ _
     rw[if_neg f1,lZ (by rw[cn]; exact hc),l6 (by rw[cn]; exact hc)]
     rfl
   .rw[kg hc,kh hc]
    rw[cn]at hc
    have hil:=(Wq.1 hv).1
    have ht:o.take (1+m+1)=o:=WU (by omega)
    have hi0:(0:Int)<=(i:Int):=by omega
    simp(disch:=omega)only[go_sem]
    refine Br.aJ (fun h=>?_) (fun h=>(h (by omega)).elim)
    simp(disch:=omega)only[go_sem,he,hv]
    refine Br.aJ (fun f1=>?_) (fun f1=>?_)<;>simp(disch:=omega)only[go_sem,f1,ht]
    .refine Br.aJ (fun f2=>?_) (fun f2=>?_)<;>simp(disch:=omega)only[go_sem,f2]
     .refine cV.of ?_ hI
      show _=St.mk _ _
      rw[hmore f1 f2,oR h1,oT h1,show o.length - 1=m+1 by omega,hc]
      rfl
     .refine cV.of ?_ hI
      show _=St.mk _ _
      rw[hstay f1 f2,kg (by rw[cn]; exact hc),kh (by rw[cn]; exact hc)]
      rfl
    .refine cV.of ?_ hI
     show _=St.mk _ _
     rw[if_neg f1,kg (by rw[cn]; exact hc),kh (by rw[cn]; exact hc)]
     rfl
  .rw[vE]at ho
   simp(disch:=omega)only[go_sem]
   obtain⟨hd',hin',h1',hv'⟩:=hi
   have hl':=a.bound o hd' hin'
   have hil:=(Wq.1 hv').1
   refine⟨(i+1,o),⟨hd',hin',h1',hil,?_⟩,by dsimp only; omega,rfl⟩
   dsimp only
   rw[<- hb,ho]
   obtain⟨q,hq⟩:∃q,a.ai.toNat - i=q+1:=⟨a.ai.toNat - i - 1,by omega⟩
   rw[hq,yH hv]
   congr 1
   omega
 .simp(disch:=omega)only[go_sem]
  rw[l9 (by omega)]at hb
  rw[hb]
def jv (x y:Int) (n k:Nat):List Int:=List.replicate k x++List.replicate (n - k) y
theorem AS {x y:Int} {n k:Nat} (h:k<=n):(jv x y n k).length=n:=by simp[jv]; omega
theorem za (x y:Int) (n:Nat):jv x y n 0=List.replicate n y:=by simp[jv]
theorem AT (x y:Int) (n:Nat):jv x y n n=List.replicate n x:=by simp[jv]
theorem zb {x y:Int} {n k:Nat} (h:k<n):(jv x y n k).set k x=jv x y n (k+1):=by
 unfold jv
 rw[List.set_append_right _ _ (by simp)]
 obtain⟨m,hm⟩:∃m,n - k=m+1:=⟨n - k - 1,by omega⟩
 have:n - (k+1)=m:=by omega
 rw[hm,this,List.replicate_succ' (n:=k),W2]
 simp[List.replicate_succ]
def gP (n:Nat) (o:List Int):List Int:=(List.range n).map fun(v:Nat)=>jP (v:Int) o
theorem ff (n:Nat) (o:List Int):(gP n o).length=n:=by simp[gP]
theorem gl {n:Nat} {o:List Int} {v:Int} (h:0<=v/\v<n):(gP n o)[v.toNat]?=some (jP v o):=by
 unfold gP
 rw[Wv,XI (by omega)]
 simp only[Option.map_some]
 rw[show ((v.toNat:Nat):Int)=v by omega]
theorem qM {x y:Int}:∀{l:List Int} {k:Nat},x∉l->ek y k (l++[x])=if y∈l then ek y k l else if y=x then ((k+l.length:Nat):Int) else -1
 |[],k,_=>by
  simp only[List.nil_append,ek,List.not_mem_nil,if_false,List.length_nil,Nat.add_zero]
  by_cases h:x=y
  .simp[h]
  .have:¬y=x:=fun e=>h e.symm
   simp[h,this]
 |z::l,k,hx=>by
  simp only[List.mem_cons,not_or]at hx
  simp only[List.cons_append,ek]
  by_cases h:z=y
  .simp[h]
  .have hz:¬y=z:=fun e=>h e.symm
   rw[if_neg h,qM hx.2]
   simp only[List.mem_cons,hz,false_or,List.length_cons]
   split
   .rfl
   .split
    .congr 1
     omega
    .rfl
theorem FH {x y:Int} {l:List Int} (hx:x∉l):jP y (l++[x])=if y∈l then jP y l else if y=x then (l.length:Int) else -1:=by
 unfold jP
 rw[qM hx]
 simp
theorem FI {x:Int} {l:List Int} (h:x∉l):jP x l= -1:=by
 have:∀{l:List Int} {k:Nat},x∉l->ek x k l= -1:=by
  intro l
  induction l with
  |nil=>intro k _; rfl
  |cons y l ih=>
   intro k h
   simp only[List.mem_cons,not_or]at h
   unfold ek
   rw[if_neg (fun e=>h.1 e.symm),ih h.2]
 exact this h
theorem lJ {n:Nat} {o:List Int} {x:Int} (hx:x∉o) (h:0<=x/\x<n):(gP n o).set x.toNat (o.length:Int)=gP n (o++[x]):=by
 apply Xa
 intro i
 rcases Wx i n with hi|hi
 .have e1:=gl (n:=n) (o:=o++[x]) (v:=(i:Int)) (by omega)
  rw[Xb]at e1
  rw[e1,FH hx]
  by_cases hix:x.toNat=i
  .have:(i:Int)=x:=by omega
   rw[hix,W8 (by rw[ff]; exact hi),if_neg (by rw[this]; exact hx),if_pos this]
  .have hne:¬(i:Int)=x:=by omega
   have e2:=gl (n:=n) (o:=o) (v:=(i:Int)) (by omega)
   rw[Xb]at e2
   rw[Xw hix,e2]
   split
   .rfl
   .rename_i hno
    first
     |rw[FI hno]
     |rw[if_neg hne,FI hno]
 .rw[List.getElem?_eq_none (by simp[ff,hi]),List.getElem?_eq_none (by simp[ff,hi])]
theorem AU (n:Nat):gP n []=List.replicate n (-1):=by
 apply Xa
 intro i
 rcases Wx i n with hi|hi
 .have e1:=gl (n:=n) (o:=[]) (v:=(i:Int)) (by omega)
  rw[Xb]at e1
  rw[e1]
  simp[hi]
  rfl
 .rw[List.getElem?_eq_none (by simp[ff,hi]),List.getElem?_eq_none (by simp[hi])]
set_option maxHeartbeats 4000000 in
@[go_sem] theorem r50 (t:Nat) (a:aL) (hg:a.Good):
  res A az 50 [.agg [.int .i64 a.ai,.int .i64 a.start,.aq t (a.aa.map Edge.c)]]=some [.aq 0 (ints a.order),.aq 0 (ints (gP a.ai.toNat a.order))]:=by
 refine aw a50 rfl rfl ?_
 simp only[F50,UB]
 obtain⟨g1,g2,g3,g4,g5⟩:=hg
 have hg:a.Good:=⟨g1,g2,g3,g4,g5⟩
 simp(disch:=omega)only[go_sem]
 refine W.eG a.ai.toNat (fun k=>⟨[(1,.ptr 1 0),(4,.own 0 0 0 a.ai.toNat),(14,.pv (.int .i64 a.ai.toNat)),(15,.pv (.int .i64 k))],⟨[(1,[.pv (.int .i64 a.ai),.pv (.int .i64 a.start),.pv (.aq t (a.aa.map Edge.c))])],[⟨0,1,.inl (ints (jv (-1) 0 a.ai.toNat k))⟩],[]⟩⟩) (fun _=>True) (by rw[za]; rfl) trivial fun k hk _=>?_
 simp(disch:=omega)only[go_sem]
 refine Br.aJ (fun h=>?_) (fun h=>?_)
 .have ho:=AS (x:= -1) (y:=0) (n:=a.ai.toNat) (k:=k) (by omega)
  simp(disch:=omega)only[go_sem,zb (show k<a.ai.toNat by omega)]
  exact .of (by omega) rfl trivial
 obtain rfl:k=a.ai.toNat:=by omega
 clear h hk
 have hn:(List.replicate a.ai.toNat (-1:Int)).length=a.ai.toNat:=Yc
 have hp0:=lJ (n:=a.ai.toNat) (o:=[]) (x:=a.start) (by simp) (by omega)
 rw[AU]at hp0
 simp only[List.length_nil,List.nil_append]at hp0
 have hp0':(List.replicate a.ai.toNat (-1:Int)).set a.start.toNat 0=gP a.ai.toNat [a.start]:=hp0
 simp(disch:=omega)only[go_sem,AT,hp0']
 refine W.loop (α:=Nat×List Int) (fun x=>⟨[(1,.ptr 1 0),(4,.own 0 0 0 a.ai.toNat),(6,uk 1 1 (ints x.2)),(7,.pv (.int .i64 x.1))],⟨[(1,[.pv (.int .i64 a.ai),.pv (.int .i64 a.start),.pv (.aq t (a.aa.map Edge.c))])],⟨0,1,.inl (ints (gP a.ai.toNat x.2))⟩::CT 1 1 (ints x.2),[]⟩⟩)
  (fun x=>x.2.Nodup/\(∀v∈x.2,a.inr v)/\1<=x.2.length/\x.1<=x.2.length/\pY (outs a.aa) (a.ai.toNat - x.1) x.1 x.2=a.order) (fun x=>a.ai.toNat - x.1) (0,[a.start]) rfl ⟨by simp,fun w hw=>(List.mem_singleton.1 hw) ▸ hg.st,by simp,by simp,rfl⟩ fun x hx=>?_
 obtain⟨i,o⟩:=x
 obtain⟨hd,hin,h1,h2,hb⟩:=hx
 dsimp only at hd hin h1 h2 hb
 have hlen:=a.bound o hd hin
 simp(disch:=omega)only[go_sem]
 refine Br.aJ (fun h=>?_) (fun h=>?_)
 .obtain⟨v,hv⟩:=get_at (l:=o) (k:=i) (by omega)
  simp(disch:=omega)only[go_sem]
  refine W.fold a.aa (fun o e=>if e.fr=v then fw o e.to else o) o (fun k o=>⟨[(1,.ptr 1 0),(4,.own 0 0 0 a.ai.toNat),(6,uk 1 1 (ints o)),(7,.pv (.int .i64 i)),(36,.pv (.aq t (a.aa.map Edge.c))),(37,.pv (.int .i64 a.aa.length)),(38,.pv (.int .i64 k))],⟨[(1,[.pv (.int .i64 a.ai),.pv (.int .i64 a.start),.pv (.aq t (a.aa.map Edge.c))])],⟨0,1,.inl (ints (gP a.ai.toNat o))⟩::CT 1 1 (ints o),[]⟩⟩)
   (fun _ o=>o.Nodup/\(∀v∈o,a.inr v)/\1<=o.length/\o[i]?=some v) rfl ⟨hd,hin,h1,hv⟩ (fun k e o he hk _ hi=>?_) (fun o ho hi=>?_)
  .obtain⟨hd,hin,h1,hv⟩:=hi
   have hlen:=a.bound o hd hin
   have hef:=eh.1 (g4 e (Wr he))
   have hto:a.inr e.to:=⟨hef.2.2.1,hef.2.2.2.1⟩
   have hI:(if e.fr=v then fw o e.to else o).Nodup/\(∀w∈(if e.fr=v then fw o e.to else o),a.inr w)/\1<=(if e.fr=v then fw o e.to else o).length/\(if e.fr=v then fw o e.to else o)[i]?=some v:=by
    split
    .obtain⟨r,hr⟩:=sY o e.to
     have hil:=(Wq.1 hv).1
     refine⟨nf hd,fun x hx=>(oC.1 hx).elim (hin x) (fun q=>q ▸ hto),by rw[<- hr,WX]; omega,by rw[<- hr,Ww hil]; exact hv⟩
    .exact⟨hd,hin,h1,hv⟩
   have hstay:e.fr=v->¬jP e.to o<0->(if e.fr=v then fw o e.to else o)=o:=fun h1 h2=>by rw[if_pos h1,fw,if_pos (rG.1 (by omega))]
   have hmore:e.fr=v->jP e.to o<0->(if e.fr=v then fw o e.to else o)=o++[e.to]:=fun h1 h2=>by rw[if_pos h1,fw,if_neg (oJ.1 h2)]
   have hpl:=ff a.ai.toNat o
   have hpg:=gl (n:=a.ai.toNat) (o:=o) (v:=e.to) (by omega)
   rcases yB (b:=1) (rows:=ints o)with hc|⟨m,hc⟩
   .rw[lZ hc,l6 hc]
    rw[cn]at hc
    simp(disch:=omega)only[go_sem]
    refine Br.aJ (fun h=>?_) (fun h=>(h (by omega)).elim)
    simp(disch:=omega)only[go_sem,he,hv]
    refine Br.aJ (fun f1=>?_) (fun f1=>?_)<;>simp(disch:=omega)only[go_sem,f1,hpg]
    .refine Br.aJ (fun f2=>?_) (fun f2=>?_)<;>simp(disch:=omega)only[go_sem,f2]
     .refine cV.of ?_ hI
      show _=St.mk _ _
      rw[hmore f1 f2,oR h1,oT h1,show o.length - 1=0 by omega,<- lJ (oJ.1 f2) (by omega)]
      rfl
     .refine cV.of ?_ hI
      show _=St.mk _ _
      rw[hstay f1 f2,lZ (by rw[cn]; exact hc),l6 (by rw[cn]; exact hc)]
      rfl
    .refine cV.of ?_ hI
     show _=St.mk _ _
     rw[if_neg f1,lZ (by rw[cn]; exact hc),l6 (by rw[cn]; exact hc)]
     rfl
   .rw[kg hc,kh hc]
    rw[cn]at hc
    have hil:=(Wq.1 hv).1
    have ht:o.take (1+m+1)=o:=WU (by omega)
    have hi0:(0:Int)<=(i:Int):=by omega
    simp(disch:=omega)only[go_sem]
    refine Br.aJ (fun h=>?_) (fun h=>(h (by omega)).elim)
    simp(disch:=omega)only[go_sem,he,hv]
    refine Br.aJ (fun f1=>?_) (fun f1=>?_)<;>simp(disch:=omega)only[go_sem,f1,hpg]
    .refine Br.aJ (fun f2=>?_) (fun f2=>?_)<;>simp(disch:=omega)only[go_sem,f2]
     .refine cV.of ?_ hI
      show _=St.mk _ _
      rw[hmore f1 f2,oR h1,oT h1,<- lJ (oJ.1 f2) (by omega),show o.length - 1=m+1 by omega,hc]
      rfl
     .refine cV.of ?_ hI
      show _=St.mk _ _
      rw[hstay f1 f2,kg (by rw[cn]; exact hc),kh (by rw[cn]; exact hc)]
      rfl
    .refine cV.of ?_ hI
     show _=St.mk _ _
     rw[if_neg f1,kg (by rw[cn]; exact hc),kh (by rw[cn]; exact hc)]
     rfl
  .rw[vE]at ho
   simp(disch:=omega)only[go_sem]
   obtain⟨hd',hin',h1',hv'⟩:=hi
   have hl':=a.bound o hd' hin'
   have hil:=(Wq.1 hv').1
   refine⟨(i+1,o),⟨hd',hin',h1',hil,?_⟩,by dsimp only; omega,rfl⟩
   dsimp only
   rw[<- hb,ho]
   obtain⟨q,hq⟩:∃q,a.ai.toNat - i=q+1:=⟨a.ai.toNat - i - 1,by omega⟩
   rw[hq,yH hv]
   congr 1
   omega
 .simp(disch:=omega)only[go_sem]
  rw[l9 (by omega)]at hb
  rw[hb,WU (by rw[ff]; exact Wy _)]
theorem vF (o:List Int) (es:List Edge):es.foldl (fun r e=>if 0<=jP e.fr o then r++[e.GZ o] else r) []=kept o es:=by
 have h:=fold_filter (fun e:Edge=>decide (e.fr∈o)) (Edge.GZ o) es []
 rw[List.nil_append]at h
 rw[<- show _=kept o es from h]
 congr 1
 funext r e
 by_cases hc:e.fr∈o
 .simp[hc,rG]
 .simp[hc,rG]
theorem zd (o:List Int) (es:List Edge):(kept o es).length<=es.length:=by
 unfold kept
 rw[Wu]
 exact Yd _ _
set_option maxHeartbeats 2000000 in
@[go_sem] theorem r33 (t:Nat) (a:aL) (hl:a.aa.length<=2000000000):
  res A az 33 [.agg [.int .i64 a.ai,.int .i64 a.start,.aq t (a.aa.map Edge.c)]]=some (if a.err=0 then [.agg [.int .i64 a.order.length,.int .i64 0,.aq 0 (bD (mG Edge.lt (kept a.order a.aa)))],.int .i64 0] else [.agg [.int .i64 0,.int .i64 0,.aq 0 []],.int .i64 a.err]):=by
 refine aw a33 rfl rfl ?_
 simp only[F33,Us]
 simp(disch:=omega)only[go_sem]
 refine Br.aJ (fun h1=>?_) (fun h1=>?_)<;>simp(disch:=omega)only[go_sem,h1]
 have hg:=aL.iV.1 h1
 have hol:=hg.lI hg.st
 have hmx:=hg.mx
 have hol':a.order.length<=12:=by unfold aL.order; omega
 have hkl:=zd a.order a.aa
 simp(disch:=omega)only[go_sem,r52 t a hg]
 refine W.fold a.aa (fun r e=>if 0<=jP e.fr a.order then r++[e.GZ a.order] else r) [] (fun k r=>⟨[(1,.ptr 1 0),(2,.ptr 2 0),(5,.pv (.aq 0 (ints a.order))),(6,.ptr 6 0),(7,.pv (.int .i64 k))],⟨[(1,[.pv (.int .i64 a.ai),.pv (.int .i64 a.start),.pv (.aq t (a.aa.map Edge.c))]),(2,[.pv (.int .i64 0),.pv (.int .i64 0),.tl []]),(6,[.pv (.int .i64 a.order.length),.pv (.int .i64 0),dc 0 (bD r)])],cJ 4 (bD r),[]⟩⟩) (fun k r=>r.length<=k) rfl (Wy _) (fun k e r he hk _ hi=>?_) (fun r hr hi=>?_)
 .simp(disch:=omega)only[go_sem]
  refine Br.aJ (fun h=>?_) (fun h=>(h (by omega)).elim)
  simp(disch:=omega)only[go_sem,he]
  refine Br.aJ (fun f=>?_) (fun f=>?_)<;>simp(disch:=omega)only[go_sem,f]
  .refine cV.of ?_ (by rw[if_pos f]; simp; omega)
   show _=St.mk _ _
   rw[if_pos f]
   rfl
  .refine cV.of ?_ (by rw[if_neg f]; omega)
   show _=St.mk _ _
   rw[if_neg f]
   rfl
 .rw[vF]at hr
  subst hr
  simp(disch:=omega)only[go_sem]
  rw[if_pos h1]
def Dg (l:List Edge):Tn:=if l.length=0 then {} else { ar:=some (0,⟨l.length - 1,4,.inl (bD (dm Edge.lt l))⟩) }
theorem FJ {bx:List (Nat×List V)} {mp:List (List (PV×PV))} {l:List Edge} (hm:l.length<=2147483648) (hap:l.Pairwise (mw Edge.lt)):
  jD 4 (gE Edge.c Edge.dec Edge.lt) 47 [dc 0 (bD l),.func 47 []] ⟨bx,cJ 4 (bD l),mp⟩=some (.dv [],Dg l):=by
 rcases XA l.length with h|h
 .have:l=[]:=WL h
  subst this
  simp[Dg,bD,dc,jD]
 .obtain⟨m,hm'⟩:∃m,(bD l).length=m+1:=⟨l.length - 1,by rw[bL]; omega⟩
  rw[rF hm',lX hm']
  rw[bL]at hm'
  rw[AQ (l:=l) hm'.symm (by simp[aB]) (by omega) hm hap,Dg,if_neg (by omega),hm']
  rfl
@[go_sem] theorem M3 (bx:List (Nat×List V)) (mp:List (List (PV×PV))) (l:List Edge):(Dg l).apply ⟨bx,cJ 4 (bD l),mp⟩=⟨bx,cJ 4 (bD (dm Edge.lt l)),mp⟩:=by
 have hp:=(db Edge.lt l).length_eq
 rcases XA l.length with h|h
 .have:l=[]:=WL h
  subst this
  simp[Dg,bD,dm,Tn.apply,cJ]
 .obtain⟨m,hm'⟩:∃m,(bD l).length=m+1:=⟨l.length - 1,by rw[bL]; omega⟩
  have hm2:(bD (dm Edge.lt l)).length=m+1:=by rw[bL,hp,<- bL]; exact hm'
  rw[lX hm',lX hm2]
  rw[bL]at hm'
  simp[Dg,Tn.apply,hm']
theorem Ie {n:Nat} {a b:List (List PV)} (h:a.length=b.length):dc n a=dc n b:=by
 cases a<;>cases b<;>simp_all [dc]
set_option maxHeartbeats 2000000 in
@[go_sem] theorem r32 (t:Nat) (a:aL) (hl:a.aa.length<=2000000000):
  res A az 32 [.agg [.int .i64 a.ai,.int .i64 a.start,.aq t (a.aa.map Edge.c)]]=some (if a.err=0 then [.agg [.int .i64 a.trim.ai,.int .i64 0,.aq 0 (bD a.trim.aa)],.int .i64 0] else [.agg [.int .i64 0,.int .i64 0,.aq 0 []],.int .i64 a.err]):=by
 refine aw a32 rfl rfl ?_
 simp only[F32,Ur]
 simp(disch:=omega)only[go_sem]
 refine Br.aJ (fun h1=>?_) (fun h1=>?_)<;>simp(disch:=omega)only[go_sem,h1]
 have hg:=aL.iV.1 h1
 have hol:=hg.lI hg.st
 have hmx:=hg.mx
 have hol':a.order.length<=12:=by unfold aL.order; omega
 have hkl:=zd a.order a.aa
 have hpl:=ff a.ai.toNat a.order
 simp(disch:=omega)only[go_sem,r50 t a hg]
 refine W.fold a.aa (fun r e=>if 0<=jP e.fr a.order then r++[e.GZ a.order] else r) [] (fun k r=>⟨[(2,.ptr 2 0),(6,.pv (.aq 0 (ints (gP a.ai.toNat a.order)))),(7,.ptr 7 0),(25,.pv (.aq t (a.aa.map Edge.c))),(26,.pv (.int .i64 a.aa.length)),(27,.pv (.int .i64 k))],⟨[(2,[.pv (.int .i64 0),.pv (.int .i64 0),.tl []]),(7,[.pv (.int .i64 a.order.length),.pv (.int .i64 0),dc 0 (bD r)])],cJ 4 (bD r),[]⟩⟩) (fun k r=>r.length<=k) rfl (Wy _) (fun k e r he hk _ hi=>?_) (fun r hr hi=>?_)
 .have hef:=eh.1 (hg.fit e (Wr he))
  have q1:=gl (n:=a.ai.toNat) (o:=a.order) (v:=e.fr) (by omega)
  have q2:=gl (n:=a.ai.toNat) (o:=a.order) (v:=e.to) (by omega)
  obtain⟨j1,hj1⟩:=XF hef.1
  obtain⟨j2,hj2⟩:=XF hef.2.2.1
  simp(disch:=omega)only[go_sem]
  refine Br.aJ (fun h=>?_) (fun h=>(h (by omega)).elim)
  simp(disch:=omega)only[go_sem,he,gD,q1]
  refine Br.aJ (fun f=>?_) (fun f=>?_)<;>simp(disch:=omega)only[go_sem,f,gD,q1,q2]
  .refine cV.of ?_ (by rw[if_pos f]; simp; omega)
   show _=St.mk _ _
   rw[if_pos f]
   rfl
  .refine cV.of ?_ (by rw[if_neg f]; omega)
   show _=St.mk _ _
   rw[if_neg f]
   rfl
 .rw[vF]at hr
  subst hr
  simp(disch:=omega)only[go_sem]
  rw[FJ (by omega) (tB hg.mw)]
  have hp:=(db Edge.lt (kept a.order a.aa)).length_eq
  simp(disch:=omega)only[go_sem]
  rw[Ie (show (bD (kept a.order a.aa)).length=(bD (dm Edge.lt (kept a.order a.aa))).length by rw[bL,bL,hp])]
  simp(disch:=omega)only[go_sem]
  rw[if_pos h1]
  rfl
def Ig (x:Bool×Int):List PV:=[.bool x.1,.int .i64 x.2]
@[go_sem] theorem TI (x:Bool×Int):Ig x=[.bool x.1,.int .i64 x.2]:=rfl
def fQ (l:List (Bool×Int)):List (List PV):=l.map Ig
@[go_sem] theorem jh (l:List (Bool×Int)):(fQ l).length=l.length:=by simp[fQ]
def oU {α:Type} (p:α->Bool) (l:List α):Int:=match l.findIdx? p with
 |some k=>k
 |none=> -1
theorem Found.oU {α:Type} {l:List α} {p:α->Bool} {k:Nat} {x:α} (h:Found l p k x):oU p l=k:=by
 unfold Pv.oU
 rw[h.idx]
theorem hU.oU {α:Type} {l:List α} {p:α->Bool} (h:hU l p):oU p l= -1:=by
 unfold Pv.oU
 rw[h.idx]
def V4 (l:List (Int×Int)):List (List PV):=l.map fun x=>[.int .i64 x.1,.int .i64 x.2]
@[go_sem] theorem TJ:V4 []=[]:=rfl
def fM {α β:Type} (f:α->β) (y:β) (l:List α) (k:Nat):List β:=(l.take k).map f++List.replicate (l.length - k) y
theorem AV {α β:Type} (f:α->β) (y:β) (l:List α) {k:Nat} (h:k<=l.length):(fM f y l k).length=l.length:=by simp[fM]; omega
theorem zf {α β:Type} (f:α->β) (y:β) (l:List α):fM f y l 0=List.replicate l.length y:=by simp[fM]
theorem AW {α β:Type} (f:α->β) (y:β) (l:List α):fM f y l l.length=l.map f:=by simp[fM]
theorem AX {α β:Type} {f:α->β} {y:β} {l:List α} {k:Nat} {x:α} (h:l[k]?=some x):(fM f y l k).set k (f x)=fM f y l (k+1):=by
 have hk:=(Wq.1 h).1
 unfold fM
 rw[List.set_append_right _ _ (by simp; omega),List.take_add_one,h]
 obtain⟨m,hm⟩:∃m,l.length - k=m+1:=⟨l.length - k - 1,by omega⟩
 have:l.length - (k+1)=m:=by omega
 rw[hm,this]
 simp[Nat.min_eq_left (Nat.le_of_lt hk),List.replicate_succ]
def U7 (ars:List aN) (x:V) (l:List Int):Prop:=
 ((x=.tl []\/x=.pv (.aq 0 []))/\l=[])\/∃id ax,x=.own (id+1) ax 0 l.length/\l≠[]/\ars[id]?=some ⟨ax,1,.inl (ints l)⟩
structure VO (n:Nat) (s:List (List Int)) (xs:List V) (ars:List aN):Prop where
 xl:xs.length=n
 sl:s.length=n
 own:∀(v:Nat) (x:V) (l:List Int),xs[v]?=some x->s[v]?=some l->U7 ars x l
 Wn:∀(v w:Nat) (x y:V) (i:Nat),xs[v]?=some x->xs[w]?=some y->fR x=some i->fR y=some i->v=w
def cO (xs:List V):List (List V):=xs.map fun x=>[x]
@[go_sem] theorem Dh (xs:List V):(cO xs).length=xs.length:=by simp[cO]
@[go_sem] theorem PA (xs:List V) (i:Nat):(cO xs)[i]?=xs[i]?.map fun x=>[x]:=by simp[cO]
theorem Di (xs:List V) (i:Nat) (x:V):(cO xs).set i [x]=cO (xs.set i x):=by simp[cO,List.map_set]
theorem zg {id row ax:Nat} {xs:List V} {y:V} (h1:row<xs.length) (hc:y.calm=true):dj id row 0 [y] ⟨ax,1,.inr (cO xs)⟩=some { ar:=some (id,⟨ax,1,.inr (cO (xs.set row y))⟩) }:=by
 have h2:row<(⟨ax,1,.inr (cO xs)⟩:aN).size:=by simp[aN.size,cO,h1]
 obtain⟨z,hz⟩:∃z,xs[row]?=some z:=⟨xs[row],by simp[h1]⟩
 have h3:(cO xs).getD row []=[z]:=by simp[cO,hz]
 simp[dj,h2,hc,setBody,<- Di]
 simp[cO,hz]
theorem AY (n:Nat):cu n [.tl []]=.inr (cO (List.replicate n (.tl []))):=by
 simp[cu,ay,V.bP,cO]
attribute [go_sem] AY
variable {A:Nat->Option af} {Pr:bn}
def M4 {α:Type} (kt kb:List Nat) (S:α->St) (P:α->Prop) (m:α->Nat) (x:α) (Q:Ex->St->Prop) (_t:oe (kt,kb,S,P,m,x,Q):=.mk):Ex->St->Prop
 |.normal,s=>∃y,P y/\m y<m x/\s.mask kt kb=S y
 |.exit i,s=>Q (.exit i) s
 |.ret,s=>Q .ret s
@[go_sem] theorem PB {α:Type} (kt kb:List Nat) (S:α->St) (P:α->Prop) (m:α->Nat) (x:α) (Q:Ex->St->Prop) (i:Nat) (s:St):M4 kt kb S P m x Q .mk (.exit i) s=Q (.exit i) s:=rfl
@[go_sem] theorem Sh {α:Type} (kt kb:List Nat) (S:α->St) (P:α->Prop) (m:α->Nat) (x:α) (Q:Ex->St->Prop) (s:St):M4 kt kb S P m x Q .mk .ret s=Q .ret s:=rfl
theorem W.Cc {α:Type} {a:AC} {kt kb:List Nat} {s:St} {Q:Ex->St->Prop} (S:α->St) (P:α->Prop) (m:α->Nat) (x0:α) (hs:s.mask kt kb=S x0) (h0:P x0) (hr:∀x,P x->W A Pr a (S x) (M4 kt kb S P m x Q)):W A Pr (.loop (.mask kt kb a)) s Q:=by
 have key:∀n x s,m x<=n->s.mask kt kb=S x->P x->W A Pr (.loop (.mask kt kb a)) s Q:=by
  intro n
  induction n with
  |zero=>
   intro x s hm hs hp
   obtain⟨ex,s',h1,h2⟩:=hr x hp
   rw[<- hs]at h1
   have h1:=cb.mask h1
   cases ex with
   |normal=>obtain⟨y,_,h3,_⟩:=h2; omega
   |exit i=>exact⟨_,_,cb.gB h1 (by simp),h2⟩
   |ret=>exact⟨_,_,cb.gB h1 (by simp),h2⟩
  |succ n ih=>
   intro x s hm hs hp
   obtain⟨ex,s',h1,h2⟩:=hr x hp
   rw[<- hs]at h1
   have h1:=cb.mask h1
   cases ex with
   |normal=>
    obtain⟨y,hy,h3,h6⟩:=h2
    obtain⟨e2,s2,h4,h5⟩:=ih y s' (by omega) h6 hy
    exact⟨e2,s2,cb.uY h1 h4,h5⟩
   |exit i=>exact⟨_,_,cb.gB h1 (by simp),h2⟩
   |ret=>exact⟨_,_,cb.gB h1 (by simp),h2⟩
 exact key _ x0 s (Wy _) hs h0
end Go.Pv
namespace Go.Pv
theorem Dj {T:List aI} (h:R9 T) {x:aI} (hx:x∈T) {n:List Int} (hn:n.length=T.length):∀u∈cR x,0<=u/\u<n.length:=fun u hu=>by
 rw[hn]
 exact h.NH x hx u hu
theorem tF {b:Bool} {T:List aI} {n:List Int} {k:Nat} {x:aI} (h:T[k]?=some x):swp b T n (k+1)=(swp b T n k).set k (jQ b x (swp b T n k)):=by
 show (match T[k]? with
  |some x=>(swp b T n k).set k (jQ b x (swp b T n k))
  |none=>swp b T n k)=_
 rw[h]
theorem AZ {l:List aI} (h:cP l=0):∀k,k<l.length->e9 l k=0:=by
 unfold cP at h
 split at h
 .cases h
 .cases hf:(List.range l.length).find? (fun k=>decide (e9 l k≠0))with
  |none=>
   intro k hk
   have:=XC.1 hf k (W4.2 hk)
   simpa using this
  |some k=>
   rw[hf]at h
   have:=XV hf
   simp only[yE]at h
   simp[h]at this
theorem Dk {l:List aI} {k:Nat} {t:aI} (h:cP l=0) (hk:l[k]?=some t):eZ l t=false:=by
 have:=AZ h k (Wq.1 hk).1
 simp only[e9,hk,gR]at this
 split at this
 .cases this
 .split at this
  .cases this
  .split at this
   .cases this
   .rename_i h3
    simpa using h3
theorem FK {T:List aI} {n:List Int} (h:B8 true T n) {k:Nat} {x:aI} (hx:T[k]?=some x) (hc:(swp true T n k).getD k 0≠jQ true x (swp true T n k)):swp true T n (k+1)≠n:=fun e=>by
 obtain⟨h1,h2⟩:=h.swp k
 have h3:=h1.2.2 k x hx
 have h4:=h2.2 k
 have hk:k<(swp true T n k).length:=by rw[h1.1]; exact(Wq.1 hx).1
 have h5:=im (n:=swp true T n k) (x:=jQ true x (swp true T n k)) k hk
 rw[<- tF hx,e,if_pos rfl]at h5
 omega
theorem FL {T:List aI} {n:List Int} (h:B8 true T n) {k:Nat} {x:aI} (hx:T[k]?=some x) (hc:(swp true T n k).getD k 0=jQ true x (swp true T n k)):swp true T n (k+1)=swp true T n k:=by
 have hk:k<(swp true T n k).length:=by rw[(h.swp k).1.1]; exact(Wq.1 hx).1
 rw[tF hx,<- hc,WS,Ws hk]
 simp
theorem Dl {T:List aI} (hv:cP T=0) {n:List Int} (h:Fix true T n):∀x∈T,x.kind=8->kL n x.key≠0:=by
 intro x hx h8
 obtain⟨k,hk⟩:=Wt.1 hx
 have hb:=Dk hv hk
 have hu:=(fa hv).NH x hx x.key (oB h8)
 unfold eZ kj at hb
 rw[h8]at hb
 have hg:=Ws (l:=T) (i:=x.key.toNat) (by omega)
 generalize T[x.key.toNat]'(by omega)=q at hg
 rw[hg]at hb
 have hq:1<=q.kind/\q.kind<=4:=by simpa using hb
 have ho:=(fa hv).own q (Wr hg)
 unfold kL
 rw[h.2.2 _ q hg]
 unfold jQ
 have h4:q.kind=4->0<q.syms.length:=fun e=>by
  unfold dN kindOk pW at ho
  simp[e]at ho
  omega
 split
 .split<;>decide
 .split
  .split<;>decide
  .split
   .rename_i e
    have:=h4 e
    omega
   .rw[if_neg (by omega),if_neg (by omega),if_neg (by omega),if_neg (by omega),if_neg (by omega)]
    decide
def vG (T:List aI):List Int:=kM false T (2*T.length+1)
set_option maxHeartbeats 2000000 in
theorem r474 (u:Nat) (T:List aI) (ho:∀t∈T,t.ok) (hs:∀t∈T,t.short) (hv:cP T=0):res A az 474 [.agg [.aq u (T.map aI.c)]]=some [.aq 0 (ints (vG T))]:=by
 have hS:=fa hv
 have hT:=Fu ho hv
 have h32:=hS.len
 refine aw a474 rfl rfl ?_
 simp only[F474,L4]
 simp(disch:=omega)only[go_sem]
 refine W.Cc (α:=Bool×List Int) (fun x=>⟨[(1,.ptr 1 0),(3,.own 0 0 0 T.length),(4,.pv (.bool x.1))],⟨[(1,[.pv (.aq u (T.map aI.c))])],[⟨0,1,.inl (ints x.2)⟩],[]⟩⟩)
  (fun x=>B8 true T x.2/\(∀m,Fix true T m->kN x.2 m)/\(x.1=false->Fix true T x.2)) (fun x=>(2*(2*T.length - p7 x.2)).toNat+(if x.1=true then 1 else 0)) (true,kM true T 0) (by simp(disch:=omega)only[go_sem]; rfl) ⟨gI true T 0,fun m hm=>nn hm 0,fun h=>by cases h⟩ fun x hx=>?_
 obtain⟨b,n⟩:=x
 obtain⟨hl,hun,hfix⟩:=hx
 dsimp only at hl hun hfix
 have hll:=hl.1
 cases b with
 |false=>
  have e:n=vG T:=qK.uniq (Db ⟨hfix rfl,hun⟩ (Dl hv (hfix rfl))) (np false T)
  rw[<- e]
  have hmt:n.take T.length=n:=WU (by omega)
  simp(disch:=omega)only[go_sem,hmt]
 |true=>
  simp(disch:=omega)only[go_sem]
  refine W.eG T.length (fun k=>⟨[(1,.ptr 1 0),(3,.own 0 0 0 T.length),(4,.pv (.bool (decide (swp true T n k≠n)))),(14,.pv (.aq u (T.map aI.c))),(15,.pv (.int .i64 T.length)),(16,.pv (.int .i64 k))],⟨[(1,[.pv (.aq u (T.map aI.c))])],[⟨0,1,.inl (ints (swp true T n k))⟩],[]⟩⟩) (fun _=>True) (by simp[swp]) trivial fun k hk _=>?_
  have hw:=(hl.swp k).1
  have hwl:=hw.1
  simp(disch:=omega)only[go_sem]
  refine Br.aJ (fun c=>?_) (fun c=>?_)
  .obtain⟨x,hx⟩:=get_some (l:=T) (k:=k) (by omega)
   have hxm:=Wr hx
   have hsx:=tF (b:=true) (n:=n) hx
   have hfl:=FK hl hx
   have hsm:=FL hl hx
   have h485:=fun t=>r485 x (swp true T n k) t (hT.2.2 x hxm) (hs x hxm) hw.2.1 (Dj hS hxm hwl)
   have hmn:=Fy x hw.2.1
   have hfk:∀b:Bool,(b=true↔swp true T n k≠n)->b=decide (swp true T n k≠n):=fun b h=>by rw[Bool.eq_iff_iff,h]; simp
   obtain⟨fl,hfl2⟩:∃fl,decide (swp true T n k≠n)=fl:=⟨_,rfl⟩
   have hup:fl=true->swp true T n (k+1)≠n:=fun h e=>by
    have h1:=(hl.swp k).2
    have h2:kN (swp true T n k) (swp true T n (k+1)):=by rw[hsx]; exact(hw.step hx).2
    rw[e]at h2
    rw[<- hfl2]at h
    exact of_decide_eq_true h (h2.MX h1)
   have hga:(swp true T n k)[k]?=some ((swp true T n k).getD k 0):=by
    rw[WS,Ws (show k<(swp true T n k).length by omega)]
    rfl
   rw[hfl2]
   have hlo:fl=false->swp true T n k=n:=fun h=>by
    rw[<- hfl2]at h
    simpa using h
   generalize hm:swp true T n k=m at *
   have hmt:m.take T.length=m:=WU (by omega)
   generalize m.getD k 0=g at *
   generalize hq:jQ true x m=q at *
   generalize Fx x m=q2 at *
   simp only[aI.c]at h485
   simp(disch:=omega)only[go_sem,hx,Option.map_some,aI.c,h485,hmt,hmn,hga]
   refine Br.aJ (fun d=>?_) (fun d=>?_)<;>simp(disch:=omega)only[go_sem]
   .refine .of (by omega) ?_ trivial
    have h1:=hsm d.symm
    have h2:decide (swp true T n (k+1)≠n)=fl:=by rw[h1,hfl2]
    rw[h2,h1]
    rfl
   .refine .of (by omega) ?_ trivial
    have h1:=hfl (fun e=>d e.symm)
    have h2:decide (swp true T n (k+1)≠n)=true:=decide_eq_true h1
    rw[h2,hsx]
    rfl
  .obtain rfl:k=T.length:=by omega
   simp(disch:=omega)only[go_sem]
   have hup:=(hl.swp T.length).2
   have hf:=Fw hl
   have hlw:=(hl.swp T.length).1
   refine⟨(decide (swp true T n T.length≠n),swp true T n T.length),⟨hlw,fun m hm=>me hl hm (hun m hm) _,fun h=>?_⟩,?_,by simp(disch:=omega)only[go_sem]⟩
   .have e:swp true T n T.length=n:=by simpa using h
    dsimp only
    rw[e]at hf |-
    exact hf (kN.refl n)
   .have h1:=wP hup
    have h2:=oP hl.2.1
    have h3:=oP hlw.2.1
    rw[hll]at h2
    rw[hlw.1]at h3
    by_cases e:swp true T n T.length=n
    .simp[e]
    .have:=h1.2 (fun h=>e h.symm)
     simp[e]
     omega
theorem A1 (l:List Bool) (x:Bool):bV l++[[.bool x]]=bV (l++[x]):=by simp[bV]
def oV (x:Int):Bool:=decide (0<x)
def A2 (T:List aI):List Bool:=(vG T).map oV
theorem Dm {N:List Int} {k:Nat} {x:Int} (h:N[k]?=some x):(N.map oV).take (k+1)=(N.map oV).take k++[oV x]:=by
 rw[W5,Wv,h]
 rfl
noncomputable def M5 (T:List aI):List Bool:=if gk T≠0 then [] else A2 T
theorem vH (T:List aI):(vG T).length=T.length:=(gI false T _).1
set_option maxHeartbeats 2000000 in
theorem r464 (u:Nat) (T:List aI) (hl:T.length<=2147483648) (ho:∀t∈T,t.ok) (hs:∀t∈T,t.short):res A az 464 [.agg [.aq u (T.map aI.c)]]=some [.aq 0 (bV (M5 T)),.int .i64 (gk T)]:=by
 have h473:=r473 u T hl ho hs
 refine aw a464 rfl rfl ?_
 simp only[F464,LW]
 simp(disch:=omega)only[go_sem,h473]
 unfold M5
 refine Br.aJ (fun c=>?_) (fun c=>?_)<;>simp(disch:=omega)only[go_sem,c]
 rotate_left
 .rw[if_pos c]
  rfl
 rw[if_neg (by simp[c])]
 have hc0:=c
 have hv:=(lH c).1
 have h474:=r474 u T ho hs hv
 have hcl:=vH T
 have h32:=(fa hv).len
 unfold A2
 generalize vG T=N at *
 simp(disch:=omega)only[go_sem,h474]
 refine W.eG N.length (fun k=>⟨[(5,dc 0 (bV ((N.map oV).take k))),(14,.pv (.aq 0 (ints N))),(15,.pv (.int .i64 N.length)),(16,.pv (.int .i64 k))],⟨[],cJ 1 (bV ((N.map oV).take k)),[]⟩⟩) (fun _=>True) rfl trivial fun k hk _=>?_
 simp(disch:=omega)only[go_sem]
 refine Br.aJ (fun c=>?_) (fun c=>?_)
 .obtain⟨x,hx⟩:=get_some (l:=N) (k:=k) (by omega)
  have ht:=Dm hx
  have hql:(bV ((N.map oV).take k)).length=k:=by simp[bV]; omega
  have hg:=fun bx mp=>BR bx mp 1 (bV ((N.map oV).take k)) [.bool (oV x)] rfl (by omega)
  have hp:decide (0<x)=oV x:=rfl
  generalize (N.map oV).take k=q at *
  simp(disch:=omega)only[go_sem,hx,hp,hg]
  refine .of (by omega) ?_ trivial
  rw[A1,<- ht]
  rfl
 .obtain rfl:k=N.length:=by omega
  have e:(N.map oV).take N.length=N.map oV:=List.take_of_length_le (by simp)
  rw[e]
  simp(disch:=omega)only[go_sem,hc0]
noncomputable def iW (T:List aI):Int:=if gk T≠0 then gk T else if (A2 T).all id=true then 0 else 10
theorem Cd (l:List Bool):(l.all fun x=>!!x)=l.all id:=by
 congr 1
 funext x
 simp
theorem r439 (u:Nat) (T:List aI) (hl:T.length<=2147483648) (ho:∀t∈T,t.ok) (hs:∀t∈T,t.short):res A az 439 [.agg [.aq u (T.map aI.c)]]=some [.int .i64 (iW T)]:=by
 have h464:=r464 u T hl ho hs
 refine aw a439 rfl rfl ?_
 simp only[F439,LG]
 simp(disch:=omega)only[go_sem,h464]
 unfold iW M5
 refine Br.aJ (fun c=>?_) (fun c=>?_)<;>simp(disch:=omega)only[go_sem,c]
 rotate_left
 .rw[if_pos c]
 rw[if_neg (by simp[c]),if_neg (by simp[c])]
 have hfl:(A2 T).length=T.length:=by unfold A2; rw[Wu,vH]
 have h32:=(fa (lH c).1).len
 generalize A2 T=N at *
 refine W.find N (fun x=>!x) (fun k=>⟨[(15,.pv (.aq 0 (bV N))),(16,.pv (.int .i64 N.length)),(17,.pv (.int .i64 k))],⟨[],[],[]⟩⟩) rfl (fun k x hx hk hfd=>?_) (fun hn=>?_)
 .simp(disch:=omega)only[go_sem]
  refine Br.aJ (fun c=>?_) (fun c=>(c (by omega)).elim)
  simp(disch:=omega)only[go_sem,hx]
  cases x
  .have:=(hfd rfl).all
   rw[Cd]at this
   simp(disch:=omega)only[go_sem]
   rw[this,if_neg (by decide)]
  .simp(disch:=omega)only[go_sem]
   exact bA.of rfl rfl
 .have:=hn.all
  rw[Cd]at this
  simp(disch:=omega)only[go_sem]
  rw[this,if_pos rfl]
def lK (i:Int) (m:gF):Bool:=decide (m.id=i)
theorem r487 (m:gF) (u:Nat) (i:Int):res A az 487 [.agg m.c,.ro u [.int .i64 i]]=some [.bool (lK i m)]:=by
 refine aw a487 rfl rfl ?_
 simp only[F487,Mc]
 simp(disch:=omega)only[go_sem,gF.c]
 rfl
theorem r486 (t u:Nat) (i:Int) (l:List gF) (hl:l.length<=2^63 - 1):res A az 486 [.aq t (msgs l),.func 487 [.ro u [.int .i64 i]]]=some [.int .i64 (bk (lK i) l)]:=by
 refine aw a486 rfl rfl ?_
 simp only[F486,Mb]
 simp(disch:=omega)only[go_sem]
 refine W.find l (lK i) (fun k=>⟨[(0,.pv (.aq t (msgs l))),(1,.pv (.func 487 [.ro u [.int .i64 i]])),(7,.pv (.int .i64 l.length)),(8,.pv (.int .i64 k))],⟨[],[],[]⟩⟩) rfl (fun k x hx hk hfd=>?_) (fun hn=>?_)
 .have hfx:=r487 x u i
  simp(disch:=omega)only[go_sem]
  refine Br.aJ (fun h=>?_) (fun h=>(h (by omega)).elim)
  unfold gF.c at hfx
  simp(disch:=omega)only[go_sem,hx,gF.c,hfx]
  refine Br.of (fun h2=>?_) (fun h2=>?_)<;>simp(disch:=omega)only[go_sem]
  .rw[(hfd h2).bk]
  .exact bA.of h2 rfl
 .simp(disch:=omega)only[go_sem]
  rw[hn.bk]
def U8 (o:Option gF):gF:=o.getD ⟨0,⟨#[]⟩,0⟩
theorem r476 (x:dW) (i:Int) (hl:x.msgs.length<=2^63 - 1):res A az 476 [.agg x.c,.int .i64 i]=some [.agg (U8 (x.msgs.find? (lK i))).c,.bool (x.msgs.any (lK i))]:=by
 refine aw a476 rfl rfl ?_
 simp only[F476,L6]
 have h486:=fun u=>r486 0 u i x.msgs hl
 have e:x.msgs.map gF.c=msgs x.msgs:=rfl
 simp only[dW.c,e]
 simp(disch:=omega)only[go_sem,h486]
 rcases ky (lK i) x.msgs with⟨f1,f2⟩|⟨k,m,f1,f2,f3⟩
 .have ha:x.msgs.any (lK i)=false:=by
   rw[Xc]
   exact XC.1 f1
  rw[f1,f2,ha]
  refine Br.aJ (fun c=>?_) (fun c=>absurd (by decide) c)
  simp(disch:=omega)only[go_sem]
  rfl
 .have ha:x.msgs.any (lK i)=true:=by
   rw[XB]
   exact⟨m,List.mem_of_find?_eq_some f1,XV f1⟩
  rw[f1,f3,ha]
  refine Br.aJ (fun c=>absurd c (by omega)) (fun c=>?_)
  simp(disch:=omega)only[go_sem,f2,gF.c]
  rfl
def vI (l:List gF) (k:Nat):Int:=if k=0 then 0 else ((l[k - 1]?).map (·.id)).getD 0
def Ce (l:List gF) (k:Nat) (m:gF):Bool:=decide (m.id<=vI l k)||(decide (1000<m.id)||(!isName m.name||cX ((l.take k).map (·.name)) m.name))
def vJ (l:List gF) (k:Nat):Bool:=match l[k]? with
 |some m=>Ce l k m
 |none=>false
def lL (x:dW):Bool:=!((List.range x.msgs.length).any (vJ x.msgs))&&isName x.name
theorem A3 {l:List gF} {k:Nat} {m:gF} (h:l[k]?=some m):vI l (k+1)=m.id:=by
 unfold vI
 rw[if_neg (by omega),Nat.add_sub_cancel,h]
 rfl
def qN (l:List gF) (k:Nat):List ByteArray:=((l.take k).map (·.name)).foldl pU []
theorem Dn (l:List gF) (k:Nat) (x:ByteArray):cX (qN l k) x=cX ((l.take k).map (·.name)) x:=by
 rw[Xo,eJ,eJ,qN,pX]
 simp
theorem A4 {l:List gF} {k:Nat} {t:gF} (h:l[k]?=some t):pU (qN l k) t.name=qN l (k+1):=by
 unfold qN
 rw[W5,h,WZ,List.foldl_append]
 rfl
def tG (n:Nat) (x:dW):Int:=
 if 16<x.msgs.length then 3
 else if lL x=false then 1
 else if x.msgs.any (fun m=>dO n m.ty)=true then 4
 else if x.auto.err≠0 then x.auto.err
 else if x.auto.aa.any (fun e=>!x.msgs.any (lK e.label))=true then 4
 else if (x.auto.order.length:Int)≠x.auto.ai then 1 else 0
theorem FM {a:aL} (h:a.err=0):(a.order.length:Int)<=a.ai:=by
 have hg:=aL.iV.1 h
 have:=hg.lI hg.st
 have h2:=hg.st
 unfold aL.order
 omega
set_option maxHeartbeats 4000000 in
theorem r466 (u:Nat) (T:List (List PV)) (x:dW) (hT:T.length<=2^63 - 1) (hl:x.msgs.length<=2^63 - 1) (hn:bu x.name) (hs:∀m∈x.msgs,bu m.name) (he:x.auto.aa.length<=2000000000):res A az 466 [.agg [.aq u T],.agg x.c]=some [.int .i64 (tG T.length x)]:=by
 have h306n:=r306 x.name hn
 have h476:=fun i=>r476 x i hl
 have h32:=r32 0 x.auto he
 refine aw a466 rfl rfl ?_
 simp only[F466,LY]
 have e:x.msgs.map gF.c=msgs x.msgs:=rfl
 simp only[dW.c,e]at h476 |-
 unfold tG
 simp(disch:=omega)only[go_sem]
 refine Br.aJ (fun c1=>?_) (fun c1=>?_)<;>simp(disch:=omega)only[go_sem,c1]
 .rw[if_pos (by omega)]
 rw[if_neg (by omega)]
 refine W.find (List.range x.msgs.length) (vJ x.msgs) (fun k=>⟨[(2,.ptr 2 0),(3,.ptr 3 0),(5,.map 0),(6,.pv (.int .i64 (vI x.msgs k))),(23,.pv (.aq 0 (msgs x.msgs))),(24,.pv (.int .i64 x.msgs.length)),(25,.pv (.int .i64 k))],⟨[(2,[.pv (.aq u T)]),(3,[.pv (.str x.name),.pv (.aq 0 (msgs x.msgs)),.pv (.int .i64 x.auto.ai),.pv (.int .i64 x.auto.start),.pv (.aq 0 (x.auto.aa.map Edge.c))])],[],[iT (qN x.msgs k)]⟩⟩) rfl (fun k k' hx hk hfd=>?_) (fun hnw=>?_)
 .obtain⟨rfl,hk⟩:=ey hx
  obtain⟨m,hm⟩:=get_some hk
  have hb:vJ x.msgs k'=Ce x.msgs k' m:=by unfold vJ; rw[hm]
  have h306:=r306 m.name (hs m (Wr hm))
  have done:vJ x.msgs k'=true->lL x=false:=fun h=>by
   unfold lL
   rw[(hfd h).any]
   rfl
  have hln:=A3 hm
  have hsn:=A4 hm
  rw[hb]at done |-
  unfold Ce at done |-
  rw[<- Dn]at done |-
  generalize vI x.msgs k'=la at *
  generalize qN x.msgs k'=sn at *
  simp(disch:=omega)only[go_sem]
  refine Br.aJ (fun c=>?_) (fun c=>(c (by omega)).elim)
  simp(disch:=omega)only[go_sem,hm,gF.c,h306]
  refine Br.aJ (fun c1=>?_) (fun c1=>?_)<;>simp(disch:=omega)only[go_sem,c1,h306]
  .rw[if_pos (done (by simp[c1]))]
  refine Br.aJ (fun c2=>?_) (fun c2=>?_)<;>simp(disch:=omega)only[go_sem,c2,h306]
  .rw[if_pos (done (by simp[c2]))]
  cases hi:isName m.name with
  |false=>
   simp(disch:=omega)only[go_sem]
   rw[if_pos (done (by simp[hi]))]
  |true=>
   rw[hi]at done
   simp(disch:=omega)only[go_sem]
   cases hh:cX sn m.name with
   |true=>
    rw[hh]at done
    simp(disch:=omega)only[go_sem]
    rw[if_pos (done (by simp))]
   |false=>
    simp(disch:=omega)only[go_sem]
    exact bA.of (by simp[c1,c2]) (by rw[hln,<- hsn]; rfl)
 .rw[W3]
  have hv:lL x=isName x.name:=by
   unfold lL
   rw[hnw.any]
   simp
  rw[hv]
  simp(disch:=omega)only[go_sem,h306n]
  generalize qN x.msgs x.msgs.length=sn
  cases hnm:isName x.name with
  |false=>simp(disch:=omega)only[go_sem,if_true]
  |true=>
  simp(disch:=omega)only[go_sem]
  rw[if_neg (by decide)]
  refine W.find x.msgs (fun m=>dO T.length m.ty) (fun k=>⟨[(2,.ptr 2 0),(3,.ptr 3 0),(61,.pv (.aq 0 (msgs x.msgs))),(62,.pv (.int .i64 x.msgs.length)),(63,.pv (.int .i64 k))],⟨[(2,[.pv (.aq u T)]),(3,[.pv (.str x.name),.pv (.aq 0 (msgs x.msgs)),.pv (.int .i64 x.auto.ai),.pv (.int .i64 x.auto.start),.pv (.aq 0 (x.auto.aa.map Edge.c))])],[],[iT sn]⟩⟩) rfl (fun k m hx hk hfd=>?_) (fun hnw=>?_)
  .have done:dO T.length m.ty=true->x.msgs.any (fun m=>dO T.length m.ty)=true:=fun g=>(hfd g).any
   unfold dO at done |-
   simp(disch:=omega)only[go_sem]
   refine Br.aJ (fun c=>?_) (fun c=>(c (by omega)).elim)
   simp(disch:=omega)only[go_sem,hx,gF.c]
   refine Br.aJ (fun c4=>?_) (fun c4=>?_)<;>simp(disch:=omega)only[go_sem,c4,hx,gF.c]
   .rw[if_pos (done (by simp[c4]))]
   refine Br.aJ (fun c5=>?_) (fun c5=>?_)<;>simp(disch:=omega)only[go_sem,c5]
   .rw[if_pos (done (by simp[c5]))]
   .exact bA.of (by simp[c4,c5]) rfl
  .rw[hnw.any,if_neg (by decide)]
   by_cases h0:x.auto.err=0
   .have hle:=FM h0
    have ho:x.auto.trim.ai=x.auto.order.length:=rfl
    rw[if_pos h0,ho]at h32
    rw[if_neg (by simp[h0])]
    simp(disch:=omega)only[go_sem,h32,if_pos h0,ho]
    refine W.find x.auto.aa (fun e=>!x.msgs.any (lK e.label)) (fun k=>⟨[(3,.ptr 3 0),(11,.ptr 11 0),(90,.pv (.aq 0 (x.auto.aa.map Edge.c))),(91,.pv (.int .i64 x.auto.aa.length)),(92,.pv (.int .i64 k))],⟨[(3,[.pv (.str x.name),.pv (.aq 0 (msgs x.msgs)),.pv (.int .i64 x.auto.ai),.pv (.int .i64 x.auto.start),.pv (.aq 0 (x.auto.aa.map Edge.c))]),(11,[.pv (.int .i64 x.auto.order.length),.pv (.int .i64 0),.pv (.aq 0 (bD x.auto.trim.aa))])],[],[iT sn]⟩⟩) rfl (fun k d hx hk hfd=>?_) (fun hnw=>?_)
    .have h476:=h476 d.label
     have done:(!x.msgs.any (lK d.label))=true->x.auto.aa.any (fun e=>!x.msgs.any (lK e.label))=true:=fun g=>(hfd g).any
     generalize x.msgs.any (lK d.label)=b at h476 done |-
     generalize x.msgs.find? (lK d.label)=o at h476
     simp only[gF.c]at h476
     simp(disch:=omega)only[go_sem]
     refine Br.aJ (fun c=>?_) (fun c=>(c (by omega)).elim)
     simp(disch:=omega)only[go_sem,hx,h476,gF.c]
     cases b
     .simp(disch:=omega)only[go_sem]
      rw[if_pos (done rfl)]
     .simp(disch:=omega)only[go_sem]
      exact bA.of rfl rfl
    .rw[hnw.any,if_neg (by decide)]
     simp(disch:=omega)only[go_sem]
     refine Br.aJ (fun c=>?_) (fun c=>?_)<;>simp(disch:=omega)only[go_sem]
     .rw[if_pos (by omega)]
     .rw[if_neg (by omega)]
   .rw[if_neg h0]at h32
    rw[if_pos h0]
    simp(disch:=omega)only[go_sem,h32,if_neg h0]
    refine Br.aJ (fun c=>absurd c h0) (fun c=>?_)
    simp(disch:=omega)only[go_sem]
theorem r444 (u:Nat) (T:List aI) (x:dW) (hT:T.length<=2147483648) (ho:∀t∈T,t.ok) (hsh:∀t∈T,t.short) (hl:x.msgs.length<=2^63 - 1) (hn:bu x.name) (hs:∀m∈x.msgs,bu m.name) (he:x.auto.aa.length<=2000000000):res A az 444 [.agg [.aq u (T.map aI.c)],.agg x.c]=some [.int .i64 (if cP T≠0 then cP T else tG T.length x)]:=by
 have h267:=r267 u T hT ho hsh
 have h466:=r466 u (T.map aI.c) x (by rw[Wu]; omega) hl hn hs he
 rw[Wu]at h466
 refine aw a444 rfl rfl ?_
 simp only[F444,LK]
 have e:x.msgs.map gF.c=msgs x.msgs:=rfl
 simp only[dW.c,e]at h466 |-
 simp(disch:=omega)only[go_sem,h267]
 refine Br.aJ (fun c=>?_) (fun c=>?_)<;>simp(disch:=omega)only[go_sem,h466]
 .rw[if_neg (by simp[c])]
 .rw[if_pos c]
theorem r475 (t:Nat) (l:List ByteArray) (x:ByteArray) (hl:l.length<=2^63 - 1):res A az 475 [.aq t (strs l),.str x]=some [.int .i64 (bk (fun s=>decide (s=x)) l)]:=by
 refine aw a475 rfl rfl ?_
 simp only[F475,L5]
 simp(disch:=omega)only[go_sem]
 refine W.find l (fun s=>decide (s=x)) (fun k=>⟨[(0,.pv (.aq t (strs l))),(1,.pv (.str x)),(7,.pv (.int .i64 l.length)),(8,.pv (.int .i64 k))],⟨[],[],[]⟩⟩) rfl (fun k s hx hk hfd=>?_) (fun hn=>?_)
 .simp(disch:=omega)only[go_sem]
  refine Br.aJ (fun h=>?_) (fun h=>(h (by omega)).elim)
  simp(disch:=omega)only[go_sem,hx]
  have e:decide (x=s)=decide (s=x):=decide_eq_decide.2 ⟨fun h=>h.symm,fun h=>h.symm⟩
  rw[e]
  refine Br.of (fun h2=>?_) (fun h2=>?_)<;>simp(disch:=omega)only[go_sem]
  .rw[(hfd h2).bk]
  .exact bA.of h2 rfl
 .simp(disch:=omega)only[go_sem]
  rw[hn.bk]
theorem r465 (t:Nat) (l:List ByteArray) (x:ByteArray) (hl:l.length<=2^63 - 1):res A az 465 [.aq t (strs l),.str x]=some [.bool (cX l x)]:=by
 refine aw a465 rfl rfl ?_
 simp only[F465,LX]
 have h475:=r475 t l x hl
 simp(disch:=omega)only[go_sem,h475]
 have e:decide (0<=bk (fun s=>decide (s=x)) l)=cX l x:=by
  unfold bk cX
  cases h:l.findIdx? (fun s=>decide (s=x))with
  |none=>
   rw[List.any_eq_false.2 fun y hy=>by simpa using List.findIdx?_eq_none_iff.1 h y hy]
   rfl
  |some k=>
   obtain⟨hk,h2,_⟩:=WM.1 h
   rw[XB.2 ⟨_,Xq hk,h2⟩]
   simp
 rw[e]
theorem Cf (nm:ByteArray) (l:List ByteArray) (hn:bu nm) (hl:l.length<=1000) (Q:Ex->St->Prop)
  (hQ:∀env,if isName nm=false then Q .ret ⟨(4,.pv (.int .i64 1))::env,⟨[(200000,[dc 0 (strs l)])],cJ 1 (strs l),[]⟩⟩ else if cX l nm=true then Q .ret ⟨(4,.pv (.int .i64 5))::env,⟨[(200000,[dc 0 (strs l)])],cJ 1 (strs l),[]⟩⟩ else Q .ret ⟨(4,.pv (.int .i64 0))::env,⟨[(200000,[dc 0 (strs (l++[nm]))])],cJ 1 (strs (l++[nm])),[]⟩⟩):
  W A az F441.body ⟨[(0,.ptr 200000 0),(1,.pv (.str nm))],⟨[(200000,[dc 0 (strs l)])],cJ 1 (strs l),[]⟩⟩ Q:=by
 have h306:=r306 nm hn
 have h465:=fun t=>r465 t l nm (by omega)
 have hsl:(strs l).length<=1000:=by rw[ft]; exact hl
 have hg:=fun bx mp=>BR bx mp 1 (strs l) [.str nm] rfl (by omega)
 simp only[F441,HM]
 simp(disch:=omega)only[go_sem,h306]
 cases hi:isName nm with
 |false=>
  rw[hi]at hQ
  simp only[if_true]at hQ
  simp(disch:=omega)only[go_sem]
  exact hQ _
 |true=>
  rw[hi]at hQ
  rw[<- pV]at hQ
  simp only[Bool.true_eq_false,if_false]at hQ
  simp(disch:=omega)only[go_sem,h465]
  cases hh:cX l nm with
  |true=>
   rw[hh]at hQ
   simp only[if_true]at hQ
   simp(disch:=omega)only[go_sem]
   exact hQ []
  |false=>
   rw[hh]at hQ
   simp only[Bool.false_eq_true,if_false]at hQ
   simp(disch:=omega)only[go_sem,hg]
   exact hQ []
theorem FN (a:aN) (nm:ByteArray) (l:List ByteArray) (hn:bu nm) (hl:l.length<=1000) (Q:Ex->St->Prop)
  (hQ:∀env,if isName nm=false then Q .ret ⟨(4,.pv (.int .i64 1))::env,⟨[(200000,[dc 1 (strs l)])],a::cJ 1 (strs l),[]⟩⟩ else if cX l nm=true then Q .ret ⟨(4,.pv (.int .i64 5))::env,⟨[(200000,[dc 1 (strs l)])],a::cJ 1 (strs l),[]⟩⟩ else Q .ret ⟨(4,.pv (.int .i64 0))::env,⟨[(200000,[dc 1 (strs (l++[nm]))])],a::cJ 1 (strs (l++[nm])),[]⟩⟩):
  W A az F441.body ⟨[(0,.ptr 200000 0),(1,.pv (.str nm))],⟨[(200000,[dc 1 (strs l)])],a::cJ 1 (strs l),[]⟩⟩ Q:=by
 have h306:=r306 nm hn
 have h465:=fun t=>r465 t l nm (by omega)
 have hsl:(strs l).length<=1000:=by rw[ft]; exact hl
 have hg:=fun bx mp=>RU bx mp a 1 (strs l) [.str nm] rfl (by omega)
 simp only[F441,HM]
 simp(disch:=omega)only[go_sem,h306]
 cases hi:isName nm with
 |false=>
  rw[hi]at hQ
  simp only[if_true]at hQ
  simp(disch:=omega)only[go_sem]
  exact hQ _
 |true=>
  rw[hi]at hQ
  rw[<- pV]at hQ
  simp only[Bool.true_eq_false,if_false]at hQ
  simp(disch:=omega)only[go_sem,h465]
  cases hh:cX l nm with
  |true=>
   rw[hh]at hQ
   simp only[if_true]at hQ
   simp(disch:=omega)only[go_sem]
   exact hQ []
  |false=>
   rw[hh]at hQ
   simp only[Bool.false_eq_true,if_false]at hQ
   simp(disch:=omega)only[go_sem,hg]
   exact hQ []
def zh (v:V):Prop:=v=.tl []\/∃a b c d,v=.own a b c d
theorem eN (n:Nat) (rows:List (List PV)):zh (dc n rows):=by
 cases rows with
 |nil=>exact .inl rfl
 |cons x r=>exact .inr ⟨_,_,_,_,rfl⟩
theorem hV {s:Nat} {v:V} {ar:List aN} {mp:List (List (PV×PV))} {env:List (Nat×V)} {p:PV} {K:V->Tn->Prop} (hv:zh v) (hp:∃n,p=.int .i64 n) (h:K (.pv p) { all:=some ([(s,[v])],ar,mp) }):yd [.tmp 4] [s] K .mk .ret ⟨(4,.pv p)::env,⟨[(200000,[v])],ar,mp⟩⟩:=by
 obtain⟨n,rfl⟩:=hp
 rcases hv with rfl|⟨_,_,_,_,rfl⟩<;>exact⟨_,rfl,_,rfl,_,rfl,h⟩
theorem call5 {v:V} {ar:List aN} {nm:ByteArray} {a1 a2 a3 a4 a5 b1 b2 b3:PV} {K:V->Tn->Prop} (hv:zh v) (h:W A az F441.body ⟨[(0,.ptr 200000 0),(1,.pv (.str nm))],⟨[(200000,[v])],ar,[]⟩⟩ (yd [.tmp 4] [5] K)):
  IW A az 441 [.ptr 5 0,.pv (.str nm)] ⟨[(1,[.pv a1,.pv a2,.pv a3,.pv a4,.pv a5]),(5,[v]),(6,[.tl []]),(8,[.pv b1,.pv b2,.pv b3])],ar,[]⟩ K:=by
 rw[Ez a441]
 rcases hv with rfl|⟨_,_,_,_,rfl⟩<;>exact⟨rfl,_,rfl,_,rfl,h⟩
theorem call6 {v:V} {ar:List aN} {nm:ByteArray} {a1 a2 a3 a4 a5 b1 b2:PV} {K:V->Tn->Prop} (hv:zh v) (h:W A az F441.body ⟨[(0,.ptr 200000 0),(1,.pv (.str nm))],⟨[(200000,[v])],ar,[]⟩⟩ (yd [.tmp 4] [6] K)):
  IW A az 441 [.ptr 6 0,.pv (.str nm)] ⟨[(1,[.pv a1,.pv a2,.pv a3,.pv a4,.pv a5]),(6,[v]),(14,[.pv b1,.pv b2])],ar,[]⟩ K:=by
 rw[Ez a441]
 rcases hv with rfl|⟨_,_,_,_,rfl⟩<;>exact⟨rfl,_,rfl,_,rfl,h⟩
def qa {α:Type} (f:Nat->α->Int) (l:List α) (k:Nat):Int:=match l[k]? with
 |some x=>f k x
 |none=>0
def dU {α:Type} (f:Nat->α->Int) (l:List α):Int:=match (List.range l.length).find? (fun k=>decide (qa f l k≠0))with
 |some k=>qa f l k
 |none=>0
theorem kz {α:Type} {f:Nat->α->Int} {l:List α} {i k:Nat} {x:α} (hx:l[k]?=some x) (h:Found (List.range l.length) (fun k=>decide (qa f l k≠0)) i k):dU f l=f k x:=by
 unfold dU
 rw[h.find]
 simp only[qa,hx]
theorem kA {α:Type} {f:Nat->α->Int} {l:List α} (h:hU (List.range l.length) (fun k=>decide (qa f l k≠0))):dU f l=0:=by
 unfold dU
 rw[h.find]
theorem gr {α:Type} {f:Nat->α->Int} {l:List α} {k:Nat} {x:α} (hx:l[k]?=some x):qa f l k=f k x:=by
 simp only[qa,hx]
def rh (n:Nat) (l:List jG) (k:Nat) (c:jG):Int:=if isName c.name=false then 1 else if cX ((l.map (·.name)).take k) c.name=true then 5 else if (dO n c.rn||dO n c.rep)=true then 4 else 0
def qb (n:Nat) (l:List jH) (k:Nat) (c:jH):Int:=if isName c.name=false then 1 else if cX ((l.map (·.name)).take k) c.name=true then 5 else if dO n c.ty=true then 4 else 0
def qc (n:Nat) (l:List dW) (k:Nat) (w:dW):Int:=if cX ((l.map (·.name)).take k) w.name=true then 5 else tG n w
structure nu (v:iY):Prop where
 nm:bu v.name
 tl:v.types.length<=2147483648
 to:∀t∈v.types,t.ok
 ts:∀t∈v.types,t.short
 cl:v.calls.length<=2^63 - 1
 cs:∀c∈v.calls,bu c.name
 sl:v.aF.length<=2^63 - 1
 ss:∀w∈v.aF,bu w.name/\w.msgs.length<=2^63 - 1/\(∀m∈w.msgs,bu m.name)/\w.auto.aa.length<=2000000000
 pl:v.aS.length<=2^63 - 1
 ps:∀c∈v.aS,bu c.name
end Go.Pv
