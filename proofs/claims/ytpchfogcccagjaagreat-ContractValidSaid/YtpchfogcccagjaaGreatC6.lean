/-
 What the functions of the law give.
-/
import Derived.Test.YtpchfogcccagjaaGreatC5
set_option linter.unusedSimpArgs false
set_option linter.unusedVariables false
open List renaming mem_of_getElem? → Wa, getElem?_eq_some_iff → V9, getElem?_eq_getElem → Wb, mem_iff_getElem? → Wd, getElem?_append_left → We, length_map → Wg, getElem?_map → Wf, length_append → Wz, take_of_length_le → Wq, getD_eq_getElem?_getD → Ws, length_take → W8, eq_nil_of_length_eq_zero → Wp, getElem?_take → Wy, take_add_one → WL, getElem?_append_right → Wn, mem_map → Wk, getElem?_set_self → WU, length_range → WI, append_assoc → WK, mem_cons_of_mem → W3, all_eq_true → Wu, mem_cons_self → WH, take_length → WV, mem_append → WT, ext_getElem? → WW, getElem?_eq_none → WS, length_set → Xx, any_eq_false → WY, length_replicate → XV, take_append_of_le_length → XT, any_map → abr, map_take → abp, mem_singleton → Xj, mem_flatMap → afw, find?_eq_none → Xn, mem_range → WJ, find?_some → XH, mem_of_find?_eq_some → afu, map_id → afD
open Nat renaming le_refl → Wj, lt_or_ge → Wh, add_assoc → W0
open Bool renaming eq_iff_iff → Xb, eq_false_iff → Xz
open Int renaming toNat_natCast → WX
namespace Go.Pv
def pW {α:Type} (f:Nat->α->Int) (l:List α) (k:Nat):Int:=match l[k]? with
 |some x=>f k x
 |none=>0
def dV {α:Type} (f:Nat->α->Int) (l:List α):Int:=match (List.range l.length).find? (fun k=>decide (pW f l k≠0))with
 |some k=>pW f l k
 |none=>0
theorem kr {α:Type} {f:Nat->α->Int} {l:List α} {i k:Nat} {x:α} (hx:l[k]?=some x) (h:Found (List.range l.length) (fun k=>decide (pW f l k≠0)) i k):dV f l=f k x:=by
 unfold dV
 rw[h.find]
 simp only[pW,hx]
theorem ku {α:Type} {f:Nat->α->Int} {l:List α} (h:hY (List.range l.length) (fun k=>decide (pW f l k≠0))):dV f l=0:=by
 unfold dV
 rw[h.find]
theorem gp {α:Type} {f:Nat->α->Int} {l:List α} {k:Nat} {x:α} (hx:l[k]?=some x):pW f l k=f k x:=by
 simp only[pW,hx]
def qS (n:Nat) (l:List Cal) (k:Nat) (c:Cal):Int:=if isName c.name=false then 1 else if cY ((l.map (·.name)).take k) c.name=true then 5 else if (dP n c.ud||dP n c.rep)=true then 4 else 0
def pX (n:Nat) (l:List Tpc) (k:Nat) (c:Tpc):Int:=if isName c.name=false then 1 else if cY ((l.map (·.name)).take k) c.name=true then 5 else if dP n c.ty=true then 4 else 0
def pY (n:Nat) (l:List eE) (k:Nat) (w:eE):Int:=if cY ((l.map (·.name)).take k) w.name=true then 5 else te n w
theorem r462 (u:Nat) (T:List (List PV)) (t:Int) (hl:T.length<=2^63 - 1):res A aA 462 [.agg [.aq u T],.int .i64 t]=some [.bool (!dP T.length t)]:=by
 refine aw a462 rfl rfl ?_
 simp only[F462,aaK]
 unfold dP
 simp(disch:=omega)only[go_sem]
 by_cases c:0<=t
 .have e:decide (t<0)=false:=decide_eq_false (by omega)
  have e3:decide (0<=t)=true:=decide_eq_true c
  have e2:(!decide ((T.length:Int)<=t))=decide (t<(T.length:Int)):=by
   rw[Xb]
   simp
  simp(disch:=omega)only[go_sem,e,e3]
  rw[e2]
 .have e:decide (t<0)=true:=decide_eq_true (by omega)
  have e3:decide (0<=t)=false:=decide_eq_false c
  simp(disch:=omega)only[go_sem,e,e3]
structure iX (v:ij):Prop where
 nm:bC v.name
 tl:v.types.length<=2147483648
 to:∀t∈v.types,t.ok
 ts:∀t∈v.types,t.held
 cl:v.calls.length<=2^63 - 1
 cs:∀c∈v.calls,bC c.name
 sl:v.aG.length<=2^63 - 1
 ss:∀w∈v.aG,bC w.name/\w.msgs.length<=2^63 - 1/\(∀m∈w.msgs,bC m.name)/\w.auto.af.length<=2000000000
 pl:v.aT.length<=2^63 - 1
 ps:∀c∈v.aT,bC c.name
set_option maxHeartbeats 2000000 in
theorem r436 (t1 t2 t3 t4:Nat) (v:ij) (hv:iX v):res A aA 436 [.agg (lB t1 t2 t3 t4 v)]=some [.int .i64 (dV (qS v.types.length v.calls) v.calls)]:=by
 have hcl:=hv.cl
 have htl:=hv.tl
 refine aw a436 rfl rfl ?_
 simp only[F436,aaE,lB]
 simp(disch:=omega)only[go_sem]
 obtain⟨G,hG⟩:∃G,dV (qS v.types.length v.calls) v.calls=G:=⟨_,rfl⟩
 rw[hG]
 refine W.find (List.range v.calls.length) (fun k=>decide (pW (qS v.types.length v.calls) v.calls k≠0)) (fun k=>⟨[(1,.ptr 1 0),(3,.pv (.int .i64 k))],⟨[(1,[.pv (.str v.name),.pv (.aq t1 (v.types.map aH.c)),.pv (.aq t2 (ch v.calls)),.pv (.aq t3 (aG v.aG)),.pv (.aq t4 (df v.aT))])],[],[]⟩⟩) rfl (fun i k hx hk hfd=>?_) (fun hn=>?_)
 .obtain⟨rfl,hk⟩:=ey hx
  obtain⟨x,hx⟩:=get_some hk
  have done:∀e:Int,qS v.types.length v.calls k x=e->e≠0->(some [PV.int .i64 e]:Option (List PV))=some [.int .i64 G]:=fun e h1 h2=>by
   rw[<- hG,kr hx (hfd (by rw[gp hx,h1]; exact decide_eq_true h2)),h1]
  rw[gp hx]
  have h310:=r310 x.name (hv.cs x (Wa hx))
  have h462:=fun u t=>r462 u (v.types.map aH.c) t (by rw[Wg]; omega)
  rw[Wg]at h462
  simp(disch:=omega)only[go_sem]
  refine Br.aJ (fun c=>?_) (fun c=>(c (by omega)).elim)
  simp(disch:=omega)only[go_sem,hx,Cal.c,h310]
  unfold qS at done |-
  cases hi:isName x.name with
  |false=>
   simp(disch:=omega)only[go_sem]
   exact done 1 (by rw[if_pos hi]) (by decide)
  |true=>
   simp(disch:=omega)only[go_sem]
   rw[if_neg (by simp[hi])]at done |-
   refine W.find (v.calls.take k) (fun q=>decide (q.name=x.name)) (fun j=>⟨[(1,.ptr 1 0),(3,.pv (.int .i64 k)),(4,.ptr 4 0),(5,.pv (.int .i64 j))],⟨[(1,[.pv (.str v.name),.pv (.aq t1 (v.types.map aH.c)),.pv (.aq t2 (ch v.calls)),.pv (.aq t3 (aG v.aG)),.pv (.aq t4 (df v.aT))]),(4,[.pv (.str x.name),.pv (.int .i64 x.ud),.pv (.int .i64 x.rep)])],[],[]⟩⟩) rfl (fun j q hj hjl hfd2=>?_) (fun hn2=>?_)
   .have hjl':j<k/\j<v.calls.length:=by rw[W8]at hjl; omega
    have hj':v.calls[j]?=some q:=by
     rw[Wy,if_pos hjl'.1]at hj
     exact hj
    simp(disch:=omega)only[go_sem]
    refine Br.aJ (fun c=>?_) (fun c=>(c (by omega)).elim)
    simp(disch:=omega)only[go_sem,hj',Cal.c]
    refine Br.aJ (fun c3=>?_) (fun c3=>?_)<;>simp(disch:=omega)only[go_sem,c3]
    .refine done 5 ?_ (by decide)
     have:cY ((v.calls.map (·.name)).take k) x.name=true:=by
      unfold cY
      rw[<- abp,abr]
      exact(hfd2 (by simp[c3])).any
     rw[if_pos this]
    .exact bB.of (by simp[c3]) rfl
   .have hlx:(v.calls.take k).length=k:=by rw[W8]; omega
    rw[hlx]
    have hh:cY ((v.calls.map (·.name)).take k) x.name=false:=by
     unfold cY
     rw[<- abp,abr]
     exact hn2.any
    rw[if_neg (by simp[hh])]at done |-
    simp(disch:=omega)only[go_sem,h462]
    cases h1:dP v.types.length x.ud with
    |true=>
     simp(disch:=omega)only[go_sem]
     exact done 4 (by rw[h1]; rfl) (by decide)
    |false=>
     simp(disch:=omega)only[go_sem,h462]
     cases h2:dP v.types.length x.rep with
     |true=>
      simp(disch:=omega)only[go_sem]
      exact done 4 (by rw[h1,h2]; rfl) (by decide)
     |false=>
      simp(disch:=omega)only[go_sem]
      exact bB.of (by simp) rfl
 .rw[WI,<- hG,ku hn]
  simp(disch:=omega)only[go_sem]
set_option maxHeartbeats 2000000 in
theorem r438 (t1 t2 t3 t4:Nat) (v:ij) (hv:iX v):res A aA 438 [.agg (lB t1 t2 t3 t4 v)]=some [.int .i64 (dV (pX v.types.length v.aT) v.aT)]:=by
 have hcl:=hv.pl
 have htl:=hv.tl
 refine aw a438 rfl rfl ?_
 simp only[F438,aaG,lB]
 simp(disch:=omega)only[go_sem]
 obtain⟨G,hG⟩:∃G,dV (pX v.types.length v.aT) v.aT=G:=⟨_,rfl⟩
 rw[hG]
 refine W.find (List.range v.aT.length) (fun k=>decide (pW (pX v.types.length v.aT) v.aT k≠0)) (fun k=>⟨[(1,.ptr 1 0),(3,.pv (.int .i64 k))],⟨[(1,[.pv (.str v.name),.pv (.aq t1 (v.types.map aH.c)),.pv (.aq t2 (ch v.calls)),.pv (.aq t3 (aG v.aG)),.pv (.aq t4 (df v.aT))])],[],[]⟩⟩) rfl (fun i k hx hk hfd=>?_) (fun hn=>?_)
 .obtain⟨rfl,hk⟩:=ey hx
  obtain⟨x,hx⟩:=get_some hk
  have done:∀e:Int,pX v.types.length v.aT k x=e->e≠0->(some [PV.int .i64 e]:Option (List PV))=some [.int .i64 G]:=fun e h1 h2=>by
   rw[<- hG,kr hx (hfd (by rw[gp hx,h1]; exact decide_eq_true h2)),h1]
  rw[gp hx]
  have h310:=r310 x.name (hv.ps x (Wa hx))
  have h462:=fun u t=>r462 u (v.types.map aH.c) t (by rw[Wg]; omega)
  rw[Wg]at h462
  simp(disch:=omega)only[go_sem]
  refine Br.aJ (fun c=>?_) (fun c=>(c (by omega)).elim)
  simp(disch:=omega)only[go_sem,hx,Tpc.c,h310]
  unfold pX at done |-
  cases hi:isName x.name with
  |false=>
   simp(disch:=omega)only[go_sem]
   exact done 1 (by rw[if_pos hi]) (by decide)
  |true=>
   simp(disch:=omega)only[go_sem]
   rw[if_neg (by simp[hi])]at done |-
   refine W.find (v.aT.take k) (fun q=>decide (q.name=x.name)) (fun j=>⟨[(1,.ptr 1 0),(3,.pv (.int .i64 k)),(4,.ptr 4 0),(5,.pv (.int .i64 j))],⟨[(1,[.pv (.str v.name),.pv (.aq t1 (v.types.map aH.c)),.pv (.aq t2 (ch v.calls)),.pv (.aq t3 (aG v.aG)),.pv (.aq t4 (df v.aT))]),(4,[.pv (.str x.name),.pv (.int .i64 x.ty)])],[],[]⟩⟩) rfl (fun j q hj hjl hfd2=>?_) (fun hn2=>?_)
   .have hjl':j<k/\j<v.aT.length:=by rw[W8]at hjl; omega
    have hj':v.aT[j]?=some q:=by
     rw[Wy,if_pos hjl'.1]at hj
     exact hj
    simp(disch:=omega)only[go_sem]
    refine Br.aJ (fun c=>?_) (fun c=>(c (by omega)).elim)
    simp(disch:=omega)only[go_sem,hj',Tpc.c]
    refine Br.aJ (fun c3=>?_) (fun c3=>?_)<;>simp(disch:=omega)only[go_sem,c3]
    .refine done 5 ?_ (by decide)
     have:cY ((v.aT.map (·.name)).take k) x.name=true:=by
      unfold cY
      rw[<- abp,abr]
      exact(hfd2 (by simp[c3])).any
     rw[if_pos this]
    .exact bB.of (by simp[c3]) rfl
   .have hlx:(v.aT.take k).length=k:=by rw[W8]; omega
    rw[hlx]
    have hh:cY ((v.aT.map (·.name)).take k) x.name=false:=by
     unfold cY
     rw[<- abp,abr]
     exact hn2.any
    rw[if_neg (by simp[hh])]at done |-
    simp(disch:=omega)only[go_sem,h462]
    cases h1:dP v.types.length x.ty with
    |true=>
     simp(disch:=omega)only[go_sem]
     exact done 4 (by rw[h1]; rfl) (by decide)
    |false=>
     simp(disch:=omega)only[go_sem]
     exact bB.of (by simp) rfl
 .rw[WI,<- hG,ku hn]
  simp(disch:=omega)only[go_sem]
set_option maxHeartbeats 2000000 in
theorem r437 (t1 t2 t3 t4:Nat) (v:ij) (hv:iX v) (h0:cS v.types=0):res A aA 437 [.agg (lB t1 t2 t3 t4 v)]=some [.int .i64 (dV (pY v.types.length v.aG) v.aG)]:=by
 have hcl:=hv.sl
 refine aw a437 rfl rfl ?_
 simp only[F437,aaF,lB]
 simp(disch:=omega)only[go_sem]
 obtain⟨G,hG⟩:∃G,dV (pY v.types.length v.aG) v.aG=G:=⟨_,rfl⟩
 rw[hG]
 refine W.find (List.range v.aG.length) (fun k=>decide (pW (pY v.types.length v.aG) v.aG k≠0)) (fun k=>⟨[(1,.ptr 1 0),(3,.pv (.int .i64 k))],⟨[(1,[.pv (.str v.name),.pv (.aq t1 (v.types.map aH.c)),.pv (.aq t2 (ch v.calls)),.pv (.aq t3 (aG v.aG)),.pv (.aq t4 (df v.aT))])],[],[]⟩⟩) rfl (fun i k hx hk hfd=>?_) (fun hn=>?_)
 .obtain⟨rfl,hk⟩:=ey hx
  obtain⟨x,hx⟩:=get_some hk
  have done:∀e:Int,pY v.types.length v.aG k x=e->e≠0->(some [PV.int .i64 e]:Option (List PV))=some [.int .i64 G]:=fun e h1 h2=>by
   rw[<- hG,kr hx (hfd (by rw[gp hx,h1]; exact decide_eq_true h2)),h1]
  rw[gp hx]
  obtain⟨s1,s2,s3,s4⟩:=hv.ss x (Wa hx)
  have h463:=fun u=>r463 u v.types x hv.tl hv.to hv.ts s2 s1 s3 s4
  rw[if_neg (by simp[h0])]at h463
  unfold pY at done |-
  simp only[eE.c]at h463
  simp(disch:=omega)only[go_sem]
  refine Br.aJ (fun c=>?_) (fun c=>(c (by omega)).elim)
  simp(disch:=omega)only[go_sem]
  refine W.find (v.aG.take k) (fun q=>decide (q.name=x.name)) (fun j=>⟨[(1,.ptr 1 0),(3,.pv (.int .i64 k)),(4,.pv (.int .i64 j))],⟨[(1,[.pv (.str v.name),.pv (.aq t1 (v.types.map aH.c)),.pv (.aq t2 (ch v.calls)),.pv (.aq t3 (aG v.aG)),.pv (.aq t4 (df v.aT))])],[],[]⟩⟩) rfl (fun j q hj hjl hfd2=>?_) (fun hn2=>?_)
  .have hjl':j<k/\j<v.aG.length:=by rw[W8]at hjl; omega
   have hj':v.aG[j]?=some q:=by
    rw[Wy,if_pos hjl'.1]at hj
    exact hj
   simp(disch:=omega)only[go_sem]
   refine Br.aJ (fun c=>?_) (fun c=>(c (by omega)).elim)
   simp(disch:=omega)only[go_sem,hj',hx,Option.map_some,eE.c]
   refine Br.aJ (fun c3=>?_) (fun c3=>?_)<;>simp(disch:=omega)only[go_sem,c3]
   .refine done 5 ?_ (by decide)
    have:cY ((v.aG.map (·.name)).take k) x.name=true:=by
     unfold cY
     rw[<- abp,abr]
     exact(hfd2 (by simp[c3])).any
    rw[if_pos this]
   .exact bB.of (by simp[c3]) rfl
  .have hlx:(v.aG.take k).length=k:=by rw[W8]; omega
   rw[hlx]
   have hh:cY ((v.aG.map (·.name)).take k) x.name=false:=by
    unfold cY
    rw[<- abp,abr]
    exact hn2.any
   rw[if_neg (by simp[hh])]at done |-
   generalize te v.types.length x=e at *
   simp(disch:=omega)only[go_sem,hx,Option.map_some,eE.c,h463]
   refine Br.aJ (fun c=>?_) (fun c=>?_)<;>simp(disch:=omega)only[go_sem]
   .exact bB.of (by simp[c]) rfl
   .exact done e rfl c
 .rw[WI,<- hG,ku hn]
  simp(disch:=omega)only[go_sem]
noncomputable def acw (v:ij):Int:=
 if 8<v.calls.length\/8<v.aG.length\/8<v.aT.length then 3
 else if isName v.name=false then 1
 else if iW v.types≠0 then iW v.types
 else if dV (qS v.types.length v.calls) v.calls≠0 then dV (qS v.types.length v.calls) v.calls
 else if dV (pY v.types.length v.aG) v.aG≠0 then dV (pY v.types.length v.aG) v.aG
 else dV (pX v.types.length v.aT) v.aT
theorem qD {T:List aH} (h:iW T=0):cS T=0:=by
 unfold iW at h
 split at h
 .rename_i h1
  exact absurd h h1
 .rename_i h1
  exact(lD (by simpa using h1)).1
set_option maxHeartbeats 2000000 in
theorem r406 (t1 t2 t3 t4:Nat) (v:ij) (hv:iX v):res A aA 406 [.agg (lB t1 t2 t3 t4 v)]=some [.int .i64 (acw v)]:=by
 have h1:=hv.cl
 have h2:=hv.sl
 have h3:=hv.pl
 have h310:=r310 v.name hv.nm
 have h435:=fun u=>r435 u v.types hv.tl hv.to hv.ts
 have h436:=r436 t1 t2 t3 t4 v hv
 have h437:=fun h=>r437 t1 t2 t3 t4 v hv (qD h)
 have h438:=r438 t1 t2 t3 t4 v hv
 refine aw a406 rfl rfl ?_
 unfold acw
 simp only[F406,aax,lB]at h436 h437 h438 |-
 generalize dV (qS v.types.length v.calls) v.calls=e1 at *
 generalize dV (pY v.types.length v.aG) v.aG=e2 at *
 generalize dV (pX v.types.length v.aT) v.aT=e3 at *
 generalize iW v.types=e0 at *
 simp(disch:=omega)only[go_sem]
 refine Br.aJ (fun c1=>?_) (fun c1=>?_)<;>simp(disch:=omega)only[go_sem,c1]
 .rw[if_pos (by omega)]
 refine Br.aJ (fun c2=>?_) (fun c2=>?_)<;>simp(disch:=omega)only[go_sem,c2]
 .rw[if_pos (by omega)]
 refine Br.aJ (fun c3=>?_) (fun c3=>?_)<;>simp(disch:=omega)only[go_sem,c3,h310]
 .rw[if_pos (by omega)]
 rw[if_neg (by omega)]
 cases hi:isName v.name with
 |false=>simp(disch:=omega)only[go_sem,if_true]
 |true=>
  simp(disch:=omega)only[go_sem,h435]
  rw[if_neg (by decide)]
  refine Br.aJ (fun c=>?_) (fun c=>?_)<;>simp(disch:=omega)only[go_sem,h436]
  rotate_left
  .rw[if_pos c]
  have h437:=h437 c
  rw[if_neg (by simp[c])]
  refine Br.aJ (fun c=>?_) (fun c=>?_)<;>simp(disch:=omega)only[go_sem,h437]
  rotate_left
  .rw[if_pos c]
  rw[if_neg (by simp[c])]
  refine Br.aJ (fun c=>?_) (fun c=>?_)<;>simp(disch:=omega)only[go_sem,h438]
  .rw[if_neg (by simp[c])]
  .rw[if_pos c]
theorem r440 (t:Int) (u:Nat) (nm:PV) (tt:Nat) (T:List (List PV)) (c1 c2 c3:PV) (hl:T.length<=2^63 - 1):res A aA 440 [.int .i64 t,.ro u [nm,.aq tt T,c1,c2,c3]]=some [.bool (dP T.length t)]:=by
 refine aw a440 rfl rfl ?_
 simp only[F440,Lf]
 unfold dP
 simp(disch:=omega)only[go_sem]
 refine Br.aJ (fun c=>?_) (fun c=>?_)<;>simp(disch:=omega)only[go_sem,c,decide_true,decide_false,Bool.true_or,Bool.false_or]
theorem r443 (x y:eE) (u:Nat):res A aA 443 [.agg x.c,.ro u y.c]=some [.bool (decide (x.name=y.name))]:=by
 refine aw a443 rfl rfl ?_
 simp only[F443,Lh,eE.c]
 simp(disch:=omega)only[go_sem]
theorem r448b (t u:Nat) (l:List eE) (y:eE) (hl:l.length<=2^63 - 1):res A aA 448 [.aq t (aG l),.func 443 [.ro u y.c]]=some [.int .i64 (bj (fun w=>decide (w.name=y.name)) l)]:=by
 refine aw a448 rfl rfl ?_
 simp only[F448,Hp]
 simp(disch:=omega)only[go_sem]
 refine W.find l (fun w=>decide (w.name=y.name)) (fun k=>⟨[(0,.pv (.aq t (aG l))),(1,.pv (.func 443 [.ro u y.c])),(7,.pv (.int .i64 l.length)),(8,.pv (.int .i64 k))],⟨[],[],[]⟩⟩) rfl (fun k x hx hk hfd=>?_) (fun hn=>?_)
 .have h443:=r443 x y u
  simp only[eE.c]at h443 |-
  simp(disch:=omega)only[go_sem]
  refine Br.aJ (fun h=>?_) (fun h=>(h (by omega)).elim)
  simp(disch:=omega)only[go_sem,hx,Option.map_some,eE.c,h443]
  refine Br.of (fun h2=>?_) (fun h2=>?_)<;>simp(disch:=omega)only[go_sem]
  .rw[(hfd h2).bj]
  .exact bB.of h2 rfl
 .simp(disch:=omega)only[go_sem]
  rw[hn.bj]
theorem r442 (t u:Nat) (l:List eE) (y:eE) (hl:l.length<=2^63 - 1):res A aA 442 [.aq t (aG l),.func 443 [.ro u y.c]]=some [.bool (cY (l.map (·.name)) y.name)]:=by
 refine aw a442 rfl rfl ?_
 simp only[F442,Lg]
 have h448:=r448b t u l y hl
 have e:decide (0<=bj (fun w=>decide (w.name=y.name)) l)=cY (l.map (·.name)) y.name:=by
  unfold cY
  rw[abr]
  rcases ko (fun w:eE=>decide (w.name=y.name)) l with⟨f1,f2⟩|⟨k,x,f1,f2,f3⟩
  .rw[f2]
   symm
   rw[show decide ((0:Int)<= -1)=false from rfl,WY]
   exact Xn.1 f1
  .rw[f3]
   symm
   rw[show decide ((0:Int)<=(k:Int))=true by simp,List.any_eq_true]
   exact⟨x,afu f1,XH f1⟩
 simp only[eE.c]at h448 |-
 simp(disch:=omega)only[go_sem,h448]
 rw[e]
theorem wJ (l:List eE):aO 5 (.inl (aG l))=true:=yD fun r hr=>by
 obtain⟨w,_,rfl⟩:=Wk.1 hr
 rfl
set_option maxHeartbeats 4000000 in
theorem r407 (t1 t2 t3 t4:Nat) (v:ij) (hv:iX v):res A aA 407 [.agg (lB t1 t2 t3 t4 v)]=some [.int .i64 (acw v)]:=by
 have h1:=hv.cl
 have h2:=hv.sl
 have h3:=hv.pl
 have htl:=hv.tl
 have hrf:=wJ v.aG
 have h306:=r306 v.name hv.nm
 have h439:=fun u=>r439 u v.types hv.tl hv.to hv.ts
 refine aw a407 rfl rfl ?_
 unfold acw
 simp only[F407,K8,lB]
 have hs0:=qD (T:=v.types)
 generalize iW v.types=e0 at *
 simp(disch:=omega)only[go_sem]
 refine Br.aJ (fun c1=>?_) (fun c1=>?_)<;>simp(disch:=omega)only[go_sem,c1]
 .rw[if_pos (by omega)]
 refine Br.aJ (fun c2=>?_) (fun c2=>?_)<;>simp(disch:=omega)only[go_sem,c2]
 .rw[if_pos (by omega)]
 refine Br.aJ (fun c3=>?_) (fun c3=>?_)<;>simp(disch:=omega)only[go_sem,c3,h306]
 .rw[if_pos (by omega)]
 rw[if_neg (by omega)]
 cases hi:isName v.name with
 |false=>simp(disch:=omega)only[go_sem,if_true]
 |true=>
  simp(disch:=omega)only[go_sem,h439]
  rw[if_neg (by decide)]
  refine Br.aJ (fun c=>?_) (fun c=>?_)<;>simp(disch:=omega)only[go_sem]
  rotate_left
  .rw[if_pos c]
  have hvalid:=hs0 c
  rw[if_neg (by simp[c])]
  obtain⟨G,hG⟩:∃G,(if dV (qS v.types.length v.calls) v.calls≠0 then dV (qS v.types.length v.calls) v.calls
   else if dV (pY v.types.length v.aG) v.aG≠0 then dV (pY v.types.length v.aG) v.aG
   else dV (pX v.types.length v.aT) v.aT)=G:=⟨_,rfl⟩
  rw[hG]
  refine W.find (List.range v.calls.length) (fun k=>decide (pW (qS v.types.length v.calls) v.calls k≠0)) (fun k=>⟨[(1,.ptr 1 0),(4,.func 440 [.ptr 1 0]),(5,.ptr 5 0),(6,.ptr 6 0),(46,.pv (.aq t2 (ch v.calls))),(47,.pv (.int .i64 v.calls.length)),(48,.pv (.int .i64 k))],⟨[(1,[.pv (.str v.name),.pv (.aq t1 (v.types.map aH.c)),.pv (.aq t2 (ch v.calls)),.pv (.aq t3 (aG v.aG)),.pv (.aq t4 (df v.aT))]),(5,[dh 0 (strs ((v.calls.map (·.name)).take k))]),(6,[.tl []])],cK 1 (strs ((v.calls.map (·.name)).take k)),[]⟩⟩) rfl (fun i k hx hk hfd=>?_) (fun hn=>?_)
  .obtain⟨rfl,hk⟩:=ey hx
   obtain⟨x,hx⟩:=get_some hk
   have done:∀e:Int,qS v.types.length v.calls k x=e->e≠0->(some [PV.int .i64 e]:Option (List PV))=some [.int .i64 G]:=fun e h1 h2=>by
    have h3:=kr hx (hfd (by rw[gp hx,h1]; exact decide_eq_true h2))
    rw[<- hG,h3,h1,if_pos h2]
   rw[gp hx]
   have hnx:(v.calls.map (·.name)).take (k+1)=(v.calls.map (·.name)).take k++[x.name]:=by
    rw[WL,Wf,hx]
    rfl
   have hsl:((v.calls.map (·.name)).take k).length<=8:=by rw[W8,Wg]; omega
   unfold qS at done |-
   generalize (v.calls.map (·.name)).take k=sn at *
   simp(disch:=omega)only[go_sem]
   refine Br.aJ (fun c=>?_) (fun c=>(c (by omega)).elim)
   simp(disch:=omega)only[go_sem,hx,Cal.c]
   refine call5 (eL _ _) (B3 x.name sn (hv.cs x (Wa hx)) (by omega) _ fun env=>?_)
   cases hi:isName x.name with
   |false=>
    rw[if_pos rfl]
    refine hZ (eL _ _) ⟨_,rfl⟩ ?_
    simp(disch:=omega)only[go_sem]
    exact done 1 (by rw[if_pos hi]) (by decide)
   |true=>
    rw[if_neg (by decide)]
    cases hh:cY sn x.name with
    |true=>
     rw[if_pos rfl]
     refine hZ (eL _ _) ⟨_,rfl⟩ ?_
     simp(disch:=omega)only[go_sem]
     exact done 5 (by rw[if_neg (by simp[hi]),if_pos hh]) (by decide)
    |false=>
     rw[if_neg (by decide)]
     refine hZ (eL _ _) ⟨_,rfl⟩ ?_
     rw[if_neg (by simp[hi]),if_neg (by simp[hh])]at done |-
     have h440:=fun t u=>r440 t u (.str v.name) t1 (v.types.map aH.c) (.aq t2 (ch v.calls)) (.aq t3 (aG v.aG)) (.aq t4 (df v.aT)) (by rw[Wg]; omega)
     rw[Wg]at h440
     simp(disch:=omega)only[go_sem,h440]
     cases h1:dP v.types.length x.ud with
     |true=>
      simp(disch:=omega)only[go_sem]
      exact done 4 (by rw[h1]; rfl) (by decide)
     |false=>
      simp(disch:=omega)only[go_sem,h440]
      cases h2:dP v.types.length x.rep with
      |true=>
       simp(disch:=omega)only[go_sem]
       exact done 4 (by rw[h1,h2]; rfl) (by decide)
      |false=>
       simp(disch:=omega)only[go_sem]
       exact bB.of (by simp) (by rw[hnx]; rfl)
  .rw[WI]
   have hz:=ku hn
   rw[if_neg (by simp[hz])]at hG
   clear hn hz
   obtain⟨X,hXd⟩:∃X,cK 1 (strs ((v.calls.map (·.name)).take v.calls.length))=X:=⟨_,rfl⟩
   have hX:X=[]\/∃a,X=[a]:=by
    rw[<- hXd]
    cases strs ((v.calls.map (·.name)).take v.calls.length)with
    |nil=>exact .inl rfl
    |cons y r=>exact .inr ⟨_,rfl⟩
   rw[hXd]
   clear hXd
   simp(disch:=omega)only[go_sem]
   refine W.find (List.range v.aG.length) (fun k=>decide (pW (pY v.types.length v.aG) v.aG k≠0)) (fun k=>⟨[(1,.ptr 1 0),(4,.func 440 [.ptr 1 0]),(6,.ptr 6 0),(70,.pv (.aq t3 (aG v.aG))),(71,.pv (.int .i64 v.aG.length)),(72,.pv (.int .i64 k))],⟨[(1,[.pv (.str v.name),.pv (.aq t1 (v.types.map aH.c)),.pv (.aq t2 (ch v.calls)),.pv (.aq t3 (aG v.aG)),.pv (.aq t4 (df v.aT))]),(6,[.tl []])],X,[]⟩⟩) rfl (fun i k hx hk hfd=>?_) (fun hn=>?_)
   .obtain⟨rfl,hk⟩:=ey hx
    obtain⟨x,hx⟩:=get_some hk
    have done:∀e:Int,pY v.types.length v.aG k x=e->e≠0->(some [PV.int .i64 e]:Option (List PV))=some [.int .i64 G]:=fun e h1 h2=>by
     have h3:=kr hx (hfd (by rw[gp hx,h1]; exact decide_eq_true h2))
     rw[<- hG,h3,h1,if_pos h2]
    rw[gp hx]
    obtain⟨s1,s2,s3,s4⟩:=hv.ss x (Wa hx)
    have h444:=fun u=>r444 u v.types x hv.tl hv.to hv.ts s2 s1 s3 s4
    rw[if_neg (by simp[hvalid])]at h444
    have h442:=fun t u=>r442 t u (v.aG.take k) x (by rw[W8]; omega)
    have hst:(aG v.aG).take k=aG (v.aG.take k):=(abp ..).symm
    rw[abp]at h442
    unfold pY at done |-
    simp only[eE.c]at h444 h442
    simp(disch:=omega)only[go_sem]
    refine Br.aJ (fun c=>?_) (fun c=>(c (by omega)).elim)
    simp(disch:=omega)only[go_sem,hx,Option.map_some,eE.c,hrf,hst,h442]
    cases hh:cY ((v.aG.map (·.name)).take k) x.name with
    |true=>
     simp(disch:=omega)only[go_sem]
     exact done 5 (by rw[if_pos hh]) (by decide)
    |false=>
     rw[if_neg (by simp[hh])]at done |-
     generalize te v.types.length x=e at *
     simp(disch:=omega)only[go_sem,h444]
     refine Br.aJ (fun c=>?_) (fun c=>?_)<;>simp(disch:=omega)only[go_sem]
     .exact bB.of (by simp[c]) rfl
     .exact done e rfl c
   .rw[WI]
    have hz:=ku hn
    rw[if_neg (by simp[hz])]at hG
    clear hn hz
    simp(disch:=omega)only[go_sem]
    rcases hX with rfl|⟨a,rfl⟩
    .refine W.find (List.range v.aT.length) (fun k=>decide (pW (pX v.types.length v.aT) v.aT k≠0)) (fun k=>⟨[(4,.func 440 [.ptr 1 0]),(6,.ptr 6 0),(92,.pv (.aq t4 (df v.aT))),(93,.pv (.int .i64 v.aT.length)),(94,.pv (.int .i64 k))],⟨[(1,[.pv (.str v.name),.pv (.aq t1 (v.types.map aH.c)),.pv (.aq t2 (ch v.calls)),.pv (.aq t3 (aG v.aG)),.pv (.aq t4 (df v.aT))]),(6,[dh 0 (strs ((v.aT.map (·.name)).take k))])],cK 1 (strs ((v.aT.map (·.name)).take k)),[]⟩⟩) rfl (fun i k hx hk hfd=>?_) (fun hn=>?_)
     .obtain⟨rfl,hk⟩:=ey hx
      obtain⟨x,hx⟩:=get_some hk
      have done:∀e:Int,pX v.types.length v.aT k x=e->e≠0->(some [PV.int .i64 e]:Option (List PV))=some [.int .i64 G]:=fun e h1 h2=>by
       have h3:=kr hx (hfd (by rw[gp hx,h1]; exact decide_eq_true h2))
       rw[<- hG,h3,h1]
      rw[gp hx]
      have hnx:(v.aT.map (·.name)).take (k+1)=(v.aT.map (·.name)).take k++[x.name]:=by
       rw[WL,Wf,hx]
       rfl
      have hsl:((v.aT.map (·.name)).take k).length<=8:=by rw[W8,Wg]; omega
      unfold pX at done |-
      generalize (v.aT.map (·.name)).take k=sn at *
      simp(disch:=omega)only[go_sem]
      refine Br.aJ (fun c=>?_) (fun c=>(c (by omega)).elim)
      simp(disch:=omega)only[go_sem,hx,Tpc.c]
      refine call6 (eL _ _) (B3 x.name sn (hv.ps x (Wa hx)) (by omega) _ fun env=>?_)
      cases hi:isName x.name with
      |false=>
       rw[if_pos rfl]
       refine hZ (eL _ _) ⟨_,rfl⟩ ?_
       simp(disch:=omega)only[go_sem]
       exact done 1 (by rw[if_pos hi]) (by decide)
      |true=>
       rw[if_neg (by decide)]
       cases hh:cY sn x.name with
       |true=>
        rw[if_pos rfl]
        refine hZ (eL _ _) ⟨_,rfl⟩ ?_
        simp(disch:=omega)only[go_sem]
        exact done 5 (by rw[if_neg (by simp[hi]),if_pos hh]) (by decide)
       |false=>
        rw[if_neg (by decide)]
        refine hZ (eL _ _) ⟨_,rfl⟩ ?_
        rw[if_neg (by simp[hi]),if_neg (by simp[hh])]at done |-
        have h440:=fun t u=>r440 t u (.str v.name) t1 (v.types.map aH.c) (.aq t2 (ch v.calls)) (.aq t3 (aG v.aG)) (.aq t4 (df v.aT)) (by rw[Wg]; omega)
        rw[Wg]at h440
        simp(disch:=omega)only[go_sem,h440]
        cases h1:dP v.types.length x.ty with
        |true=>
         simp(disch:=omega)only[go_sem]
         exact done 4 (by rw[h1]; rfl) (by decide)
        |false=>
         simp(disch:=omega)only[go_sem]
         exact bB.of (by simp) (by rw[hnx]; rfl)
     .rw[WI]
      have hz:=ku hn
      rw[hz]at hG
      rw[<- hG]
      simp(disch:=omega)only[go_sem]
    .refine W.find (List.range v.aT.length) (fun k=>decide (pW (pX v.types.length v.aT) v.aT k≠0)) (fun k=>⟨[(4,.func 440 [.ptr 1 0]),(6,.ptr 6 0),(92,.pv (.aq t4 (df v.aT))),(93,.pv (.int .i64 v.aT.length)),(94,.pv (.int .i64 k))],⟨[(1,[.pv (.str v.name),.pv (.aq t1 (v.types.map aH.c)),.pv (.aq t2 (ch v.calls)),.pv (.aq t3 (aG v.aG)),.pv (.aq t4 (df v.aT))]),(6,[dh 1 (strs ((v.aT.map (·.name)).take k))])],a::cK 1 (strs ((v.aT.map (·.name)).take k)),[]⟩⟩) rfl (fun i k hx hk hfd=>?_) (fun hn=>?_)
     .obtain⟨rfl,hk⟩:=ey hx
      obtain⟨x,hx⟩:=get_some hk
      have done:∀e:Int,pX v.types.length v.aT k x=e->e≠0->(some [PV.int .i64 e]:Option (List PV))=some [.int .i64 G]:=fun e h1 h2=>by
       have h3:=kr hx (hfd (by rw[gp hx,h1]; exact decide_eq_true h2))
       rw[<- hG,h3,h1]
      rw[gp hx]
      have hnx:(v.aT.map (·.name)).take (k+1)=(v.aT.map (·.name)).take k++[x.name]:=by
       rw[WL,Wf,hx]
       rfl
      have hsl:((v.aT.map (·.name)).take k).length<=8:=by rw[W8,Wg]; omega
      unfold pX at done |-
      generalize (v.aT.map (·.name)).take k=sn at *
      simp(disch:=omega)only[go_sem]
      refine Br.aJ (fun c=>?_) (fun c=>(c (by omega)).elim)
      simp(disch:=omega)only[go_sem,hx,Tpc.c]
      refine call6 (eL _ _) (Fy a x.name sn (hv.ps x (Wa hx)) (by omega) _ fun env=>?_)
      cases hi:isName x.name with
      |false=>
       rw[if_pos rfl]
       refine hZ (eL _ _) ⟨_,rfl⟩ ?_
       simp(disch:=omega)only[go_sem]
       exact done 1 (by rw[if_pos hi]) (by decide)
      |true=>
       rw[if_neg (by decide)]
       cases hh:cY sn x.name with
       |true=>
        rw[if_pos rfl]
        refine hZ (eL _ _) ⟨_,rfl⟩ ?_
        simp(disch:=omega)only[go_sem]
        exact done 5 (by rw[if_neg (by simp[hi]),if_pos hh]) (by decide)
       |false=>
        rw[if_neg (by decide)]
        refine hZ (eL _ _) ⟨_,rfl⟩ ?_
        rw[if_neg (by simp[hi]),if_neg (by simp[hh])]at done |-
        have h440:=fun t u=>r440 t u (.str v.name) t1 (v.types.map aH.c) (.aq t2 (ch v.calls)) (.aq t3 (aG v.aG)) (.aq t4 (df v.aT)) (by rw[Wg]; omega)
        rw[Wg]at h440
        simp(disch:=omega)only[go_sem,h440]
        cases h1:dP v.types.length x.ty with
        |true=>
         simp(disch:=omega)only[go_sem]
         exact done 4 (by rw[h1]; rfl) (by decide)
        |false=>
         simp(disch:=omega)only[go_sem]
         exact bB.of (by simp) (by rw[hnx]; rfl)
     .rw[WI]
      have hz:=ku hn
      rw[hz]at hG
      rw[<- hG]
      simp(disch:=omega)only[go_sem]
theorem lI {α:Type} {f:Nat->α->Int} {l:List α} (h:dV f l=0):∀(k:Nat) (x:α),l[k]?=some x->f k x=0:=by
 intro k x hx
 unfold dV at h
 cases hf:(List.range l.length).find? (fun k=>decide (pW f l k≠0))with
 |none=>
  have:=Xn.1 hf k (WJ.2 (V9.1 hx).1)
  rw[gp hx]at this
  simpa using this
 |some j=>
  rw[hf]at h
  have:=XH hf
  simp[h]at this
theorem rr {n:Nat} {u:Int} (h:dP n u=false):0<=u/\u<n:=by
 simp[dP]at h
 omega
structure Fz (n:Nat) (w:eE):Prop where
 zn:w.msgs.length<=16
 V7:lH w=true
 ty:∀m∈w.msgs,0<=m.ty/\m.ty<n
 au:w.auto.err=0
 V8:∀e∈w.auto.af,w.msgs.any (lG e.label)=true
 all:(w.auto.order.length:Int)=w.auto.aj
theorem Df {n:Nat} {w:eE} (h:te n w=0):Fz n w:=by
 unfold te at h
 split at h
 .cases h
 rename_i h1
 split at h
 .cases h
 rename_i h2
 split at h
 .cases h
 rename_i h3
 split at h
 .rename_i h4
  exact absurd h h4
 rename_i h4
 split at h
 .cases h
 rename_i h5
 split at h
 .cases h
 rename_i h6
 refine⟨by omega,by simpa using h2,fun m hm=>?_,by simpa using h4,fun e he=>?_,by simpa using h6⟩
 .have:=List.any_eq_false.1 (by simpa using h3) m hm
  exact rr (by simpa using this)
 .have:=List.any_eq_false.1 (by simpa using h5:w.auto.af.any (fun e=>!w.msgs.any (lG e.label))=false) e he
  simpa using this
structure cH (v:ij):Prop where
 zn:v.calls.length<=8/\v.aG.length<=8/\v.aT.length<=8
 nm:isName v.name=true
 sound:iW v.types=0
 TA:∀(k:Nat) c,v.calls[k]?=some c->qS v.types.length v.calls k c=0
 TB:∀(k:Nat) w,v.aG[k]?=some w->pY v.types.length v.aG k w=0
 top:∀(k:Nat) c,v.aT[k]?=some c->pX v.types.length v.aT k c=0
theorem vj {v:ij} (h:acw v=0):cH v:=by
 unfold acw at h
 split at h
 .cases h
 rename_i h1
 split at h
 .cases h
 rename_i h2
 split at h
 .rename_i h3
  exact absurd h h3
 rename_i h3
 split at h
 .rename_i h4
  exact absurd h h4
 rename_i h4
 split at h
 .rename_i h5
  exact absurd h h5
 rename_i h5
 exact⟨by omega,by simpa using h2,by simpa using h3,lI (by simpa using h4),lI (by simpa using h5),lI h⟩
theorem pZ {n:Nat} {l:List Cal} {k:Nat} {c:Cal} (h:qS n l k c=0):isName c.name=true/\cY ((l.map (·.name)).take k) c.name=false/\(0<=c.ud/\c.ud<n)/\0<=c.rep/\c.rep<n:=by
 unfold qS at h
 split at h
 .cases h
 rename_i h1
 split at h
 .cases h
 rename_i h2
 split at h
 .cases h
 rename_i h3
 simp only[Bool.or_eq_true,not_or,Bool.not_eq_true]at h3
 exact⟨by simpa using h1,by simpa using h2,rr h3.1,rr h3.2⟩
theorem p4 {n:Nat} {l:List Tpc} {k:Nat} {c:Tpc} (h:pX n l k c=0):isName c.name=true/\cY ((l.map (·.name)).take k) c.name=false/\0<=c.ty/\c.ty<n:=by
 unfold pX at h
 split at h
 .cases h
 rename_i h1
 split at h
 .cases h
 rename_i h2
 split at h
 .cases h
 rename_i h3
 exact⟨by simpa using h1,by simpa using h2,rr (by simpa using h3)⟩
theorem vk {n:Nat} {l:List eE} {k:Nat} {w:eE} (h:pY n l k w=0):cY ((l.map (·.name)).take k) w.name=false/\Fz n w:=by
 unfold pY at h
 split at h
 .cases h
 rename_i h1
 exact⟨by simpa using h1,Df h⟩
theorem cH.call {v:ij} (h:cH v):∀c∈v.calls,(0<=c.ud/\c.ud<v.types.length)/\0<=c.rep/\c.rep<v.types.length:=fun c hc=>by
 obtain⟨k,hk⟩:=Wd.1 hc
 exact(pZ (h.TA k c hk)).2.2
theorem cH.I4 {v:ij} (h:cH v):∀c∈v.aT,0<=c.ty/\c.ty<v.types.length:=fun c hc=>by
 obtain⟨k,hk⟩:=Wd.1 hc
 exact(p4 (h.top k c hk)).2.2
theorem cH.wK {v:ij} (h:cH v):∀w∈v.aG,Fz v.types.length w:=fun c hc=>by
 obtain⟨k,hk⟩:=Wd.1 hc
 exact(vk (h.TB k c hk)).2
theorem cH.valid {v:ij} (h:cH v):cS v.types=0:=qD h.sound
theorem cH.root {v:ij} (h:cH v):∀r∈afY v,0<=r/\r<v.types.length:=by
 intro r hr
 unfold afY at hr
 rcases WT.1 hr with hr|hr
 .rcases WT.1 hr with hr|hr
  .obtain⟨c,hc,hr⟩:=afw.1 hr
   have:=h.call c hc
   simp at hr
   rcases hr with rfl|rfl
   .exact this.1
   .exact this.2
  .obtain⟨w,hw,hr⟩:=afw.1 hr
   obtain⟨m,hm,rfl⟩:=Wk.1 hr
   exact(h.wK w hw).ty m hm
 .obtain⟨c,hc,rfl⟩:=Wk.1 hr
  exact h.I4 c hc
def Yw (ar:List aL) (o:Nat) (v:V) (c:PV):Prop:=(v=.pv c/\c.perm=true)\/∃k rows,c=.aq 0 rows/\Home ar o k v rows
theorem Yw.push {ar:List aL} {o:Nat} {v:V} {c:PV} (h:Yw ar o v c) (x:List aL):Yw (ar++x) o v c:=by
 rcases h with h|⟨k,rows,h1,h2⟩
 .exact .inl h
 .exact .inr ⟨k,rows,h1,h2.push x⟩
theorem Yw.set {ar:List aL} {o:Nat} {v:V} {c:PV} (h:Yw ar o v c) (a:aL):Yw (ar.set o a) o v c:=by
 rcases h with h|⟨k,rows,h1,h2⟩
 .exact .inl h
 .exact .inr ⟨k,rows,h1,h2.set a⟩
theorem Yw.keep {ar:List aL} {o:Nat} {v:V} {c:PV} (h:Yw ar o v c) (bx:List (Nat×List V)) (mp:List (List (PV×PV))) (d:Nat):aY ⟨bx,ar,mp⟩ (d+1) v=some c:=by
 rcases h with⟨rfl,h⟩|⟨k,rows,rfl,h2⟩
 .rw[ya,if_pos h]
 .exact h2.keep bx mp d
def afW (ar:List aL) (o:Nat) (row:List V) (cs:List PV):Prop:=row.length=cs.length/\∀(i:Nat) v c,row[i]?=some v->cs[i]?=some c->Yw ar o v c
theorem afW.nil (ar:List aL) (o:Nat):afW ar o [] []:=⟨rfl,fun i v c h=>by simp at h⟩
theorem afW.cons {ar:List aL} {o:Nat} {v:V} {c:PV} {row:List V} {cs:List PV} (h:Yw ar o v c) (g:afW ar o row cs):afW ar o (v::row) (c::cs):=by
 refine⟨by simp[g.1],fun i w d h1 h2=>?_⟩
 cases i with
 |zero=>
  simp at h1 h2
  rw[<- h1,<- h2]
  exact h
 |succ i=>exact g.2 i w d (by simpa using h1) (by simpa using h2)
theorem afW.pure {ar:List aL} {o:Nat} {v:V} {c:PV} {row:List V} {cs:List PV} (h:v=.pv c) (hp:c.perm=true) (g:afW ar o row cs):afW ar o (v::row) (c::cs):=.cons (.inl ⟨h,hp⟩) g
theorem afW.push {ar:List aL} {o:Nat} {row:List V} {cs:List PV} (h:afW ar o row cs) (x:List aL):afW (ar++x) o row cs:=⟨h.1,fun i v c h1 h2=>(h.2 i v c h1 h2).push x⟩
theorem afW.set {ar:List aL} {o:Nat} {row:List V} {cs:List PV} (h:afW ar o row cs) (a:aL):afW (ar.set o a) o row cs:=⟨h.1,fun i v c h1 h2=>(h.2 i v c h1 h2).set a⟩
theorem afW.keep {ar:List aL} {o:Nat} (bx:List (Nat×List V)) (mp:List (List (PV×PV))) (d:Nat):∀{row:List V} {cs:List PV},afW ar o row cs->ay (aY ⟨bx,ar,mp⟩ (d+1)) row=some cs
 |[],[],_=>rfl
 |[],_::_,h=>absurd h.1 (by simp)
 |_::_,[],h=>absurd h.1 (by simp)
 |v::row,c::cs,h=>by
  have h1:=(h.2 0 v c rfl rfl).keep bx mp d
  have h2:=afW.keep bx mp d (row:=row) (cs:=cs) ⟨by simpa using h.1,fun i w e hi he=>h.2 (i+1) w e (by simpa using hi) (by simpa using he)⟩
  simp only[ay,h1,h2]
structure XZ (ar:List aL) (o:Nat) (rows:List (List V)) (css:List (List PV)):Prop where
 len:rows.length=css.length
 row:∀(i:Nat) row cs,rows[i]?=some row->css[i]?=some cs->afW ar o row cs
theorem XZ.push {ar:List aL} {o:Nat} {rows:List (List V)} {css:List (List PV)} (h:XZ ar o rows css) (x:List aL):XZ (ar++x) o rows css:=⟨h.len,fun i row cs h1 h2=>(h.row i row cs h1 h2).push x⟩
theorem XZ.set {ar:List aL} {o:Nat} {rows:List (List V)} {css:List (List PV)} (h:XZ ar o rows css) (a:aL):XZ (ar.set o a) o rows css:=⟨h.len,fun i row cs h1 h2=>(h.row i row cs h1 h2).set a⟩
theorem XZ.snoc {ar:List aL} {o:Nat} {rows:List (List V)} {css:List (List PV)} {row:List V} {cs:List PV} (h:XZ ar o rows css) (hr:afW ar o row cs):XZ ar o (rows++[row]) (css++[cs]):=by
 refine⟨by simp[h.len],fun i r u h1 h2=>?_⟩
 rcases Wh i rows.length with hi|hi
 .rw[We hi]at h1
  rw[We (by rw[<- h.len]; exact hi)]at h2
  exact h.row i r u h1 h2
 .rw[Wn hi]at h1
  rw[Wn (by rw[<- h.len]; exact hi)]at h2
  rw[h.len]at h1
  cases hj:i - css.length with
  |zero=>
   rw[hj]at h1 h2
   cases h1
   cases h2
   exact hr
  |succ j=>
   rw[hj]at h1
   simp at h1
def Zn (ar:List aL) (o ax k:Nat) (css:List (List PV)):Prop:=∃body,ar[o]?=some ⟨ax,k,body⟩/\XZ ar o (dX body) css
theorem Zn.push {ar:List aL} {o ax k:Nat} {css:List (List PV)} (h:Zn ar o ax k css) (x:List aL):Zn (ar++x) o ax k css:=by
 obtain⟨body,h1,h2⟩:=h
 exact⟨body,by rw[We (V9.1 h1).1]; exact h1,h2.push x⟩
theorem Zn.keep {ar:List aL} {o ax k:Nat} {css:List (List PV)} (h:Zn ar o ax k css) (bx:List (Nat×List V)) (mp:List (List (PV×PV))):aY ⟨bx,ar,mp⟩ 4 (.own o ax 0 css.length)=some (.aq 0 css):=by
 obtain⟨body,h1,h2⟩:=h
 rw[dS,jB,h1]
 simp only[Option.bind_some,if_true]
 have hk:=pP (f:=aY ⟨bx,ar,mp⟩ 3) (c:=id) h2.len (fun i row t hi ht=>(h2.row i row t hi ht).keep bx mp 2)
 rw[afD]at hk
 cases body with
 |inl R=>
  have hl:R.length=css.length:=by have:=h2.len; simpa [dX]using this
  simp only[az,bO,List.drop_zero]
  rw[<- hl,WV]
  congr 2
  apply WW
  intro i
  rcases Wh i R.length with hi|hi
  .have e1:=Wb hi
   have e2:=Wb (l:=css) (i:=i) (by omega)
   have:=(h2.row i (R[i].map V.pv) (css[i]'(by omega)) (by simp[dX,e1]) e2).keep bx mp 2
   have:=sO this
   rw[e1,e2,this]
  .rw[WS hi,WS (by omega)]
 |inr R=>
  have hl:R.length=css.length:=by have:=h2.len; simpa [dX]using this
  simp only[az,bO,List.drop_zero]
  rw[<- hl,WV]
  have hk':ay (ay (aY ⟨bx,ar,mp⟩ 3)) R=some css:=hk
  rw[hk']
  rfl
def afU (b:Nat) (ar:List aL) (V0:V) (k:Nat) (css:List (List PV)):Prop:=(V0=.tl []/\css=[])\/∃o ax,V0=.own o ax 0 css.length/\b<=o/\Zn ar o ax k css
theorem afU.push {b:Nat} {ar:List aL} {V0:V} {k:Nat} {css:List (List PV)} (h:afU b ar V0 k css) (x:List aL):afU b (ar++x) V0 k css:=by
 rcases h with h|⟨o,ax,h1,h2,h3⟩
 .exact .inl h
 .exact .inr ⟨o,ax,h1,h2,h3.push x⟩
theorem afU.keep {b:Nat} {ar:List aL} {V0:V} {k:Nat} {css:List (List PV)} (h:afU b ar V0 k css) (bx:List (Nat×List V)) (mp:List (List (PV×PV))):aY ⟨bx,ar,mp⟩ 4 V0=some (.aq 0 css):=by
 rcases h with⟨rfl,rfl⟩|⟨o,ax,rfl,_,h⟩
 .rfl
 .exact h.keep bx mp
theorem afU.quiet {b:Nat} {ar:List aL} {V0:V} {k:Nat} {css:List (List PV)} (h:afU b ar V0 k css):V0.calm=true/\V0.cells=[V0]:=by
 rcases h with⟨rfl,rfl⟩|⟨o,ax,rfl,_⟩<;>exact⟨rfl,rfl⟩
theorem aeQ {n:Nat} {b:Sum (List (List PV)) (List (List V))} (h:aD b=n):az 0 n b=b:=by
 subst h
 cases b<;>simp[az,aD]
theorem aeZ {b:Nat} {ar X:List aL} {V0 y:V} {k:Nat} {css:List (List PV)} {cs:List PV} {new:Sum (List (List PV)) (List (List V))} {rd:Option Nat} {row:List V} (hO:afU b ar V0 k css) (hb:b<=ar.length) (hm:css.length+1<=2147483648) (hk:cs.length=k)
  (hs:∀bx,aW ⟨bx,ar++X,[]⟩ y=some (new,rd)) (hn:dX new=[row]) (hrd:∀o,rd=some o->ar.length<=o) (hr:∀o,o<ar.length\/(ar++X).length<=o->afW (ar++X) o row cs):
  ∃V1 T ar',(∀bx,aK ⟨bx,ar++X,[]⟩ k V0 y=some (V1,T))/\(∀bx,T.apply ⟨bx,ar++X,[]⟩=⟨bx,ar',[]⟩)/\V1.cells=[V1]/\V1.calm=true/\ar'.take b=ar.take b/\b<=ar'.length/\afU b ar' V1 k (css++[cs]):=by
 have hrow:row.length=k:=by rw[(hr _ (.inr (Wj _))).1,hk]
 have h1:aD new=1:=by rw[<- im,hn]; rfl
 have h2:aO k new=true:=ox (by rw[hn]; intro r hr'; rw[Xj]at hr'; rw[hr']; exact hrow)
 rcases hO with⟨rfl,rfl⟩|⟨o,ax,rfl,ho,body,hb1,hb2⟩
 .have happ:∀bx,aK ⟨bx,ar++X,[]⟩ k (.tl []) y=some (.own (ar++X).length 0 0 1,{ push:=[⟨0,k,aU (.inl []) new⟩],ra:=rd,base:=(ar++X).length }):=fun bx=>by
   simp only[aK,hs,h2,h1,if_true]
   simp[aO,aN]
  refine⟨_,_,(ar++X)++[⟨0,k,aU (.inl []) new⟩],happ,fun bx=>by simp[Tn.apply],rfl,rfl,?_,by simp; omega,.inr ⟨(ar++X).length,0,rfl,?_,aU (.inl []) new,by simp,?_⟩⟩
  .rw[WK,XT hb]
  .rw[Wz]
   omega
  .rw[l7,hn]
   have h3:XZ ((ar++X)++[⟨0,k,aU (.inl []) new⟩]) (ar++X).length (dX (.inl [])) []:=⟨rfl,fun i r u h1 _=>by simp[dX]at h1⟩
   exact h3.snoc ((hr _ (.inr (Wj _))).push _)
 .have hol:=(V9.1 hb1).1
  have hb1':(ar++X)[o]?=some ⟨ax,k,body⟩:=by rw[We hol]; exact hb1
  have hbl:aD body=css.length:=by rw[<- im]; exact hb2.len
  have hrd':rd≠some o:=fun e=>by have:=hrd o e; omega
  have happ:∀bx,aK ⟨bx,ar++X,[]⟩ k (.own o ax 0 css.length) y=some (.own o (ax+1) 0 (css.length+1),{ ar:=some (o,⟨ax+1,k,aU body new⟩),ra:=rd }):=fun bx=>by
   have h3:aB ⟨bx,ar++X,[]⟩ o ax=some ⟨ax,k,body⟩:=by rw[jB,hb1']; simp
   have h4:(⟨ax,k,body⟩:aL).size=css.length:=by rw[<- hbl]; cases body<;>rfl
   simp only[aK,hs,h2,h1,h3,if_true,h4]
   rw[aeQ hbl]
   simp[aN,hm,hrd']
  refine⟨_,_,(ar++X).set o ⟨ax+1,k,aU body new⟩,happ,fun bx=>by simp[Tn.apply],rfl,rfl,?_,by simp; omega,.inr ⟨o,ax+1,by simp,ho,aU body new,?_,?_⟩⟩
  .rw[List.take_set_of_le ho,XT hb]
  .rw[WU (by rw[Wz]; omega)]
  .rw[l7,hn]
   exact(((hb2.push X).set _).snoc ((hr o (.inl hol)).set _))
theorem aew {b:Nat} {ar X0:List aL} {V0:V} {k:Nat} {css:List (List PV)} {cs:List PV} {row:List V} {n:Nat} (hO:afU b ar V0 k css) (hb:b<=ar.length) (hm:css.length+1<=2147483648) (hk:cs.length=k) (hl:(ar++X0).length=n)
  (hr:∀o,o<ar.length\/n+1<=o->afW (ar++X0++[⟨0,k,.inr [row]⟩]) o row cs):
  ∃V1 T ar',(∀bx,aK ⟨bx,ar++X0++[⟨0,k,.inr [row]⟩],[]⟩ k V0 (.own n 0 0 1)=some (V1,T))/\(∀bx,T.apply ⟨bx,ar++X0++[⟨0,k,.inr [row]⟩],[]⟩=⟨bx,ar',[]⟩)/\V1.cells=[V1]/\V1.calm=true/\ar'.take b=ar.take b/\b<=ar'.length/\afU b ar' V1 k (css++[cs]):=by
 rw[WK]at hr |-
 refine aeZ (X:=X0++[⟨0,k,.inr [row]⟩]) (new:=.inr [row]) (rd:=some n) hO hb hm hk (fun bx=>?_) rfl (fun o ho=>?_) (fun o ho=>hr o ?_)
 .have hg:(ar++(X0++[⟨0,k,.inr [row]⟩]))[n]?=some ⟨0,k,.inr [row]⟩:=by
   rw[<- WK,<- hl]
   simp
  simp[aW,aB,hg,az]
 .injection ho with ho
  rw[<- ho,<- hl,Wz]
  omega
 .rcases ho with ho|ho
  .exact .inl ho
  .rw[<- WK,Wz,hl]at ho
   exact .inr ho
def Yr (row:List V) (c:Nat) (news:List V):List V:=row.take c++news++row.drop (c+news.length)
def X6:V->Bool
 |.func _ _=>false
 |_=>true
theorem YU {v:V} {p:PV} (h:v.bS=some p) (hp:X6 v=true):v=.pv p:=by
 cases v<;>simp[V.bS,X6]at h hp
 rw[h.2]
theorem Yf:∀{news:List V} {l:List PV},ay V.bS news=some l->(∀v∈news,X6 v=true)->news=l.map .pv
 |[],l,h,_=>by cases h; rfl
 |v::news,l,h,hp=>by
  rw[su]at h
  cases hv:v.bS with
  |none=>simp[hv]at h
  |some p=>
   cases hm:ay V.bS news with
   |none=>simp[hv,hm]at h
   |some r=>
    simp[hv,hm]at h
    rw[<- h,YU hv (hp v WH),Yf hm fun w hw=>hp w (W3 _ hw)]
    rfl
theorem Yh {r c:Nat} {news:List V} {body:Sum (List (List PV)) (List (List V))} (hr:r<(dX body).length) (hp:∀v∈news,X6 v=true):dX (setBody r c news body)=(dX body).set r (Yr ((dX body).getD r []) c news):=by
 cases body with
 |inl x=>
  have hx:r<x.length:=by simpa [dX]using hr
  have hg:((x.map (·.map V.pv)).getD r [])=(x.getD r []).map .pv:=by
   simp[List.getD_eq_getElem?_getD,List.getElem?_eq_getElem hx]
  simp only[setBody,dX]
  cases hm:ay V.bS news with
  |none=>
   dsimp only
   rw[hg]
   rfl
  |some l=>
   dsimp only
   have:=Yf hm hp
   subst this
   rw[hg,List.map_set]
   congr 1
   simp[Yr,List.map_take,List.map_drop]
 |inr x=>rfl
theorem YF (r:Nat) (body:Sum (List (List PV)) (List (List V))):nZ r body=(dX body)[r]?:=by
 cases body with
 |inl x=>simp[nZ,dX]
 |inr x=>rfl
theorem Y9 (a:aL):a.size=(dX a.body).length:=by
 obtain⟨v,k,b⟩:=a
 cases b<;>simp[aL.size,dX]
theorem aaa {id r c ax k:Nat} {news:List V} {body:Sum (List (List PV)) (List (List V))} (hr:r<(dX body).length) (hc:c+news.length<=k) (h4:news.all V.calm=true) (hp:∀v∈news,X6 v=true):
  ∃body',eG id r c news ⟨ax,k,body⟩=some { ar:=some (id,⟨ax,k,body'⟩) }/\dX body'=(dX body).set r (Yr ((dX body).getD r []) c news):=by
 refine⟨_,?_,Yh hr hp⟩
 have hs:r<(⟨ax,k,body⟩:aL).size:=by rw[Y9]; exact hr
 unfold eG
 rw[if_pos ⟨hs,hc,h4⟩]
theorem ado (l:List Int):aO 1 (.inl (ints l))=true:=by simp[aO,ints]
theorem aei (l m:List Int):ints l++ints m=ints (l++m):=by simp[ints]
theorem ad4 {src:V} (bx:List (Nat×List V)) (mp:List (List (PV×PV))) (l:List Int) (hs:∀h,aW h src=some (.inl (ints l),none)) (h0:l≠[]) (hm:l.length<=2147483648):aK ⟨bx,[],mp⟩ 1 (.tl []) src=some (.own 0 0 0 l.length,{ push:=[⟨0,1,.inl (ints l)⟩],base:=0 }):=by
 have h1:¬(ints l).length=0:=by rw[bt]; exact fun e=>h0 (Wp e)
 unfold aK
 rw[hs]
 dsimp only
 rw[if_pos (ado l)]
 simp only[aD,aU,List.nil_append,List.length_nil,Nat.zero_add]
 rw[if_neg h1,if_pos ⟨by rw[bt]; exact hm,by rfl⟩,bt]
theorem aex {src:V} (bx:List (Nat×List V)) (mp:List (List (PV×PV))) (v n:Nat) (l m:List Int) (hn:n=l.length) (hs:∀h,aW h src=some (.inl (ints m),none)) (h0:m≠[]) (hm:l.length+m.length<=2147483648):aK ⟨bx,[⟨v,1,.inl (ints l)⟩],mp⟩ 1 (.own 0 v 0 n) src=some (.own 0 (v+1) 0 (l++m).length,{ ar:=some (0,⟨v+1,1,.inl (ints (l++m))⟩) }):=by
 subst hn
 have h1:¬(ints m).length=0:=by rw[bt]; exact fun e=>h0 (Wp e)
 have h2:aB ⟨bx,[⟨v,1,.inl (ints l)⟩],mp⟩ 0 v=some ⟨v,1,.inl (ints l)⟩:=by simp[aB]
 have h3:((ints l).drop 0).take l.length=ints l:=by rw[List.drop_zero]; exact List.take_of_length_le (by simp[ints])
 unfold aK
 rw[hs]
 dsimp only
 rw[if_pos (ado m),h2]
 simp only[aD]
 rw[if_neg h1,if_pos ⟨by simp[aL.size,ints],by trivial,by unfold aN; rw[bt]; exact hm⟩]
 simp only[az,h3,aU,aei,bt,List.length_append]
def gwV:Nat->List Int->V
 |0,_=>.tl []
 |v+1,l=>.own 0 v 0 l.length
def gwA:Nat->List Int->List aL
 |0,_=>[]
 |v+1,l=>[⟨v,1,.inl (ints l)⟩]
def gwT:Nat->List Int->Tn
 |0,l=>{ push:=[⟨0,1,.inl (ints l)⟩],base:=0 }
 |v+1,l=>{ ar:=some (0,⟨v+1,1,.inl (ints l)⟩) }
theorem adH (bx:List (Nat×List V)) (mp:List (List (PV×PV))) (n:Nat) (l m:List Int) (h0:n=0->l=[]) (h1:m≠[]) (hm:l.length+m.length<=2147483648):aK ⟨bx,gwA n l,mp⟩ 1 (gwV n l) (.tl (ints m))=some (gwV (n+1) (l++m),gwT n (l++m)):=by
 cases n with
 |zero=>
  obtain rfl:=h0 rfl
  exact ad4 bx mp m (fun _=>rfl) h1 (by omega)
 |succ v=>exact aex bx mp v l.length l m rfl (fun _=>rfl) h1 hm
theorem acJ (bx:List (Nat×List V)) (mp:List (List (PV×PV))) (n:Nat) (l m:List Int):(gwT n m).apply ⟨bx,gwA n l,mp⟩=⟨bx,gwA (n+1) m,mp⟩:=by cases n<;>simp[gwT,gwA,Tn.apply]
@[go_sem] theorem ae0 (kb:List Nat) (n:Nat) (l:List Int):dN kb (gwV n l)=gwV n l:=by cases n<;>rfl
theorem acA:∀l:List Cal,(BT l).length=2*l.length
 |[]=>rfl
 |c::l=>by
  have:=acA l
  simp only[BT,List.flatMap_cons,List.length_append,List.length_cons,List.length_nil]at this |-
  omega
theorem adp {α β:Type} (f:α->β) {l:List α} {k:Nat} {x:α} (h:l[k]?=some x):(l.map f).take (k+1)=(l.map f).take k++[f x]:=by
 rw[WL,Wf,h]
 rfl
set_option maxHeartbeats 4000000 in
theorem r417 (t u x y:Nat) (v:ij) (hn:(afY v).length<=1000000) (h1:v.calls.length<=2^63 - 1) (h2:v.aG.length<=2^63 - 1) (h3:v.aT.length<=2^63 - 1) (h4:∀w∈v.aG,w.msgs.length<=2^63 - 1):res A aA 417 [.agg (lB t u x y v)]=some [.aq 0 (ints (acU (afY v)))]:=by
 refine aw a417 rfl rfl ?_
 simp only[F417,Ry,lB]
 have hl:(BT v.calls).length+(HB v.aG).length+(HC v.aT).length<=1000000:=by
  unfold afY at hn
  rw[Wz,Wz]at hn
  exact hn
 simp(disch:=omega)only[go_sem]
 refine W.fv v.calls.length (fun k=>⟨[(1,.ptr 1 0),(3,gwV k (BT (v.calls.take k))),(13,.pv (.aq u (ch v.calls))),(14,.pv (.int .i64 v.calls.length)),(15,.pv (.int .i64 k))],⟨[(1,[.pv (.str v.name),.pv (.aq t (v.types.map aH.c)),.pv (.aq u (ch v.calls)),.pv (.aq x (aG v.aG)),.pv (.aq y (df v.aT))])],gwA k (BT (v.calls.take k)),[]⟩⟩) (fun _=>True) rfl trivial fun k hk _=>?_
 simp(disch:=omega)only[go_sem]
 refine Br.aJ (fun c1=>?_) (fun c1=>?_)
 .obtain⟨c,hc⟩:=get_some (l:=v.calls) (k:=k) (by omega)
  have hkl:=acj (fun c:Cal=>[c.ud,c.rep]) v.calls k
  have hap:=fun bx mp=>adH bx mp k (BT (v.calls.take k)) [c.ud,c.rep] (fun h=>by subst h; rfl) (by simp) (by simp only[BT,List.length_cons,List.length_nil]at hl hkl |-; omega)
  have hin:ints [c.ud,c.rep]=[[.int .i64 c.ud],[.int .i64 c.rep]]:=rfl
  rw[hin]at hap
  have hsn:BT (v.calls.take (k+1))=BT (v.calls.take k)++[c.ud,c.rep]:=acy _ hc
  simp(disch:=omega)only[go_sem,hc,Option.map_some,hap,acJ]
  exact .of (by omega) (by rw[hsn]; rfl) trivial
 obtain rfl:k=v.calls.length:=by omega
 clear hk c1
 rw[WV]
 have hcl:=acA v.calls
 simp(disch:=omega)only[go_sem]
 refine W.fv v.aG.length (fun k=>⟨[(1,.ptr 1 0),(3,gwV (v.calls.length+(HB (v.aG.take k)).length) (BT v.calls++HB (v.aG.take k))),(28,.pv (.aq x (aG v.aG))),(29,.pv (.int .i64 v.aG.length)),(30,.pv (.int .i64 k))],⟨[(1,[.pv (.str v.name),.pv (.aq t (v.types.map aH.c)),.pv (.aq u (ch v.calls)),.pv (.aq x (aG v.aG)),.pv (.aq y (df v.aT))])],gwA (v.calls.length+(HB (v.aG.take k)).length) (BT v.calls++HB (v.aG.take k)),[]⟩⟩) (fun _=>True) (by simp[HB]) trivial fun k hk _=>?_
 simp(disch:=omega)only[go_sem]
 refine Br.aJ (fun c1=>?_) (fun c1=>?_)
 .obtain⟨w,hw⟩:=get_some (l:=v.aG) (k:=k) (by omega)
  have hkl:(HB (v.aG.take k)).length+(UP w.msgs).length<=(HB v.aG).length:=by
   have h5:=acj (fun w:eE=>UP w.msgs) v.aG (k+1)
   rw[acy _ hw,Wz]at h5
   exact h5
  have hsn:HB (v.aG.take (k+1))=HB (v.aG.take k)++UP w.msgs:=acy _ hw
  have hml:=h4 w (Wa hw)
  have hmn:(UP w.msgs).length=w.msgs.length:=Wg _
  have hmm:w.msgs.map gI.c=msgs w.msgs:=rfl
  simp(disch:=omega)only[go_sem,hw,Option.map_some,hmm]
  refine W.fv w.msgs.length (fun j=>⟨[(1,.ptr 1 0),(3,gwV (v.calls.length+(HB (v.aG.take k)).length+j) (BT v.calls++HB (v.aG.take k)++(UP w.msgs).take j)),(28,.pv (.aq x (aG v.aG))),(29,.pv (.int .i64 v.aG.length)),(30,.pv (.int .i64 k)),(35,.pv (.aq 0 (msgs w.msgs))),(36,.pv (.int .i64 w.msgs.length)),(37,.pv (.int .i64 j))],⟨[(1,[.pv (.str v.name),.pv (.aq t (v.types.map aH.c)),.pv (.aq u (ch v.calls)),.pv (.aq x (aG v.aG)),.pv (.aq y (df v.aT))])],gwA (v.calls.length+(HB (v.aG.take k)).length+j) (BT v.calls++HB (v.aG.take k)++(UP w.msgs).take j),[]⟩⟩) (fun _=>True) (by simp) trivial fun j hj _=>?_
  simp(disch:=omega)only[go_sem]
  refine Br.aJ (fun c2=>?_) (fun c2=>?_)
  .obtain⟨m,hm⟩:=get_some (l:=w.msgs) (k:=j) (by omega)
   have htl:((UP w.msgs).take j).length=j:=by rw[W8]; omega
   have hap:=fun bx mp=>adH bx mp (v.calls.length+(HB (v.aG.take k)).length+j) (BT v.calls++HB (v.aG.take k)++(UP w.msgs).take j) [m.ty] (fun h=>List.eq_nil_of_length_eq_zero (by rw[List.length_append,List.length_append]; omega)) (by simp) (by rw[List.length_append,List.length_append,List.length_singleton]; omega)
   have hin:ints [m.ty]=[[.int .i64 m.ty]]:=rfl
   rw[hin]at hap
   have hms:(UP w.msgs).take (j+1)=(UP w.msgs).take j++[m.ty]:=adp _ hm
   simp(disch:=omega)only[go_sem,hm,Option.map_some,hap,acJ]
   refine .of (by omega) ?_ trivial
   rw[hms,<- WK]
   rfl
  .obtain rfl:j=w.msgs.length:=by omega
   have ht:(UP w.msgs).take w.msgs.length=UP w.msgs:=Wq (by omega)
   rw[ht]
   simp(disch:=omega)only[go_sem]
   refine .of (by omega) ?_ trivial
   rw[hsn,Wz,hmn,<- W0,<- WK]
   rfl
 obtain rfl:k=v.aG.length:=by omega
 clear hk c1
 rw[WV]
 simp(disch:=omega)only[go_sem]
 have htn:(HC v.aT).length=v.aT.length:=Wg _
 refine W.fv v.aT.length (fun k=>⟨[(3,gwV (v.calls.length+(HB v.aG).length+k) (BT v.calls++HB v.aG++(HC v.aT).take k)),(49,.pv (.aq y (df v.aT))),(50,.pv (.int .i64 v.aT.length)),(51,.pv (.int .i64 k))],⟨[],gwA (v.calls.length+(HB v.aG).length+k) (BT v.calls++HB v.aG++(HC v.aT).take k),[]⟩⟩) (fun _=>True) (by simp) trivial fun k hk _=>?_
 simp(disch:=omega)only[go_sem]
 refine Br.aJ (fun c1=>?_) (fun c1=>?_)
 .obtain⟨m,hm⟩:=get_some (l:=v.aT) (k:=k) (by omega)
  have htl:((HC v.aT).take k).length=k:=by rw[W8]; omega
  have hap:=fun bx mp=>adH bx mp (v.calls.length+(HB v.aG).length+k) (BT v.calls++HB v.aG++(HC v.aT).take k) [m.ty] (fun h=>List.eq_nil_of_length_eq_zero (by rw[List.length_append,List.length_append]; omega)) (by simp) (by rw[List.length_append,List.length_append,List.length_singleton]; omega)
  have hin:ints [m.ty]=[[.int .i64 m.ty]]:=rfl
  rw[hin]at hap
  have hms:(HC v.aT).take (k+1)=(HC v.aT).take k++[m.ty]:=adp _ hm
  simp(disch:=omega)only[go_sem,hm,Option.map_some,hap,acJ]
  refine .of (by omega) ?_ trivial
  rw[hms,<- WK]
  rfl
 obtain rfl:k=v.aT.length:=by omega
 rw[Wq (by omega)]
 have hroot:BT v.calls++HB v.aG++HC v.aT=afY v:=rfl
 rw[hroot]
 have hrl:(afY v).length=2*v.calls.length+(HB v.aG).length+v.aT.length:=by rw[<- hroot,Wz,Wz]; omega
 generalize hnn:v.calls.length+(HB v.aG).length+v.aT.length=nn
 generalize afY v=R at *
 cases nn with
 |zero=>
  have hR:R=[]:=Wp (by omega)
  subst hR
  simp only[gwV,gwA]
  simp(disch:=omega)only[go_sem]
  rfl
 |succ q=>
  have hR:R.length≠0:=by omega
  simp only[gwV,gwA]
  simp(disch:=(first|omega|(simp only[acx]; done)|(simp only[acx]; omega)))only[go_sem]
  rw[WV]
  rfl
@[go_sem] theorem ZK {id row ax a b c d:Nat} {xs:List V} (h1:row<xs.length):eG id row 0 [.own a b c d] ⟨ax,1,.inr (cQ xs)⟩=some { ar:=some (id,⟨ax,1,.inr (cQ (xs.set row (.own a b c d)))⟩) }:=y6 h1 rfl
def R2 (d:Int) (s:List Int×List Int) (x:Int):List Int×List Int:=if s.1.getD x.toNat (-1)<0 then (s.1.set x.toNat d,s.2++[x]) else s
def I5 (nx:Int->List Int):Nat->Nat->List Int×List Int->List Int×List Int
 |0,_,s=>s
 |n+1,i,s=>match s.2[i]? with
  |none=>s
  |some v=>I5 nx n (i+1) ((nx v).foldl (R2 (s.1.getD v.toNat (-1)+1)) s)
theorem Zw {l:List Int} {i j:Nat} {x y:Int} (hi:i<l.length):(l.set i x).getD j y=if i=j then x else l.getD j y:=by
 simp only[List.getD_eq_getElem?_getD,List.getElem?_set]
 by_cases h:i=j
 .subst h
  simp[hi]
 .simp[h]
def levels (nx:Int->List Int) (n:Nat) (fr:List Int):List Int:=(I5 nx n 0 (fr.foldl (R2 0) (List.replicate n (-1),[]))).1
def ej.from (d:ej) (s:Int):aP:=⟨1+d.n%4,s%(1+d.n%4),d.auto.af⟩
structure Mv where
 send:Bool
 label:Int
 cls:Int
 deriving DecidableEq,Inhabited
def Mv.c (m:Mv):List PV:=[.bool m.send,.int .i64 m.label,.int .i64 m.cls]
def VL (l:List Mv):List (List PV):=l.map Mv.c
@[go_sem] theorem Tv:VL []=[]:=rfl
@[go_sem] theorem Mv.EB (m:Mv):m.c=[.bool m.send,.int .i64 m.label,.int .i64 m.cls]:=rfl
def FA (es:List Edge) (s:Int) (c:List Int):List Mv:=(es.filter fun e=>e.fr==s).map fun e=>⟨e.send,e.label,c.getD e.to.toNat 0⟩
def UT (es:List Edge) (c:List Int) (k i:Nat):Bool:=decide (c.getD k 0=c.getD i 0)&&decide (FA es (k:Int) c=FA es (i:Int) c)
def MF (es:List Edge) (c:List Int) (i:Nat):Nat:=((List.range i).find? fun k=>UT es c k i).getD i
def R3 (n:Nat) (es:List Edge) (c:List Int):List Int:=(List.range n).map fun i=>(MF es c i:Int)
def cls (n:Nat) (es:List Edge):Nat->List Int
 |0=>List.replicate n 0
 |j+1=>R3 n es (cls n es j)
def cr (w:eE):Bool:=decide ((w.msgs.length:Int)<=20)&&(decide ((w.auto.af.length:Int)<=110)&&decide ((w.name.size:Int)<=100))
theorem r434 (t u:Nat) (w:eE):res A aA 434 [.agg [.str w.name,.aq t (w.msgs.map gI.c),.int .i64 w.auto.aj,.int .i64 w.auto.start,.aq u (w.auto.af.map Edge.c)]]=some [.bool (cr w)]:=by
 refine aw a434 rfl rfl ?_
 simp only[F434,ln]
 have hm:w.msgs.map gI.c=msgs w.msgs:=rfl
 rw[hm]
 unfold cr
 cases h1:decide ((w.msgs.length:Int)<=20)with
 |false=>simp(disch:=omega)only[go_sem,h1,Bool.false_and]
 |true=>
  cases h2:decide ((w.auto.af.length:Int)<=110)with
  |false=>simp(disch:=omega)only[go_sem,h1,h2,Bool.false_and,Bool.true_and]
  |true=>simp(disch:=omega)only[go_sem,h1,h2,Bool.true_and]
noncomputable def cg (v:ij):Bool:=!decide ((10:Int)<v.calls.length)&&(!decide ((10:Int)<v.aG.length)&&(!decide ((10:Int)<v.aT.length)&&(!decide ((100:Int)<v.name.size)&&(zn v.types&&v.aG.all cr))))
theorem e9 {α:Type} {f:α->Bool} {l:List α} (h:∀(i:Nat) (w:α),l[i]?=some w->f w=true):l.all f=true:=by
 rw[Wu]
 intro w hw
 obtain⟨i,hi⟩:=List.getElem?_of_mem hw
 exact h i w hi
theorem fC {α:Type} {f:α->Bool} {l:List α} {k:Nat} {w:α} (hw:l[k]?=some w) (h:f w=false):l.all f=false:=by
 rw[Xz]
 intro e
 rw[Wu.1 e w (Wa hw)]at h
 cases h
set_option maxHeartbeats 1000000 in
theorem r405 (t u x y:Nat) (v:ij) (ho:∀t∈v.types,t.ok) (h2:v.aG.length<=2^63 - 1):res A aA 405 [.agg (lB t u x y v)]=some [.bool (cg v)]:=by
 refine aw a405 rfl rfl ?_
 simp only[F405,lg,lB]
 have h266:=r266 t v.types ho
 unfold cg
 cases c1:decide ((10:Int)<v.calls.length)with
 |true=>simp(disch:=omega)only[go_sem,c1,Bool.not_true,Bool.false_and]
 |false=>
 cases c2:decide ((10:Int)<v.aG.length)with
 |true=>simp(disch:=omega)only[go_sem,c1,c2,Bool.not_true,Bool.not_false,Bool.false_and,Bool.true_and]
 |false=>
 cases c3:decide ((10:Int)<v.aT.length)with
 |true=>simp(disch:=omega)only[go_sem,c1,c2,c3,Bool.not_true,Bool.not_false,Bool.false_and,Bool.true_and]
 |false=>
 cases c4:decide ((100:Int)<v.name.size)with
 |true=>simp(disch:=omega)only[go_sem,c1,c2,c3,c4,Bool.not_true,Bool.not_false,Bool.false_and,Bool.true_and]
 |false=>
 cases c5:zn v.types with
 |false=>
  rw[c5]at h266
  simp(disch:=omega)only[go_sem,c1,c2,c3,c4,h266,Bool.not_false,Bool.false_and,Bool.true_and]
 |true=>
  rw[c5]at h266
  simp(disch:=omega)only[go_sem,c1,c2,c3,c4,h266,Bool.not_false,Bool.true_and]
  refine W.fv v.aG.length (fun k=>⟨[(1,.ptr 1 0),(3,.pv (.int .i64 k))],⟨[(1,[.pv (.str v.name),.pv (.aq t (v.types.map aH.c)),.pv (.aq u (ch v.calls)),.pv (.aq x (aG v.aG)),.pv (.aq y (df v.aT))])],[],[]⟩⟩) (fun k=>∀(i:Nat) (w:eE),i<k->v.aG[i]?=some w->cr w=true) rfl (fun i w hi=>absurd hi (by omega)) fun k hk hi=>?_
  simp(disch:=omega)only[go_sem]
  refine Br.aJ (fun c6=>?_) (fun c6=>?_)
  .obtain⟨w,hw⟩:=get_some (l:=v.aG) (k:=k) (by omega)
   have h434:=r434 0 0 w
   cases hf:cr w with
   |false=>
    rw[hf]at h434
    simp(disch:=omega)only[go_sem,hw,Option.map_some,h434]
    rw[fC hw hf]
   |true=>
    rw[hf]at h434
    simp(disch:=omega)only[go_sem,hw,Option.map_some,h434]
    exact .of (by omega) rfl (sH hw hi hf)
  .simp(disch:=omega)only[go_sem]
   rw[e9 (pJ (k:=k) (by omega) hi)]
set_option maxHeartbeats 1000000 in
theorem r416 (w:eE) (h1:w.msgs.length<=2^63 - 1) (h2:w.auto.af.length<=2^63 - 1):res A aA 416 [.agg w.c,.agg w.c]=some [.bool true]:=by
 refine aw a416 rfl rfl ?_
 simp only[F416,aeK,eE.c]
 have hm:w.msgs.map gI.c=msgs w.msgs:=rfl
 rw[hm]
 simp(disch:=omega)only[go_sem]
 refine W.fv w.msgs.length (fun k=>⟨[(2,.ptr 2 0),(3,.ptr 3 0),(5,.pv (.int .i64 k))],⟨[(2,[.pv (.str w.name),.pv (.aq 0 (msgs w.msgs)),.pv (.int .i64 w.auto.aj),.pv (.int .i64 w.auto.start),.pv (.aq 0 (w.auto.af.map Edge.c))]),(3,[.pv (.str w.name),.pv (.aq 0 (msgs w.msgs)),.pv (.int .i64 w.auto.aj),.pv (.int .i64 w.auto.start),.pv (.aq 0 (w.auto.af.map Edge.c))])],[],[]⟩⟩) (fun _=>True) rfl trivial fun k hk _=>?_
 simp(disch:=omega)only[go_sem]
 refine Br.aJ (fun c6=>?_) (fun c6=>?_)
 .obtain⟨m,hm⟩:=get_some (l:=w.msgs) (k:=k) (by omega)
  simp(disch:=omega)only[go_sem,hm,Option.map_some]
  exact .of (by omega) rfl trivial
 .simp(disch:=omega)only[go_sem]
theorem dr {v:ij} (h:cg v=true):v.calls.length<=10/\v.aG.length<=10/\v.aT.length<=10/\v.name.size<=100/\zn v.types=true/\∀w∈v.aG,w.msgs.length<=20/\w.auto.af.length<=110/\w.name.size<=100:=by
 simp only[cg,Bool.and_eq_true,Bool.not_eq_true',decide_eq_false_iff_not,List.all_eq_true,cr,decide_eq_true_eq]at h
 obtain⟨h1,h2,h3,h4,h5,h6⟩:=h
 refine⟨by omega,by omega,by omega,by omega,h5,fun w hw=>?_⟩
 obtain⟨g1,g2,g3⟩:=h6 w hw
 omega
theorem aey {l:List eE} (h:∀w∈l,w.msgs.length<=20):(HB l).length<=20*l.length:=by
 induction l with
 |nil=>simp[HB]
 |cons w l ih=>
  have h1:=ih fun x hx=>h x (W3 _ hx)
  have h2:=h w (WH ..)
  have h3:(UP w.msgs).length=w.msgs.length:=Wg _
  simp only[HB,List.flatMap_cons,List.length_append,List.length_cons]at h1 |-
  omega
def AC.one:AC->AC
 |.seq a _=>a
 |c=>c
def AC.two:AC->AC
 |.seq _ b=>b
 |c=>c
def AC.VD:AC->AC
 |.block _ a=>a
 |.loop a=>a
 |.mask _ _ a=>a
 |c=>c
set_option maxHeartbeats 2000000 in
theorem sh3 (t1 t2 t3 t4:Nat) (v:ij) (hv:iX v) (hvv:cS v.types=0) (R:List Int) (hR:∀r∈R,0<=r/\r<v.types.length) (hRl:R.length<=1000) (Q:Ex->St->Prop)
  (hQ:∀env,Q (.exit 0) ⟨(1,.ptr 1 0)::(2,.ptr 2 0)::(5,.own 0 0 0 v.types.length)::env,⟨[(1,[.pv (.str v.name),.pv (.aq t1 (v.types.map aH.c)),.pv (.aq t2 (ch v.calls)),.pv (.aq t3 (aG v.aG)),.pv (.aq t4 (df v.aT))]),(2,[.pv (.str ⟨#[]⟩),.tl [],.tl [],.tl [],.tl []])],[⟨0,1,.inl (bX (acD v.types R))⟩],[]⟩⟩):
  W A aA F408.body.two.two.two.one.two.VD ⟨[(1,.ptr 1 0),(2,.ptr 2 0),(5,.own 0 0 0 v.types.length),(38,.pv (.aq 0 (ints R))),(39,.pv (.int .i64 R.length)),(40,.pv (.int .i64 0))],⟨[(1,[.pv (.str v.name),.pv (.aq t1 (v.types.map aH.c)),.pv (.aq t2 (ch v.calls)),.pv (.aq t3 (aG v.aG)),.pv (.aq t4 (df v.aT))]),(2,[.pv (.str ⟨#[]⟩),.tl [],.tl [],.tl [],.tl []])],[⟨0,1,.inl (bX (List.replicate v.types.length false))⟩],[]⟩⟩ Q:=by
 have h32:=(eZ hvv).len
 have htl:=hv.tl
 simp only[F408,Rx,AC.one,AC.two,AC.VD]at hQ |-
 unfold acD at hQ
 refine W.fold R (fun u r=>ack u (afS v.types r).1) (List.replicate v.types.length false) (fun k u=>⟨[(1,.ptr 1 0),(2,.ptr 2 0),(5,.own 0 0 0 v.types.length),(38,.pv (.aq 0 (ints R))),(39,.pv (.int .i64 R.length)),(40,.pv (.int .i64 k))],⟨[(1,[.pv (.str v.name),.pv (.aq t1 (v.types.map aH.c)),.pv (.aq t2 (ch v.calls)),.pv (.aq t3 (aG v.aG)),.pv (.aq t4 (df v.aT))]),(2,[.pv (.str ⟨#[]⟩),.tl [],.tl [],.tl [],.tl []])],[⟨0,1,.inl (bX u)⟩],[]⟩⟩) (fun _ u=>u.length=v.types.length) rfl XV (fun k r u hr hk _ hu=>?_) (fun u hu _=>?_)
 .have h273:=fun t=>r273 t v.types r hv.tl hv.to hv.ts
  have hin:=aco (T:=v.types) (r:=r)
  have hlen:=adD (l:=v.types) (i:=r)
  generalize (afS v.types r).1=L at *
  generalize (afS v.types r).2=e at *
  simp(disch:=omega)only[go_sem]
  refine Br.aJ (fun c=>?_) (fun c=>(c (by omega)).elim)
  simp(disch:=omega)only[go_sem,hr,h273]
  refine W.fold L (fun u x=>u.set x.toNat true) u (fun j w=>⟨[(1,.ptr 1 0),(2,.ptr 2 0),(5,.own 0 0 0 v.types.length),(38,.pv (.aq 0 (ints R))),(39,.pv (.int .i64 R.length)),(40,.pv (.int .i64 k)),(51,.pv (.aq 0 (ints L))),(52,.pv (.int .i64 L.length)),(53,.pv (.int .i64 j))],⟨[(1,[.pv (.str v.name),.pv (.aq t1 (v.types.map aH.c)),.pv (.aq t2 (ch v.calls)),.pv (.aq t3 (aG v.aG)),.pv (.aq t4 (df v.aT))]),(2,[.pv (.str ⟨#[]⟩),.tl [],.tl [],.tl [],.tl []])],[⟨0,1,.inl (bX w)⟩],[]⟩⟩) (fun _ w=>w.length=v.types.length) rfl hu (fun j x w hx hj _ hw=>?_) (fun w hw hwl=>?_)
  .obtain⟨x0,x1⟩:=hin x (Wa hx)
   simp(disch:=omega)only[go_sem]
   refine Br.aJ (fun c=>?_) (fun c=>(c (by omega)).elim)
   simp(disch:=omega)only[go_sem,hx]
   exact cW.of rfl (by rw[Xx,hw])
  .simp(disch:=omega)only[go_sem]
   exact cW.of (by rw[hw]; rfl) (by unfold ack; rw[<- hw]; exact hwl)
 .simp(disch:=omega)only[go_sem]
  rw[hu]
  exact hQ _
def ab6 (T:List aH) (U:List Bool) (k:Nat):List (List PV):=(ab2 U k).map fun(i:Nat)=>(ji T (i:Int)).c
theorem ad5 (T:List aH) (U:List Bool) (k:Nat):(ab6 T U k).length=(ab2 U k).length:=Wg _
theorem adI (T:List aH) (U:List Bool) (k:Nat):ab6 T U (k+1)=if U.getD k false=true then ab6 T U k++[(ji T (k:Int)).c] else ab6 T U k:=by
 unfold ab6
 rw[acH]
 split<;>simp
set_option maxHeartbeats 2000000 in
theorem sh6 (t1 t2 t3 t4:Nat) (v:ij) (h32:v.types.length<=32) (U:List Bool) (hU:U.length=v.types.length) (Q:Ex->St->Prop)
  (hQ:∀env,Q (.exit 4) ⟨(1,.ptr 1 0)::(2,.ptr 2 0)::(5,.own 0 0 0 v.types.length)::(12,.own 1 0 0 v.types.length)::(13,.ptr 13 0)::env,⟨[(1,[.pv (.str v.name),.pv (.aq t1 (v.types.map aH.c)),.pv (.aq t2 (ch v.calls)),.pv (.aq t3 (aG v.aG)),.pv (.aq t4 (df v.aT))]),(2,[.pv (.str ⟨#[]⟩),.tl [],.tl [],.tl [],.tl []]),(13,[.pv (.str v.name),dh 2 (ab6 v.types U v.types.length),.tl [],.tl [],.tl []])],⟨0,1,.inl (bX U)⟩::⟨0,1,.inl (ints (aci U v.types.length v.types.length))⟩::cK 10 (ab6 v.types U v.types.length),[]⟩⟩):
  W A aA F408.body.two.two.two.two.two.two.one.two.VD ⟨[(1,.ptr 1 0),(2,.ptr 2 0),(5,.own 0 0 0 v.types.length),(12,.own 1 0 0 v.types.length),(13,.ptr 13 0),(70,.pv (.aq t1 (v.types.map aH.c))),(71,.pv (.int .i64 v.types.length)),(72,.pv (.int .i64 0))],⟨[(1,[.pv (.str v.name),.pv (.aq t1 (v.types.map aH.c)),.pv (.aq t2 (ch v.calls)),.pv (.aq t3 (aG v.aG)),.pv (.aq t4 (df v.aT))]),(2,[.pv (.str ⟨#[]⟩),.tl [],.tl [],.tl [],.tl []]),(13,[.pv (.str v.name),.tl [],.tl [],.tl [],.tl []])],[⟨0,1,.inl (bX U)⟩,⟨0,1,.inl (ints (List.replicate v.types.length 0))⟩],[]⟩⟩ Q:=by
 simp only[F408,Rx,AC.one,AC.two,AC.VD]at hQ |-
 refine W.fv v.types.length (fun k=>⟨[(1,.ptr 1 0),(2,.ptr 2 0),(5,.own 0 0 0 v.types.length),(12,.own 1 0 0 v.types.length),(13,.ptr 13 0),(70,.pv (.aq t1 (v.types.map aH.c))),(71,.pv (.int .i64 v.types.length)),(72,.pv (.int .i64 k))],⟨[(1,[.pv (.str v.name),.pv (.aq t1 (v.types.map aH.c)),.pv (.aq t2 (ch v.calls)),.pv (.aq t3 (aG v.aG)),.pv (.aq t4 (df v.aT))]),(2,[.pv (.str ⟨#[]⟩),.tl [],.tl [],.tl [],.tl []]),(13,[.pv (.str v.name),dh 2 (ab6 v.types U k),.tl [],.tl [],.tl []])],⟨0,1,.inl (bX U)⟩::⟨0,1,.inl (ints (aci U v.types.length k))⟩::cK 10 (ab6 v.types U k),[]⟩⟩) (fun _=>True) (by rw[adX]; rfl) trivial fun k hk _=>?_
 have hnl:=adj U v.types.length k
 simp(disch:=omega)only[go_sem]
 refine Br.aJ (fun c=>?_) (fun c=>?_)
 .obtain⟨x,hx⟩:=get_some (l:=v.types) (k:=k) (by omega)
  have hta:ji v.types (k:Int)=x:=by
   unfold ji
   rw[WX,hx]
   rfl
  have hul:U[k]?=some (U.getD k false):=by
   rw[Ws,Wb (show k<U.length by omega)]
   rfl
  have hset:=aee U v.types.length k
  have hnx:=adI v.types U k
  have hkl:=ad5 v.types U k
  have hkn:=acg U k
  rw[hta]at hnx
  rw[<- hkl]at hset
  have hg:=fun bx mp a b=>aeV bx mp a b 10 (ab6 v.types U k) x.c rfl (by omega)
  generalize ab6 v.types U k=rows at *
  generalize U.getD k false=ub at *
  unfold aH.c at hg hnx
  cases ub with
  |true=>
   rw[if_pos rfl]at hnx
   simp(disch:=omega)only[go_sem,hx,Option.map_some,aH.c,hul,hg]
   refine .of (by omega) ?_ trivial
   rw[<- hset,hnx]
   rfl
  |false=>
   rw[if_neg (by decide)]at hnx
   simp(disch:=omega)only[go_sem,hx,Option.map_some,aH.c,hul]
   refine .of (by omega) ?_ trivial
   rw[<- hset,hnx]
   rfl
 .obtain rfl:k=v.types.length:=by omega
  simp(disch:=omega)only[go_sem]
  exact hQ _
end Go.Pv
