/-
 What the functions of the law give.
-/
import Derived.Test.YtpchfogcccagjaaGreatC6
set_option linter.unusedSimpArgs false
set_option linter.unusedVariables false
open List renaming mem_of_getElem? → Wa, getElem?_eq_some_iff → V9, getElem?_eq_getElem → Wb, length_map → Wg, mem_iff_getElem? → Wd, getElem?_append_left → We, getElem?_map → Wf, mem_map → Wk, length_append → Wz, getElem?_append_right → Wn, getElem?_take → Wy, append_assoc → WK, mem_cons_of_mem → W3, length_take → W8, findIdx?_eq_some_iff_getElem → Ww, getElem?_set_self → WU, take_add_one → WL, length_range → WI, mem_cons_self → WH, take_length → WV, map_append → WC, mem_range → WJ, any_eq_false → WY, getElem?_eq_none → WS, mem_append → WT, ext_getElem? → WW, mem_singleton → Xj, any_eq_true → Xm, getElem_mem → Xc, map_take → abp, any_map → abr, find?_eq_none → Xn, take_append_of_le_length → XT, find?_some → XH, mem_of_find?_eq_some → afu, mem_flatMap → afw, map_id → afD
open Nat renaming lt_or_ge → Wh, le_refl → Wj
open Bool renaming eq_iff_iff → Xb
namespace Go.Pv
def lG (i:Int)(m:gI):Bool:=decide (m.id=i)
theorem r487 (m:gI)(u:Nat)(i:Int):res A aA 487 [.agg m.c,.ro u [.int .i64 i]]=some [.bool (lG i m)]:=by
 refine aw a487 rfl rfl ?_;simp only[F487,LH];simp(disch:=omega)only[go_sem,gI.c];rfl
theorem r486 (t u:Nat)(i:Int)(l:List gI)(hl:l.length<=2^63 - 1):res A aA 486 [.aq t (msgs l),.func 487 [.ro u [.int .i64 i]]]=some [.int .i64 (bj (lG i) l)]:=by
 refine aw a486 rfl rfl ?_;simp only[F486,LG];simp(disch:=omega)only[go_sem];refine W.find l (lG i) (λk=>⟨[(0,.pv (.aq t (msgs l))),(1,.pv (.func 487 [.ro u [.int .i64 i]])),(7,.pv (.int .i64 l.length)),(8,.pv (.int .i64 k))],⟨[],[],[]⟩⟩) rfl (λk x hx hk hfd=>?_) (λhn=>?_)
 .have hfx:=r487 x u i;simp(disch:=omega)only[go_sem];refine Br.aJ (λh=>?_) (λh=>(h (by omega)).elim);unfold gI.c at hfx;simp(disch:=omega)only[go_sem,hx,gI.c,hfx];refine Br.of (λh2=>?_) (λh2=>?_)<;>simp(disch:=omega)only[go_sem]
  .rw[(hfd h2).bj]
  .exact bB.of h2 rfl
 .simp(disch:=omega)only[go_sem];rw[hn.bj]
def US (o:Option gI):gI:=o.getD ⟨0,⟨#[]⟩,0⟩
theorem r476 (x:eE)(i:Int)(hl:x.msgs.length<=2^63 - 1):res A aA 476 [.agg x.c,.int .i64 i]=some [.agg (US (x.msgs.find? (lG i))).c,.bool (x.msgs.any (lG i))]:=by
 refine aw a476 rfl rfl ?_;simp only[F476,LA];have h486:=λu=>r486 0 u i x.msgs hl;have e:x.msgs.map gI.c=msgs x.msgs:=rfl;simp only[eE.c,e];simp(disch:=omega)only[go_sem,h486];rcases ko (lG i) x.msgs with⟨f1,f2⟩|⟨k,m,f1,f2,f3⟩
 .have ha:x.msgs.any (lG i)=false:=by
   rw[WY];exact Xn.1 f1
  rw[f1,f2,ha];refine Br.aJ (λc=>?_) (λc=>absurd (by decide) c);simp(disch:=omega)only[go_sem];rfl
 .have ha:x.msgs.any (lG i)=true:=by
   rw[Xm];exact⟨m,afu f1,XH f1⟩
  rw[f1,f3,ha];refine Br.aJ (λc=>absurd c (by omega)) (λc=>?_);simp(disch:=omega)only[go_sem,f2,gI.c];rfl
theorem r483 (x:eE)(i:Int)(hl:x.msgs.length<=2^63 - 1):res A aA 483 [.agg x.c,.int .i64 i]=some [.agg (US (x.msgs.find? (lG i))).c,.bool (x.msgs.any (lG i))]:=by
 refine aw a483 rfl rfl ?_;simp only[F483,aaU];have e:x.msgs.map gI.c=msgs x.msgs:=rfl;simp only[eE.c,e];simp(disch:=omega)only[go_sem];refine W.find x.msgs (lG i) (λk=>⟨[(1,.pv (.int .i64 i)),(2,.ptr 2 0),(4,.ptr 4 0),(6,.pv (.int .i64 k))],⟨[(2,[.pv (.str x.name),.pv (.aq 0 (msgs x.msgs)),.pv (.int .i64 x.auto.aj),.pv (.int .i64 x.auto.start),.pv (.aq 0 (x.auto.af.map Edge.c))]),(4,[.pv (.int .i64 0),.pv (.str ⟨#[]⟩),.pv (.int .i64 0)])],[],[]⟩⟩) rfl (λk m hx hk hfd=>?_) (λhn=>?_)
 .simp(disch:=omega)only[go_sem];refine Br.aJ (λc=>?_) (λc=>(c (by omega)).elim);simp(disch:=omega)only[go_sem,hx,gI.c];have hp:decide (m.id=i)=lG i m:=rfl;rw[hp];refine Br.of (λg=>?_) (λg=>?_)<;>simp(disch:=omega)only[go_sem,hx,gI.c]
  .rw[(hfd g).find,(hfd g).any];rfl
  .exact bB.of g rfl
 .simp(disch:=omega)only[go_sem];rw[hn.find,hn.any];rfl
def vh (l:List gI)(k:Nat):Int:=if k=0 then 0 else ((l[k - 1]?).map (·.id)).getD 0
def B2 (l:List gI)(k:Nat)(m:gI):Bool:=decide (m.id<=vh l k)||(decide (1000<m.id)||(!isName m.name||cY ((l.take k).map (·.name)) m.name))
def vi (l:List gI)(k:Nat):Bool:=match l[k]? with
 |some m=>B2 l k m
 |none=>false
def lH (x:eE):Bool:=!((List.range x.msgs.length).any (vi x.msgs))&&isName x.name
theorem AT {l:List gI}{k:Nat}{m:gI}(h:l[k]?=some m):vh l (k+1)=m.id:=by
 unfold vh;rw[if_neg (by omega),Nat.add_sub_cancel,h];rfl
set_option maxHeartbeats 2000000 in
theorem r482 (x:eE)(hl:x.msgs.length<=2^63 - 1)(hn:bC x.name)(hs:∀m∈x.msgs,bC m.name):res A aA 482 [.agg x.c]=some [.bool (lH x)]:=by
 have h310n:=r310 x.name hn;refine aw a482 rfl rfl ?_;simp only[F482,aaT];have e:x.msgs.map gI.c=msgs x.msgs:=rfl;simp only[eE.c,e];simp(disch:=omega)only[go_sem];refine W.find (List.range x.msgs.length) (vi x.msgs) (λk=>⟨[(1,.ptr 1 0),(3,.pv (.int .i64 (vh x.msgs k))),(4,.pv (.int .i64 k))],⟨[(1,[.pv (.str x.name),.pv (.aq 0 (msgs x.msgs)),.pv (.int .i64 x.auto.aj),.pv (.int .i64 x.auto.start),.pv (.aq 0 (x.auto.af.map Edge.c))])],[],[]⟩⟩) rfl (λk k' hx hk hfd=>?_) (λhnw=>?_)
 .obtain⟨rfl,hk⟩:=ey hx;obtain⟨m,hm⟩:=get_some hk;have hb:vi x.msgs k'=B2 x.msgs k' m:=by unfold vi;rw[hm]
  have h310:=r310 m.name (hs m (Wa hm));have done:vi x.msgs k'=true->(some [PV.bool false]:Option (List PV))=some [.bool (lH x)]:=λh=>by
   unfold lH;rw[(hfd h).any];rfl
  have hln:=AT hm;rw[hb]at done |-;unfold B2 at done |-;generalize vh x.msgs k'=la at *;simp(disch:=omega)only[go_sem];refine Br.aJ (λc=>?_) (λc=>(c (by omega)).elim);simp(disch:=omega)only[go_sem,hm,gI.c,h310];refine Br.aJ (λc1=>?_) (λc1=>?_)<;>simp(disch:=omega)only[go_sem,c1,h310]
  .exact done (by simp[c1])
  refine Br.aJ (λc2=>?_) (λc2=>?_)<;>simp(disch:=omega)only[go_sem,c2,h310]
  .exact done (by simp[c2])
  cases hi:isName m.name with
  |false=>
   simp(disch:=omega)only[go_sem];exact done (by simp[hi])
  |true=>
   simp(disch:=omega)only[go_sem];rw[hi]at done;refine W.find (x.msgs.take k') (λq=>decide (q.name=m.name)) (λj=>⟨[(1,.ptr 1 0),(4,.pv (.int .i64 k')),(5,.ptr 5 0),(6,.pv (.int .i64 j))],⟨[(1,[.pv (.str x.name),.pv (.aq 0 (msgs x.msgs)),.pv (.int .i64 x.auto.aj),.pv (.int .i64 x.auto.start),.pv (.aq 0 (x.auto.af.map Edge.c))]),(5,[.pv (.int .i64 m.id),.pv (.str m.name),.pv (.int .i64 m.ty)])],[],[]⟩⟩) rfl (λj q hj hjl hfd2=>?_) (λhn2=>?_)
   .have hjl':j<k'/\j<x.msgs.length:=by rw[W8]at hjl;omega
    have hj':x.msgs[j]?=some q:=by
     rw[Wy,if_pos hjl'.1]at hj;exact hj
    simp(disch:=omega)only[go_sem];refine Br.aJ (λc=>?_) (λc=>(c (by omega)).elim);simp(disch:=omega)only[go_sem,hj',gI.c];refine Br.aJ (λc3=>?_) (λc3=>?_)<;>simp(disch:=omega)only[go_sem,c3]
    .refine done ?_;have:cY ((x.msgs.take k').map (·.name)) m.name=true:=by
      unfold cY;rw[abr];exact(hfd2 (by simp[c3])).any
     rw[this];simp
    .exact bB.of (by simp[c3]) rfl
   .have hlx:(x.msgs.take k').length=k':=by rw[W8];omega
    rw[hlx];have hh:cY ((x.msgs.take k').map (·.name)) m.name=false:=by
     unfold cY;rw[abr];exact hn2.any
    simp(disch:=omega)only[go_sem];exact bB.of (by rw[hh];simp[c1,c2]) (by rw[hln];rfl)
 .rw[WI];have hv:lH x=isName x.name:=by
   unfold lH;rw[hnw.any];simp
  rw[hv];simp(disch:=omega)only[go_sem,h310n]
def qC (l:List gI)(k:Nat):List ByteArray:=((l.take k).map (·.name)).foldl pK []
theorem De (l:List gI)(k:Nat)(x:ByteArray):cY (qC l k) x=cY ((l.take k).map (·.name)) x:=by
 rw[Xb,eI,eI,qC,pN];simp
theorem AU {l:List gI}{k:Nat}{t:gI}(h:l[k]?=some t):pK (qC l k) t.name=qC l (k+1):=by
 unfold qC;rw[WL,h,WC,List.foldl_append];rfl
def te (n:Nat)(x:eE):Int:=
 if 16<x.msgs.length then 3
 else if lH x=false then 1
 else if x.msgs.any (λm=>dP n m.ty)=true then 4
 else if x.auto.err≠0 then x.auto.err
 else if x.auto.af.any (λe=>!x.msgs.any (lG e.label))=true then 4
 else if (x.auto.order.length:Int)≠x.auto.aj then 1 else 0
theorem Fx {a:aP}(h:a.err=0):(a.order.length:Int)<=a.aj:=by
 have hg:=aP.iV.1 h;have:=hg.lE hg.st;have h2:=hg.st;unfold aP.order;omega
set_option maxHeartbeats 4000000 in
theorem r472 (u:Nat)(T:List (List PV))(x:eE)(hT:T.length<=2^63 - 1)(hl:x.msgs.length<=2^63 - 1)(hn:bC x.name)(hs:∀m∈x.msgs,bC m.name)(he:x.auto.af.length<=2000000000):res A aA 472 [.agg [.aq u T],.agg x.c]=some [.int .i64 (te T.length x)]:=by
 have h482:=r482 x hl hn hs;have h483:=λi=>r483 x i hl;have h33:=r33 0 x.auto he;refine aw a472 rfl rfl ?_;simp only[F472,aaP];have e:x.msgs.map gI.c=msgs x.msgs:=rfl;simp only[eE.c,e]at h482 h483 |-;unfold te;simp(disch:=omega)only[go_sem];refine Br.aJ (λc1=>?_) (λc1=>?_)<;>simp(disch:=omega)only[go_sem,c1,h482]
 .rw[if_pos (by omega)]
 rw[if_neg (by omega)];cases hnm:lH x with
 |false=>simp(disch:=omega)only[go_sem,if_true]
 |true=>
  simp(disch:=omega)only[go_sem];rw[if_neg (by decide)];refine W.find x.msgs (λm=>dP T.length m.ty) (λk=>⟨[(2,.ptr 2 0),(3,.ptr 3 0),(5,.pv (.int .i64 k))],⟨[(2,[.pv (.aq u T)]),(3,[.pv (.str x.name),.pv (.aq 0 (msgs x.msgs)),.pv (.int .i64 x.auto.aj),.pv (.int .i64 x.auto.start),.pv (.aq 0 (x.auto.af.map Edge.c))])],[],[]⟩⟩) rfl (λk m hx hk hfd=>?_) (λhnw=>?_)
  .have done:dP T.length m.ty=true->x.msgs.any (λm=>dP T.length m.ty)=true:=λg=>(hfd g).any;unfold dP at done |-;simp(disch:=omega)only[go_sem];refine Br.aJ (λc=>?_) (λc=>(c (by omega)).elim);simp(disch:=omega)only[go_sem,hx,gI.c];refine Br.aJ (λc4=>?_) (λc4=>?_)<;>simp(disch:=omega)only[go_sem,c4,hx,gI.c]
   .rw[if_pos (done (by simp[c4]))]
   refine Br.aJ (λc5=>?_) (λc5=>?_)<;>simp(disch:=omega)only[go_sem,c5]
   .rw[if_pos (done (by simp[c5]))]
   .exact bB.of (by simp[c4,c5]) rfl
  .rw[hnw.any,if_neg (by decide)];by_cases h0:x.auto.err=0
   .rw[if_pos h0]at h33;rw[if_neg (by simp[h0])];simp(disch:=omega)only[go_sem,h33];refine W.find x.auto.af (λe=>!x.msgs.any (lG e.label)) (λk=>⟨[(3,.ptr 3 0),(6,.ptr 6 0),(8,.pv (.int .i64 k))],⟨[(3,[.pv (.str x.name),.pv (.aq 0 (msgs x.msgs)),.pv (.int .i64 x.auto.aj),.pv (.int .i64 x.auto.start),.pv (.aq 0 (x.auto.af.map Edge.c))]),(6,[.pv (.int .i64 x.auto.order.length),.pv (.int .i64 0),.pv (.aq 0 (bF (mA Edge.lt (kept x.auto.order x.auto.af))))])],[],[]⟩⟩) rfl (λk d hx hk hfd=>?_) (λhnw=>?_)
    .have h483:=h483 d.label;have done:(!x.msgs.any (lG d.label))=true->x.auto.af.any (λe=>!x.msgs.any (lG e.label))=true:=λg=>(hfd g).any;generalize x.msgs.any (lG d.label)=b at h483 done |-;generalize x.msgs.find? (lG d.label)=o at h483;simp only[gI.c]at h483;simp(disch:=omega)only[go_sem];refine Br.aJ (λc=>?_) (λc=>(c (by omega)).elim);simp(disch:=omega)only[go_sem,hx,h483,gI.c];cases b
     .simp(disch:=omega)only[go_sem];rw[if_pos (done rfl)]
     .simp(disch:=omega)only[go_sem];exact bB.of rfl rfl
    .rw[hnw.any,if_neg (by decide)];simp(disch:=omega)only[go_sem];refine Br.aJ (λc=>?_) (λc=>?_)<;>simp(disch:=omega)only[go_sem]
     .rw[if_neg (by simp[c])]
     .rw[if_pos c]
   .rw[if_neg h0]at h33;rw[if_pos h0];simp(disch:=omega)only[go_sem,h33];refine Br.aJ (λc=>absurd c h0) (λc=>?_);simp(disch:=omega)only[go_sem]
set_option maxHeartbeats 4000000 in
theorem r466 (u:Nat)(T:List (List PV))(x:eE)(hT:T.length<=2^63 - 1)(hl:x.msgs.length<=2^63 - 1)(hn:bC x.name)(hs:∀m∈x.msgs,bC m.name)(he:x.auto.af.length<=2000000000):res A aA 466 [.agg [.aq u T],.agg x.c]=some [.int .i64 (te T.length x)]:=by
 have h306n:=r306 x.name hn;have h476:=λi=>r476 x i hl;have h32:=r32 0 x.auto he;refine aw a466 rfl rfl ?_;simp only[F466,Lu];have e:x.msgs.map gI.c=msgs x.msgs:=rfl;simp only[eE.c,e]at h476 |-;unfold te;simp(disch:=omega)only[go_sem];refine Br.aJ (λc1=>?_) (λc1=>?_)<;>simp(disch:=omega)only[go_sem,c1]
 .rw[if_pos (by omega)]
 rw[if_neg (by omega)];refine W.find (List.range x.msgs.length) (vi x.msgs) (λk=>⟨[(2,.ptr 2 0),(3,.ptr 3 0),(5,.map 0),(6,.pv (.int .i64 (vh x.msgs k))),(23,.pv (.aq 0 (msgs x.msgs))),(24,.pv (.int .i64 x.msgs.length)),(25,.pv (.int .i64 k))],⟨[(2,[.pv (.aq u T)]),(3,[.pv (.str x.name),.pv (.aq 0 (msgs x.msgs)),.pv (.int .i64 x.auto.aj),.pv (.int .i64 x.auto.start),.pv (.aq 0 (x.auto.af.map Edge.c))])],[],[iT (qC x.msgs k)]⟩⟩) rfl (λk k' hx hk hfd=>?_) (λhnw=>?_)
 .obtain⟨rfl,hk⟩:=ey hx;obtain⟨m,hm⟩:=get_some hk;have hb:vi x.msgs k'=B2 x.msgs k' m:=by unfold vi;rw[hm]
  have h306:=r306 m.name (hs m (Wa hm));have done:vi x.msgs k'=true->lH x=false:=λh=>by
   unfold lH;rw[(hfd h).any];rfl
  have hln:=AT hm;have hsn:=AU hm;rw[hb]at done |-;unfold B2 at done |-;rw[<- De]at done |-;generalize vh x.msgs k'=la at *;generalize qC x.msgs k'=sn at *;simp(disch:=omega)only[go_sem];refine Br.aJ (λc=>?_) (λc=>(c (by omega)).elim);simp(disch:=omega)only[go_sem,hm,gI.c,h306];refine Br.aJ (λc1=>?_) (λc1=>?_)<;>simp(disch:=omega)only[go_sem,c1,h306]
  .rw[if_pos (done (by simp[c1]))]
  refine Br.aJ (λc2=>?_) (λc2=>?_)<;>simp(disch:=omega)only[go_sem,c2,h306]
  .rw[if_pos (done (by simp[c2]))]
  cases hi:isName m.name with
  |false=>
   simp(disch:=omega)only[go_sem];rw[if_pos (done (by simp[hi]))]
  |true=>
   rw[hi]at done;simp(disch:=omega)only[go_sem];cases hh:cY sn m.name with
   |true=>
    rw[hh]at done;simp(disch:=omega)only[go_sem];rw[if_pos (done (by simp))]
   |false=>
    simp(disch:=omega)only[go_sem];exact bB.of (by simp[c1,c2]) (by rw[hln,<- hsn];rfl)
 .rw[WI];have hv:lH x=isName x.name:=by
   unfold lH;rw[hnw.any];simp
  rw[hv];simp(disch:=omega)only[go_sem,h306n];generalize qC x.msgs x.msgs.length=sn;cases hnm:isName x.name with
  |false=>simp(disch:=omega)only[go_sem,if_true]
  |true=>
  simp(disch:=omega)only[go_sem];rw[if_neg (by decide)];refine W.find x.msgs (λm=>dP T.length m.ty) (λk=>⟨[(2,.ptr 2 0),(3,.ptr 3 0),(61,.pv (.aq 0 (msgs x.msgs))),(62,.pv (.int .i64 x.msgs.length)),(63,.pv (.int .i64 k))],⟨[(2,[.pv (.aq u T)]),(3,[.pv (.str x.name),.pv (.aq 0 (msgs x.msgs)),.pv (.int .i64 x.auto.aj),.pv (.int .i64 x.auto.start),.pv (.aq 0 (x.auto.af.map Edge.c))])],[],[iT sn]⟩⟩) rfl (λk m hx hk hfd=>?_) (λhnw=>?_)
  .have done:dP T.length m.ty=true->x.msgs.any (λm=>dP T.length m.ty)=true:=λg=>(hfd g).any;unfold dP at done |-;simp(disch:=omega)only[go_sem];refine Br.aJ (λc=>?_) (λc=>(c (by omega)).elim);simp(disch:=omega)only[go_sem,hx,gI.c];refine Br.aJ (λc4=>?_) (λc4=>?_)<;>simp(disch:=omega)only[go_sem,c4,hx,gI.c]
   .rw[if_pos (done (by simp[c4]))]
   refine Br.aJ (λc5=>?_) (λc5=>?_)<;>simp(disch:=omega)only[go_sem,c5]
   .rw[if_pos (done (by simp[c5]))]
   .exact bB.of (by simp[c4,c5]) rfl
  .rw[hnw.any,if_neg (by decide)];by_cases h0:x.auto.err=0
   .have hle:=Fx h0;have ho:x.auto.trim.aj=x.auto.order.length:=rfl;rw[if_pos h0,ho]at h32;rw[if_neg (by simp[h0])];simp(disch:=omega)only[go_sem,h32,if_pos h0,ho];refine W.find x.auto.af (λe=>!x.msgs.any (lG e.label)) (λk=>⟨[(3,.ptr 3 0),(11,.ptr 11 0),(90,.pv (.aq 0 (x.auto.af.map Edge.c))),(91,.pv (.int .i64 x.auto.af.length)),(92,.pv (.int .i64 k))],⟨[(3,[.pv (.str x.name),.pv (.aq 0 (msgs x.msgs)),.pv (.int .i64 x.auto.aj),.pv (.int .i64 x.auto.start),.pv (.aq 0 (x.auto.af.map Edge.c))]),(11,[.pv (.int .i64 x.auto.order.length),.pv (.int .i64 0),.pv (.aq 0 (bF x.auto.trim.af))])],[],[iT sn]⟩⟩) rfl (λk d hx hk hfd=>?_) (λhnw=>?_)
    .have h476:=h476 d.label;have done:(!x.msgs.any (lG d.label))=true->x.auto.af.any (λe=>!x.msgs.any (lG e.label))=true:=λg=>(hfd g).any;generalize x.msgs.any (lG d.label)=b at h476 done |-;generalize x.msgs.find? (lG d.label)=o at h476;simp only[gI.c]at h476;simp(disch:=omega)only[go_sem];refine Br.aJ (λc=>?_) (λc=>(c (by omega)).elim);simp(disch:=omega)only[go_sem,hx,h476,gI.c];cases b
     .simp(disch:=omega)only[go_sem];rw[if_pos (done rfl)]
     .simp(disch:=omega)only[go_sem];exact bB.of rfl rfl
    .rw[hnw.any,if_neg (by decide)];simp(disch:=omega)only[go_sem];refine Br.aJ (λc=>?_) (λc=>?_)<;>simp(disch:=omega)only[go_sem]
     .rw[if_pos (by omega)]
     .rw[if_neg (by omega)]
   .rw[if_neg h0]at h32;rw[if_pos h0];simp(disch:=omega)only[go_sem,h32,if_neg h0];refine Br.aJ (λc=>absurd c h0) (λc=>?_);simp(disch:=omega)only[go_sem]
theorem r463 (u:Nat)(T:List aH)(x:eE)(hT:T.length<=2147483648)(ho:∀t∈T,t.ok)(hsh:∀t∈T,t.held)(hl:x.msgs.length<=2^63 - 1)(hn:bC x.name)(hs:∀m∈x.msgs,bC m.name)(he:x.auto.af.length<=2000000000):res A aA 463 [.agg [.aq u (T.map aH.c)],.agg x.c]=some [.int .i64 (if cS T≠0 then cS T else te T.length x)]:=by
 have h268:=r268 u T hT ho hsh;have h472:=r472 u (T.map aH.c) x (by rw[Wg];omega) hl hn hs he;rw[Wg]at h472;refine aw a463 rfl rfl ?_;simp only[F463,aaL];have e:x.msgs.map gI.c=msgs x.msgs:=rfl;simp only[eE.c,e]at h472 |-;simp(disch:=omega)only[go_sem,h268];refine Br.aJ (λc=>?_) (λc=>?_)<;>simp(disch:=omega)only[go_sem,h472]
 .rw[if_neg (by simp[c])]
 .rw[if_pos c]
theorem r444 (u:Nat)(T:List aH)(x:eE)(hT:T.length<=2147483648)(ho:∀t∈T,t.ok)(hsh:∀t∈T,t.held)(hl:x.msgs.length<=2^63 - 1)(hn:bC x.name)(hs:∀m∈x.msgs,bC m.name)(he:x.auto.af.length<=2000000000):res A aA 444 [.agg [.aq u (T.map aH.c)],.agg x.c]=some [.int .i64 (if cS T≠0 then cS T else te T.length x)]:=by
 have h267:=r267 u T hT ho hsh;have h466:=r466 u (T.map aH.c) x (by rw[Wg];omega) hl hn hs he;rw[Wg]at h466;refine aw a444 rfl rfl ?_;simp only[F444,Li];have e:x.msgs.map gI.c=msgs x.msgs:=rfl;simp only[eE.c,e]at h466 |-;simp(disch:=omega)only[go_sem,h267];refine Br.aJ (λc=>?_) (λc=>?_)<;>simp(disch:=omega)only[go_sem,h466]
 .rw[if_neg (by simp[c])]
 .rw[if_pos c]
theorem r475 (t:Nat)(l:List ByteArray)(x:ByteArray)(hl:l.length<=2^63 - 1):res A aA 475 [.aq t (strs l),.str x]=some [.int .i64 (bj (λs=>decide (s=x)) l)]:=by
 refine aw a475 rfl rfl ?_;simp only[F475,Lz];simp(disch:=omega)only[go_sem];refine W.find l (λs=>decide (s=x)) (λk=>⟨[(0,.pv (.aq t (strs l))),(1,.pv (.str x)),(7,.pv (.int .i64 l.length)),(8,.pv (.int .i64 k))],⟨[],[],[]⟩⟩) rfl (λk s hx hk hfd=>?_) (λhn=>?_)
 .simp(disch:=omega)only[go_sem];refine Br.aJ (λh=>?_) (λh=>(h (by omega)).elim);simp(disch:=omega)only[go_sem,hx];have e:decide (x=s)=decide (s=x):=decide_eq_decide.2 ⟨λh=>h.symm,λh=>h.symm⟩;rw[e];refine Br.of (λh2=>?_) (λh2=>?_)<;>simp(disch:=omega)only[go_sem]
  .rw[(hfd h2).bj]
  .exact bB.of h2 rfl
 .simp(disch:=omega)only[go_sem];rw[hn.bj]
theorem r465 (t:Nat)(l:List ByteArray)(x:ByteArray)(hl:l.length<=2^63 - 1):res A aA 465 [.aq t (strs l),.str x]=some [.bool (cY l x)]:=by
 refine aw a465 rfl rfl ?_;simp only[F465,Lt];have h475:=r475 t l x hl;simp(disch:=omega)only[go_sem,h475];have e:decide (0<=bj (λs=>decide (s=x)) l)=cY l x:=by
  unfold bj cY;cases h:l.findIdx? (λs=>decide (s=x))with
  |none=>
   rw[List.any_eq_false.2 λy hy=>by simpa using List.findIdx?_eq_none_iff.1 h y hy];rfl
  |some k=>
   obtain⟨hk,h2,_⟩:=Ww.1 h;rw[Xm.2 ⟨_,Xc hk,h2⟩];simp
 rw[e]
theorem B3 (nm:ByteArray)(l:List ByteArray)(hn:bC nm)(hl:l.length<=1000)(Q:Ex->St->Prop)
  (hQ:∀env,if isName nm=false then Q .ret ⟨(4,.pv (.int .i64 1))::env,⟨[(200000,[dh 0 (strs l)])],cK 1 (strs l),[]⟩⟩ else if cY l nm=true then Q .ret ⟨(4,.pv (.int .i64 5))::env,⟨[(200000,[dh 0 (strs l)])],cK 1 (strs l),[]⟩⟩ else Q .ret ⟨(4,.pv (.int .i64 0))::env,⟨[(200000,[dh 0 (strs (l++[nm]))])],cK 1 (strs (l++[nm])),[]⟩⟩):
  W A aA F441.body ⟨[(0,.ptr 200000 0),(1,.pv (.str nm))],⟨[(200000,[dh 0 (strs l)])],cK 1 (strs l),[]⟩⟩ Q:=by
 have h306:=r306 nm hn;have h465:=λt=>r465 t l nm (by omega);have hsl:(strs l).length<=1000:=by rw[fq];exact hl
 have hg:=λbx mp=>BF bx mp 1 (strs l) [.str nm] rfl (by omega);simp only[F441,Ho];simp(disch:=omega)only[go_sem,h306];cases hi:isName nm with
 |false=>
  rw[hi]at hQ;simp only[if_true]at hQ;simp(disch:=omega)only[go_sem];exact hQ _
 |true=>
  rw[hi]at hQ;rw[<- pL]at hQ;simp only[Bool.true_eq_false,if_false]at hQ;simp(disch:=omega)only[go_sem,h465];cases hh:cY l nm with
  |true=>
   rw[hh]at hQ;simp only[if_true]at hQ;simp(disch:=omega)only[go_sem];exact hQ []
  |false=>
   rw[hh]at hQ;simp only[Bool.false_eq_true,if_false]at hQ;simp(disch:=omega)only[go_sem,hg];exact hQ []
theorem Fy (a:aL)(nm:ByteArray)(l:List ByteArray)(hn:bC nm)(hl:l.length<=1000)(Q:Ex->St->Prop)
  (hQ:∀env,if isName nm=false then Q .ret ⟨(4,.pv (.int .i64 1))::env,⟨[(200000,[dh 1 (strs l)])],a::cK 1 (strs l),[]⟩⟩ else if cY l nm=true then Q .ret ⟨(4,.pv (.int .i64 5))::env,⟨[(200000,[dh 1 (strs l)])],a::cK 1 (strs l),[]⟩⟩ else Q .ret ⟨(4,.pv (.int .i64 0))::env,⟨[(200000,[dh 1 (strs (l++[nm]))])],a::cK 1 (strs (l++[nm])),[]⟩⟩):
  W A aA F441.body ⟨[(0,.ptr 200000 0),(1,.pv (.str nm))],⟨[(200000,[dh 1 (strs l)])],a::cK 1 (strs l),[]⟩⟩ Q:=by
 have h306:=r306 nm hn;have h465:=λt=>r465 t l nm (by omega);have hsl:(strs l).length<=1000:=by rw[fq];exact hl
 have hg:=λbx mp=>RD bx mp a 1 (strs l) [.str nm] rfl (by omega);simp only[F441,Ho];simp(disch:=omega)only[go_sem,h306];cases hi:isName nm with
 |false=>
  rw[hi]at hQ;simp only[if_true]at hQ;simp(disch:=omega)only[go_sem];exact hQ _
 |true=>
  rw[hi]at hQ;rw[<- pL]at hQ;simp only[Bool.true_eq_false,if_false]at hQ;simp(disch:=omega)only[go_sem,h465];cases hh:cY l nm with
  |true=>
   rw[hh]at hQ;simp only[if_true]at hQ;simp(disch:=omega)only[go_sem];exact hQ []
  |false=>
   rw[hh]at hQ;simp only[Bool.false_eq_true,if_false]at hQ;simp(disch:=omega)only[go_sem,hg];exact hQ []
def B4 (v:V):Prop:=v=.tl []\/∃a b c d,v=.own a b c d
theorem eL (n:Nat)(rows:List (List PV)):B4 (dh n rows):=by
 cases rows with
 |nil=>exact .inl rfl
 |cons x r=>exact .inr ⟨_,_,_,_,rfl⟩
theorem hZ {s:Nat}{v:V}{ar:List aL}{mp:List (List (PV×PV))}{env:List (Nat×V)}{p:PV}{K:V->Tn->Prop}(hv:B4 v)(hp:∃n,p=.int .i64 n)(h:K (.pv p) {all:=some ([(s,[v])],ar,mp)}):Cz [.tmp 4] [s] K .mk .ret ⟨(4,.pv p)::env,⟨[(200000,[v])],ar,mp⟩⟩:=by
 obtain⟨n,rfl⟩:=hp;rcases hv with rfl|⟨_,_,_,_,rfl⟩<;>exact⟨_,rfl,_,rfl,_,rfl,h⟩
theorem call5 {v:V}{ar:List aL}{nm:ByteArray}{a1 a2 a3 a4 a5 b1 b2 b3:PV}{K:V->Tn->Prop}(hv:B4 v)(h:W A aA F441.body ⟨[(0,.ptr 200000 0),(1,.pv (.str nm))],⟨[(200000,[v])],ar,[]⟩⟩ (Cz [.tmp 4] [5] K)):
  IW A aA 441 [.ptr 5 0,.pv (.str nm)] ⟨[(1,[.pv a1,.pv a2,.pv a3,.pv a4,.pv a5]),(5,[v]),(6,[.tl []]),(8,[.pv b1,.pv b2,.pv b3])],ar,[]⟩ K:=by
 rw[IA a441];rcases hv with rfl|⟨_,_,_,_,rfl⟩<;>exact⟨rfl,_,rfl,_,rfl,h⟩
theorem call6 {v:V}{ar:List aL}{nm:ByteArray}{a1 a2 a3 a4 a5 b1 b2:PV}{K:V->Tn->Prop}(hv:B4 v)(h:W A aA F441.body ⟨[(0,.ptr 200000 0),(1,.pv (.str nm))],⟨[(200000,[v])],ar,[]⟩⟩ (Cz [.tmp 4] [6] K)):
  IW A aA 441 [.ptr 6 0,.pv (.str nm)] ⟨[(1,[.pv a1,.pv a2,.pv a3,.pv a4,.pv a5]),(6,[v]),(14,[.pv b1,.pv b2])],ar,[]⟩ K:=by
 rw[IA a441];rcases hv with rfl|⟨_,_,_,_,rfl⟩<;>exact⟨rfl,_,rfl,_,rfl,h⟩
def pW {α:Type}(f:Nat->α->Int)(l:List α)(k:Nat):Int:=match l[k]? with
 |some x=>f k x
 |none=>0
def dV {α:Type}(f:Nat->α->Int)(l:List α):Int:=match (List.range l.length).find? (λk=>decide (pW f l k≠0))with
 |some k=>pW f l k
 |none=>0
theorem kr {α:Type}{f:Nat->α->Int}{l:List α}{i k:Nat}{x:α}(hx:l[k]?=some x)(h:Found (List.range l.length) (λk=>decide (pW f l k≠0)) i k):dV f l=f k x:=by
 unfold dV;rw[h.find];simp only[pW,hx]
theorem ku {α:Type}{f:Nat->α->Int}{l:List α}(h:hY (List.range l.length) (λk=>decide (pW f l k≠0))):dV f l=0:=by
 unfold dV;rw[h.find]
theorem gp {α:Type}{f:Nat->α->Int}{l:List α}{k:Nat}{x:α}(hx:l[k]?=some x):pW f l k=f k x:=by
 simp only[pW,hx]
def qS (n:Nat)(l:List Cal)(k:Nat)(c:Cal):Int:=if isName c.name=false then 1 else if cY ((l.map (·.name)).take k) c.name=true then 5 else if (dP n c.ud||dP n c.rep)=true then 4 else 0
def pX (n:Nat)(l:List Tpc)(k:Nat)(c:Tpc):Int:=if isName c.name=false then 1 else if cY ((l.map (·.name)).take k) c.name=true then 5 else if dP n c.ty=true then 4 else 0
def pY (n:Nat)(l:List eE)(k:Nat)(w:eE):Int:=if cY ((l.map (·.name)).take k) w.name=true then 5 else te n w
theorem r462 (u:Nat)(T:List (List PV))(t:Int)(hl:T.length<=2^63 - 1):res A aA 462 [.agg [.aq u T],.int .i64 t]=some [.bool (!dP T.length t)]:=by
 refine aw a462 rfl rfl ?_;simp only[F462,aaK];unfold dP;simp(disch:=omega)only[go_sem];by_cases c:0<=t
 .have e:decide (t<0)=false:=decide_eq_false (by omega);have e3:decide (0<=t)=true:=decide_eq_true c;have e2:(!decide ((T.length:Int)<=t))=decide (t<(T.length:Int)):=by
   rw[Xb];simp
  simp(disch:=omega)only[go_sem,e,e3];rw[e2]
 .have e:decide (t<0)=true:=decide_eq_true (by omega);have e3:decide (0<=t)=false:=decide_eq_false c;simp(disch:=omega)only[go_sem,e,e3]
structure iX (v:ij):Prop where
 nm:bC v.name
 tl:v.types.length<=2147483648
 to:∀t∈v.types,t.ok
 ts:∀t∈v.types,t.held
 cl:v.calls.length<=2^63 - 1
 cs:∀c∈v.calls,bC c.name
 sl:v.aG.length<=2^63 - 1
 ss:∀w∈v.aG,bC w.name/\w.msgs.length<=2^63 - 1/\(∀m∈w.msgs,bC m.name)/\w.auto.af.length<=2000000000
 pl:v.aT.length<=2^63 - 1
 ps:∀c∈v.aT,bC c.name
set_option maxHeartbeats 2000000 in
theorem r436 (t1 t2 t3 t4:Nat)(v:ij)(hv:iX v):res A aA 436 [.agg (lB t1 t2 t3 t4 v)]=some [.int .i64 (dV (qS v.types.length v.calls) v.calls)]:=by
 have hcl:=hv.cl;have htl:=hv.tl;refine aw a436 rfl rfl ?_;simp only[F436,aaE,lB];simp(disch:=omega)only[go_sem];obtain⟨G,hG⟩:∃G,dV (qS v.types.length v.calls) v.calls=G:=⟨_,rfl⟩;rw[hG];refine W.find (List.range v.calls.length) (λk=>decide (pW (qS v.types.length v.calls) v.calls k≠0)) (λk=>⟨[(1,.ptr 1 0),(3,.pv (.int .i64 k))],⟨[(1,[.pv (.str v.name),.pv (.aq t1 (v.types.map aH.c)),.pv (.aq t2 (ch v.calls)),.pv (.aq t3 (aG v.aG)),.pv (.aq t4 (df v.aT))])],[],[]⟩⟩) rfl (λi k hx hk hfd=>?_) (λhn=>?_)
 .obtain⟨rfl,hk⟩:=ey hx;obtain⟨x,hx⟩:=get_some hk;have done:∀e:Int,qS v.types.length v.calls k x=e->e≠0->(some [PV.int .i64 e]:Option (List PV))=some [.int .i64 G]:=λe h1 h2=>by
   rw[<- hG,kr hx (hfd (by rw[gp hx,h1];exact decide_eq_true h2)),h1]
  rw[gp hx];have h310:=r310 x.name (hv.cs x (Wa hx));have h462:=λu t=>r462 u (v.types.map aH.c) t (by rw[Wg];omega);rw[Wg]at h462;simp(disch:=omega)only[go_sem];refine Br.aJ (λc=>?_) (λc=>(c (by omega)).elim);simp(disch:=omega)only[go_sem,hx,Cal.c,h310];unfold qS at done |-;cases hi:isName x.name with
  |false=>
   simp(disch:=omega)only[go_sem];exact done 1 (by rw[if_pos hi]) (by decide)
  |true=>
   simp(disch:=omega)only[go_sem];rw[if_neg (by simp[hi])]at done |-;refine W.find (v.calls.take k) (λq=>decide (q.name=x.name)) (λj=>⟨[(1,.ptr 1 0),(3,.pv (.int .i64 k)),(4,.ptr 4 0),(5,.pv (.int .i64 j))],⟨[(1,[.pv (.str v.name),.pv (.aq t1 (v.types.map aH.c)),.pv (.aq t2 (ch v.calls)),.pv (.aq t3 (aG v.aG)),.pv (.aq t4 (df v.aT))]),(4,[.pv (.str x.name),.pv (.int .i64 x.ud),.pv (.int .i64 x.rep)])],[],[]⟩⟩) rfl (λj q hj hjl hfd2=>?_) (λhn2=>?_)
   .have hjl':j<k/\j<v.calls.length:=by rw[W8]at hjl;omega
    have hj':v.calls[j]?=some q:=by
     rw[Wy,if_pos hjl'.1]at hj;exact hj
    simp(disch:=omega)only[go_sem];refine Br.aJ (λc=>?_) (λc=>(c (by omega)).elim);simp(disch:=omega)only[go_sem,hj',Cal.c];refine Br.aJ (λc3=>?_) (λc3=>?_)<;>simp(disch:=omega)only[go_sem,c3]
    .refine done 5 ?_ (by decide);have:cY ((v.calls.map (·.name)).take k) x.name=true:=by
      unfold cY;rw[<- abp,abr];exact(hfd2 (by simp[c3])).any
     rw[if_pos this]
    .exact bB.of (by simp[c3]) rfl
   .have hlx:(v.calls.take k).length=k:=by rw[W8];omega
    rw[hlx];have hh:cY ((v.calls.map (·.name)).take k) x.name=false:=by
     unfold cY;rw[<- abp,abr];exact hn2.any
    rw[if_neg (by simp[hh])]at done |-;simp(disch:=omega)only[go_sem,h462];cases h1:dP v.types.length x.ud with
    |true=>
     simp(disch:=omega)only[go_sem];exact done 4 (by rw[h1];rfl) (by decide)
    |false=>
     simp(disch:=omega)only[go_sem,h462];cases h2:dP v.types.length x.rep with
     |true=>
      simp(disch:=omega)only[go_sem];exact done 4 (by rw[h1,h2];rfl) (by decide)
     |false=>
      simp(disch:=omega)only[go_sem];exact bB.of (by simp) rfl
 .rw[WI,<- hG,ku hn];simp(disch:=omega)only[go_sem]
set_option maxHeartbeats 2000000 in
theorem r438 (t1 t2 t3 t4:Nat)(v:ij)(hv:iX v):res A aA 438 [.agg (lB t1 t2 t3 t4 v)]=some [.int .i64 (dV (pX v.types.length v.aT) v.aT)]:=by
 have hcl:=hv.pl;have htl:=hv.tl;refine aw a438 rfl rfl ?_;simp only[F438,aaG,lB];simp(disch:=omega)only[go_sem];obtain⟨G,hG⟩:∃G,dV (pX v.types.length v.aT) v.aT=G:=⟨_,rfl⟩;rw[hG];refine W.find (List.range v.aT.length) (λk=>decide (pW (pX v.types.length v.aT) v.aT k≠0)) (λk=>⟨[(1,.ptr 1 0),(3,.pv (.int .i64 k))],⟨[(1,[.pv (.str v.name),.pv (.aq t1 (v.types.map aH.c)),.pv (.aq t2 (ch v.calls)),.pv (.aq t3 (aG v.aG)),.pv (.aq t4 (df v.aT))])],[],[]⟩⟩) rfl (λi k hx hk hfd=>?_) (λhn=>?_)
 .obtain⟨rfl,hk⟩:=ey hx;obtain⟨x,hx⟩:=get_some hk;have done:∀e:Int,pX v.types.length v.aT k x=e->e≠0->(some [PV.int .i64 e]:Option (List PV))=some [.int .i64 G]:=λe h1 h2=>by
   rw[<- hG,kr hx (hfd (by rw[gp hx,h1];exact decide_eq_true h2)),h1]
  rw[gp hx];have h310:=r310 x.name (hv.ps x (Wa hx));have h462:=λu t=>r462 u (v.types.map aH.c) t (by rw[Wg];omega);rw[Wg]at h462;simp(disch:=omega)only[go_sem];refine Br.aJ (λc=>?_) (λc=>(c (by omega)).elim);simp(disch:=omega)only[go_sem,hx,Tpc.c,h310];unfold pX at done |-;cases hi:isName x.name with
  |false=>
   simp(disch:=omega)only[go_sem];exact done 1 (by rw[if_pos hi]) (by decide)
  |true=>
   simp(disch:=omega)only[go_sem];rw[if_neg (by simp[hi])]at done |-;refine W.find (v.aT.take k) (λq=>decide (q.name=x.name)) (λj=>⟨[(1,.ptr 1 0),(3,.pv (.int .i64 k)),(4,.ptr 4 0),(5,.pv (.int .i64 j))],⟨[(1,[.pv (.str v.name),.pv (.aq t1 (v.types.map aH.c)),.pv (.aq t2 (ch v.calls)),.pv (.aq t3 (aG v.aG)),.pv (.aq t4 (df v.aT))]),(4,[.pv (.str x.name),.pv (.int .i64 x.ty)])],[],[]⟩⟩) rfl (λj q hj hjl hfd2=>?_) (λhn2=>?_)
   .have hjl':j<k/\j<v.aT.length:=by rw[W8]at hjl;omega
    have hj':v.aT[j]?=some q:=by
     rw[Wy,if_pos hjl'.1]at hj;exact hj
    simp(disch:=omega)only[go_sem];refine Br.aJ (λc=>?_) (λc=>(c (by omega)).elim);simp(disch:=omega)only[go_sem,hj',Tpc.c];refine Br.aJ (λc3=>?_) (λc3=>?_)<;>simp(disch:=omega)only[go_sem,c3]
    .refine done 5 ?_ (by decide);have:cY ((v.aT.map (·.name)).take k) x.name=true:=by
      unfold cY;rw[<- abp,abr];exact(hfd2 (by simp[c3])).any
     rw[if_pos this]
    .exact bB.of (by simp[c3]) rfl
   .have hlx:(v.aT.take k).length=k:=by rw[W8];omega
    rw[hlx];have hh:cY ((v.aT.map (·.name)).take k) x.name=false:=by
     unfold cY;rw[<- abp,abr];exact hn2.any
    rw[if_neg (by simp[hh])]at done |-;simp(disch:=omega)only[go_sem,h462];cases h1:dP v.types.length x.ty with
    |true=>
     simp(disch:=omega)only[go_sem];exact done 4 (by rw[h1];rfl) (by decide)
    |false=>
     simp(disch:=omega)only[go_sem];exact bB.of (by simp) rfl
 .rw[WI,<- hG,ku hn];simp(disch:=omega)only[go_sem]
set_option maxHeartbeats 2000000 in
theorem r437 (t1 t2 t3 t4:Nat)(v:ij)(hv:iX v)(h0:cS v.types=0):res A aA 437 [.agg (lB t1 t2 t3 t4 v)]=some [.int .i64 (dV (pY v.types.length v.aG) v.aG)]:=by
 have hcl:=hv.sl;refine aw a437 rfl rfl ?_;simp only[F437,aaF,lB];simp(disch:=omega)only[go_sem];obtain⟨G,hG⟩:∃G,dV (pY v.types.length v.aG) v.aG=G:=⟨_,rfl⟩;rw[hG];refine W.find (List.range v.aG.length) (λk=>decide (pW (pY v.types.length v.aG) v.aG k≠0)) (λk=>⟨[(1,.ptr 1 0),(3,.pv (.int .i64 k))],⟨[(1,[.pv (.str v.name),.pv (.aq t1 (v.types.map aH.c)),.pv (.aq t2 (ch v.calls)),.pv (.aq t3 (aG v.aG)),.pv (.aq t4 (df v.aT))])],[],[]⟩⟩) rfl (λi k hx hk hfd=>?_) (λhn=>?_)
 .obtain⟨rfl,hk⟩:=ey hx;obtain⟨x,hx⟩:=get_some hk;have done:∀e:Int,pY v.types.length v.aG k x=e->e≠0->(some [PV.int .i64 e]:Option (List PV))=some [.int .i64 G]:=λe h1 h2=>by
   rw[<- hG,kr hx (hfd (by rw[gp hx,h1];exact decide_eq_true h2)),h1]
  rw[gp hx];obtain⟨s1,s2,s3,s4⟩:=hv.ss x (Wa hx);have h463:=λu=>r463 u v.types x hv.tl hv.to hv.ts s2 s1 s3 s4;rw[if_neg (by simp[h0])]at h463;unfold pY at done |-;simp only[eE.c]at h463;simp(disch:=omega)only[go_sem];refine Br.aJ (λc=>?_) (λc=>(c (by omega)).elim);simp(disch:=omega)only[go_sem];refine W.find (v.aG.take k) (λq=>decide (q.name=x.name)) (λj=>⟨[(1,.ptr 1 0),(3,.pv (.int .i64 k)),(4,.pv (.int .i64 j))],⟨[(1,[.pv (.str v.name),.pv (.aq t1 (v.types.map aH.c)),.pv (.aq t2 (ch v.calls)),.pv (.aq t3 (aG v.aG)),.pv (.aq t4 (df v.aT))])],[],[]⟩⟩) rfl (λj q hj hjl hfd2=>?_) (λhn2=>?_)
  .have hjl':j<k/\j<v.aG.length:=by rw[W8]at hjl;omega
   have hj':v.aG[j]?=some q:=by
    rw[Wy,if_pos hjl'.1]at hj;exact hj
   simp(disch:=omega)only[go_sem];refine Br.aJ (λc=>?_) (λc=>(c (by omega)).elim);simp(disch:=omega)only[go_sem,hj',hx,Option.map_some,eE.c];refine Br.aJ (λc3=>?_) (λc3=>?_)<;>simp(disch:=omega)only[go_sem,c3]
   .refine done 5 ?_ (by decide);have:cY ((v.aG.map (·.name)).take k) x.name=true:=by
     unfold cY;rw[<- abp,abr];exact(hfd2 (by simp[c3])).any
    rw[if_pos this]
   .exact bB.of (by simp[c3]) rfl
  .have hlx:(v.aG.take k).length=k:=by rw[W8];omega
   rw[hlx];have hh:cY ((v.aG.map (·.name)).take k) x.name=false:=by
    unfold cY;rw[<- abp,abr];exact hn2.any
   rw[if_neg (by simp[hh])]at done |-;generalize te v.types.length x=e at *;simp(disch:=omega)only[go_sem,hx,Option.map_some,eE.c,h463];refine Br.aJ (λc=>?_) (λc=>?_)<;>simp(disch:=omega)only[go_sem]
   .exact bB.of (by simp[c]) rfl
   .exact done e rfl c
 .rw[WI,<- hG,ku hn];simp(disch:=omega)only[go_sem]
noncomputable def acw (v:ij):Int:=
 if 8<v.calls.length\/8<v.aG.length\/8<v.aT.length then 3
 else if isName v.name=false then 1
 else if iW v.types≠0 then iW v.types
 else if dV (qS v.types.length v.calls) v.calls≠0 then dV (qS v.types.length v.calls) v.calls
 else if dV (pY v.types.length v.aG) v.aG≠0 then dV (pY v.types.length v.aG) v.aG
 else dV (pX v.types.length v.aT) v.aT
theorem qD {T:List aH}(h:iW T=0):cS T=0:=by
 unfold iW at h;split at h
 .rename_i h1;exact absurd h h1
 .rename_i h1;exact(lD (by simpa using h1)).1
set_option maxHeartbeats 2000000 in
theorem r406 (t1 t2 t3 t4:Nat)(v:ij)(hv:iX v):res A aA 406 [.agg (lB t1 t2 t3 t4 v)]=some [.int .i64 (acw v)]:=by
 have h1:=hv.cl;have h2:=hv.sl;have h3:=hv.pl;have h310:=r310 v.name hv.nm;have h435:=λu=>r435 u v.types hv.tl hv.to hv.ts;have h436:=r436 t1 t2 t3 t4 v hv;have h437:=λh=>r437 t1 t2 t3 t4 v hv (qD h);have h438:=r438 t1 t2 t3 t4 v hv;refine aw a406 rfl rfl ?_;unfold acw;simp only[F406,aax,lB]at h436 h437 h438 |-;generalize dV (qS v.types.length v.calls) v.calls=e1 at *;generalize dV (pY v.types.length v.aG) v.aG=e2 at *;generalize dV (pX v.types.length v.aT) v.aT=e3 at *;generalize iW v.types=e0 at *;simp(disch:=omega)only[go_sem];refine Br.aJ (λc1=>?_) (λc1=>?_)<;>simp(disch:=omega)only[go_sem,c1]
 .rw[if_pos (by omega)]
 refine Br.aJ (λc2=>?_) (λc2=>?_)<;>simp(disch:=omega)only[go_sem,c2]
 .rw[if_pos (by omega)]
 refine Br.aJ (λc3=>?_) (λc3=>?_)<;>simp(disch:=omega)only[go_sem,c3,h310]
 .rw[if_pos (by omega)]
 rw[if_neg (by omega)];cases hi:isName v.name with
 |false=>simp(disch:=omega)only[go_sem,if_true]
 |true=>
  simp(disch:=omega)only[go_sem,h435];rw[if_neg (by decide)];refine Br.aJ (λc=>?_) (λc=>?_)<;>simp(disch:=omega)only[go_sem,h436]
  rotate_left
  .rw[if_pos c]
  have h437:=h437 c;rw[if_neg (by simp[c])];refine Br.aJ (λc=>?_) (λc=>?_)<;>simp(disch:=omega)only[go_sem,h437]
  rotate_left
  .rw[if_pos c]
  rw[if_neg (by simp[c])];refine Br.aJ (λc=>?_) (λc=>?_)<;>simp(disch:=omega)only[go_sem,h438]
  .rw[if_neg (by simp[c])]
  .rw[if_pos c]
theorem r440 (t:Int)(u:Nat)(nm:PV)(tt:Nat)(T:List (List PV))(c1 c2 c3:PV)(hl:T.length<=2^63 - 1):res A aA 440 [.int .i64 t,.ro u [nm,.aq tt T,c1,c2,c3]]=some [.bool (dP T.length t)]:=by
 refine aw a440 rfl rfl ?_;simp only[F440,Lf];unfold dP;simp(disch:=omega)only[go_sem];refine Br.aJ (λc=>?_) (λc=>?_)<;>simp(disch:=omega)only[go_sem,c,decide_true,decide_false,Bool.true_or,Bool.false_or]
theorem r443 (x y:eE)(u:Nat):res A aA 443 [.agg x.c,.ro u y.c]=some [.bool (decide (x.name=y.name))]:=by
 refine aw a443 rfl rfl ?_;simp only[F443,Lh,eE.c];simp(disch:=omega)only[go_sem]
theorem r448b (t u:Nat)(l:List eE)(y:eE)(hl:l.length<=2^63 - 1):res A aA 448 [.aq t (aG l),.func 443 [.ro u y.c]]=some [.int .i64 (bj (λw=>decide (w.name=y.name)) l)]:=by
 refine aw a448 rfl rfl ?_;simp only[F448,Hp];simp(disch:=omega)only[go_sem];refine W.find l (λw=>decide (w.name=y.name)) (λk=>⟨[(0,.pv (.aq t (aG l))),(1,.pv (.func 443 [.ro u y.c])),(7,.pv (.int .i64 l.length)),(8,.pv (.int .i64 k))],⟨[],[],[]⟩⟩) rfl (λk x hx hk hfd=>?_) (λhn=>?_)
 .have h443:=r443 x y u;simp only[eE.c]at h443 |-;simp(disch:=omega)only[go_sem];refine Br.aJ (λh=>?_) (λh=>(h (by omega)).elim);simp(disch:=omega)only[go_sem,hx,Option.map_some,eE.c,h443];refine Br.of (λh2=>?_) (λh2=>?_)<;>simp(disch:=omega)only[go_sem]
  .rw[(hfd h2).bj]
  .exact bB.of h2 rfl
 .simp(disch:=omega)only[go_sem];rw[hn.bj]
theorem r442 (t u:Nat)(l:List eE)(y:eE)(hl:l.length<=2^63 - 1):res A aA 442 [.aq t (aG l),.func 443 [.ro u y.c]]=some [.bool (cY (l.map (·.name)) y.name)]:=by
 refine aw a442 rfl rfl ?_;simp only[F442,Lg];have h448:=r448b t u l y hl;have e:decide (0<=bj (λw=>decide (w.name=y.name)) l)=cY (l.map (·.name)) y.name:=by
  unfold cY;rw[abr];rcases ko (λw:eE=>decide (w.name=y.name)) l with⟨f1,f2⟩|⟨k,x,f1,f2,f3⟩
  .rw[f2];symm;rw[show decide ((0:Int)<= -1)=false from rfl,WY];exact Xn.1 f1
  .rw[f3];symm;rw[show decide ((0:Int)<=(k:Int))=true by simp,List.any_eq_true];exact⟨x,afu f1,XH f1⟩
 simp only[eE.c]at h448 |-;simp(disch:=omega)only[go_sem,h448];rw[e]
theorem wJ (l:List eE):aO 5 (.inl (aG l))=true:=yD λr hr=>by
 obtain⟨w,_,rfl⟩:=Wk.1 hr;rfl
set_option maxHeartbeats 4000000 in
theorem r407 (t1 t2 t3 t4:Nat)(v:ij)(hv:iX v):res A aA 407 [.agg (lB t1 t2 t3 t4 v)]=some [.int .i64 (acw v)]:=by
 have h1:=hv.cl;have h2:=hv.sl;have h3:=hv.pl;have htl:=hv.tl;have hrf:=wJ v.aG;have h306:=r306 v.name hv.nm;have h439:=λu=>r439 u v.types hv.tl hv.to hv.ts;refine aw a407 rfl rfl ?_;unfold acw;simp only[F407,K8,lB];have hs0:=qD (T:=v.types);generalize iW v.types=e0 at *;simp(disch:=omega)only[go_sem];refine Br.aJ (λc1=>?_) (λc1=>?_)<;>simp(disch:=omega)only[go_sem,c1]
 .rw[if_pos (by omega)]
 refine Br.aJ (λc2=>?_) (λc2=>?_)<;>simp(disch:=omega)only[go_sem,c2]
 .rw[if_pos (by omega)]
 refine Br.aJ (λc3=>?_) (λc3=>?_)<;>simp(disch:=omega)only[go_sem,c3,h306]
 .rw[if_pos (by omega)]
 rw[if_neg (by omega)];cases hi:isName v.name with
 |false=>simp(disch:=omega)only[go_sem,if_true]
 |true=>
  simp(disch:=omega)only[go_sem,h439];rw[if_neg (by decide)];refine Br.aJ (λc=>?_) (λc=>?_)<;>simp(disch:=omega)only[go_sem]
  rotate_left
  .rw[if_pos c]
  have hvalid:=hs0 c;rw[if_neg (by simp[c])];obtain⟨G,hG⟩:∃G,(if dV (qS v.types.length v.calls) v.calls≠0 then dV (qS v.types.length v.calls) v.calls
   else if dV (pY v.types.length v.aG) v.aG≠0 then dV (pY v.types.length v.aG) v.aG
   else dV (pX v.types.length v.aT) v.aT)=G:=⟨_,rfl⟩
  rw[hG];refine W.find (List.range v.calls.length) (λk=>decide (pW (qS v.types.length v.calls) v.calls k≠0)) (λk=>⟨[(1,.ptr 1 0),(4,.func 440 [.ptr 1 0]),(5,.ptr 5 0),(6,.ptr 6 0),(46,.pv (.aq t2 (ch v.calls))),(47,.pv (.int .i64 v.calls.length)),(48,.pv (.int .i64 k))],⟨[(1,[.pv (.str v.name),.pv (.aq t1 (v.types.map aH.c)),.pv (.aq t2 (ch v.calls)),.pv (.aq t3 (aG v.aG)),.pv (.aq t4 (df v.aT))]),(5,[dh 0 (strs ((v.calls.map (·.name)).take k))]),(6,[.tl []])],cK 1 (strs ((v.calls.map (·.name)).take k)),[]⟩⟩) rfl (λi k hx hk hfd=>?_) (λhn=>?_)
  .obtain⟨rfl,hk⟩:=ey hx;obtain⟨x,hx⟩:=get_some hk;have done:∀e:Int,qS v.types.length v.calls k x=e->e≠0->(some [PV.int .i64 e]:Option (List PV))=some [.int .i64 G]:=λe h1 h2=>by
    have h3:=kr hx (hfd (by rw[gp hx,h1];exact decide_eq_true h2));rw[<- hG,h3,h1,if_pos h2]
   rw[gp hx];have hnx:(v.calls.map (·.name)).take (k+1)=(v.calls.map (·.name)).take k++[x.name]:=by
    rw[WL,Wf,hx];rfl
   have hsl:((v.calls.map (·.name)).take k).length<=8:=by rw[W8,Wg];omega
   unfold qS at done |-;generalize (v.calls.map (·.name)).take k=sn at *;simp(disch:=omega)only[go_sem];refine Br.aJ (λc=>?_) (λc=>(c (by omega)).elim);simp(disch:=omega)only[go_sem,hx,Cal.c];refine call5 (eL _ _) (B3 x.name sn (hv.cs x (Wa hx)) (by omega) _ λenv=>?_);cases hi:isName x.name with
   |false=>
    rw[if_pos rfl];refine hZ (eL _ _) ⟨_,rfl⟩ ?_;simp(disch:=omega)only[go_sem];exact done 1 (by rw[if_pos hi]) (by decide)
   |true=>
    rw[if_neg (by decide)];cases hh:cY sn x.name with
    |true=>
     rw[if_pos rfl];refine hZ (eL _ _) ⟨_,rfl⟩ ?_;simp(disch:=omega)only[go_sem];exact done 5 (by rw[if_neg (by simp[hi]),if_pos hh]) (by decide)
    |false=>
     rw[if_neg (by decide)];refine hZ (eL _ _) ⟨_,rfl⟩ ?_;rw[if_neg (by simp[hi]),if_neg (by simp[hh])]at done |-;have h440:=λt u=>r440 t u (.str v.name) t1 (v.types.map aH.c) (.aq t2 (ch v.calls)) (.aq t3 (aG v.aG)) (.aq t4 (df v.aT)) (by rw[Wg];omega);rw[Wg]at h440;simp(disch:=omega)only[go_sem,h440];cases h1:dP v.types.length x.ud with
     |true=>
      simp(disch:=omega)only[go_sem];exact done 4 (by rw[h1];rfl) (by decide)
     |false=>
      simp(disch:=omega)only[go_sem,h440];cases h2:dP v.types.length x.rep with
      |true=>
       simp(disch:=omega)only[go_sem];exact done 4 (by rw[h1,h2];rfl) (by decide)
      |false=>
       simp(disch:=omega)only[go_sem];exact bB.of (by simp) (by rw[hnx];rfl)
  .rw[WI];have hz:=ku hn;rw[if_neg (by simp[hz])]at hG;clear hn hz;obtain⟨X,hXd⟩:∃X,cK 1 (strs ((v.calls.map (·.name)).take v.calls.length))=X:=⟨_,rfl⟩;have hX:X=[]\/∃a,X=[a]:=by
    rw[<- hXd];cases strs ((v.calls.map (·.name)).take v.calls.length)with
    |nil=>exact .inl rfl
    |cons y r=>exact .inr ⟨_,rfl⟩
   rw[hXd];clear hXd;simp(disch:=omega)only[go_sem];refine W.find (List.range v.aG.length) (λk=>decide (pW (pY v.types.length v.aG) v.aG k≠0)) (λk=>⟨[(1,.ptr 1 0),(4,.func 440 [.ptr 1 0]),(6,.ptr 6 0),(70,.pv (.aq t3 (aG v.aG))),(71,.pv (.int .i64 v.aG.length)),(72,.pv (.int .i64 k))],⟨[(1,[.pv (.str v.name),.pv (.aq t1 (v.types.map aH.c)),.pv (.aq t2 (ch v.calls)),.pv (.aq t3 (aG v.aG)),.pv (.aq t4 (df v.aT))]),(6,[.tl []])],X,[]⟩⟩) rfl (λi k hx hk hfd=>?_) (λhn=>?_)
   .obtain⟨rfl,hk⟩:=ey hx;obtain⟨x,hx⟩:=get_some hk;have done:∀e:Int,pY v.types.length v.aG k x=e->e≠0->(some [PV.int .i64 e]:Option (List PV))=some [.int .i64 G]:=λe h1 h2=>by
     have h3:=kr hx (hfd (by rw[gp hx,h1];exact decide_eq_true h2));rw[<- hG,h3,h1,if_pos h2]
    rw[gp hx];obtain⟨s1,s2,s3,s4⟩:=hv.ss x (Wa hx);have h444:=λu=>r444 u v.types x hv.tl hv.to hv.ts s2 s1 s3 s4;rw[if_neg (by simp[hvalid])]at h444;have h442:=λt u=>r442 t u (v.aG.take k) x (by rw[W8];omega);have hst:(aG v.aG).take k=aG (v.aG.take k):=(abp ..).symm;rw[abp]at h442;unfold pY at done |-;simp only[eE.c]at h444 h442;simp(disch:=omega)only[go_sem];refine Br.aJ (λc=>?_) (λc=>(c (by omega)).elim);simp(disch:=omega)only[go_sem,hx,Option.map_some,eE.c,hrf,hst,h442];cases hh:cY ((v.aG.map (·.name)).take k) x.name with
    |true=>
     simp(disch:=omega)only[go_sem];exact done 5 (by rw[if_pos hh]) (by decide)
    |false=>
     rw[if_neg (by simp[hh])]at done |-;generalize te v.types.length x=e at *;simp(disch:=omega)only[go_sem,h444];refine Br.aJ (λc=>?_) (λc=>?_)<;>simp(disch:=omega)only[go_sem]
     .exact bB.of (by simp[c]) rfl
     .exact done e rfl c
   .rw[WI];have hz:=ku hn;rw[if_neg (by simp[hz])]at hG;clear hn hz;simp(disch:=omega)only[go_sem];rcases hX with rfl|⟨a,rfl⟩
    .refine W.find (List.range v.aT.length) (λk=>decide (pW (pX v.types.length v.aT) v.aT k≠0)) (λk=>⟨[(4,.func 440 [.ptr 1 0]),(6,.ptr 6 0),(92,.pv (.aq t4 (df v.aT))),(93,.pv (.int .i64 v.aT.length)),(94,.pv (.int .i64 k))],⟨[(1,[.pv (.str v.name),.pv (.aq t1 (v.types.map aH.c)),.pv (.aq t2 (ch v.calls)),.pv (.aq t3 (aG v.aG)),.pv (.aq t4 (df v.aT))]),(6,[dh 0 (strs ((v.aT.map (·.name)).take k))])],cK 1 (strs ((v.aT.map (·.name)).take k)),[]⟩⟩) rfl (λi k hx hk hfd=>?_) (λhn=>?_)
     .obtain⟨rfl,hk⟩:=ey hx;obtain⟨x,hx⟩:=get_some hk;have done:∀e:Int,pX v.types.length v.aT k x=e->e≠0->(some [PV.int .i64 e]:Option (List PV))=some [.int .i64 G]:=λe h1 h2=>by
       have h3:=kr hx (hfd (by rw[gp hx,h1];exact decide_eq_true h2));rw[<- hG,h3,h1]
      rw[gp hx];have hnx:(v.aT.map (·.name)).take (k+1)=(v.aT.map (·.name)).take k++[x.name]:=by
       rw[WL,Wf,hx];rfl
      have hsl:((v.aT.map (·.name)).take k).length<=8:=by rw[W8,Wg];omega
      unfold pX at done |-;generalize (v.aT.map (·.name)).take k=sn at *;simp(disch:=omega)only[go_sem];refine Br.aJ (λc=>?_) (λc=>(c (by omega)).elim);simp(disch:=omega)only[go_sem,hx,Tpc.c];refine call6 (eL _ _) (B3 x.name sn (hv.ps x (Wa hx)) (by omega) _ λenv=>?_);cases hi:isName x.name with
      |false=>
       rw[if_pos rfl];refine hZ (eL _ _) ⟨_,rfl⟩ ?_;simp(disch:=omega)only[go_sem];exact done 1 (by rw[if_pos hi]) (by decide)
      |true=>
       rw[if_neg (by decide)];cases hh:cY sn x.name with
       |true=>
        rw[if_pos rfl];refine hZ (eL _ _) ⟨_,rfl⟩ ?_;simp(disch:=omega)only[go_sem];exact done 5 (by rw[if_neg (by simp[hi]),if_pos hh]) (by decide)
       |false=>
        rw[if_neg (by decide)];refine hZ (eL _ _) ⟨_,rfl⟩ ?_;rw[if_neg (by simp[hi]),if_neg (by simp[hh])]at done |-;have h440:=λt u=>r440 t u (.str v.name) t1 (v.types.map aH.c) (.aq t2 (ch v.calls)) (.aq t3 (aG v.aG)) (.aq t4 (df v.aT)) (by rw[Wg];omega);rw[Wg]at h440;simp(disch:=omega)only[go_sem,h440];cases h1:dP v.types.length x.ty with
        |true=>
         simp(disch:=omega)only[go_sem];exact done 4 (by rw[h1];rfl) (by decide)
        |false=>
         simp(disch:=omega)only[go_sem];exact bB.of (by simp) (by rw[hnx];rfl)
     .rw[WI];have hz:=ku hn;rw[hz]at hG;rw[<- hG];simp(disch:=omega)only[go_sem]
    .refine W.find (List.range v.aT.length) (λk=>decide (pW (pX v.types.length v.aT) v.aT k≠0)) (λk=>⟨[(4,.func 440 [.ptr 1 0]),(6,.ptr 6 0),(92,.pv (.aq t4 (df v.aT))),(93,.pv (.int .i64 v.aT.length)),(94,.pv (.int .i64 k))],⟨[(1,[.pv (.str v.name),.pv (.aq t1 (v.types.map aH.c)),.pv (.aq t2 (ch v.calls)),.pv (.aq t3 (aG v.aG)),.pv (.aq t4 (df v.aT))]),(6,[dh 1 (strs ((v.aT.map (·.name)).take k))])],a::cK 1 (strs ((v.aT.map (·.name)).take k)),[]⟩⟩) rfl (λi k hx hk hfd=>?_) (λhn=>?_)
     .obtain⟨rfl,hk⟩:=ey hx;obtain⟨x,hx⟩:=get_some hk;have done:∀e:Int,pX v.types.length v.aT k x=e->e≠0->(some [PV.int .i64 e]:Option (List PV))=some [.int .i64 G]:=λe h1 h2=>by
       have h3:=kr hx (hfd (by rw[gp hx,h1];exact decide_eq_true h2));rw[<- hG,h3,h1]
      rw[gp hx];have hnx:(v.aT.map (·.name)).take (k+1)=(v.aT.map (·.name)).take k++[x.name]:=by
       rw[WL,Wf,hx];rfl
      have hsl:((v.aT.map (·.name)).take k).length<=8:=by rw[W8,Wg];omega
      unfold pX at done |-;generalize (v.aT.map (·.name)).take k=sn at *;simp(disch:=omega)only[go_sem];refine Br.aJ (λc=>?_) (λc=>(c (by omega)).elim);simp(disch:=omega)only[go_sem,hx,Tpc.c];refine call6 (eL _ _) (Fy a x.name sn (hv.ps x (Wa hx)) (by omega) _ λenv=>?_);cases hi:isName x.name with
      |false=>
       rw[if_pos rfl];refine hZ (eL _ _) ⟨_,rfl⟩ ?_;simp(disch:=omega)only[go_sem];exact done 1 (by rw[if_pos hi]) (by decide)
      |true=>
       rw[if_neg (by decide)];cases hh:cY sn x.name with
       |true=>
        rw[if_pos rfl];refine hZ (eL _ _) ⟨_,rfl⟩ ?_;simp(disch:=omega)only[go_sem];exact done 5 (by rw[if_neg (by simp[hi]),if_pos hh]) (by decide)
       |false=>
        rw[if_neg (by decide)];refine hZ (eL _ _) ⟨_,rfl⟩ ?_;rw[if_neg (by simp[hi]),if_neg (by simp[hh])]at done |-;have h440:=λt u=>r440 t u (.str v.name) t1 (v.types.map aH.c) (.aq t2 (ch v.calls)) (.aq t3 (aG v.aG)) (.aq t4 (df v.aT)) (by rw[Wg];omega);rw[Wg]at h440;simp(disch:=omega)only[go_sem,h440];cases h1:dP v.types.length x.ty with
        |true=>
         simp(disch:=omega)only[go_sem];exact done 4 (by rw[h1];rfl) (by decide)
        |false=>
         simp(disch:=omega)only[go_sem];exact bB.of (by simp) (by rw[hnx];rfl)
     .rw[WI];have hz:=ku hn;rw[hz]at hG;rw[<- hG];simp(disch:=omega)only[go_sem]
theorem lI {α:Type}{f:Nat->α->Int}{l:List α}(h:dV f l=0):∀(k:Nat)(x:α),l[k]?=some x->f k x=0:=by
 intro k x hx;unfold dV at h;cases hf:(List.range l.length).find? (λk=>decide (pW f l k≠0))with
 |none=>
  have:=Xn.1 hf k (WJ.2 (V9.1 hx).1);rw[gp hx]at this;simpa using this
 |some j=>
  rw[hf]at h;have:=XH hf;simp[h]at this
theorem lJ {α:Type}{f:Nat->α->Int}{l:List α}(h:∀(k:Nat)(x:α),l[k]?=some x->f k x=0):dV f l=0:=by
 unfold dV;have:(List.range l.length).find? (λk=>decide (pW f l k≠0))=none:=by
  rw[Xn];intro k hk;obtain⟨x,hx⟩:=get_some (WJ.1 hk);rw[gp hx,h k x hx];simp
 rw[this]
theorem rr {n:Nat}{u:Int}(h:dP n u=false):0<=u/\u<n:=by
 simp[dP]at h;omega
structure Fz (n:Nat)(w:eE):Prop where
 zn:w.msgs.length<=16
 V7:lH w=true
 ty:∀m∈w.msgs,0<=m.ty/\m.ty<n
 au:w.auto.err=0
 V8:∀e∈w.auto.af,w.msgs.any (lG e.label)=true
 all:(w.auto.order.length:Int)=w.auto.aj
theorem Df {n:Nat}{w:eE}(h:te n w=0):Fz n w:=by
 unfold te at h;split at h
 .cases h
 rename_i h1;split at h
 .cases h
 rename_i h2;split at h
 .cases h
 rename_i h3;split at h
 .rename_i h4;exact absurd h h4
 rename_i h4;split at h
 .cases h
 rename_i h5;split at h
 .cases h
 rename_i h6;refine⟨by omega,by simpa using h2,λm hm=>?_,by simpa using h4,λe he=>?_,by simpa using h6⟩
 .have:=List.any_eq_false.1 (by simpa using h3) m hm
  exact rr (by simpa using this)
 .have:=List.any_eq_false.1 (by simpa using h5:w.auto.af.any (λe=>!w.msgs.any (lG e.label))=false) e he
  simpa using this
structure cH (v:ij):Prop where
 zn:v.calls.length<=8/\v.aG.length<=8/\v.aT.length<=8
 nm:isName v.name=true
 sound:iW v.types=0
 TA:∀(k:Nat) c,v.calls[k]?=some c->qS v.types.length v.calls k c=0
 TB:∀(k:Nat) w,v.aG[k]?=some w->pY v.types.length v.aG k w=0
 top:∀(k:Nat) c,v.aT[k]?=some c->pX v.types.length v.aT k c=0
theorem vj {v:ij}(h:acw v=0):cH v:=by
 unfold acw at h;split at h
 .cases h
 rename_i h1;split at h
 .cases h
 rename_i h2;split at h
 .rename_i h3;exact absurd h h3
 rename_i h3;split at h
 .rename_i h4;exact absurd h h4
 rename_i h4;split at h
 .rename_i h5;exact absurd h h5
 rename_i h5;exact⟨by omega,by simpa using h2,by simpa using h3,lI (by simpa using h4),lI (by simpa using h5),lI h⟩
theorem cH.err {v:ij}(h:cH v):acw v=0:=by
 unfold acw;rw[if_neg (by have:=h.zn;omega),if_neg (by rw[h.nm];decide),if_neg (by rw[h.sound];decide),lJ h.TA,lJ h.TB,lJ h.top];simp
theorem pZ {n:Nat}{l:List Cal}{k:Nat}{c:Cal}(h:qS n l k c=0):isName c.name=true/\cY ((l.map (·.name)).take k) c.name=false/\(0<=c.ud/\c.ud<n)/\0<=c.rep/\c.rep<n:=by
 unfold qS at h;split at h
 .cases h
 rename_i h1;split at h
 .cases h
 rename_i h2;split at h
 .cases h
 rename_i h3;simp only[Bool.or_eq_true,not_or,Bool.not_eq_true]at h3;exact⟨by simpa using h1,by simpa using h2,rr h3.1,rr h3.2⟩
theorem p4 {n:Nat}{l:List Tpc}{k:Nat}{c:Tpc}(h:pX n l k c=0):isName c.name=true/\cY ((l.map (·.name)).take k) c.name=false/\0<=c.ty/\c.ty<n:=by
 unfold pX at h;split at h
 .cases h
 rename_i h1;split at h
 .cases h
 rename_i h2;split at h
 .cases h
 rename_i h3;exact⟨by simpa using h1,by simpa using h2,rr (by simpa using h3)⟩
theorem vk {n:Nat}{l:List eE}{k:Nat}{w:eE}(h:pY n l k w=0):cY ((l.map (·.name)).take k) w.name=false/\Fz n w:=by
 unfold pY at h;split at h
 .cases h
 rename_i h1;exact⟨by simpa using h1,Df h⟩
theorem cH.call {v:ij}(h:cH v):∀c∈v.calls,(0<=c.ud/\c.ud<v.types.length)/\0<=c.rep/\c.rep<v.types.length:=λc hc=>by
 obtain⟨k,hk⟩:=Wd.1 hc;exact(pZ (h.TA k c hk)).2.2
theorem cH.I4 {v:ij}(h:cH v):∀c∈v.aT,0<=c.ty/\c.ty<v.types.length:=λc hc=>by
 obtain⟨k,hk⟩:=Wd.1 hc;exact(p4 (h.top k c hk)).2.2
theorem cH.wK {v:ij}(h:cH v):∀w∈v.aG,Fz v.types.length w:=λc hc=>by
 obtain⟨k,hk⟩:=Wd.1 hc;exact(vk (h.TB k c hk)).2
theorem cH.valid {v:ij}(h:cH v):cS v.types=0:=qD h.sound
theorem cH.root {v:ij}(h:cH v):∀r∈A1 v,0<=r/\r<v.types.length:=by
 intro r hr;unfold A1 at hr;rcases WT.1 hr with hr|hr
 .rcases WT.1 hr with hr|hr
  .obtain⟨c,hc,hr⟩:=afw.1 hr;have:=h.call c hc;simp at hr;rcases hr with rfl|rfl
   .exact this.1
   .exact this.2
  .obtain⟨w,hw,hr⟩:=afw.1 hr;obtain⟨m,hm,rfl⟩:=Wk.1 hr;exact(h.wK w hw).ty m hm
 .obtain⟨c,hc,rfl⟩:=Wk.1 hr;exact h.I4 c hc
def Yw (ar:List aL)(o:Nat)(v:V)(c:PV):Prop:=(v=.pv c/\c.perm=true)\/∃k rows,c=.aq 0 rows/\Home ar o k v rows
theorem Yw.push {ar:List aL}{o:Nat}{v:V}{c:PV}(h:Yw ar o v c)(x:List aL):Yw (ar++x) o v c:=by
 rcases h with h|⟨k,rows,h1,h2⟩
 .exact .inl h
 .exact .inr ⟨k,rows,h1,h2.push x⟩
theorem Yw.set {ar:List aL}{o:Nat}{v:V}{c:PV}(h:Yw ar o v c)(a:aL):Yw (ar.set o a) o v c:=by
 rcases h with h|⟨k,rows,h1,h2⟩
 .exact .inl h
 .exact .inr ⟨k,rows,h1,h2.set a⟩
theorem Yw.keep {ar:List aL}{o:Nat}{v:V}{c:PV}(h:Yw ar o v c)(bx:List (Nat×List V))(mp:List (List (PV×PV)))(d:Nat):aY ⟨bx,ar,mp⟩ (d+1) v=some c:=by
 rcases h with⟨rfl,h⟩|⟨k,rows,rfl,h2⟩
 .rw[ya,if_pos h]
 .exact h2.keep bx mp d
def zb (ar:List aL)(o:Nat)(row:List V)(cs:List PV):Prop:=row.length=cs.length/\∀(i:Nat) v c,row[i]?=some v->cs[i]?=some c->Yw ar o v c
theorem zb.nil (ar:List aL)(o:Nat):zb ar o [] []:=⟨rfl,λi v c h=>by simp at h⟩
theorem zb.cons {ar:List aL}{o:Nat}{v:V}{c:PV}{row:List V}{cs:List PV}(h:Yw ar o v c)(g:zb ar o row cs):zb ar o (v::row) (c::cs):=by
 refine⟨by simp[g.1],λi w d h1 h2=>?_⟩;cases i with
 |zero=>
  simp at h1 h2;rw[<- h1,<- h2];exact h
 |succ i=>exact g.2 i w d (by simpa using h1) (by simpa using h2)
theorem zb.pure {ar:List aL}{o:Nat}{v:V}{c:PV}{row:List V}{cs:List PV}(h:v=.pv c)(hp:c.perm=true)(g:zb ar o row cs):zb ar o (v::row) (c::cs):=.cons (.inl ⟨h,hp⟩) g
theorem zb.push {ar:List aL}{o:Nat}{row:List V}{cs:List PV}(h:zb ar o row cs)(x:List aL):zb (ar++x) o row cs:=⟨h.1,λi v c h1 h2=>(h.2 i v c h1 h2).push x⟩
theorem zb.set {ar:List aL}{o:Nat}{row:List V}{cs:List PV}(h:zb ar o row cs)(a:aL):zb (ar.set o a) o row cs:=⟨h.1,λi v c h1 h2=>(h.2 i v c h1 h2).set a⟩
theorem zb.keep {ar:List aL}{o:Nat}(bx:List (Nat×List V))(mp:List (List (PV×PV)))(d:Nat):∀{row:List V}{cs:List PV},zb ar o row cs->ay (aY ⟨bx,ar,mp⟩ (d+1)) row=some cs
 |[],[],_=>rfl
 |[],_::_,h=>absurd h.1 (by simp)
 |_::_,[],h=>absurd h.1 (by simp)
 |v::row,c::cs,h=>by
  have h1:=(h.2 0 v c rfl rfl).keep bx mp d;have h2:=zb.keep bx mp d (row:=row) (cs:=cs) ⟨by simpa using h.1,λi w e hi he=>h.2 (i+1) w e (by simpa using hi) (by simpa using he)⟩;simp only[ay,h1,h2]
structure XZ (ar:List aL)(o:Nat)(rows:List (List V))(css:List (List PV)):Prop where
 len:rows.length=css.length
 row:∀(i:Nat) row cs,rows[i]?=some row->css[i]?=some cs->zb ar o row cs
theorem XZ.push {ar:List aL}{o:Nat}{rows:List (List V)}{css:List (List PV)}(h:XZ ar o rows css)(x:List aL):XZ (ar++x) o rows css:=⟨h.len,λi row cs h1 h2=>(h.row i row cs h1 h2).push x⟩
theorem XZ.set {ar:List aL}{o:Nat}{rows:List (List V)}{css:List (List PV)}(h:XZ ar o rows css)(a:aL):XZ (ar.set o a) o rows css:=⟨h.len,λi row cs h1 h2=>(h.row i row cs h1 h2).set a⟩
theorem XZ.snoc {ar:List aL}{o:Nat}{rows:List (List V)}{css:List (List PV)}{row:List V}{cs:List PV}(h:XZ ar o rows css)(hr:zb ar o row cs):XZ ar o (rows++[row]) (css++[cs]):=by
 refine⟨by simp[h.len],λi r u h1 h2=>?_⟩;rcases Wh i rows.length with hi|hi
 .rw[We hi]at h1;rw[We (by rw[<- h.len];exact hi)]at h2;exact h.row i r u h1 h2
 .rw[Wn hi]at h1;rw[Wn (by rw[<- h.len];exact hi)]at h2;rw[h.len]at h1;cases hj:i - css.length with
  |zero=>
   rw[hj]at h1 h2;cases h1;cases h2;exact hr
  |succ j=>
   rw[hj]at h1;simp at h1
def Zn (ar:List aL)(o ax k:Nat)(css:List (List PV)):Prop:=∃body,ar[o]?=some ⟨ax,k,body⟩/\XZ ar o (dX body) css
theorem Zn.push {ar:List aL}{o ax k:Nat}{css:List (List PV)}(h:Zn ar o ax k css)(x:List aL):Zn (ar++x) o ax k css:=by
 obtain⟨body,h1,h2⟩:=h;exact⟨body,by rw[We (V9.1 h1).1];exact h1,h2.push x⟩
theorem Zn.keep {ar:List aL}{o ax k:Nat}{css:List (List PV)}(h:Zn ar o ax k css)(bx:List (Nat×List V))(mp:List (List (PV×PV))):aY ⟨bx,ar,mp⟩ 4 (.own o ax 0 css.length)=some (.aq 0 css):=by
 obtain⟨body,h1,h2⟩:=h;rw[dS,jB,h1];simp only[Option.bind_some,if_true];have hk:=pP (f:=aY ⟨bx,ar,mp⟩ 3) (c:=id) h2.len (λi row t hi ht=>(h2.row i row t hi ht).keep bx mp 2);rw[afD]at hk;cases body with
 |inl R=>
  have hl:R.length=css.length:=by have:=h2.len;simpa [dX]using this
  simp only[az,bO,List.drop_zero];rw[<- hl,WV];congr 2;apply WW;intro i;rcases Wh i R.length with hi|hi
  .have e1:=Wb hi;have e2:=Wb (l:=css) (i:=i) (by omega);have:=(h2.row i (R[i].map V.pv) (css[i]'(by omega)) (by simp[dX,e1]) e2).keep bx mp 2;have:=sO this;rw[e1,e2,this]
  .rw[WS hi,WS (by omega)]
 |inr R=>
  have hl:R.length=css.length:=by have:=h2.len;simpa [dX]using this
  simp only[az,bO,List.drop_zero];rw[<- hl,WV];have hk':ay (ay (aY ⟨bx,ar,mp⟩ 3)) R=some css:=hk;rw[hk'];rfl
def qa (b:Nat)(ar:List aL)(V0:V)(k:Nat)(css:List (List PV)):Prop:=(V0=.tl []/\css=[])\/∃o ax,V0=.own o ax 0 css.length/\b<=o/\Zn ar o ax k css
theorem qa.push {b:Nat}{ar:List aL}{V0:V}{k:Nat}{css:List (List PV)}(h:qa b ar V0 k css)(x:List aL):qa b (ar++x) V0 k css:=by
 rcases h with h|⟨o,ax,h1,h2,h3⟩
 .exact .inl h
 .exact .inr ⟨o,ax,h1,h2,h3.push x⟩
theorem qa.keep {b:Nat}{ar:List aL}{V0:V}{k:Nat}{css:List (List PV)}(h:qa b ar V0 k css)(bx:List (Nat×List V))(mp:List (List (PV×PV))):aY ⟨bx,ar,mp⟩ 4 V0=some (.aq 0 css):=by
 rcases h with⟨rfl,rfl⟩|⟨o,ax,rfl,_,h⟩
 .rfl
 .exact h.keep bx mp
theorem qa.quiet {b:Nat}{ar:List aL}{V0:V}{k:Nat}{css:List (List PV)}(h:qa b ar V0 k css):V0.calm=true/\V0.cells=[V0]:=by
 rcases h with⟨rfl,rfl⟩|⟨o,ax,rfl,_⟩<;>exact⟨rfl,rfl⟩
theorem aeQ {n:Nat}{b:Sum (List (List PV)) (List (List V))}(h:aD b=n):az 0 n b=b:=by
 subst h;cases b<;>simp[az,aD]
theorem aeZ {b:Nat}{ar X:List aL}{V0 y:V}{k:Nat}{css:List (List PV)}{cs:List PV}{new:Sum (List (List PV)) (List (List V))}{rd:Option Nat}{row:List V}(hO:qa b ar V0 k css)(hb:b<=ar.length)(hm:css.length+1<=2147483648)(hk:cs.length=k)
  (hs:∀bx,aW ⟨bx,ar++X,[]⟩ y=some (new,rd))(hn:dX new=[row])(hrd:∀o,rd=some o->ar.length<=o)(hr:∀o,o<ar.length\/(ar++X).length<=o->zb (ar++X) o row cs):
  ∃V1 T ar',(∀bx,aK ⟨bx,ar++X,[]⟩ k V0 y=some (V1,T))/\(∀bx,T.apply ⟨bx,ar++X,[]⟩=⟨bx,ar',[]⟩)/\V1.cells=[V1]/\V1.calm=true/\ar'.take b=ar.take b/\b<=ar'.length/\qa b ar' V1 k (css++[cs]):=by
 have hrow:row.length=k:=by rw[(hr _ (.inr (Wj _))).1,hk]
 have h1:aD new=1:=by rw[<- im,hn];rfl
 have h2:aO k new=true:=ox (by rw[hn];intro r hr';rw[Xj]at hr';rw[hr'];exact hrow);rcases hO with⟨rfl,rfl⟩|⟨o,ax,rfl,ho,body,hb1,hb2⟩
 .have happ:∀bx,aK ⟨bx,ar++X,[]⟩ k (.tl []) y=some (.own (ar++X).length 0 0 1,{push:=[⟨0,k,aU (.inl []) new⟩],ra:=rd,base:=(ar++X).length}):=λbx=>by
   simp only[aK,hs,h2,h1,if_true];simp[aO,aN]
  refine⟨_,_,(ar++X)++[⟨0,k,aU (.inl []) new⟩],happ,λbx=>by simp[Tn.apply],rfl,rfl,?_,by simp;omega,.inr ⟨(ar++X).length,0,rfl,?_,aU (.inl []) new,by simp,?_⟩⟩
  .rw[WK,XT hb]
  .rw[Wz];omega
  .rw[l7,hn];have h3:XZ ((ar++X)++[⟨0,k,aU (.inl []) new⟩]) (ar++X).length (dX (.inl [])) []:=⟨rfl,λi r u h1 _=>by simp[dX]at h1⟩;exact h3.snoc ((hr _ (.inr (Wj _))).push _)
 .have hol:=(V9.1 hb1).1;have hb1':(ar++X)[o]?=some ⟨ax,k,body⟩:=by rw[We hol];exact hb1
  have hbl:aD body=css.length:=by rw[<- im];exact hb2.len
  have hrd':rd≠some o:=λe=>by have:=hrd o e;omega
  have happ:∀bx,aK ⟨bx,ar++X,[]⟩ k (.own o ax 0 css.length) y=some (.own o (ax+1) 0 (css.length+1),{ar:=some (o,⟨ax+1,k,aU body new⟩),ra:=rd}):=λbx=>by
   have h3:aB ⟨bx,ar++X,[]⟩ o ax=some ⟨ax,k,body⟩:=by rw[jB,hb1'];simp
   have h4:(⟨ax,k,body⟩:aL).size=css.length:=by rw[<- hbl];cases body<;>rfl
   simp only[aK,hs,h2,h1,h3,if_true,h4];rw[aeQ hbl];simp[aN,hm,hrd']
  refine⟨_,_,(ar++X).set o ⟨ax+1,k,aU body new⟩,happ,λbx=>by simp[Tn.apply],rfl,rfl,?_,by simp;omega,.inr ⟨o,ax+1,by simp,ho,aU body new,?_,?_⟩⟩
  .rw[List.take_set_of_le ho,XT hb]
  .rw[WU (by rw[Wz];omega)]
  .rw[l7,hn];exact(((hb2.push X).set _).snoc ((hr o (.inl hol)).set _))
theorem aew {b:Nat}{ar X0:List aL}{V0:V}{k:Nat}{css:List (List PV)}{cs:List PV}{row:List V}{n:Nat}(hO:qa b ar V0 k css)(hb:b<=ar.length)(hm:css.length+1<=2147483648)(hk:cs.length=k)(hl:(ar++X0).length=n)
  (hr:∀o,o<ar.length\/n+1<=o->zb (ar++X0++[⟨0,k,.inr [row]⟩]) o row cs):
  ∃V1 T ar',(∀bx,aK ⟨bx,ar++X0++[⟨0,k,.inr [row]⟩],[]⟩ k V0 (.own n 0 0 1)=some (V1,T))/\(∀bx,T.apply ⟨bx,ar++X0++[⟨0,k,.inr [row]⟩],[]⟩=⟨bx,ar',[]⟩)/\V1.cells=[V1]/\V1.calm=true/\ar'.take b=ar.take b/\b<=ar'.length/\qa b ar' V1 k (css++[cs]):=by
 rw[WK]at hr |-;refine aeZ (X:=X0++[⟨0,k,.inr [row]⟩]) (new:=.inr [row]) (rd:=some n) hO hb hm hk (λbx=>?_) rfl (λo ho=>?_) (λo ho=>hr o ?_)
 .have hg:(ar++(X0++[⟨0,k,.inr [row]⟩]))[n]?=some ⟨0,k,.inr [row]⟩:=by
   rw[<- WK,<- hl];simp
  simp[aW,aB,hg,az]
 .injection ho with ho;rw[<- ho,<- hl,Wz];omega
 .rcases ho with ho|ho
  .exact .inl ho
  .rw[<- WK,Wz,hl]at ho;exact .inr ho
def Yr (row:List V)(c:Nat)(news:List V):List V:=row.take c++news++row.drop (c+news.length)
def X6:V->Bool
 |.func _ _=>false
 |_=>true
theorem YU {v:V}{p:PV}(h:v.bS=some p)(hp:X6 v=true):v=.pv p:=by
 cases v<;>simp[V.bS,X6]at h hp;rw[h.2]
theorem Yf:∀{news:List V}{l:List PV},ay V.bS news=some l->(∀v∈news,X6 v=true)->news=l.map .pv
 |[],l,h,_=>by cases h;rfl
 |v::news,l,h,hp=>by
  rw[su]at h;cases hv:v.bS with
  |none=>simp[hv]at h
  |some p=>
   cases hm:ay V.bS news with
   |none=>simp[hv,hm]at h
   |some r=>
    simp[hv,hm]at h;rw[<- h,YU hv (hp v WH),Yf hm λw hw=>hp w (W3 _ hw)];rfl
theorem Yh {r c:Nat}{news:List V}{body:Sum (List (List PV)) (List (List V))}(hr:r<(dX body).length)(hp:∀v∈news,X6 v=true):dX (setBody r c news body)=(dX body).set r (Yr ((dX body).getD r []) c news):=by
 cases body with
 |inl x=>
  have hx:r<x.length:=by simpa [dX]using hr
  have hg:((x.map (·.map V.pv)).getD r [])=(x.getD r []).map .pv:=by
   simp[List.getD_eq_getElem?_getD,List.getElem?_eq_getElem hx]
  simp only[setBody,dX];cases hm:ay V.bS news with
  |none=>
   dsimp only;rw[hg];rfl
  |some l=>
   dsimp only;have:=Yf hm hp;subst this;rw[hg,List.map_set];congr 1;simp[Yr,List.map_take,List.map_drop]
 |inr x=>rfl
theorem YF (r:Nat)(body:Sum (List (List PV)) (List (List V))):nZ r body=(dX body)[r]?:=by
 cases body with
 |inl x=>simp[nZ,dX]
 |inr x=>rfl
theorem Y9 (a:aL):a.size=(dX a.body).length:=by
 obtain⟨v,k,b⟩:=a;cases b<;>simp[aL.size,dX]
theorem aaa {id r c ax k:Nat}{news:List V}{body:Sum (List (List PV)) (List (List V))}(hr:r<(dX body).length)(hc:c+news.length<=k)(h4:news.all V.calm=true)(hp:∀v∈news,X6 v=true):
  ∃body',eG id r c news ⟨ax,k,body⟩=some {ar:=some (id,⟨ax,k,body'⟩)}/\dX body'=(dX body).set r (Yr ((dX body).getD r []) c news):=by
 refine⟨_,?_,Yh hr hp⟩;have hs:r<(⟨ax,k,body⟩:aL).size:=by rw[Y9];exact hr
 unfold eG;rw[if_pos ⟨hs,hc,h4⟩]
end Go.Pv
