/-
 What the functions of the law give.
-/
import Derived.Test.YtpchfogcccagjaaGreatC6
set_option linter.unusedSimpArgs false
set_option linter.unusedVariables false
open List renaming mem_of_getElem? → Wa, getElem?_eq_some_iff → V9, mem_iff_getElem? → Wd, length_map → Wg, getElem?_map → Wf, mem_map → Wk, length_range → WI, getD_eq_getElem?_getD → Ws, getElem?_take → Wy, findIdx?_eq_some_iff_getElem → Ww, map_append → WC, length_take → W8, mem_range → WJ, take_add_one → WL, any_eq_false → WY, range_succ → Xq, getElem_mem → Xc, any_eq_true → Xm, map_take → abp, any_map → abr, find?_eq_none → Xn, find?_some → XH, length_filter_le → XW, length_pos_iff → abx, length_cons → abv, mem_of_find?_eq_some → afu
open Bool renaming eq_iff_iff → Xb
open Int renaming toNat_natCast → WX, emod_nonneg → XJ, emod_lt_of_pos → XR, le_refl → XS
namespace Go.Pv
def lG (i:Int)(m:gI):Bool:=decide (m.id=i)
theorem r487 (m:gI)(u:Nat)(i:Int):res A aA 487 [.agg m.c,.ro u [.int .i64 i]]=some [.bool (lG i m)]:=by
 refine aw a487 rfl rfl ?_;simp only[F487,LH];simp(disch:=omega)only[go_sem,gI.c];rfl
theorem r486 (t u:Nat)(i:Int)(l:List gI)(hl:l.length<=2^63 - 1):res A aA 486 [.aq t (msgs l),.func 487 [.ro u [.int .i64 i]]]=some [.int .i64 (bj (lG i) l)]:=by
 refine aw a486 rfl rfl ?_;simp only[F486,LG];simp(disch:=omega)only[go_sem];refine W.find l (lG i) (λk=>⟨[(0,.pv (.aq t (msgs l))),(1,.pv (.func 487 [.ro u [.int .i64 i]])),(7,.pv (.int .i64 l.length)),(8,.pv (.int .i64 k))],⟨[],[],[]⟩⟩) rfl (λk x hx hk hfd=>?_) (λhn=>?_)
 .have hfx:=r487 x u i;simp(disch:=omega)only[go_sem];refine Br.aJ (λh=>?_) (λh=>(h (by omega)).elim);unfold gI.c at hfx;simp(disch:=omega)only[go_sem,hx,gI.c,hfx];refine Br.of (λh2=>?_) (λh2=>?_)<;>simp(disch:=omega)only[go_sem]
  .rw[(hfd h2).bj]
  .exact bB.of h2 rfl
 .simp(disch:=omega)only[go_sem];rw[hn.bj]
def US (o:Option gI):gI:=o.getD ⟨0,⟨#[]⟩,0⟩
theorem r476 (x:eE)(i:Int)(hl:x.msgs.length<=2^63 - 1):res A aA 476 [.agg x.c,.int .i64 i]=some [.agg (US (x.msgs.find? (lG i))).c,.bool (x.msgs.any (lG i))]:=by
 refine aw a476 rfl rfl ?_;simp only[F476,LA];have h486:=λu=>r486 0 u i x.msgs hl;have e:x.msgs.map gI.c=msgs x.msgs:=rfl;simp only[eE.c,e];simp(disch:=omega)only[go_sem,h486];rcases ko (lG i) x.msgs with⟨f1,f2⟩|⟨k,m,f1,f2,f3⟩
 .have ha:x.msgs.any (lG i)=false:=by
   rw[WY];exact Xn.1 f1
  rw[f1,f2,ha];refine Br.aJ (λc=>?_) (λc=>absurd (by decide) c);simp(disch:=omega)only[go_sem];rfl
 .have ha:x.msgs.any (lG i)=true:=by
   rw[Xm];exact⟨m,afu f1,XH f1⟩
  rw[f1,f3,ha];refine Br.aJ (λc=>absurd c (by omega)) (λc=>?_);simp(disch:=omega)only[go_sem,f2,gI.c];rfl
theorem r483 (x:eE)(i:Int)(hl:x.msgs.length<=2^63 - 1):res A aA 483 [.agg x.c,.int .i64 i]=some [.agg (US (x.msgs.find? (lG i))).c,.bool (x.msgs.any (lG i))]:=by
 refine aw a483 rfl rfl ?_;simp only[F483,aaU];have e:x.msgs.map gI.c=msgs x.msgs:=rfl;simp only[eE.c,e];simp(disch:=omega)only[go_sem];refine W.find x.msgs (lG i) (λk=>⟨[(1,.pv (.int .i64 i)),(2,.ptr 2 0),(4,.ptr 4 0),(6,.pv (.int .i64 k))],⟨[(2,[.pv (.str x.name),.pv (.aq 0 (msgs x.msgs)),.pv (.int .i64 x.auto.aj),.pv (.int .i64 x.auto.start),.pv (.aq 0 (x.auto.af.map Edge.c))]),(4,[.pv (.int .i64 0),.pv (.str ⟨#[]⟩),.pv (.int .i64 0)])],[],[]⟩⟩) rfl (λk m hx hk hfd=>?_) (λhn=>?_)
 .simp(disch:=omega)only[go_sem];refine Br.aJ (λc=>?_) (λc=>(c (by omega)).elim);simp(disch:=omega)only[go_sem,hx,gI.c];have hp:decide (m.id=i)=lG i m:=rfl;rw[hp];refine Br.of (λg=>?_) (λg=>?_)<;>simp(disch:=omega)only[go_sem,hx,gI.c]
  .rw[(hfd g).find,(hfd g).any];rfl
  .exact bB.of g rfl
 .simp(disch:=omega)only[go_sem];rw[hn.find,hn.any];rfl
def vh (l:List gI)(k:Nat):Int:=if k=0 then 0 else ((l[k - 1]?).map (·.id)).getD 0
def B2 (l:List gI)(k:Nat)(m:gI):Bool:=decide (m.id<=vh l k)||(decide (1000<m.id)||(!isName m.name||cY ((l.take k).map (·.name)) m.name))
def vi (l:List gI)(k:Nat):Bool:=match l[k]? with
 |some m=>B2 l k m
 |none=>false
def lH (x:eE):Bool:=!((List.range x.msgs.length).any (vi x.msgs))&&isName x.name
theorem AT {l:List gI}{k:Nat}{m:gI}(h:l[k]?=some m):vh l (k+1)=m.id:=by
 unfold vh;rw[if_neg (by omega),Nat.add_sub_cancel,h];rfl
set_option maxHeartbeats 2000000 in
theorem r482 (x:eE)(hl:x.msgs.length<=2^63 - 1)(hn:bC x.name)(hs:∀m∈x.msgs,bC m.name):res A aA 482 [.agg x.c]=some [.bool (lH x)]:=by
 have h310n:=r310 x.name hn;refine aw a482 rfl rfl ?_;simp only[F482,aaT];have e:x.msgs.map gI.c=msgs x.msgs:=rfl;simp only[eE.c,e];simp(disch:=omega)only[go_sem];refine W.find (List.range x.msgs.length) (vi x.msgs) (λk=>⟨[(1,.ptr 1 0),(3,.pv (.int .i64 (vh x.msgs k))),(4,.pv (.int .i64 k))],⟨[(1,[.pv (.str x.name),.pv (.aq 0 (msgs x.msgs)),.pv (.int .i64 x.auto.aj),.pv (.int .i64 x.auto.start),.pv (.aq 0 (x.auto.af.map Edge.c))])],[],[]⟩⟩) rfl (λk k' hx hk hfd=>?_) (λhnw=>?_)
 .obtain⟨rfl,hk⟩:=ey hx;obtain⟨m,hm⟩:=get_some hk;have hb:vi x.msgs k'=B2 x.msgs k' m:=by unfold vi;rw[hm]
  have h310:=r310 m.name (hs m (Wa hm));have done:vi x.msgs k'=true->(some [PV.bool false]:Option (List PV))=some [.bool (lH x)]:=λh=>by
   unfold lH;rw[(hfd h).any];rfl
  have hln:=AT hm;rw[hb]at done |-;unfold B2 at done |-;generalize vh x.msgs k'=la at *;simp(disch:=omega)only[go_sem];refine Br.aJ (λc=>?_) (λc=>(c (by omega)).elim);simp(disch:=omega)only[go_sem,hm,gI.c,h310];refine Br.aJ (λc1=>?_) (λc1=>?_)<;>simp(disch:=omega)only[go_sem,c1,h310]
  .exact done (by simp[c1])
  refine Br.aJ (λc2=>?_) (λc2=>?_)<;>simp(disch:=omega)only[go_sem,c2,h310]
  .exact done (by simp[c2])
  cases hi:isName m.name with
  |false=>
   simp(disch:=omega)only[go_sem];exact done (by simp[hi])
  |true=>
   simp(disch:=omega)only[go_sem];rw[hi]at done;refine W.find (x.msgs.take k') (λq=>decide (q.name=m.name)) (λj=>⟨[(1,.ptr 1 0),(4,.pv (.int .i64 k')),(5,.ptr 5 0),(6,.pv (.int .i64 j))],⟨[(1,[.pv (.str x.name),.pv (.aq 0 (msgs x.msgs)),.pv (.int .i64 x.auto.aj),.pv (.int .i64 x.auto.start),.pv (.aq 0 (x.auto.af.map Edge.c))]),(5,[.pv (.int .i64 m.id),.pv (.str m.name),.pv (.int .i64 m.ty)])],[],[]⟩⟩) rfl (λj q hj hjl hfd2=>?_) (λhn2=>?_)
   .have hjl':j<k'/\j<x.msgs.length:=by rw[W8]at hjl;omega
    have hj':x.msgs[j]?=some q:=by
     rw[Wy,if_pos hjl'.1]at hj;exact hj
    simp(disch:=omega)only[go_sem];refine Br.aJ (λc=>?_) (λc=>(c (by omega)).elim);simp(disch:=omega)only[go_sem,hj',gI.c];refine Br.aJ (λc3=>?_) (λc3=>?_)<;>simp(disch:=omega)only[go_sem,c3]
    .refine done ?_;have:cY ((x.msgs.take k').map (·.name)) m.name=true:=by
      unfold cY;rw[abr];exact(hfd2 (by simp[c3])).any
     rw[this];simp
    .exact bB.of (by simp[c3]) rfl
   .have hlx:(x.msgs.take k').length=k':=by rw[W8];omega
    rw[hlx];have hh:cY ((x.msgs.take k').map (·.name)) m.name=false:=by
     unfold cY;rw[abr];exact hn2.any
    simp(disch:=omega)only[go_sem];exact bB.of (by rw[hh];simp[c1,c2]) (by rw[hln];rfl)
 .rw[WI];have hv:lH x=isName x.name:=by
   unfold lH;rw[hnw.any];simp
  rw[hv];simp(disch:=omega)only[go_sem,h310n]
def qC (l:List gI)(k:Nat):List ByteArray:=((l.take k).map (·.name)).foldl pK []
theorem De (l:List gI)(k:Nat)(x:ByteArray):cY (qC l k) x=cY ((l.take k).map (·.name)) x:=by
 rw[Xb,eI,eI,qC,pN];simp
theorem AU {l:List gI}{k:Nat}{t:gI}(h:l[k]?=some t):pK (qC l k) t.name=qC l (k+1):=by
 unfold qC;rw[WL,h,WC,List.foldl_append];rfl
def te (n:Nat)(x:eE):Int:=
 if 16<x.msgs.length then 3
 else if lH x=false then 1
 else if x.msgs.any (λm=>dP n m.ty)=true then 4
 else if x.auto.err≠0 then x.auto.err
 else if x.auto.af.any (λe=>!x.msgs.any (lG e.label))=true then 4
 else if (x.auto.order.length:Int)≠x.auto.aj then 1 else 0
theorem Fx {a:aP}(h:a.err=0):(a.order.length:Int)<=a.aj:=by
 have hg:=aP.iV.1 h;have:=hg.lE hg.st;have h2:=hg.st;unfold aP.order;omega
set_option maxHeartbeats 4000000 in
theorem r472 (u:Nat)(T:List (List PV))(x:eE)(hT:T.length<=2^63 - 1)(hl:x.msgs.length<=2^63 - 1)(hn:bC x.name)(hs:∀m∈x.msgs,bC m.name)(he:x.auto.af.length<=2000000000):res A aA 472 [.agg [.aq u T],.agg x.c]=some [.int .i64 (te T.length x)]:=by
 have h482:=r482 x hl hn hs;have h483:=λi=>r483 x i hl;have h33:=r33 0 x.auto he;refine aw a472 rfl rfl ?_;simp only[F472,aaP];have e:x.msgs.map gI.c=msgs x.msgs:=rfl;simp only[eE.c,e]at h482 h483 |-;unfold te;simp(disch:=omega)only[go_sem];refine Br.aJ (λc1=>?_) (λc1=>?_)<;>simp(disch:=omega)only[go_sem,c1,h482]
 .rw[if_pos (by omega)]
 rw[if_neg (by omega)];cases hnm:lH x with
 |false=>simp(disch:=omega)only[go_sem,if_true]
 |true=>
  simp(disch:=omega)only[go_sem];rw[if_neg (by decide)];refine W.find x.msgs (λm=>dP T.length m.ty) (λk=>⟨[(2,.ptr 2 0),(3,.ptr 3 0),(5,.pv (.int .i64 k))],⟨[(2,[.pv (.aq u T)]),(3,[.pv (.str x.name),.pv (.aq 0 (msgs x.msgs)),.pv (.int .i64 x.auto.aj),.pv (.int .i64 x.auto.start),.pv (.aq 0 (x.auto.af.map Edge.c))])],[],[]⟩⟩) rfl (λk m hx hk hfd=>?_) (λhnw=>?_)
  .have done:dP T.length m.ty=true->x.msgs.any (λm=>dP T.length m.ty)=true:=λg=>(hfd g).any;unfold dP at done |-;simp(disch:=omega)only[go_sem];refine Br.aJ (λc=>?_) (λc=>(c (by omega)).elim);simp(disch:=omega)only[go_sem,hx,gI.c];refine Br.aJ (λc4=>?_) (λc4=>?_)<;>simp(disch:=omega)only[go_sem,c4,hx,gI.c]
   .rw[if_pos (done (by simp[c4]))]
   refine Br.aJ (λc5=>?_) (λc5=>?_)<;>simp(disch:=omega)only[go_sem,c5]
   .rw[if_pos (done (by simp[c5]))]
   .exact bB.of (by simp[c4,c5]) rfl
  .rw[hnw.any,if_neg (by decide)];by_cases h0:x.auto.err=0
   .rw[if_pos h0]at h33;rw[if_neg (by simp[h0])];simp(disch:=omega)only[go_sem,h33];refine W.find x.auto.af (λe=>!x.msgs.any (lG e.label)) (λk=>⟨[(3,.ptr 3 0),(6,.ptr 6 0),(8,.pv (.int .i64 k))],⟨[(3,[.pv (.str x.name),.pv (.aq 0 (msgs x.msgs)),.pv (.int .i64 x.auto.aj),.pv (.int .i64 x.auto.start),.pv (.aq 0 (x.auto.af.map Edge.c))]),(6,[.pv (.int .i64 x.auto.order.length),.pv (.int .i64 0),.pv (.aq 0 (bF (mA Edge.lt (kept x.auto.order x.auto.af))))])],[],[]⟩⟩) rfl (λk d hx hk hfd=>?_) (λhnw=>?_)
    .have h483:=h483 d.label;have done:(!x.msgs.any (lG d.label))=true->x.auto.af.any (λe=>!x.msgs.any (lG e.label))=true:=λg=>(hfd g).any;generalize x.msgs.any (lG d.label)=b at h483 done |-;generalize x.msgs.find? (lG d.label)=o at h483;simp only[gI.c]at h483;simp(disch:=omega)only[go_sem];refine Br.aJ (λc=>?_) (λc=>(c (by omega)).elim);simp(disch:=omega)only[go_sem,hx,h483,gI.c];cases b
     .simp(disch:=omega)only[go_sem];rw[if_pos (done rfl)]
     .simp(disch:=omega)only[go_sem];exact bB.of rfl rfl
    .rw[hnw.any,if_neg (by decide)];simp(disch:=omega)only[go_sem];refine Br.aJ (λc=>?_) (λc=>?_)<;>simp(disch:=omega)only[go_sem]
     .rw[if_neg (by simp[c])]
     .rw[if_pos c]
   .rw[if_neg h0]at h33;rw[if_pos h0];simp(disch:=omega)only[go_sem,h33];refine Br.aJ (λc=>absurd c h0) (λc=>?_);simp(disch:=omega)only[go_sem]
set_option maxHeartbeats 4000000 in
theorem r466 (u:Nat)(T:List (List PV))(x:eE)(hT:T.length<=2^63 - 1)(hl:x.msgs.length<=2^63 - 1)(hn:bC x.name)(hs:∀m∈x.msgs,bC m.name)(he:x.auto.af.length<=2000000000):res A aA 466 [.agg [.aq u T],.agg x.c]=some [.int .i64 (te T.length x)]:=by
 have h306n:=r306 x.name hn;have h476:=λi=>r476 x i hl;have h32:=r32 0 x.auto he;refine aw a466 rfl rfl ?_;simp only[F466,Lu];have e:x.msgs.map gI.c=msgs x.msgs:=rfl;simp only[eE.c,e]at h476 |-;unfold te;simp(disch:=omega)only[go_sem];refine Br.aJ (λc1=>?_) (λc1=>?_)<;>simp(disch:=omega)only[go_sem,c1]
 .rw[if_pos (by omega)]
 rw[if_neg (by omega)];refine W.find (List.range x.msgs.length) (vi x.msgs) (λk=>⟨[(2,.ptr 2 0),(3,.ptr 3 0),(5,.map 0),(6,.pv (.int .i64 (vh x.msgs k))),(23,.pv (.aq 0 (msgs x.msgs))),(24,.pv (.int .i64 x.msgs.length)),(25,.pv (.int .i64 k))],⟨[(2,[.pv (.aq u T)]),(3,[.pv (.str x.name),.pv (.aq 0 (msgs x.msgs)),.pv (.int .i64 x.auto.aj),.pv (.int .i64 x.auto.start),.pv (.aq 0 (x.auto.af.map Edge.c))])],[],[iT (qC x.msgs k)]⟩⟩) rfl (λk k' hx hk hfd=>?_) (λhnw=>?_)
 .obtain⟨rfl,hk⟩:=ey hx;obtain⟨m,hm⟩:=get_some hk;have hb:vi x.msgs k'=B2 x.msgs k' m:=by unfold vi;rw[hm]
  have h306:=r306 m.name (hs m (Wa hm));have done:vi x.msgs k'=true->lH x=false:=λh=>by
   unfold lH;rw[(hfd h).any];rfl
  have hln:=AT hm;have hsn:=AU hm;rw[hb]at done |-;unfold B2 at done |-;rw[<- De]at done |-;generalize vh x.msgs k'=la at *;generalize qC x.msgs k'=sn at *;simp(disch:=omega)only[go_sem];refine Br.aJ (λc=>?_) (λc=>(c (by omega)).elim);simp(disch:=omega)only[go_sem,hm,gI.c,h306];refine Br.aJ (λc1=>?_) (λc1=>?_)<;>simp(disch:=omega)only[go_sem,c1,h306]
  .rw[if_pos (done (by simp[c1]))]
  refine Br.aJ (λc2=>?_) (λc2=>?_)<;>simp(disch:=omega)only[go_sem,c2,h306]
  .rw[if_pos (done (by simp[c2]))]
  cases hi:isName m.name with
  |false=>
   simp(disch:=omega)only[go_sem];rw[if_pos (done (by simp[hi]))]
  |true=>
   rw[hi]at done;simp(disch:=omega)only[go_sem];cases hh:cY sn m.name with
   |true=>
    rw[hh]at done;simp(disch:=omega)only[go_sem];rw[if_pos (done (by simp))]
   |false=>
    simp(disch:=omega)only[go_sem];exact bB.of (by simp[c1,c2]) (by rw[hln,<- hsn];rfl)
 .rw[WI];have hv:lH x=isName x.name:=by
   unfold lH;rw[hnw.any];simp
  rw[hv];simp(disch:=omega)only[go_sem,h306n];generalize qC x.msgs x.msgs.length=sn;cases hnm:isName x.name with
  |false=>simp(disch:=omega)only[go_sem,if_true]
  |true=>
  simp(disch:=omega)only[go_sem];rw[if_neg (by decide)];refine W.find x.msgs (λm=>dP T.length m.ty) (λk=>⟨[(2,.ptr 2 0),(3,.ptr 3 0),(61,.pv (.aq 0 (msgs x.msgs))),(62,.pv (.int .i64 x.msgs.length)),(63,.pv (.int .i64 k))],⟨[(2,[.pv (.aq u T)]),(3,[.pv (.str x.name),.pv (.aq 0 (msgs x.msgs)),.pv (.int .i64 x.auto.aj),.pv (.int .i64 x.auto.start),.pv (.aq 0 (x.auto.af.map Edge.c))])],[],[iT sn]⟩⟩) rfl (λk m hx hk hfd=>?_) (λhnw=>?_)
  .have done:dP T.length m.ty=true->x.msgs.any (λm=>dP T.length m.ty)=true:=λg=>(hfd g).any;unfold dP at done |-;simp(disch:=omega)only[go_sem];refine Br.aJ (λc=>?_) (λc=>(c (by omega)).elim);simp(disch:=omega)only[go_sem,hx,gI.c];refine Br.aJ (λc4=>?_) (λc4=>?_)<;>simp(disch:=omega)only[go_sem,c4,hx,gI.c]
   .rw[if_pos (done (by simp[c4]))]
   refine Br.aJ (λc5=>?_) (λc5=>?_)<;>simp(disch:=omega)only[go_sem,c5]
   .rw[if_pos (done (by simp[c5]))]
   .exact bB.of (by simp[c4,c5]) rfl
  .rw[hnw.any,if_neg (by decide)];by_cases h0:x.auto.err=0
   .have hle:=Fx h0;have ho:x.auto.trim.aj=x.auto.order.length:=rfl;rw[if_pos h0,ho]at h32;rw[if_neg (by simp[h0])];simp(disch:=omega)only[go_sem,h32,if_pos h0,ho];refine W.find x.auto.af (λe=>!x.msgs.any (lG e.label)) (λk=>⟨[(3,.ptr 3 0),(11,.ptr 11 0),(90,.pv (.aq 0 (x.auto.af.map Edge.c))),(91,.pv (.int .i64 x.auto.af.length)),(92,.pv (.int .i64 k))],⟨[(3,[.pv (.str x.name),.pv (.aq 0 (msgs x.msgs)),.pv (.int .i64 x.auto.aj),.pv (.int .i64 x.auto.start),.pv (.aq 0 (x.auto.af.map Edge.c))]),(11,[.pv (.int .i64 x.auto.order.length),.pv (.int .i64 0),.pv (.aq 0 (bF x.auto.trim.af))])],[],[iT sn]⟩⟩) rfl (λk d hx hk hfd=>?_) (λhnw=>?_)
    .have h476:=h476 d.label;have done:(!x.msgs.any (lG d.label))=true->x.auto.af.any (λe=>!x.msgs.any (lG e.label))=true:=λg=>(hfd g).any;generalize x.msgs.any (lG d.label)=b at h476 done |-;generalize x.msgs.find? (lG d.label)=o at h476;simp only[gI.c]at h476;simp(disch:=omega)only[go_sem];refine Br.aJ (λc=>?_) (λc=>(c (by omega)).elim);simp(disch:=omega)only[go_sem,hx,h476,gI.c];cases b
     .simp(disch:=omega)only[go_sem];rw[if_pos (done rfl)]
     .simp(disch:=omega)only[go_sem];exact bB.of rfl rfl
    .rw[hnw.any,if_neg (by decide)];simp(disch:=omega)only[go_sem];refine Br.aJ (λc=>?_) (λc=>?_)<;>simp(disch:=omega)only[go_sem]
     .rw[if_pos (by omega)]
     .rw[if_neg (by omega)]
   .rw[if_neg h0]at h32;rw[if_pos h0];simp(disch:=omega)only[go_sem,h32,if_neg h0];refine Br.aJ (λc=>absurd c h0) (λc=>?_);simp(disch:=omega)only[go_sem]
theorem r463 (u:Nat)(T:List aH)(x:eE)(hT:T.length<=2147483648)(ho:∀t∈T,t.ok)(hsh:∀t∈T,t.held)(hl:x.msgs.length<=2^63 - 1)(hn:bC x.name)(hs:∀m∈x.msgs,bC m.name)(he:x.auto.af.length<=2000000000):res A aA 463 [.agg [.aq u (T.map aH.c)],.agg x.c]=some [.int .i64 (if cS T≠0 then cS T else te T.length x)]:=by
 have h268:=r268 u T hT ho hsh;have h472:=r472 u (T.map aH.c) x (by rw[Wg];omega) hl hn hs he;rw[Wg]at h472;refine aw a463 rfl rfl ?_;simp only[F463,aaL];have e:x.msgs.map gI.c=msgs x.msgs:=rfl;simp only[eE.c,e]at h472 |-;simp(disch:=omega)only[go_sem,h268];refine Br.aJ (λc=>?_) (λc=>?_)<;>simp(disch:=omega)only[go_sem,h472]
 .rw[if_neg (by simp[c])]
 .rw[if_pos c]
theorem r444 (u:Nat)(T:List aH)(x:eE)(hT:T.length<=2147483648)(ho:∀t∈T,t.ok)(hsh:∀t∈T,t.held)(hl:x.msgs.length<=2^63 - 1)(hn:bC x.name)(hs:∀m∈x.msgs,bC m.name)(he:x.auto.af.length<=2000000000):res A aA 444 [.agg [.aq u (T.map aH.c)],.agg x.c]=some [.int .i64 (if cS T≠0 then cS T else te T.length x)]:=by
 have h267:=r267 u T hT ho hsh;have h466:=r466 u (T.map aH.c) x (by rw[Wg];omega) hl hn hs he;rw[Wg]at h466;refine aw a444 rfl rfl ?_;simp only[F444,Li];have e:x.msgs.map gI.c=msgs x.msgs:=rfl;simp only[eE.c,e]at h466 |-;simp(disch:=omega)only[go_sem,h267];refine Br.aJ (λc=>?_) (λc=>?_)<;>simp(disch:=omega)only[go_sem,h466]
 .rw[if_neg (by simp[c])]
 .rw[if_pos c]
theorem r475 (t:Nat)(l:List ByteArray)(x:ByteArray)(hl:l.length<=2^63 - 1):res A aA 475 [.aq t (strs l),.str x]=some [.int .i64 (bj (λs=>decide (s=x)) l)]:=by
 refine aw a475 rfl rfl ?_;simp only[F475,Lz];simp(disch:=omega)only[go_sem];refine W.find l (λs=>decide (s=x)) (λk=>⟨[(0,.pv (.aq t (strs l))),(1,.pv (.str x)),(7,.pv (.int .i64 l.length)),(8,.pv (.int .i64 k))],⟨[],[],[]⟩⟩) rfl (λk s hx hk hfd=>?_) (λhn=>?_)
 .simp(disch:=omega)only[go_sem];refine Br.aJ (λh=>?_) (λh=>(h (by omega)).elim);simp(disch:=omega)only[go_sem,hx];have e:decide (x=s)=decide (s=x):=decide_eq_decide.2 ⟨λh=>h.symm,λh=>h.symm⟩;rw[e];refine Br.of (λh2=>?_) (λh2=>?_)<;>simp(disch:=omega)only[go_sem]
  .rw[(hfd h2).bj]
  .exact bB.of h2 rfl
 .simp(disch:=omega)only[go_sem];rw[hn.bj]
theorem r465 (t:Nat)(l:List ByteArray)(x:ByteArray)(hl:l.length<=2^63 - 1):res A aA 465 [.aq t (strs l),.str x]=some [.bool (cY l x)]:=by
 refine aw a465 rfl rfl ?_;simp only[F465,Lt];have h475:=r475 t l x hl;simp(disch:=omega)only[go_sem,h475];have e:decide (0<=bj (λs=>decide (s=x)) l)=cY l x:=by
  unfold bj cY;cases h:l.findIdx? (λs=>decide (s=x))with
  |none=>
   rw[List.any_eq_false.2 λy hy=>by simpa using List.findIdx?_eq_none_iff.1 h y hy];rfl
  |some k=>
   obtain⟨hk,h2,_⟩:=Ww.1 h;rw[Xm.2 ⟨_,Xc hk,h2⟩];simp
 rw[e]
theorem B3 (nm:ByteArray)(l:List ByteArray)(hn:bC nm)(hl:l.length<=1000)(Q:Ex->St->Prop)
  (hQ:∀env,if isName nm=false then Q .ret ⟨(4,.pv (.int .i64 1))::env,⟨[(200000,[dh 0 (strs l)])],cK 1 (strs l),[]⟩⟩ else if cY l nm=true then Q .ret ⟨(4,.pv (.int .i64 5))::env,⟨[(200000,[dh 0 (strs l)])],cK 1 (strs l),[]⟩⟩ else Q .ret ⟨(4,.pv (.int .i64 0))::env,⟨[(200000,[dh 0 (strs (l++[nm]))])],cK 1 (strs (l++[nm])),[]⟩⟩):
  W A aA F441.body ⟨[(0,.ptr 200000 0),(1,.pv (.str nm))],⟨[(200000,[dh 0 (strs l)])],cK 1 (strs l),[]⟩⟩ Q:=by
 have h306:=r306 nm hn;have h465:=λt=>r465 t l nm (by omega);have hsl:(strs l).length<=1000:=by rw[fq];exact hl
 have hg:=λbx mp=>BF bx mp 1 (strs l) [.str nm] rfl (by omega);simp only[F441,Ho];simp(disch:=omega)only[go_sem,h306];cases hi:isName nm with
 |false=>
  rw[hi]at hQ;simp only[if_true]at hQ;simp(disch:=omega)only[go_sem];exact hQ _
 |true=>
  rw[hi]at hQ;rw[<- pL]at hQ;simp only[Bool.true_eq_false,if_false]at hQ;simp(disch:=omega)only[go_sem,h465];cases hh:cY l nm with
  |true=>
   rw[hh]at hQ;simp only[if_true]at hQ;simp(disch:=omega)only[go_sem];exact hQ []
  |false=>
   rw[hh]at hQ;simp only[Bool.false_eq_true,if_false]at hQ;simp(disch:=omega)only[go_sem,hg];exact hQ []
theorem Fy (a:aL)(nm:ByteArray)(l:List ByteArray)(hn:bC nm)(hl:l.length<=1000)(Q:Ex->St->Prop)
  (hQ:∀env,if isName nm=false then Q .ret ⟨(4,.pv (.int .i64 1))::env,⟨[(200000,[dh 1 (strs l)])],a::cK 1 (strs l),[]⟩⟩ else if cY l nm=true then Q .ret ⟨(4,.pv (.int .i64 5))::env,⟨[(200000,[dh 1 (strs l)])],a::cK 1 (strs l),[]⟩⟩ else Q .ret ⟨(4,.pv (.int .i64 0))::env,⟨[(200000,[dh 1 (strs (l++[nm]))])],a::cK 1 (strs (l++[nm])),[]⟩⟩):
  W A aA F441.body ⟨[(0,.ptr 200000 0),(1,.pv (.str nm))],⟨[(200000,[dh 1 (strs l)])],a::cK 1 (strs l),[]⟩⟩ Q:=by
 have h306:=r306 nm hn;have h465:=λt=>r465 t l nm (by omega);have hsl:(strs l).length<=1000:=by rw[fq];exact hl
 have hg:=λbx mp=>RD bx mp a 1 (strs l) [.str nm] rfl (by omega);simp only[F441,Ho];simp(disch:=omega)only[go_sem,h306];cases hi:isName nm with
 |false=>
  rw[hi]at hQ;simp only[if_true]at hQ;simp(disch:=omega)only[go_sem];exact hQ _
 |true=>
  rw[hi]at hQ;rw[<- pL]at hQ;simp only[Bool.true_eq_false,if_false]at hQ;simp(disch:=omega)only[go_sem,h465];cases hh:cY l nm with
  |true=>
   rw[hh]at hQ;simp only[if_true]at hQ;simp(disch:=omega)only[go_sem];exact hQ []
  |false=>
   rw[hh]at hQ;simp only[Bool.false_eq_true,if_false]at hQ;simp(disch:=omega)only[go_sem,hg];exact hQ []
def B4 (v:V):Prop:=v=.tl []\/∃a b c d,v=.own a b c d
theorem eL (n:Nat)(rows:List (List PV)):B4 (dh n rows):=by
 cases rows with
 |nil=>exact .inl rfl
 |cons x r=>exact .inr ⟨_,_,_,_,rfl⟩
theorem hZ {s:Nat}{v:V}{ar:List aL}{mp:List (List (PV×PV))}{env:List (Nat×V)}{p:PV}{K:V->Tn->Prop}(hv:B4 v)(hp:∃n,p=.int .i64 n)(h:K (.pv p) {all:=some ([(s,[v])],ar,mp)}):Cz [.tmp 4] [s] K .mk .ret ⟨(4,.pv p)::env,⟨[(200000,[v])],ar,mp⟩⟩:=by
 obtain⟨n,rfl⟩:=hp;rcases hv with rfl|⟨_,_,_,_,rfl⟩<;>exact⟨_,rfl,_,rfl,_,rfl,h⟩
theorem call5 {v:V}{ar:List aL}{nm:ByteArray}{a1 a2 a3 a4 a5 b1 b2 b3:PV}{K:V->Tn->Prop}(hv:B4 v)(h:W A aA F441.body ⟨[(0,.ptr 200000 0),(1,.pv (.str nm))],⟨[(200000,[v])],ar,[]⟩⟩ (Cz [.tmp 4] [5] K)):
  IW A aA 441 [.ptr 5 0,.pv (.str nm)] ⟨[(1,[.pv a1,.pv a2,.pv a3,.pv a4,.pv a5]),(5,[v]),(6,[.tl []]),(8,[.pv b1,.pv b2,.pv b3])],ar,[]⟩ K:=by
 rw[IA a441];rcases hv with rfl|⟨_,_,_,_,rfl⟩<;>exact⟨rfl,_,rfl,_,rfl,h⟩
theorem call6 {v:V}{ar:List aL}{nm:ByteArray}{a1 a2 a3 a4 a5 b1 b2:PV}{K:V->Tn->Prop}(hv:B4 v)(h:W A aA F441.body ⟨[(0,.ptr 200000 0),(1,.pv (.str nm))],⟨[(200000,[v])],ar,[]⟩⟩ (Cz [.tmp 4] [6] K)):
  IW A aA 441 [.ptr 6 0,.pv (.str nm)] ⟨[(1,[.pv a1,.pv a2,.pv a3,.pv a4,.pv a5]),(6,[v]),(14,[.pv b1,.pv b2])],ar,[]⟩ K:=by
 rw[IA a441];rcases hv with rfl|⟨_,_,_,_,rfl⟩<;>exact⟨rfl,_,rfl,_,rfl,h⟩
def pW {α:Type}(f:Nat->α->Int)(l:List α)(k:Nat):Int:=match l[k]? with
 |some x=>f k x
 |none=>0
def dV {α:Type}(f:Nat->α->Int)(l:List α):Int:=match (List.range l.length).find? (λk=>decide (pW f l k≠0))with
 |some k=>pW f l k
 |none=>0
theorem kr {α:Type}{f:Nat->α->Int}{l:List α}{i k:Nat}{x:α}(hx:l[k]?=some x)(h:Found (List.range l.length) (λk=>decide (pW f l k≠0)) i k):dV f l=f k x:=by
 unfold dV;rw[h.find];simp only[pW,hx]
theorem ku {α:Type}{f:Nat->α->Int}{l:List α}(h:hY (List.range l.length) (λk=>decide (pW f l k≠0))):dV f l=0:=by
 unfold dV;rw[h.find]
theorem gp {α:Type}{f:Nat->α->Int}{l:List α}{k:Nat}{x:α}(hx:l[k]?=some x):pW f l k=f k x:=by
 simp only[pW,hx]
def qS (n:Nat)(l:List gX)(k:Nat)(c:gX):Int:=if isName c.name=false then 1 else if cY ((l.map (·.name)).take k) c.name=true then 5 else if (dP n c.ud||dP n c.rep)=true then 4 else 0
def pX (n:Nat)(l:List hC)(k:Nat)(c:hC):Int:=if isName c.name=false then 1 else if cY ((l.map (·.name)).take k) c.name=true then 5 else if dP n c.ty=true then 4 else 0
def pY (n:Nat)(l:List eE)(k:Nat)(w:eE):Int:=if cY ((l.map (·.name)).take k) w.name=true then 5 else te n w
theorem r462 (u:Nat)(T:List (List PV))(t:Int)(hl:T.length<=2^63 - 1):res A aA 462 [.agg [.aq u T],.int .i64 t]=some [.bool (!dP T.length t)]:=by
 refine aw a462 rfl rfl ?_;simp only[F462,aaK];unfold dP;simp(disch:=omega)only[go_sem];by_cases c:0<=t
 .have e:decide (t<0)=false:=decide_eq_false (by omega);have e3:decide (0<=t)=true:=decide_eq_true c;have e2:(!decide ((T.length:Int)<=t))=decide (t<(T.length:Int)):=by
   rw[Xb];simp
  simp(disch:=omega)only[go_sem,e,e3];rw[e2]
 .have e:decide (t<0)=true:=decide_eq_true (by omega);have e3:decide (0<=t)=false:=decide_eq_false c;simp(disch:=omega)only[go_sem,e,e3]
structure iX (v:ij):Prop where
 nm:bC v.name
 tl:v.types.length<=2147483648
 to:∀t∈v.types,t.ok
 ts:∀t∈v.types,t.held
 cl:v.calls.length<=2^63 - 1
 cs:∀c∈v.calls,bC c.name
 sl:v.aG.length<=2^63 - 1
 ss:∀w∈v.aG,bC w.name/\w.msgs.length<=2^63 - 1/\(∀m∈w.msgs,bC m.name)/\w.auto.af.length<=2000000000
 pl:v.aT.length<=2^63 - 1
 ps:∀c∈v.aT,bC c.name
set_option maxHeartbeats 2000000 in
theorem r436 (t1 t2 t3 t4:Nat)(v:ij)(hv:iX v):res A aA 436 [.agg (lB t1 t2 t3 t4 v)]=some [.int .i64 (dV (qS v.types.length v.calls) v.calls)]:=by
 have hcl:=hv.cl;have htl:=hv.tl;refine aw a436 rfl rfl ?_;simp only[F436,aaE,lB];simp(disch:=omega)only[go_sem];obtain⟨G,hG⟩:∃G,dV (qS v.types.length v.calls) v.calls=G:=⟨_,rfl⟩;rw[hG];refine W.find (List.range v.calls.length) (λk=>decide (pW (qS v.types.length v.calls) v.calls k≠0)) (λk=>⟨[(1,.ptr 1 0),(3,.pv (.int .i64 k))],⟨[(1,[.pv (.str v.name),.pv (.aq t1 (v.types.map aH.c)),.pv (.aq t2 (ch v.calls)),.pv (.aq t3 (aG v.aG)),.pv (.aq t4 (df v.aT))])],[],[]⟩⟩) rfl (λi k hx hk hfd=>?_) (λhn=>?_)
 .obtain⟨rfl,hk⟩:=ey hx;obtain⟨x,hx⟩:=get_some hk;have done:∀e:Int,qS v.types.length v.calls k x=e->e≠0->(some [PV.int .i64 e]:Option (List PV))=some [.int .i64 G]:=λe h1 h2=>by
   rw[<- hG,kr hx (hfd (by rw[gp hx,h1];exact decide_eq_true h2)),h1]
  rw[gp hx];have h310:=r310 x.name (hv.cs x (Wa hx));have h462:=λu t=>r462 u (v.types.map aH.c) t (by rw[Wg];omega);rw[Wg]at h462;simp(disch:=omega)only[go_sem];refine Br.aJ (λc=>?_) (λc=>(c (by omega)).elim);simp(disch:=omega)only[go_sem,hx,gX.c,h310];unfold qS at done |-;cases hi:isName x.name with
  |false=>
   simp(disch:=omega)only[go_sem];exact done 1 (by rw[if_pos hi]) (by decide)
  |true=>
   simp(disch:=omega)only[go_sem];rw[if_neg (by simp[hi])]at done |-;refine W.find (v.calls.take k) (λq=>decide (q.name=x.name)) (λj=>⟨[(1,.ptr 1 0),(3,.pv (.int .i64 k)),(4,.ptr 4 0),(5,.pv (.int .i64 j))],⟨[(1,[.pv (.str v.name),.pv (.aq t1 (v.types.map aH.c)),.pv (.aq t2 (ch v.calls)),.pv (.aq t3 (aG v.aG)),.pv (.aq t4 (df v.aT))]),(4,[.pv (.str x.name),.pv (.int .i64 x.ud),.pv (.int .i64 x.rep)])],[],[]⟩⟩) rfl (λj q hj hjl hfd2=>?_) (λhn2=>?_)
   .have hjl':j<k/\j<v.calls.length:=by rw[W8]at hjl;omega
    have hj':v.calls[j]?=some q:=by
     rw[Wy,if_pos hjl'.1]at hj;exact hj
    simp(disch:=omega)only[go_sem];refine Br.aJ (λc=>?_) (λc=>(c (by omega)).elim);simp(disch:=omega)only[go_sem,hj',gX.c];refine Br.aJ (λc3=>?_) (λc3=>?_)<;>simp(disch:=omega)only[go_sem,c3]
    .refine done 5 ?_ (by decide);have:cY ((v.calls.map (·.name)).take k) x.name=true:=by
      unfold cY;rw[<- abp,abr];exact(hfd2 (by simp[c3])).any
     rw[if_pos this]
    .exact bB.of (by simp[c3]) rfl
   .have hlx:(v.calls.take k).length=k:=by rw[W8];omega
    rw[hlx];have hh:cY ((v.calls.map (·.name)).take k) x.name=false:=by
     unfold cY;rw[<- abp,abr];exact hn2.any
    rw[if_neg (by simp[hh])]at done |-;simp(disch:=omega)only[go_sem,h462];cases h1:dP v.types.length x.ud with
    |true=>
     simp(disch:=omega)only[go_sem];exact done 4 (by rw[h1];rfl) (by decide)
    |false=>
     simp(disch:=omega)only[go_sem,h462];cases h2:dP v.types.length x.rep with
     |true=>
      simp(disch:=omega)only[go_sem];exact done 4 (by rw[h1,h2];rfl) (by decide)
     |false=>
      simp(disch:=omega)only[go_sem];exact bB.of (by simp) rfl
 .rw[WI,<- hG,ku hn];simp(disch:=omega)only[go_sem]
set_option maxHeartbeats 2000000 in
theorem r438 (t1 t2 t3 t4:Nat)(v:ij)(hv:iX v):res A aA 438 [.agg (lB t1 t2 t3 t4 v)]=some [.int .i64 (dV (pX v.types.length v.aT) v.aT)]:=by
 have hcl:=hv.pl;have htl:=hv.tl;refine aw a438 rfl rfl ?_;simp only[F438,aaG,lB];simp(disch:=omega)only[go_sem];obtain⟨G,hG⟩:∃G,dV (pX v.types.length v.aT) v.aT=G:=⟨_,rfl⟩;rw[hG];refine W.find (List.range v.aT.length) (λk=>decide (pW (pX v.types.length v.aT) v.aT k≠0)) (λk=>⟨[(1,.ptr 1 0),(3,.pv (.int .i64 k))],⟨[(1,[.pv (.str v.name),.pv (.aq t1 (v.types.map aH.c)),.pv (.aq t2 (ch v.calls)),.pv (.aq t3 (aG v.aG)),.pv (.aq t4 (df v.aT))])],[],[]⟩⟩) rfl (λi k hx hk hfd=>?_) (λhn=>?_)
 .obtain⟨rfl,hk⟩:=ey hx;obtain⟨x,hx⟩:=get_some hk;have done:∀e:Int,pX v.types.length v.aT k x=e->e≠0->(some [PV.int .i64 e]:Option (List PV))=some [.int .i64 G]:=λe h1 h2=>by
   rw[<- hG,kr hx (hfd (by rw[gp hx,h1];exact decide_eq_true h2)),h1]
  rw[gp hx];have h310:=r310 x.name (hv.ps x (Wa hx));have h462:=λu t=>r462 u (v.types.map aH.c) t (by rw[Wg];omega);rw[Wg]at h462;simp(disch:=omega)only[go_sem];refine Br.aJ (λc=>?_) (λc=>(c (by omega)).elim);simp(disch:=omega)only[go_sem,hx,hC.c,h310];unfold pX at done |-;cases hi:isName x.name with
  |false=>
   simp(disch:=omega)only[go_sem];exact done 1 (by rw[if_pos hi]) (by decide)
  |true=>
   simp(disch:=omega)only[go_sem];rw[if_neg (by simp[hi])]at done |-;refine W.find (v.aT.take k) (λq=>decide (q.name=x.name)) (λj=>⟨[(1,.ptr 1 0),(3,.pv (.int .i64 k)),(4,.ptr 4 0),(5,.pv (.int .i64 j))],⟨[(1,[.pv (.str v.name),.pv (.aq t1 (v.types.map aH.c)),.pv (.aq t2 (ch v.calls)),.pv (.aq t3 (aG v.aG)),.pv (.aq t4 (df v.aT))]),(4,[.pv (.str x.name),.pv (.int .i64 x.ty)])],[],[]⟩⟩) rfl (λj q hj hjl hfd2=>?_) (λhn2=>?_)
   .have hjl':j<k/\j<v.aT.length:=by rw[W8]at hjl;omega
    have hj':v.aT[j]?=some q:=by
     rw[Wy,if_pos hjl'.1]at hj;exact hj
    simp(disch:=omega)only[go_sem];refine Br.aJ (λc=>?_) (λc=>(c (by omega)).elim);simp(disch:=omega)only[go_sem,hj',hC.c];refine Br.aJ (λc3=>?_) (λc3=>?_)<;>simp(disch:=omega)only[go_sem,c3]
    .refine done 5 ?_ (by decide);have:cY ((v.aT.map (·.name)).take k) x.name=true:=by
      unfold cY;rw[<- abp,abr];exact(hfd2 (by simp[c3])).any
     rw[if_pos this]
    .exact bB.of (by simp[c3]) rfl
   .have hlx:(v.aT.take k).length=k:=by rw[W8];omega
    rw[hlx];have hh:cY ((v.aT.map (·.name)).take k) x.name=false:=by
     unfold cY;rw[<- abp,abr];exact hn2.any
    rw[if_neg (by simp[hh])]at done |-;simp(disch:=omega)only[go_sem,h462];cases h1:dP v.types.length x.ty with
    |true=>
     simp(disch:=omega)only[go_sem];exact done 4 (by rw[h1];rfl) (by decide)
    |false=>
     simp(disch:=omega)only[go_sem];exact bB.of (by simp) rfl
 .rw[WI,<- hG,ku hn];simp(disch:=omega)only[go_sem]
set_option maxHeartbeats 2000000 in
theorem r437 (t1 t2 t3 t4:Nat)(v:ij)(hv:iX v)(h0:cS v.types=0):res A aA 437 [.agg (lB t1 t2 t3 t4 v)]=some [.int .i64 (dV (pY v.types.length v.aG) v.aG)]:=by
 have hcl:=hv.sl;refine aw a437 rfl rfl ?_;simp only[F437,aaF,lB];simp(disch:=omega)only[go_sem];obtain⟨G,hG⟩:∃G,dV (pY v.types.length v.aG) v.aG=G:=⟨_,rfl⟩;rw[hG];refine W.find (List.range v.aG.length) (λk=>decide (pW (pY v.types.length v.aG) v.aG k≠0)) (λk=>⟨[(1,.ptr 1 0),(3,.pv (.int .i64 k))],⟨[(1,[.pv (.str v.name),.pv (.aq t1 (v.types.map aH.c)),.pv (.aq t2 (ch v.calls)),.pv (.aq t3 (aG v.aG)),.pv (.aq t4 (df v.aT))])],[],[]⟩⟩) rfl (λi k hx hk hfd=>?_) (λhn=>?_)
 .obtain⟨rfl,hk⟩:=ey hx;obtain⟨x,hx⟩:=get_some hk;have done:∀e:Int,pY v.types.length v.aG k x=e->e≠0->(some [PV.int .i64 e]:Option (List PV))=some [.int .i64 G]:=λe h1 h2=>by
   rw[<- hG,kr hx (hfd (by rw[gp hx,h1];exact decide_eq_true h2)),h1]
  rw[gp hx];obtain⟨s1,s2,s3,s4⟩:=hv.ss x (Wa hx);have h463:=λu=>r463 u v.types x hv.tl hv.to hv.ts s2 s1 s3 s4;rw[if_neg (by simp[h0])]at h463;unfold pY at done |-;simp only[eE.c]at h463;simp(disch:=omega)only[go_sem];refine Br.aJ (λc=>?_) (λc=>(c (by omega)).elim);simp(disch:=omega)only[go_sem];refine W.find (v.aG.take k) (λq=>decide (q.name=x.name)) (λj=>⟨[(1,.ptr 1 0),(3,.pv (.int .i64 k)),(4,.pv (.int .i64 j))],⟨[(1,[.pv (.str v.name),.pv (.aq t1 (v.types.map aH.c)),.pv (.aq t2 (ch v.calls)),.pv (.aq t3 (aG v.aG)),.pv (.aq t4 (df v.aT))])],[],[]⟩⟩) rfl (λj q hj hjl hfd2=>?_) (λhn2=>?_)
  .have hjl':j<k/\j<v.aG.length:=by rw[W8]at hjl;omega
   have hj':v.aG[j]?=some q:=by
    rw[Wy,if_pos hjl'.1]at hj;exact hj
   simp(disch:=omega)only[go_sem];refine Br.aJ (λc=>?_) (λc=>(c (by omega)).elim);simp(disch:=omega)only[go_sem,hj',hx,Option.map_some,eE.c];refine Br.aJ (λc3=>?_) (λc3=>?_)<;>simp(disch:=omega)only[go_sem,c3]
   .refine done 5 ?_ (by decide);have:cY ((v.aG.map (·.name)).take k) x.name=true:=by
     unfold cY;rw[<- abp,abr];exact(hfd2 (by simp[c3])).any
    rw[if_pos this]
   .exact bB.of (by simp[c3]) rfl
  .have hlx:(v.aG.take k).length=k:=by rw[W8];omega
   rw[hlx];have hh:cY ((v.aG.map (·.name)).take k) x.name=false:=by
    unfold cY;rw[<- abp,abr];exact hn2.any
   rw[if_neg (by simp[hh])]at done |-;generalize te v.types.length x=e at *;simp(disch:=omega)only[go_sem,hx,Option.map_some,eE.c,h463];refine Br.aJ (λc=>?_) (λc=>?_)<;>simp(disch:=omega)only[go_sem]
   .exact bB.of (by simp[c]) rfl
   .exact done e rfl c
 .rw[WI,<- hG,ku hn];simp(disch:=omega)only[go_sem]
noncomputable def acw (v:ij):Int:=
 if 8<v.calls.length\/8<v.aG.length\/8<v.aT.length then 3
 else if isName v.name=false then 1
 else if iW v.types≠0 then iW v.types
 else if dV (qS v.types.length v.calls) v.calls≠0 then dV (qS v.types.length v.calls) v.calls
 else if dV (pY v.types.length v.aG) v.aG≠0 then dV (pY v.types.length v.aG) v.aG
 else dV (pX v.types.length v.aT) v.aT
theorem qD {T:List aH}(h:iW T=0):cS T=0:=by
 unfold iW at h;split at h
 .rename_i h1;exact absurd h h1
 .rename_i h1;exact(lD (by simpa using h1)).1
set_option maxHeartbeats 2000000 in
theorem r406 (t1 t2 t3 t4:Nat)(v:ij)(hv:iX v):res A aA 406 [.agg (lB t1 t2 t3 t4 v)]=some [.int .i64 (acw v)]:=by
 have h1:=hv.cl;have h2:=hv.sl;have h3:=hv.pl;have h310:=r310 v.name hv.nm;have h435:=λu=>r435 u v.types hv.tl hv.to hv.ts;have h436:=r436 t1 t2 t3 t4 v hv;have h437:=λh=>r437 t1 t2 t3 t4 v hv (qD h);have h438:=r438 t1 t2 t3 t4 v hv;refine aw a406 rfl rfl ?_;unfold acw;simp only[F406,aax,lB]at h436 h437 h438 |-;generalize dV (qS v.types.length v.calls) v.calls=e1 at *;generalize dV (pY v.types.length v.aG) v.aG=e2 at *;generalize dV (pX v.types.length v.aT) v.aT=e3 at *;generalize iW v.types=e0 at *;simp(disch:=omega)only[go_sem];refine Br.aJ (λc1=>?_) (λc1=>?_)<;>simp(disch:=omega)only[go_sem,c1]
 .rw[if_pos (by omega)]
 refine Br.aJ (λc2=>?_) (λc2=>?_)<;>simp(disch:=omega)only[go_sem,c2]
 .rw[if_pos (by omega)]
 refine Br.aJ (λc3=>?_) (λc3=>?_)<;>simp(disch:=omega)only[go_sem,c3,h310]
 .rw[if_pos (by omega)]
 rw[if_neg (by omega)];cases hi:isName v.name with
 |false=>simp(disch:=omega)only[go_sem,if_true]
 |true=>
  simp(disch:=omega)only[go_sem,h435];rw[if_neg (by decide)];refine Br.aJ (λc=>?_) (λc=>?_)<;>simp(disch:=omega)only[go_sem,h436]
  rotate_left
  .rw[if_pos c]
  have h437:=h437 c;rw[if_neg (by simp[c])];refine Br.aJ (λc=>?_) (λc=>?_)<;>simp(disch:=omega)only[go_sem,h437]
  rotate_left
  .rw[if_pos c]
  rw[if_neg (by simp[c])];refine Br.aJ (λc=>?_) (λc=>?_)<;>simp(disch:=omega)only[go_sem,h438]
  .rw[if_neg (by simp[c])]
  .rw[if_pos c]
theorem r440 (t:Int)(u:Nat)(nm:PV)(tt:Nat)(T:List (List PV))(c1 c2 c3:PV)(hl:T.length<=2^63 - 1):res A aA 440 [.int .i64 t,.ro u [nm,.aq tt T,c1,c2,c3]]=some [.bool (dP T.length t)]:=by
 refine aw a440 rfl rfl ?_;simp only[F440,Lf];unfold dP;simp(disch:=omega)only[go_sem];refine Br.aJ (λc=>?_) (λc=>?_)<;>simp(disch:=omega)only[go_sem,c,decide_true,decide_false,Bool.true_or,Bool.false_or]
theorem r443 (x y:eE)(u:Nat):res A aA 443 [.agg x.c,.ro u y.c]=some [.bool (decide (x.name=y.name))]:=by
 refine aw a443 rfl rfl ?_;simp only[F443,Lh,eE.c];simp(disch:=omega)only[go_sem]
theorem r448b (t u:Nat)(l:List eE)(y:eE)(hl:l.length<=2^63 - 1):res A aA 448 [.aq t (aG l),.func 443 [.ro u y.c]]=some [.int .i64 (bj (λw=>decide (w.name=y.name)) l)]:=by
 refine aw a448 rfl rfl ?_;simp only[F448,Hp];simp(disch:=omega)only[go_sem];refine W.find l (λw=>decide (w.name=y.name)) (λk=>⟨[(0,.pv (.aq t (aG l))),(1,.pv (.func 443 [.ro u y.c])),(7,.pv (.int .i64 l.length)),(8,.pv (.int .i64 k))],⟨[],[],[]⟩⟩) rfl (λk x hx hk hfd=>?_) (λhn=>?_)
 .have h443:=r443 x y u;simp only[eE.c]at h443 |-;simp(disch:=omega)only[go_sem];refine Br.aJ (λh=>?_) (λh=>(h (by omega)).elim);simp(disch:=omega)only[go_sem,hx,Option.map_some,eE.c,h443];refine Br.of (λh2=>?_) (λh2=>?_)<;>simp(disch:=omega)only[go_sem]
  .rw[(hfd h2).bj]
  .exact bB.of h2 rfl
 .simp(disch:=omega)only[go_sem];rw[hn.bj]
theorem r442 (t u:Nat)(l:List eE)(y:eE)(hl:l.length<=2^63 - 1):res A aA 442 [.aq t (aG l),.func 443 [.ro u y.c]]=some [.bool (cY (l.map (·.name)) y.name)]:=by
 refine aw a442 rfl rfl ?_;simp only[F442,Lg];have h448:=r448b t u l y hl;have e:decide (0<=bj (λw=>decide (w.name=y.name)) l)=cY (l.map (·.name)) y.name:=by
  unfold cY;rw[abr];rcases ko (λw:eE=>decide (w.name=y.name)) l with⟨f1,f2⟩|⟨k,x,f1,f2,f3⟩
  .rw[f2];symm;rw[show decide ((0:Int)<= -1)=false from rfl,WY];exact Xn.1 f1
  .rw[f3];symm;rw[show decide ((0:Int)<=(k:Int))=true by simp,List.any_eq_true];exact⟨x,afu f1,XH f1⟩
 simp only[eE.c]at h448 |-;simp(disch:=omega)only[go_sem,h448];rw[e]
theorem wJ (l:List eE):aO 5 (.inl (aG l))=true:=yD λr hr=>by
 obtain⟨w,_,rfl⟩:=Wk.1 hr;rfl
set_option maxHeartbeats 4000000 in
theorem r407 (t1 t2 t3 t4:Nat)(v:ij)(hv:iX v):res A aA 407 [.agg (lB t1 t2 t3 t4 v)]=some [.int .i64 (acw v)]:=by
 have h1:=hv.cl;have h2:=hv.sl;have h3:=hv.pl;have htl:=hv.tl;have hrf:=wJ v.aG;have h306:=r306 v.name hv.nm;have h439:=λu=>r439 u v.types hv.tl hv.to hv.ts;refine aw a407 rfl rfl ?_;unfold acw;simp only[F407,K8,lB];have hs0:=qD (T:=v.types);generalize iW v.types=e0 at *;simp(disch:=omega)only[go_sem];refine Br.aJ (λc1=>?_) (λc1=>?_)<;>simp(disch:=omega)only[go_sem,c1]
 .rw[if_pos (by omega)]
 refine Br.aJ (λc2=>?_) (λc2=>?_)<;>simp(disch:=omega)only[go_sem,c2]
 .rw[if_pos (by omega)]
 refine Br.aJ (λc3=>?_) (λc3=>?_)<;>simp(disch:=omega)only[go_sem,c3,h306]
 .rw[if_pos (by omega)]
 rw[if_neg (by omega)];cases hi:isName v.name with
 |false=>simp(disch:=omega)only[go_sem,if_true]
 |true=>
  simp(disch:=omega)only[go_sem,h439];rw[if_neg (by decide)];refine Br.aJ (λc=>?_) (λc=>?_)<;>simp(disch:=omega)only[go_sem]
  rotate_left
  .rw[if_pos c]
  have hvalid:=hs0 c;rw[if_neg (by simp[c])];obtain⟨G,hG⟩:∃G,(if dV (qS v.types.length v.calls) v.calls≠0 then dV (qS v.types.length v.calls) v.calls
   else if dV (pY v.types.length v.aG) v.aG≠0 then dV (pY v.types.length v.aG) v.aG
   else dV (pX v.types.length v.aT) v.aT)=G:=⟨_,rfl⟩
  rw[hG];refine W.find (List.range v.calls.length) (λk=>decide (pW (qS v.types.length v.calls) v.calls k≠0)) (λk=>⟨[(1,.ptr 1 0),(4,.func 440 [.ptr 1 0]),(5,.ptr 5 0),(6,.ptr 6 0),(46,.pv (.aq t2 (ch v.calls))),(47,.pv (.int .i64 v.calls.length)),(48,.pv (.int .i64 k))],⟨[(1,[.pv (.str v.name),.pv (.aq t1 (v.types.map aH.c)),.pv (.aq t2 (ch v.calls)),.pv (.aq t3 (aG v.aG)),.pv (.aq t4 (df v.aT))]),(5,[dh 0 (strs ((v.calls.map (·.name)).take k))]),(6,[.tl []])],cK 1 (strs ((v.calls.map (·.name)).take k)),[]⟩⟩) rfl (λi k hx hk hfd=>?_) (λhn=>?_)
  .obtain⟨rfl,hk⟩:=ey hx;obtain⟨x,hx⟩:=get_some hk;have done:∀e:Int,qS v.types.length v.calls k x=e->e≠0->(some [PV.int .i64 e]:Option (List PV))=some [.int .i64 G]:=λe h1 h2=>by
    have h3:=kr hx (hfd (by rw[gp hx,h1];exact decide_eq_true h2));rw[<- hG,h3,h1,if_pos h2]
   rw[gp hx];have hnx:(v.calls.map (·.name)).take (k+1)=(v.calls.map (·.name)).take k++[x.name]:=by
    rw[WL,Wf,hx];rfl
   have hsl:((v.calls.map (·.name)).take k).length<=8:=by rw[W8,Wg];omega
   unfold qS at done |-;generalize (v.calls.map (·.name)).take k=sn at *;simp(disch:=omega)only[go_sem];refine Br.aJ (λc=>?_) (λc=>(c (by omega)).elim);simp(disch:=omega)only[go_sem,hx,gX.c];refine call5 (eL _ _) (B3 x.name sn (hv.cs x (Wa hx)) (by omega) _ λenv=>?_);cases hi:isName x.name with
   |false=>
    rw[if_pos rfl];refine hZ (eL _ _) ⟨_,rfl⟩ ?_;simp(disch:=omega)only[go_sem];exact done 1 (by rw[if_pos hi]) (by decide)
   |true=>
    rw[if_neg (by decide)];cases hh:cY sn x.name with
    |true=>
     rw[if_pos rfl];refine hZ (eL _ _) ⟨_,rfl⟩ ?_;simp(disch:=omega)only[go_sem];exact done 5 (by rw[if_neg (by simp[hi]),if_pos hh]) (by decide)
    |false=>
     rw[if_neg (by decide)];refine hZ (eL _ _) ⟨_,rfl⟩ ?_;rw[if_neg (by simp[hi]),if_neg (by simp[hh])]at done |-;have h440:=λt u=>r440 t u (.str v.name) t1 (v.types.map aH.c) (.aq t2 (ch v.calls)) (.aq t3 (aG v.aG)) (.aq t4 (df v.aT)) (by rw[Wg];omega);rw[Wg]at h440;simp(disch:=omega)only[go_sem,h440];cases h1:dP v.types.length x.ud with
     |true=>
      simp(disch:=omega)only[go_sem];exact done 4 (by rw[h1];rfl) (by decide)
     |false=>
      simp(disch:=omega)only[go_sem,h440];cases h2:dP v.types.length x.rep with
      |true=>
       simp(disch:=omega)only[go_sem];exact done 4 (by rw[h1,h2];rfl) (by decide)
      |false=>
       simp(disch:=omega)only[go_sem];exact bB.of (by simp) (by rw[hnx];rfl)
  .rw[WI];have hz:=ku hn;rw[if_neg (by simp[hz])]at hG;clear hn hz;obtain⟨X,hXd⟩:∃X,cK 1 (strs ((v.calls.map (·.name)).take v.calls.length))=X:=⟨_,rfl⟩;have hX:X=[]\/∃a,X=[a]:=by
    rw[<- hXd];cases strs ((v.calls.map (·.name)).take v.calls.length)with
    |nil=>exact .inl rfl
    |cons y r=>exact .inr ⟨_,rfl⟩
   rw[hXd];clear hXd;simp(disch:=omega)only[go_sem];refine W.find (List.range v.aG.length) (λk=>decide (pW (pY v.types.length v.aG) v.aG k≠0)) (λk=>⟨[(1,.ptr 1 0),(4,.func 440 [.ptr 1 0]),(6,.ptr 6 0),(70,.pv (.aq t3 (aG v.aG))),(71,.pv (.int .i64 v.aG.length)),(72,.pv (.int .i64 k))],⟨[(1,[.pv (.str v.name),.pv (.aq t1 (v.types.map aH.c)),.pv (.aq t2 (ch v.calls)),.pv (.aq t3 (aG v.aG)),.pv (.aq t4 (df v.aT))]),(6,[.tl []])],X,[]⟩⟩) rfl (λi k hx hk hfd=>?_) (λhn=>?_)
   .obtain⟨rfl,hk⟩:=ey hx;obtain⟨x,hx⟩:=get_some hk;have done:∀e:Int,pY v.types.length v.aG k x=e->e≠0->(some [PV.int .i64 e]:Option (List PV))=some [.int .i64 G]:=λe h1 h2=>by
     have h3:=kr hx (hfd (by rw[gp hx,h1];exact decide_eq_true h2));rw[<- hG,h3,h1,if_pos h2]
    rw[gp hx];obtain⟨s1,s2,s3,s4⟩:=hv.ss x (Wa hx);have h444:=λu=>r444 u v.types x hv.tl hv.to hv.ts s2 s1 s3 s4;rw[if_neg (by simp[hvalid])]at h444;have h442:=λt u=>r442 t u (v.aG.take k) x (by rw[W8];omega);have hst:(aG v.aG).take k=aG (v.aG.take k):=(abp ..).symm;rw[abp]at h442;unfold pY at done |-;simp only[eE.c]at h444 h442;simp(disch:=omega)only[go_sem];refine Br.aJ (λc=>?_) (λc=>(c (by omega)).elim);simp(disch:=omega)only[go_sem,hx,Option.map_some,eE.c,hrf,hst,h442];cases hh:cY ((v.aG.map (·.name)).take k) x.name with
    |true=>
     simp(disch:=omega)only[go_sem];exact done 5 (by rw[if_pos hh]) (by decide)
    |false=>
     rw[if_neg (by simp[hh])]at done |-;generalize te v.types.length x=e at *;simp(disch:=omega)only[go_sem,h444];refine Br.aJ (λc=>?_) (λc=>?_)<;>simp(disch:=omega)only[go_sem]
     .exact bB.of (by simp[c]) rfl
     .exact done e rfl c
   .rw[WI];have hz:=ku hn;rw[if_neg (by simp[hz])]at hG;clear hn hz;simp(disch:=omega)only[go_sem];rcases hX with rfl|⟨a,rfl⟩
    .refine W.find (List.range v.aT.length) (λk=>decide (pW (pX v.types.length v.aT) v.aT k≠0)) (λk=>⟨[(4,.func 440 [.ptr 1 0]),(6,.ptr 6 0),(92,.pv (.aq t4 (df v.aT))),(93,.pv (.int .i64 v.aT.length)),(94,.pv (.int .i64 k))],⟨[(1,[.pv (.str v.name),.pv (.aq t1 (v.types.map aH.c)),.pv (.aq t2 (ch v.calls)),.pv (.aq t3 (aG v.aG)),.pv (.aq t4 (df v.aT))]),(6,[dh 0 (strs ((v.aT.map (·.name)).take k))])],cK 1 (strs ((v.aT.map (·.name)).take k)),[]⟩⟩) rfl (λi k hx hk hfd=>?_) (λhn=>?_)
     .obtain⟨rfl,hk⟩:=ey hx;obtain⟨x,hx⟩:=get_some hk;have done:∀e:Int,pX v.types.length v.aT k x=e->e≠0->(some [PV.int .i64 e]:Option (List PV))=some [.int .i64 G]:=λe h1 h2=>by
       have h3:=kr hx (hfd (by rw[gp hx,h1];exact decide_eq_true h2));rw[<- hG,h3,h1]
      rw[gp hx];have hnx:(v.aT.map (·.name)).take (k+1)=(v.aT.map (·.name)).take k++[x.name]:=by
       rw[WL,Wf,hx];rfl
      have hsl:((v.aT.map (·.name)).take k).length<=8:=by rw[W8,Wg];omega
      unfold pX at done |-;generalize (v.aT.map (·.name)).take k=sn at *;simp(disch:=omega)only[go_sem];refine Br.aJ (λc=>?_) (λc=>(c (by omega)).elim);simp(disch:=omega)only[go_sem,hx,hC.c];refine call6 (eL _ _) (B3 x.name sn (hv.ps x (Wa hx)) (by omega) _ λenv=>?_);cases hi:isName x.name with
      |false=>
       rw[if_pos rfl];refine hZ (eL _ _) ⟨_,rfl⟩ ?_;simp(disch:=omega)only[go_sem];exact done 1 (by rw[if_pos hi]) (by decide)
      |true=>
       rw[if_neg (by decide)];cases hh:cY sn x.name with
       |true=>
        rw[if_pos rfl];refine hZ (eL _ _) ⟨_,rfl⟩ ?_;simp(disch:=omega)only[go_sem];exact done 5 (by rw[if_neg (by simp[hi]),if_pos hh]) (by decide)
       |false=>
        rw[if_neg (by decide)];refine hZ (eL _ _) ⟨_,rfl⟩ ?_;rw[if_neg (by simp[hi]),if_neg (by simp[hh])]at done |-;have h440:=λt u=>r440 t u (.str v.name) t1 (v.types.map aH.c) (.aq t2 (ch v.calls)) (.aq t3 (aG v.aG)) (.aq t4 (df v.aT)) (by rw[Wg];omega);rw[Wg]at h440;simp(disch:=omega)only[go_sem,h440];cases h1:dP v.types.length x.ty with
        |true=>
         simp(disch:=omega)only[go_sem];exact done 4 (by rw[h1];rfl) (by decide)
        |false=>
         simp(disch:=omega)only[go_sem];exact bB.of (by simp) (by rw[hnx];rfl)
     .rw[WI];have hz:=ku hn;rw[hz]at hG;rw[<- hG];simp(disch:=omega)only[go_sem]
    .refine W.find (List.range v.aT.length) (λk=>decide (pW (pX v.types.length v.aT) v.aT k≠0)) (λk=>⟨[(4,.func 440 [.ptr 1 0]),(6,.ptr 6 0),(92,.pv (.aq t4 (df v.aT))),(93,.pv (.int .i64 v.aT.length)),(94,.pv (.int .i64 k))],⟨[(1,[.pv (.str v.name),.pv (.aq t1 (v.types.map aH.c)),.pv (.aq t2 (ch v.calls)),.pv (.aq t3 (aG v.aG)),.pv (.aq t4 (df v.aT))]),(6,[dh 1 (strs ((v.aT.map (·.name)).take k))])],a::cK 1 (strs ((v.aT.map (·.name)).take k)),[]⟩⟩) rfl (λi k hx hk hfd=>?_) (λhn=>?_)
     .obtain⟨rfl,hk⟩:=ey hx;obtain⟨x,hx⟩:=get_some hk;have done:∀e:Int,pX v.types.length v.aT k x=e->e≠0->(some [PV.int .i64 e]:Option (List PV))=some [.int .i64 G]:=λe h1 h2=>by
       have h3:=kr hx (hfd (by rw[gp hx,h1];exact decide_eq_true h2));rw[<- hG,h3,h1]
      rw[gp hx];have hnx:(v.aT.map (·.name)).take (k+1)=(v.aT.map (·.name)).take k++[x.name]:=by
       rw[WL,Wf,hx];rfl
      have hsl:((v.aT.map (·.name)).take k).length<=8:=by rw[W8,Wg];omega
      unfold pX at done |-;generalize (v.aT.map (·.name)).take k=sn at *;simp(disch:=omega)only[go_sem];refine Br.aJ (λc=>?_) (λc=>(c (by omega)).elim);simp(disch:=omega)only[go_sem,hx,hC.c];refine call6 (eL _ _) (Fy a x.name sn (hv.ps x (Wa hx)) (by omega) _ λenv=>?_);cases hi:isName x.name with
      |false=>
       rw[if_pos rfl];refine hZ (eL _ _) ⟨_,rfl⟩ ?_;simp(disch:=omega)only[go_sem];exact done 1 (by rw[if_pos hi]) (by decide)
      |true=>
       rw[if_neg (by decide)];cases hh:cY sn x.name with
       |true=>
        rw[if_pos rfl];refine hZ (eL _ _) ⟨_,rfl⟩ ?_;simp(disch:=omega)only[go_sem];exact done 5 (by rw[if_neg (by simp[hi]),if_pos hh]) (by decide)
       |false=>
        rw[if_neg (by decide)];refine hZ (eL _ _) ⟨_,rfl⟩ ?_;rw[if_neg (by simp[hi]),if_neg (by simp[hh])]at done |-;have h440:=λt u=>r440 t u (.str v.name) t1 (v.types.map aH.c) (.aq t2 (ch v.calls)) (.aq t3 (aG v.aG)) (.aq t4 (df v.aT)) (by rw[Wg];omega);rw[Wg]at h440;simp(disch:=omega)only[go_sem,h440];cases h1:dP v.types.length x.ty with
        |true=>
         simp(disch:=omega)only[go_sem];exact done 4 (by rw[h1];rfl) (by decide)
        |false=>
         simp(disch:=omega)only[go_sem];exact bB.of (by simp) (by rw[hnx];rfl)
     .rw[WI];have hz:=ku hn;rw[hz]at hG;rw[<- hG];simp(disch:=omega)only[go_sem]
theorem lI {α:Type}{f:Nat->α->Int}{l:List α}(h:dV f l=0):∀(k:Nat)(x:α),l[k]?=some x->f k x=0:=by
 intro k x hx;unfold dV at h;cases hf:(List.range l.length).find? (λk=>decide (pW f l k≠0))with
 |none=>
  have:=Xn.1 hf k (WJ.2 (V9.1 hx).1);rw[gp hx]at this;simpa using this
 |some j=>
  rw[hf]at h;have:=XH hf;simp[h]at this
theorem lJ {α:Type}{f:Nat->α->Int}{l:List α}(h:∀(k:Nat)(x:α),l[k]?=some x->f k x=0):dV f l=0:=by
 unfold dV;have:(List.range l.length).find? (λk=>decide (pW f l k≠0))=none:=by
  rw[Xn];intro k hk;obtain⟨x,hx⟩:=get_some (WJ.1 hk);rw[gp hx,h k x hx];simp
 rw[this]
theorem rr {n:Nat}{u:Int}(h:dP n u=false):0<=u/\u<n:=by
 simp[dP]at h;omega
structure Fz (n:Nat)(w:eE):Prop where
 zn:w.msgs.length<=16
 V7:lH w=true
 ty:∀m∈w.msgs,0<=m.ty/\m.ty<n
 au:w.auto.err=0
 V8:∀e∈w.auto.af,w.msgs.any (lG e.label)=true
 all:(w.auto.order.length:Int)=w.auto.aj
theorem Df {n:Nat}{w:eE}(h:te n w=0):Fz n w:=by
 unfold te at h;split at h
 .cases h
 rename_i h1;split at h
 .cases h
 rename_i h2;split at h
 .cases h
 rename_i h3;split at h
 .rename_i h4;exact absurd h h4
 rename_i h4;split at h
 .cases h
 rename_i h5;split at h
 .cases h
 rename_i h6;refine⟨by omega,by simpa using h2,λm hm=>?_,by simpa using h4,λe he=>?_,by simpa using h6⟩
 .have:=List.any_eq_false.1 (by simpa using h3) m hm
  exact rr (by simpa using this)
 .have:=List.any_eq_false.1 (by simpa using h5:w.auto.af.any (λe=>!w.msgs.any (lG e.label))=false) e he
  simpa using this
structure cH (v:ij):Prop where
 zn:v.calls.length<=8/\v.aG.length<=8/\v.aT.length<=8
 nm:isName v.name=true
 sound:iW v.types=0
 TA:∀(k:Nat) c,v.calls[k]?=some c->qS v.types.length v.calls k c=0
 TB:∀(k:Nat) w,v.aG[k]?=some w->pY v.types.length v.aG k w=0
 top:∀(k:Nat) c,v.aT[k]?=some c->pX v.types.length v.aT k c=0
theorem vj {v:ij}(h:acw v=0):cH v:=by
 unfold acw at h;split at h
 .cases h
 rename_i h1;split at h
 .cases h
 rename_i h2;split at h
 .rename_i h3;exact absurd h h3
 rename_i h3;split at h
 .rename_i h4;exact absurd h h4
 rename_i h4;split at h
 .rename_i h5;exact absurd h h5
 rename_i h5;exact⟨by omega,by simpa using h2,by simpa using h3,lI (by simpa using h4),lI (by simpa using h5),lI h⟩
theorem cH.err {v:ij}(h:cH v):acw v=0:=by
 unfold acw;rw[if_neg (by have:=h.zn;omega),if_neg (by rw[h.nm];decide),if_neg (by rw[h.sound];decide),lJ h.TA,lJ h.TB,lJ h.top];simp
theorem pZ {n:Nat}{l:List gX}{k:Nat}{c:gX}(h:qS n l k c=0):isName c.name=true/\cY ((l.map (·.name)).take k) c.name=false/\(0<=c.ud/\c.ud<n)/\0<=c.rep/\c.rep<n:=by
 unfold qS at h;split at h
 .cases h
 rename_i h1;split at h
 .cases h
 rename_i h2;split at h
 .cases h
 rename_i h3;simp only[Bool.or_eq_true,not_or,Bool.not_eq_true]at h3;exact⟨by simpa using h1,by simpa using h2,rr h3.1,rr h3.2⟩
theorem p4 {n:Nat}{l:List hC}{k:Nat}{c:hC}(h:pX n l k c=0):isName c.name=true/\cY ((l.map (·.name)).take k) c.name=false/\0<=c.ty/\c.ty<n:=by
 unfold pX at h;split at h
 .cases h
 rename_i h1;split at h
 .cases h
 rename_i h2;split at h
 .cases h
 rename_i h3;exact⟨by simpa using h1,by simpa using h2,rr (by simpa using h3)⟩
theorem vk {n:Nat}{l:List eE}{k:Nat}{w:eE}(h:pY n l k w=0):cY ((l.map (·.name)).take k) w.name=false/\Fz n w:=by
 unfold pY at h;split at h
 .cases h
 rename_i h1;exact⟨by simpa using h1,Df h⟩
theorem cH.call {v:ij}(h:cH v):∀c∈v.calls,(0<=c.ud/\c.ud<v.types.length)/\0<=c.rep/\c.rep<v.types.length:=λc hc=>by
 obtain⟨k,hk⟩:=Wd.1 hc;exact(pZ (h.TA k c hk)).2.2
theorem cH.I4 {v:ij}(h:cH v):∀c∈v.aT,0<=c.ty/\c.ty<v.types.length:=λc hc=>by
 obtain⟨k,hk⟩:=Wd.1 hc;exact(p4 (h.top k c hk)).2.2
theorem cH.wK {v:ij}(h:cH v):∀w∈v.aG,Fz v.types.length w:=λc hc=>by
 obtain⟨k,hk⟩:=Wd.1 hc;exact(vk (h.TB k c hk)).2
theorem cH.valid {v:ij}(h:cH v):cS v.types=0:=qD h.sound
@[go_sem] theorem ZK {id row ax a b c d:Nat}{xs:List V}(h1:row<xs.length):eG id row 0 [.own a b c d] ⟨ax,1,.inr (cQ xs)⟩=some {ar:=some (id,⟨ax,1,.inr (cQ (xs.set row (.own a b c d)))⟩)}:=y6 h1 rfl
def R2 (d:Int)(s:List Int×List Int)(x:Int):List Int×List Int:=if s.1.getD x.toNat (-1)<0 then (s.1.set x.toNat d,s.2++[x]) else s
def I5 (nx:Int->List Int):Nat->Nat->List Int×List Int->List Int×List Int
 |0,_,s=>s
 |n+1,i,s=>match s.2[i]? with
  |none=>s
  |some v=>I5 nx n (i+1) ((nx v).foldl (R2 (s.1.getD v.toNat (-1)+1)) s)
theorem Zw {l:List Int}{i j:Nat}{x y:Int}(hi:i<l.length):(l.set i x).getD j y=if i=j then x else l.getD j y:=by
 simp only[List.getD_eq_getElem?_getD,List.getElem?_set];by_cases h:i=j
 .subst h;simp[hi]
 .simp[h]
def levels (nx:Int->List Int)(n:Nat)(fr:List Int):List Int:=(I5 nx n 0 (fr.foldl (R2 0) (List.replicate n (-1),[]))).1
@[go_sem] theorem r33e (t:Nat)(n s:Int)(l:List Edge)(hl:l.length<=2000000000):res A aA 33 [.agg [.int .i64 n,.int .i64 s,.aq t (bF l)]]=some (if (⟨n,s,l⟩:aP).err=0 then [.agg [.int .i64 (⟨n,s,l⟩:aP).order.length,.int .i64 0,.aq 0 (bF (mA Edge.lt (kept (⟨n,s,l⟩:aP).order l)))],.int .i64 0] else [.agg [.int .i64 0,.int .i64 0,.aq 0 []],.int .i64 (⟨n,s,l⟩:aP).err]):=r33 t ⟨n,s,l⟩ hl
def ej.from (d:ej)(s:Int):aP:=⟨1+d.n%4,s%(1+d.n%4),d.auto.af⟩
structure Mv where
 send:Bool
 label:Int
 cls:Int
 deriving DecidableEq,Inhabited
def Mv.c (m:Mv):List PV:=[.bool m.send,.int .i64 m.label,.int .i64 m.cls]
def VL (l:List Mv):List (List PV):=l.map Mv.c
@[go_sem] theorem Tv:VL []=[]:=rfl
@[go_sem] theorem Mv.EB (m:Mv):m.c=[.bool m.send,.int .i64 m.label,.int .i64 m.cls]:=rfl
def FA (es:List Edge)(s:Int)(c:List Int):List Mv:=(es.filter λe=>e.fr==s).map λe=>⟨e.send,e.label,c.getD e.to.toNat 0⟩
def UT (es:List Edge)(c:List Int)(k i:Nat):Bool:=decide (c.getD k 0=c.getD i 0)&&decide (FA es (k:Int) c=FA es (i:Int) c)
def MF (es:List Edge)(c:List Int)(i:Nat):Nat:=((List.range i).find? λk=>UT es c k i).getD i
def R3 (n:Nat)(es:List Edge)(c:List Int):List Int:=(List.range n).map λi=>(MF es c i:Int)
def cls (n:Nat)(es:List Edge):Nat->List Int
 |0=>List.replicate n 0
 |j+1=>R3 n es (cls n es j)
def AC.one:AC->AC
 |.seq a _=>a
 |c=>c
def AC.two:AC->AC
 |.seq _ b=>b
 |c=>c
theorem tf (bx:List (Nat×List V))(mp:List (List (PV×PV)))(pre post:List aL)(k d:Nat)(rows:List (List PV)):aY ⟨bx,pre++(cK k rows++post),mp⟩ (d+1) (dh pre.length rows)=some (.aq 0 rows):=by
 cases rows with
 |nil=>rfl
 |cons x q=>
  have:=Ag bx mp pre post k x q;simp[dh,dS,this,bO,az]
def aa7:ij:=⟨⟨#[]⟩,[],[],[],[]⟩
def fX (c:UInt8)(k:Nat):ByteArray:=⟨#[c]⟩++Utf8.encode (97+(k:Int))
theorem vn {k:Nat}(h:k<3):(Utf8.encode (97+(k:Int))).size=1:=by
 have:∀k:Fin 3,(Utf8.encode (97+((k.val:Nat):Int))).size=1:=by decide
 exact this ⟨k,h⟩
theorem Yb {c:UInt8}{k:Nat}(h:k<3):cB .add (.pv (.str ⟨#[c]⟩)) (.pv (.str (Utf8.encode (97+(k:Int)))))=some (.pv (.str (fX c k))):=by
 have h1:(⟨#[c]⟩:ByteArray).size=1:=rfl;have h2:(1:Nat)+1<=1099511627776:=by omega
 simp only[cB,kI,h1,vn h,h2,if_true,Option.map_some];rfl
structure vo where
 a:ej
 x:Int
 y:Int
 z:Int
def vo.c (s:vo):List PV:=[.int .u8 s.a.n,.aq 0 (s.a.gH.map vb.c),.int .u8 s.x,.int .u8 s.y,.int .u8 s.z]
def vo.ok (s:vo):Prop:=s.a.ok/\(0<=s.x/\s.x<=255)/\(0<=s.y/\s.y<=255)/\0<=s.z/\s.z<=255
def dD (T:List aH)(k:Nat):List Int:=((List.range k).filter λ(i:Nat)=>!decide ((ji T i).name=⟨#[]⟩)).map λ(i:Nat)=>(i:Int)
def fY (N:List Int)(x:Int):Int:=N.getD (x%N.length).toNat 0
def ek (N:List Int)(s:vo):List gI:=[⟨1,fX 77 0,fY N s.x⟩,⟨2,fX 77 1,fY N s.y⟩,⟨3,fX 77 2,fY N s.z⟩]
def acN (T:List aH)(nm:ByteArray)(s:vo):Option eE:=if (s.a.gH.length:Int)<=12/\dD T T.length≠[] then some ⟨nm,ek (dD T T.length) s,s.a.auto.trim⟩ else none
theorem y7 (T:List aH)(k:Nat):dD T (k+1)=if (ji T (k:Int)).name=⟨#[]⟩ then dD T k else dD T k++[(k:Int)]:=by
 unfold dD;rw[Xq,List.filter_append];by_cases h:(ji T (k:Int)).name=⟨#[]⟩
 .rw[if_pos h];simp[h]
 .rw[if_neg h];simp[h]
theorem th (T:List aH)(k:Nat):(dD T k).length<=k:=by
 unfold dD;rw[Wg];have:=XW (λ(i:Nat)=>!decide ((ji T i).name=⟨#[]⟩)) (List.range k);rw[WI]at this;exact this
theorem vp {N:List Int}(h:N≠[])(x:Int):(0<=x%N.length/\x%N.length<N.length)/\N[(x%N.length).toNat]?=some (fY N x):=by
 have hl:0<N.length:=abx.2 h;have h0:0<=x%(N.length:Int):=XJ _ (by omega);have h1:x%(N.length:Int)<N.length:=XR _ (by omega);refine⟨⟨h0,h1⟩,?_⟩;unfold fY;rw[Ws];obtain⟨y,hy⟩:=get_some (l:=N) (k:=(x%(N.length:Int)).toNat) (by omega);rw[hy];rfl
set_option maxHeartbeats 4000000 in
theorem r453 (t u:Nat)(T:List aH)(nm:ByteArray)(s:vo)(hs:s.ok)(hT:T.length<=100):res A aA 453 [.agg [.aq t (T.map aH.c)],.str nm,.agg [.int .u8 s.a.n,.aq u (s.a.gH.map vb.c),.int .u8 s.x,.int .u8 s.y,.int .u8 s.z]]=some (match acN T nm s with|some w=>[.agg w.c,.bool true]|none=>[.agg [.str ⟨#[]⟩,.aq 0 [],.int .i64 0,.int .i64 0,.aq 0 []],.bool false]):=by
 obtain⟨hd,⟨x0,x1⟩,⟨y0,y1⟩,z0,z1⟩:=hs;have h25:=λt=>r25 t s.a hd;refine aw a453 rfl rfl ?_;simp only[F453,Lp];simp(disch:=omega)only[go_sem];refine W.fv T.length (λk=>⟨[(1,.pv (.str nm)),(3,.ptr 3 0),(5,.ptr 5 0),(6,.ptr 6 0),(8,dh 0 (ints (dD T k))),(9,.pv (.int .i64 k))],⟨[(3,[.pv (.aq t (T.map aH.c))]),(5,[.pv (.int .u8 s.a.n),.pv (.aq u (s.a.gH.map vb.c)),.pv (.int .u8 s.x),.pv (.int .u8 s.y),.pv (.int .u8 s.z)]),(6,[.pv (.str ⟨#[]⟩),.tl [],.pv (.int .i64 0),.pv (.int .i64 0),.tl []])],cK 1 (ints (dD T k)),[]⟩⟩) (λ_=>True) rfl trivial λk hk _=>?_;simp(disch:=omega)only[go_sem];refine Br.aJ (λc=>?_) (λc=>?_)
 .have hx:=uT (l:=T) (i:=k) (by omega) (by omega);rw[WX]at hx;have hsn:=y7 T k;have hnl:=th T k;have hg:=λbx mp=>grow bx mp [] 1 (ints (dD T k)) [.int .i64 k] rfl (by rw[bt];omega);simp only[List.nil_append,List.length_nil]at hg;generalize ji T (k:Int)=y at *;cases hy:decide (y.name=⟨#[]⟩)with
  |true=>
   rw[if_pos (of_decide_eq_true hy)]at hsn;simp(disch:=omega)only[go_sem,hx,Option.map_some,aH.c,hy];refine .of (by omega) ?_ trivial;rw[hsn];rfl
  |false=>
   rw[if_neg (of_decide_eq_false hy)]at hsn;simp(disch:=omega)only[go_sem,hx,Option.map_some,aH.c,hy,hg];refine .of (by omega) ?_ trivial;rw[hsn];simp only[ints,List.map_append,List.map_cons,List.map_nil];rfl
 obtain rfl:k=T.length:=by omega
 have hnl:=th T T.length;unfold acN;generalize dD T T.length=N at *;have hst:=s.a.st;have hgood:=ej.vW hd (s:=0) ⟨XS _,by omega⟩;have hlen:=s.a.len hd;have hlt:=hgood.trim.len;have h33:=λt=>r33e t (1+s.a.n%4) 0 s.a.auto.af (by omega);have hs2:mA Edge.lt (kept (⟨1+s.a.n%4,0,s.a.auto.af⟩:aP).order s.a.auto.af)=s.a.auto.trim.af:=yN Edge.Fj Edge.u9 (s9 hgood.oV);rw[if_pos (aP.iV.2 hgood),hs2]at h33;have hstr:s.a.auto.trim.aj=(⟨1+s.a.n%4,0,s.a.auto.af⟩:aP).order.length:=rfl;have hstt:s.a.auto.trim.start=0:=rfl;rw[<- hstr]at h33;cases hb:decide ((s.a.gH.length:Int)<=12)with
 |false=>
  rw[hb]at h25;rw[if_neg (λh=>of_decide_eq_false hb h.1)];simp(disch:=omega)only[go_sem,h25]
 |true=>
  rw[hb]at h25;cases N with
  |nil=>
   rw[if_neg (λh=>h.2 rfl)];have hz:decide (((0:Nat):Int)=0)=true:=rfl;simp(disch:=omega)only[go_sem,h25,hz]
  |cons q0 N=>
   rw[if_pos ⟨of_decide_eq_true hb,by simp⟩];have hz:decide (((N.length+1:Nat):Int)=0)=false:=decide_eq_false (by omega);have e0:(IntKind.wrap .i32 (97+((0:Nat):Int)))=97+((0:Nat):Int):=rfl;have e1:(IntKind.wrap .i32 (97+((1:Nat):Int)))=97+((1:Nat):Int):=rfl;have e2:(IntKind.wrap .i32 (97+((2:Nat):Int)))=97+((2:Nat):Int):=rfl;simp(disch:=omega)only[go_sem,h25,hz,h33];have hiN:=bt N;refine W.fv 3 (λk=>⟨[(5,.ptr 5 0),(6,.ptr 6 0),(8,.own 0 N.length 0 (N.length+1)),(12,.ptr 12 0),(13,.pv (.int .i64 k))],⟨[(5,[.pv (.int .u8 s.a.n),.pv (.aq u (s.a.gH.map vb.c)),.pv (.int .u8 s.x),.pv (.int .u8 s.y),.pv (.int .u8 s.z)]),(6,[.pv (.str ⟨#[]⟩),.tl [],.pv (.int .i64 0),.pv (.int .i64 0),.tl []]),(12,[.pv (.str nm),dh 1 (msgs ((ek (q0::N) s).take k)),.pv (.int .i64 s.a.auto.trim.aj),.pv (.int .i64 0),.pv (.aq 0 (bF s.a.auto.trim.af))])],⟨N.length,1,.inl (ints (q0::N))⟩::cK 3 (msgs ((ek (q0::N) s).take k)),[]⟩⟩) (λ_=>True) (by rw[<- hiN];rfl) trivial λk hk _=>?_;simp(disch:=omega)only[go_sem];have p:=λx=>vp (N:=q0::N) (by simp) x;rw[abv]at p;have hnl2:N.length<=100:=by rw[abv]at hnl;omega
   have hA:∀X:List aL,(⟨N.length,1,.inl (ints (q0::N))⟩::X)[0]?=some ⟨N.length,1,.inl (ints (q0::N))⟩:=λX=>rfl;refine Br.aJ (λc=>?_) (λc=>?_)
   .rcases(show k=0\/k=1\/k=2 by omega)with rfl|rfl|rfl
    .obtain⟨⟨p0,p1⟩,p2⟩:=p s.x;have hR:msgs ((ek (q0::N) s).take (0+1))=msgs ((ek (q0::N) s).take 0)++[[.int .i64 1,.str (fX 77 0),.int .i64 (fY (q0::N) s.x)]]:=rfl;have hRl:(msgs ((ek (q0::N) s).take 0)).length=0:=rfl;generalize msgs ((ek (q0::N) s).take 0)=rows at *;have hg:∀bx mp,aK ⟨bx,⟨N.length,1,.inl (ints (q0::N))⟩::cK 3 rows,mp⟩ 3 (dh 1 rows) (.tl [[.int .i64 (((0:Nat):Int)+1),.str (fX 77 0),.int .i64 (fY (q0::N) s.x)]])=some (dh 1 (rows++[[.int .i64 (((0:Nat):Int)+1),.str (fX 77 0),.int .i64 (fY (q0::N) s.x)]]),tM 1 3 rows [.int .i64 (((0:Nat):Int)+1),.str (fX 77 0),.int .i64 (fY (q0::N) s.x)]):=λbx mp=>grow bx mp [⟨N.length,1,.inl (ints (q0::N))⟩] 3 rows _ rfl (by omega);simp(disch:=omega)only[go_sem,e0,Yb,hA,p2,hg];refine .of (by omega) ?_ trivial;rw[hR];rfl
    .obtain⟨⟨p0,p1⟩,p2⟩:=p s.y;have hR:msgs ((ek (q0::N) s).take (1+1))=msgs ((ek (q0::N) s).take 1)++[[.int .i64 2,.str (fX 77 1),.int .i64 (fY (q0::N) s.y)]]:=rfl;have hRl:(msgs ((ek (q0::N) s).take 1)).length=1:=rfl;generalize msgs ((ek (q0::N) s).take 1)=rows at *;have hg:∀bx mp,aK ⟨bx,⟨N.length,1,.inl (ints (q0::N))⟩::cK 3 rows,mp⟩ 3 (dh 1 rows) (.tl [[.int .i64 (((1:Nat):Int)+1),.str (fX 77 1),.int .i64 (fY (q0::N) s.y)]])=some (dh 1 (rows++[[.int .i64 (((1:Nat):Int)+1),.str (fX 77 1),.int .i64 (fY (q0::N) s.y)]]),tM 1 3 rows [.int .i64 (((1:Nat):Int)+1),.str (fX 77 1),.int .i64 (fY (q0::N) s.y)]):=λbx mp=>grow bx mp [⟨N.length,1,.inl (ints (q0::N))⟩] 3 rows _ rfl (by omega);simp(disch:=omega)only[go_sem,e1,Yb,hA,p2,hg];refine .of (by omega) ?_ trivial;rw[hR];rfl
    .obtain⟨⟨p0,p1⟩,p2⟩:=p s.z;have hR:msgs ((ek (q0::N) s).take (2+1))=msgs ((ek (q0::N) s).take 2)++[[.int .i64 3,.str (fX 77 2),.int .i64 (fY (q0::N) s.z)]]:=rfl;have hRl:(msgs ((ek (q0::N) s).take 2)).length=2:=rfl;generalize msgs ((ek (q0::N) s).take 2)=rows at *;have hg:∀bx mp,aK ⟨bx,⟨N.length,1,.inl (ints (q0::N))⟩::cK 3 rows,mp⟩ 3 (dh 1 rows) (.tl [[.int .i64 (((2:Nat):Int)+1),.str (fX 77 2),.int .i64 (fY (q0::N) s.z)]])=some (dh 1 (rows++[[.int .i64 (((2:Nat):Int)+1),.str (fX 77 2),.int .i64 (fY (q0::N) s.z)]]),tM 1 3 rows [.int .i64 (((2:Nat):Int)+1),.str (fX 77 2),.int .i64 (fY (q0::N) s.z)]):=λbx mp=>grow bx mp [⟨N.length,1,.inl (ints (q0::N))⟩] 3 rows _ rfl (by omega);simp(disch:=omega)only[go_sem,e2,Yb,hA,p2,hg];refine .of (by omega) ?_ trivial;rw[hR];rfl
   .obtain rfl:k=3:=by omega
    simp(disch:=omega)only[go_sem];rfl
end Go.Pv
