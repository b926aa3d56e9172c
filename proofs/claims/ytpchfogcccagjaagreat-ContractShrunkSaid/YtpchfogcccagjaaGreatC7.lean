/-
 What the functions of the law give.
-/
import Derived.Test.YtpchfogcccagjaaGreatC6
set_option linter.unusedSimpArgs false
set_option linter.unusedVariables false
open List renaming mem_of_getElem? → aaj, getElem?_eq_some_iff → aak, getElem?_eq_getElem → aal, length_map → aam, mem_iff_getElem? → aan, getElem?_append_left → aao, getElem?_map → aap, mem_map → aaq, length_append → aas, getElem?_append_right → aav, getElem?_take → aax, append_assoc → aay, mem_cons_of_mem → aaz, length_take → aaA, findIdx?_eq_some_iff_getElem → aaC, getElem?_set_self → aaG, take_add_one → aaH, length_range → aaJ, mem_cons_self → aaN, take_length → aaQ, map_append → aaR, mem_range → aaV, any_eq_false → aaW, getElem?_eq_none → aaX, mem_append → aaY, ext_getElem? → aa0, mem_singleton → aa7, any_eq_true → abg, getElem_mem → abj, map_take → abl, any_map → abt, find?_eq_none → abv, take_append_of_le_length → abC, find?_some → abS, mem_of_find?_eq_some → ab1, mem_flatMap → ab5, map_id → ack
open Nat renaming lt_or_ge → aar, le_refl → aau
open Bool renaming eq_iff_iff → aa4
namespace Go.Pv
def iF (i:Int)(m:eU):Bool:=decide (m.id=i)
theorem r487 (m:eU)(u:Nat)(i:Int):res A ay 487 [.agg m.c,.ro u [.int .i64 i]]=some [.bool (iF i m)]:=by
 refine ai a487 rfl rfl ?_;simp only[F487,PY];simp(disch:=omega)only[go_sem,eU.c];rfl
theorem r486 (t u:Nat)(i:Int)(l:List eU)(hl:l.length<=2^63 - 1):res A ay 486 [.ae t (msgs l),.func 487 [.ro u [.int .i64 i]]]=some [.int .i64 (bg (iF i) l)]:=by
 refine ai a486 rfl rfl ?_;simp only[F486,PX];simp(disch:=omega)only[go_sem];refine W.find l (iF i) (λk=>⟨[(0,.pv (.ae t (msgs l))),(1,.pv (.func 487 [.ro u [.int .i64 i]])),(7,.pv (.int .i64 l.length)),(8,.pv (.int .i64 k))],⟨[],[],[]⟩⟩) rfl (λk x hx hk hfd=>?_) (λhn=>?_)
 .have hfx:=r487 x u i;simp(disch:=omega)only[go_sem];refine Br.aF (λh=>?_) (λh=>(h (by omega)).elim);unfold eU.c at hfx;simp(disch:=omega)only[go_sem,hx,eU.c,hfx];refine Br.of (λh2=>?_) (λh2=>?_)<;>simp(disch:=omega)only[go_sem]
  .rw[(hfd h2).bg]
  .exact aX.of h2 rfl
 .simp(disch:=omega)only[go_sem];rw[hn.bg]
def VO (o:Option eU):eU:=o.getD ⟨0,⟨#[]⟩,0⟩
theorem r476 (x:dt)(i:Int)(hl:x.msgs.length<=2^63 - 1):res A ay 476 [.agg x.c,.int .i64 i]=some [.agg (VO (x.msgs.find? (iF i))).c,.bool (x.msgs.any (iF i))]:=by
 refine ai a476 rfl rfl ?_;simp only[F476,PL];have h486:=λu=>r486 0 u i x.msgs hl;have e:x.msgs.map eU.c=msgs x.msgs:=rfl;simp only[dt.c,e];simp(disch:=omega)only[go_sem,h486];rcases mw (iF i) x.msgs with⟨f1,f2⟩|⟨k,m,f1,f2,f3⟩
 .have ha:x.msgs.any (iF i)=false:=by
   rw[aaW];exact abv.1 f1
  rw[f1,f2,ha];refine Br.aF (λc=>?_) (λc=>absurd (by decide) c);simp(disch:=omega)only[go_sem];rfl
 .have ha:x.msgs.any (iF i)=true:=by
   rw[abg];exact⟨m,ab1 f1,abS f1⟩
  rw[f1,f3,ha];refine Br.aF (λc=>absurd c (by omega)) (λc=>?_);simp(disch:=omega)only[go_sem,f2,eU.c];rfl
theorem r483 (x:dt)(i:Int)(hl:x.msgs.length<=2^63 - 1):res A ay 483 [.agg x.c,.int .i64 i]=some [.agg (VO (x.msgs.find? (iF i))).c,.bool (x.msgs.any (iF i))]:=by
 refine ai a483 rfl rfl ?_;simp only[F483,PT];have e:x.msgs.map eU.c=msgs x.msgs:=rfl;simp only[dt.c,e];simp(disch:=omega)only[go_sem];refine W.find x.msgs (iF i) (λk=>⟨[(1,.pv (.int .i64 i)),(2,.ptr 2 0),(4,.ptr 4 0),(6,.pv (.int .i64 k))],⟨[(2,[.pv (.str x.name),.pv (.ae 0 (msgs x.msgs)),.pv (.int .i64 x.auto.aj),.pv (.int .i64 x.auto.start),.pv (.ae 0 (x.auto.aa.map Edge.c))]),(4,[.pv (.int .i64 0),.pv (.str ⟨#[]⟩),.pv (.int .i64 0)])],[],[]⟩⟩) rfl (λk m hx hk hfd=>?_) (λhn=>?_)
 .simp(disch:=omega)only[go_sem];refine Br.aF (λc=>?_) (λc=>(c (by omega)).elim);simp(disch:=omega)only[go_sem,hx,eU.c];have hp:decide (m.id=i)=iF i m:=rfl;rw[hp];refine Br.of (λg=>?_) (λg=>?_)<;>simp(disch:=omega)only[go_sem,hx,eU.c]
  .rw[(hfd g).find,(hfd g).any];rfl
  .exact aX.of g rfl
 .simp(disch:=omega)only[go_sem];rw[hn.find,hn.any];rfl
def nS (l:List eU)(k:Nat):Int:=if k=0 then 0 else ((l[k - 1]?).map (·.id)).getD 0
def v8 (l:List eU)(k:Nat)(m:eU):Bool:=decide (m.id<=nS l k)||(decide (1000<m.id)||(!isName m.name||cz ((l.take k).map (·.name)) m.name))
def lH (l:List eU)(k:Nat):Bool:=match l[k]? with
 |some m=>v8 l k m
 |none=>false
def ft (x:dt):Bool:=!((List.range x.msgs.length).any (lH x.msgs))&&isName x.name
theorem wc {l:List eU}{k:Nat}{m:eU}(h:l[k]?=some m):nS l (k+1)=m.id:=by
 unfold nS;rw[if_neg (by omega),Nat.add_sub_cancel,h];rfl
set_option maxHeartbeats 2000000 in
theorem r482 (x:dt)(hl:x.msgs.length<=2^63 - 1)(hn:bo x.name)(hs:∀m∈x.msgs,bo m.name):res A ay 482 [.agg x.c]=some [.bool (ft x)]:=by
 have h310n:=r310 x.name hn;refine ai a482 rfl rfl ?_;simp only[F482,PS];have e:x.msgs.map eU.c=msgs x.msgs:=rfl;simp only[dt.c,e];simp(disch:=omega)only[go_sem];refine W.find (List.range x.msgs.length) (lH x.msgs) (λk=>⟨[(1,.ptr 1 0),(3,.pv (.int .i64 (nS x.msgs k))),(4,.pv (.int .i64 k))],⟨[(1,[.pv (.str x.name),.pv (.ae 0 (msgs x.msgs)),.pv (.int .i64 x.auto.aj),.pv (.int .i64 x.auto.start),.pv (.ae 0 (x.auto.aa.map Edge.c))])],[],[]⟩⟩) rfl (λk k' hx hk hfd=>?_) (λhnw=>?_)
 .obtain⟨rfl,hk⟩:=cZ hx;obtain⟨m,hm⟩:=get_some hk;have hb:lH x.msgs k'=v8 x.msgs k' m:=by unfold lH;rw[hm]
  have h310:=r310 m.name (hs m (aaj hm));have done:lH x.msgs k'=true->(some [PV.bool false]:Option (List PV))=some [.bool (ft x)]:=λh=>by
   unfold ft;rw[(hfd h).any];rfl
  have hln:=wc hm;rw[hb]at done |-;unfold v8 at done |-;generalize nS x.msgs k'=la at *;simp(disch:=omega)only[go_sem];refine Br.aF (λc=>?_) (λc=>(c (by omega)).elim);simp(disch:=omega)only[go_sem,hm,eU.c,h310];refine Br.aF (λc1=>?_) (λc1=>?_)<;>simp(disch:=omega)only[go_sem,c1,h310]
  .exact done (by simp[c1])
  refine Br.aF (λc2=>?_) (λc2=>?_)<;>simp(disch:=omega)only[go_sem,c2,h310]
  .exact done (by simp[c2])
  cases hi:isName m.name with
  |false=>
   simp(disch:=omega)only[go_sem];exact done (by simp[hi])
  |true=>
   simp(disch:=omega)only[go_sem];rw[hi]at done;refine W.find (x.msgs.take k') (λq=>decide (q.name=m.name)) (λj=>⟨[(1,.ptr 1 0),(4,.pv (.int .i64 k')),(5,.ptr 5 0),(6,.pv (.int .i64 j))],⟨[(1,[.pv (.str x.name),.pv (.ae 0 (msgs x.msgs)),.pv (.int .i64 x.auto.aj),.pv (.int .i64 x.auto.start),.pv (.ae 0 (x.auto.aa.map Edge.c))]),(5,[.pv (.int .i64 m.id),.pv (.str m.name),.pv (.int .i64 m.ty)])],[],[]⟩⟩) rfl (λj q hj hjl hfd2=>?_) (λhn2=>?_)
   .have hjl':j<k'/\j<x.msgs.length:=by rw[aaA]at hjl;omega
    have hj':x.msgs[j]?=some q:=by
     rw[aax,if_pos hjl'.1]at hj;exact hj
    simp(disch:=omega)only[go_sem];refine Br.aF (λc=>?_) (λc=>(c (by omega)).elim);simp(disch:=omega)only[go_sem,hj',eU.c];refine Br.aF (λc3=>?_) (λc3=>?_)<;>simp(disch:=omega)only[go_sem,c3]
    .refine done ?_;have:cz ((x.msgs.take k').map (·.name)) m.name=true:=by
      unfold cz;rw[abt];exact(hfd2 (by simp[c3])).any
     rw[this];simp
    .exact aX.of (by simp[c3]) rfl
   .have hlx:(x.msgs.take k').length=k':=by rw[aaA];omega
    rw[hlx];have hh:cz ((x.msgs.take k').map (·.name)) m.name=false:=by
     unfold cz;rw[abt];exact hn2.any
    simp(disch:=omega)only[go_sem];exact aX.of (by rw[hh];simp[c1,c2]) (by rw[hln];rfl)
 .rw[aaJ];have hv:ft x=isName x.name:=by
   unfold ft;rw[hnw.any];simp
  rw[hv];simp(disch:=omega)only[go_sem,h310n]
def tz (l:List eU)(k:Nat):List ByteArray:=((l.take k).map (·.name)).foldl r8 []
theorem Gk (l:List eU)(k:Nat)(x:ByteArray):cz (tz l k) x=cz ((l.take k).map (·.name)) x:=by
 rw[aa4,fh,fh,tz,sg];simp
theorem DJ {l:List eU}{k:Nat}{t:eU}(h:l[k]?=some t):r8 (tz l k) t.name=tz l (k+1):=by
 unfold tz;rw[aaH,h,aaR,List.foldl_append];rfl
def oK (n:Nat)(x:dt):Int:=
 if 16<x.msgs.length then 3
 else if ft x=false then 1
 else if x.msgs.any (λm=>cM n m.ty)=true then 4
 else if x.auto.err≠0 then x.auto.err
 else if x.auto.aa.any (λe=>!x.msgs.any (iF e.label))=true then 4
 else if (x.auto.order.length:Int)≠x.auto.aj then 1 else 0
theorem IS {a:aT}(h:a.err=0):(a.order.length:Int)<=a.aj:=by
 have hg:=aT.kj.1 h;have:=hg.nQ hg.st;have h2:=hg.st;unfold aT.order;omega
set_option maxHeartbeats 4000000 in
theorem r472 (u:Nat)(T:List (List PV))(x:dt)(hT:T.length<=2^63 - 1)(hl:x.msgs.length<=2^63 - 1)(hn:bo x.name)(hs:∀m∈x.msgs,bo m.name)(he:x.auto.aa.length<=2000000000):res A ay 472 [.agg [.ae u T],.agg x.c]=some [.int .i64 (oK T.length x)]:=by
 have h482:=r482 x hl hn hs;have h483:=λi=>r483 x i hl;have h33:=r33 0 x.auto he;refine ai a472 rfl rfl ?_;simp only[F472,PH];have e:x.msgs.map eU.c=msgs x.msgs:=rfl;simp only[dt.c,e]at h482 h483 |-;unfold oK;simp(disch:=omega)only[go_sem];refine Br.aF (λc1=>?_) (λc1=>?_)<;>simp(disch:=omega)only[go_sem,c1,h482]
 .rw[if_pos (by omega)]
 rw[if_neg (by omega)];cases hnm:ft x with
 |false=>simp(disch:=omega)only[go_sem,if_true]
 |true=>
  simp(disch:=omega)only[go_sem];rw[if_neg (by decide)];refine W.find x.msgs (λm=>cM T.length m.ty) (λk=>⟨[(2,.ptr 2 0),(3,.ptr 3 0),(5,.pv (.int .i64 k))],⟨[(2,[.pv (.ae u T)]),(3,[.pv (.str x.name),.pv (.ae 0 (msgs x.msgs)),.pv (.int .i64 x.auto.aj),.pv (.int .i64 x.auto.start),.pv (.ae 0 (x.auto.aa.map Edge.c))])],[],[]⟩⟩) rfl (λk m hx hk hfd=>?_) (λhnw=>?_)
  .have done:cM T.length m.ty=true->x.msgs.any (λm=>cM T.length m.ty)=true:=λg=>(hfd g).any;unfold cM at done |-;simp(disch:=omega)only[go_sem];refine Br.aF (λc=>?_) (λc=>(c (by omega)).elim);simp(disch:=omega)only[go_sem,hx,eU.c];refine Br.aF (λc4=>?_) (λc4=>?_)<;>simp(disch:=omega)only[go_sem,c4,hx,eU.c]
   .rw[if_pos (done (by simp[c4]))]
   refine Br.aF (λc5=>?_) (λc5=>?_)<;>simp(disch:=omega)only[go_sem,c5]
   .rw[if_pos (done (by simp[c5]))]
   .exact aX.of (by simp[c4,c5]) rfl
  .rw[hnw.any,if_neg (by decide)];by_cases h0:x.auto.err=0
   .rw[if_pos h0]at h33;rw[if_neg (by simp[h0])];simp(disch:=omega)only[go_sem,h33];refine W.find x.auto.aa (λe=>!x.msgs.any (iF e.label)) (λk=>⟨[(3,.ptr 3 0),(6,.ptr 6 0),(8,.pv (.int .i64 k))],⟨[(3,[.pv (.str x.name),.pv (.ae 0 (msgs x.msgs)),.pv (.int .i64 x.auto.aj),.pv (.int .i64 x.auto.start),.pv (.ae 0 (x.auto.aa.map Edge.c))]),(6,[.pv (.int .i64 x.auto.order.length),.pv (.int .i64 0),.pv (.ae 0 (bX (nL Edge.lt (kept x.auto.order x.auto.aa))))])],[],[]⟩⟩) rfl (λk d hx hk hfd=>?_) (λhnw=>?_)
    .have h483:=h483 d.label;have done:(!x.msgs.any (iF d.label))=true->x.auto.aa.any (λe=>!x.msgs.any (iF e.label))=true:=λg=>(hfd g).any;generalize x.msgs.any (iF d.label)=b at h483 done |-;generalize x.msgs.find? (iF d.label)=o at h483;simp only[eU.c]at h483;simp(disch:=omega)only[go_sem];refine Br.aF (λc=>?_) (λc=>(c (by omega)).elim);simp(disch:=omega)only[go_sem,hx,h483,eU.c];cases b
     .simp(disch:=omega)only[go_sem];rw[if_pos (done rfl)]
     .simp(disch:=omega)only[go_sem];exact aX.of rfl rfl
    .rw[hnw.any,if_neg (by decide)];simp(disch:=omega)only[go_sem];refine Br.aF (λc=>?_) (λc=>?_)<;>simp(disch:=omega)only[go_sem]
     .rw[if_neg (by simp[c])]
     .rw[if_pos c]
   .rw[if_neg h0]at h33;rw[if_pos h0];simp(disch:=omega)only[go_sem,h33];refine Br.aF (λc=>absurd c h0) (λc=>?_);simp(disch:=omega)only[go_sem]
set_option maxHeartbeats 4000000 in
theorem r466 (u:Nat)(T:List (List PV))(x:dt)(hT:T.length<=2^63 - 1)(hl:x.msgs.length<=2^63 - 1)(hn:bo x.name)(hs:∀m∈x.msgs,bo m.name)(he:x.auto.aa.length<=2000000000):res A ay 466 [.agg [.ae u T],.agg x.c]=some [.int .i64 (oK T.length x)]:=by
 have h306n:=r306 x.name hn;have h476:=λi=>r476 x i hl;have h32:=r32 0 x.auto he;refine ai a466 rfl rfl ?_;simp only[F466,PD];have e:x.msgs.map eU.c=msgs x.msgs:=rfl;simp only[dt.c,e]at h476 |-;unfold oK;simp(disch:=omega)only[go_sem];refine Br.aF (λc1=>?_) (λc1=>?_)<;>simp(disch:=omega)only[go_sem,c1]
 .rw[if_pos (by omega)]
 rw[if_neg (by omega)];refine W.find (List.range x.msgs.length) (lH x.msgs) (λk=>⟨[(2,.ptr 2 0),(3,.ptr 3 0),(5,.map 0),(6,.pv (.int .i64 (nS x.msgs k))),(23,.pv (.ae 0 (msgs x.msgs))),(24,.pv (.int .i64 x.msgs.length)),(25,.pv (.int .i64 k))],⟨[(2,[.pv (.ae u T)]),(3,[.pv (.str x.name),.pv (.ae 0 (msgs x.msgs)),.pv (.int .i64 x.auto.aj),.pv (.int .i64 x.auto.start),.pv (.ae 0 (x.auto.aa.map Edge.c))])],[],[ka (tz x.msgs k)]⟩⟩) rfl (λk k' hx hk hfd=>?_) (λhnw=>?_)
 .obtain⟨rfl,hk⟩:=cZ hx;obtain⟨m,hm⟩:=get_some hk;have hb:lH x.msgs k'=v8 x.msgs k' m:=by unfold lH;rw[hm]
  have h306:=r306 m.name (hs m (aaj hm));have done:lH x.msgs k'=true->ft x=false:=λh=>by
   unfold ft;rw[(hfd h).any];rfl
  have hln:=wc hm;have hsn:=DJ hm;rw[hb]at done |-;unfold v8 at done |-;rw[<- Gk]at done |-;generalize nS x.msgs k'=la at *;generalize tz x.msgs k'=sn at *;simp(disch:=omega)only[go_sem];refine Br.aF (λc=>?_) (λc=>(c (by omega)).elim);simp(disch:=omega)only[go_sem,hm,eU.c,h306];refine Br.aF (λc1=>?_) (λc1=>?_)<;>simp(disch:=omega)only[go_sem,c1,h306]
  .rw[if_pos (done (by simp[c1]))]
  refine Br.aF (λc2=>?_) (λc2=>?_)<;>simp(disch:=omega)only[go_sem,c2,h306]
  .rw[if_pos (done (by simp[c2]))]
  cases hi:isName m.name with
  |false=>
   simp(disch:=omega)only[go_sem];rw[if_pos (done (by simp[hi]))]
  |true=>
   rw[hi]at done;simp(disch:=omega)only[go_sem];cases hh:cz sn m.name with
   |true=>
    rw[hh]at done;simp(disch:=omega)only[go_sem];rw[if_pos (done (by simp))]
   |false=>
    simp(disch:=omega)only[go_sem];exact aX.of (by simp[c1,c2]) (by rw[hln,<- hsn];rfl)
 .rw[aaJ];have hv:ft x=isName x.name:=by
   unfold ft;rw[hnw.any];simp
  rw[hv];simp(disch:=omega)only[go_sem,h306n];generalize tz x.msgs x.msgs.length=sn;cases hnm:isName x.name with
  |false=>simp(disch:=omega)only[go_sem,if_true]
  |true=>
  simp(disch:=omega)only[go_sem];rw[if_neg (by decide)];refine W.find x.msgs (λm=>cM T.length m.ty) (λk=>⟨[(2,.ptr 2 0),(3,.ptr 3 0),(61,.pv (.ae 0 (msgs x.msgs))),(62,.pv (.int .i64 x.msgs.length)),(63,.pv (.int .i64 k))],⟨[(2,[.pv (.ae u T)]),(3,[.pv (.str x.name),.pv (.ae 0 (msgs x.msgs)),.pv (.int .i64 x.auto.aj),.pv (.int .i64 x.auto.start),.pv (.ae 0 (x.auto.aa.map Edge.c))])],[],[ka sn]⟩⟩) rfl (λk m hx hk hfd=>?_) (λhnw=>?_)
  .have done:cM T.length m.ty=true->x.msgs.any (λm=>cM T.length m.ty)=true:=λg=>(hfd g).any;unfold cM at done |-;simp(disch:=omega)only[go_sem];refine Br.aF (λc=>?_) (λc=>(c (by omega)).elim);simp(disch:=omega)only[go_sem,hx,eU.c];refine Br.aF (λc4=>?_) (λc4=>?_)<;>simp(disch:=omega)only[go_sem,c4,hx,eU.c]
   .rw[if_pos (done (by simp[c4]))]
   refine Br.aF (λc5=>?_) (λc5=>?_)<;>simp(disch:=omega)only[go_sem,c5]
   .rw[if_pos (done (by simp[c5]))]
   .exact aX.of (by simp[c4,c5]) rfl
  .rw[hnw.any,if_neg (by decide)];by_cases h0:x.auto.err=0
   .have hle:=IS h0;have ho:x.auto.trim.aj=x.auto.order.length:=rfl;rw[if_pos h0,ho]at h32;rw[if_neg (by simp[h0])];simp(disch:=omega)only[go_sem,h32,if_pos h0,ho];refine W.find x.auto.aa (λe=>!x.msgs.any (iF e.label)) (λk=>⟨[(3,.ptr 3 0),(11,.ptr 11 0),(90,.pv (.ae 0 (x.auto.aa.map Edge.c))),(91,.pv (.int .i64 x.auto.aa.length)),(92,.pv (.int .i64 k))],⟨[(3,[.pv (.str x.name),.pv (.ae 0 (msgs x.msgs)),.pv (.int .i64 x.auto.aj),.pv (.int .i64 x.auto.start),.pv (.ae 0 (x.auto.aa.map Edge.c))]),(11,[.pv (.int .i64 x.auto.order.length),.pv (.int .i64 0),.pv (.ae 0 (bX x.auto.trim.aa))])],[],[ka sn]⟩⟩) rfl (λk d hx hk hfd=>?_) (λhnw=>?_)
    .have h476:=h476 d.label;have done:(!x.msgs.any (iF d.label))=true->x.auto.aa.any (λe=>!x.msgs.any (iF e.label))=true:=λg=>(hfd g).any;generalize x.msgs.any (iF d.label)=b at h476 done |-;generalize x.msgs.find? (iF d.label)=o at h476;simp only[eU.c]at h476;simp(disch:=omega)only[go_sem];refine Br.aF (λc=>?_) (λc=>(c (by omega)).elim);simp(disch:=omega)only[go_sem,hx,h476,eU.c];cases b
     .simp(disch:=omega)only[go_sem];rw[if_pos (done rfl)]
     .simp(disch:=omega)only[go_sem];exact aX.of rfl rfl
    .rw[hnw.any,if_neg (by decide)];simp(disch:=omega)only[go_sem];refine Br.aF (λc=>?_) (λc=>?_)<;>simp(disch:=omega)only[go_sem]
     .rw[if_pos (by omega)]
     .rw[if_neg (by omega)]
   .rw[if_neg h0]at h32;rw[if_pos h0];simp(disch:=omega)only[go_sem,h32,if_neg h0];refine Br.aF (λc=>absurd c h0) (λc=>?_);simp(disch:=omega)only[go_sem]
theorem r463 (u:Nat)(T:List aB)(x:dt)(hT:T.length<=2147483648)(ho:∀t∈T,t.ok)(hsh:∀t∈T,t.short)(hl:x.msgs.length<=2^63 - 1)(hn:bo x.name)(hs:∀m∈x.msgs,bo m.name)(he:x.auto.aa.length<=2000000000):res A ay 463 [.agg [.ae u (T.map aB.c)],.agg x.c]=some [.int .i64 (if bG T≠0 then bG T else oK T.length x)]:=by
 have h268:=r268 u T hT ho hsh;have h472:=r472 u (T.map aB.c) x (by rw[aam];omega) hl hn hs he;rw[aam]at h472;refine ai a463 rfl rfl ?_;simp only[F463,PA];have e:x.msgs.map eU.c=msgs x.msgs:=rfl;simp only[dt.c,e]at h472 |-;simp(disch:=omega)only[go_sem,h268];refine Br.aF (λc=>?_) (λc=>?_)<;>simp(disch:=omega)only[go_sem,h472]
 .rw[if_neg (by simp[c])]
 .rw[if_pos c]
theorem r444 (u:Nat)(T:List aB)(x:dt)(hT:T.length<=2147483648)(ho:∀t∈T,t.ok)(hsh:∀t∈T,t.short)(hl:x.msgs.length<=2^63 - 1)(hn:bo x.name)(hs:∀m∈x.msgs,bo m.name)(he:x.auto.aa.length<=2000000000):res A ay 444 [.agg [.ae u (T.map aB.c)],.agg x.c]=some [.int .i64 (if bG T≠0 then bG T else oK T.length x)]:=by
 have h267:=r267 u T hT ho hsh;have h466:=r466 u (T.map aB.c) x (by rw[aam];omega) hl hn hs he;rw[aam]at h466;refine ai a444 rfl rfl ?_;simp only[F444,Pm];have e:x.msgs.map eU.c=msgs x.msgs:=rfl;simp only[dt.c,e]at h466 |-;simp(disch:=omega)only[go_sem,h267];refine Br.aF (λc=>?_) (λc=>?_)<;>simp(disch:=omega)only[go_sem,h466]
 .rw[if_neg (by simp[c])]
 .rw[if_pos c]
theorem r475 (t:Nat)(l:List ByteArray)(x:ByteArray)(hl:l.length<=2^63 - 1):res A ay 475 [.ae t (strs l),.str x]=some [.int .i64 (bg (λs=>decide (s=x)) l)]:=by
 refine ai a475 rfl rfl ?_;simp only[F475,PK];simp(disch:=omega)only[go_sem];refine W.find l (λs=>decide (s=x)) (λk=>⟨[(0,.pv (.ae t (strs l))),(1,.pv (.str x)),(7,.pv (.int .i64 l.length)),(8,.pv (.int .i64 k))],⟨[],[],[]⟩⟩) rfl (λk s hx hk hfd=>?_) (λhn=>?_)
 .simp(disch:=omega)only[go_sem];refine Br.aF (λh=>?_) (λh=>(h (by omega)).elim);simp(disch:=omega)only[go_sem,hx];have e:decide (x=s)=decide (s=x):=decide_eq_decide.2 ⟨λh=>h.symm,λh=>h.symm⟩;rw[e];refine Br.of (λh2=>?_) (λh2=>?_)<;>simp(disch:=omega)only[go_sem]
  .rw[(hfd h2).bg]
  .exact aX.of h2 rfl
 .simp(disch:=omega)only[go_sem];rw[hn.bg]
theorem r465 (t:Nat)(l:List ByteArray)(x:ByteArray)(hl:l.length<=2^63 - 1):res A ay 465 [.ae t (strs l),.str x]=some [.bool (cz l x)]:=by
 refine ai a465 rfl rfl ?_;simp only[F465,PC];have h475:=r475 t l x hl;simp(disch:=omega)only[go_sem,h475];have e:decide (0<=bg (λs=>decide (s=x)) l)=cz l x:=by
  unfold bg cz;cases h:l.findIdx? (λs=>decide (s=x))with
  |none=>
   rw[List.any_eq_false.2 λy hy=>by simpa using List.findIdx?_eq_none_iff.1 h y hy];rfl
  |some k=>
   obtain⟨hk,h2,_⟩:=aaC.1 h;rw[abg.2 ⟨_,abj hk,h2⟩];simp
 rw[e]
theorem EV (nm:ByteArray)(l:List ByteArray)(hn:bo nm)(hl:l.length<=1000)(Q:Ex->St->Prop)
  (hQ:∀env,if isName nm=false then Q .ret ⟨(4,.pv (.int .i64 1))::env,⟨[(200000,[dn 0 (strs l)])],cG 1 (strs l),[]⟩⟩ else if cz l nm=true then Q .ret ⟨(4,.pv (.int .i64 5))::env,⟨[(200000,[dn 0 (strs l)])],cG 1 (strs l),[]⟩⟩ else Q .ret ⟨(4,.pv (.int .i64 0))::env,⟨[(200000,[dn 0 (strs (l++[nm]))])],cG 1 (strs (l++[nm])),[]⟩⟩):
  W A ay F441.body ⟨[(0,.ptr 200000 0),(1,.pv (.str nm))],⟨[(200000,[dn 0 (strs l)])],cG 1 (strs l),[]⟩⟩ Q:=by
 have h306:=r306 nm hn;have h465:=λt=>r465 t l nm (by omega);have hsl:(strs l).length<=1000:=by rw[gi];exact hl
 have hg:=λbx mp=>AY bx mp 1 (strs l) [.str nm] rfl (by omega);simp only[F441,KL];simp(disch:=omega)only[go_sem,h306];cases hi:isName nm with
 |false=>
  rw[hi]at hQ;simp only[if_true]at hQ;simp(disch:=omega)only[go_sem];exact hQ _
 |true=>
  rw[hi]at hQ;rw[<- r9]at hQ;simp only[Bool.true_eq_false,if_false]at hQ;simp(disch:=omega)only[go_sem,h465];cases hh:cz l nm with
  |true=>
   rw[hh]at hQ;simp only[if_true]at hQ;simp(disch:=omega)only[go_sem];exact hQ []
  |false=>
   rw[hh]at hQ;simp only[Bool.false_eq_true,if_false]at hQ;simp(disch:=omega)only[go_sem,hg];exact hQ []
theorem IT (a:aL)(nm:ByteArray)(l:List ByteArray)(hn:bo nm)(hl:l.length<=1000)(Q:Ex->St->Prop)
  (hQ:∀env,if isName nm=false then Q .ret ⟨(4,.pv (.int .i64 1))::env,⟨[(200000,[dn 1 (strs l)])],a::cG 1 (strs l),[]⟩⟩ else if cz l nm=true then Q .ret ⟨(4,.pv (.int .i64 5))::env,⟨[(200000,[dn 1 (strs l)])],a::cG 1 (strs l),[]⟩⟩ else Q .ret ⟨(4,.pv (.int .i64 0))::env,⟨[(200000,[dn 1 (strs (l++[nm]))])],a::cG 1 (strs (l++[nm])),[]⟩⟩):
  W A ay F441.body ⟨[(0,.ptr 200000 0),(1,.pv (.str nm))],⟨[(200000,[dn 1 (strs l)])],a::cG 1 (strs l),[]⟩⟩ Q:=by
 have h306:=r306 nm hn;have h465:=λt=>r465 t l nm (by omega);have hsl:(strs l).length<=1000:=by rw[gi];exact hl
 have hg:=λbx mp=>Vq bx mp a 1 (strs l) [.str nm] rfl (by omega);simp only[F441,KL];simp(disch:=omega)only[go_sem,h306];cases hi:isName nm with
 |false=>
  rw[hi]at hQ;simp only[if_true]at hQ;simp(disch:=omega)only[go_sem];exact hQ _
 |true=>
  rw[hi]at hQ;rw[<- r9]at hQ;simp only[Bool.true_eq_false,if_false]at hQ;simp(disch:=omega)only[go_sem,h465];cases hh:cz l nm with
  |true=>
   rw[hh]at hQ;simp only[if_true]at hQ;simp(disch:=omega)only[go_sem];exact hQ []
  |false=>
   rw[hh]at hQ;simp only[Bool.false_eq_true,if_false]at hQ;simp(disch:=omega)only[go_sem,hg];exact hQ []
def EW (v:V):Prop:=v=.tl []\/∃a b c d,v=.own a b c d
theorem fL (n:Nat)(rows:List (List PV)):EW (dn n rows):=by
 cases rows with
 |nil=>exact .inl rfl
 |cons x r=>exact .inr ⟨_,_,_,_,rfl⟩
theorem jC {s:Nat}{v:V}{ar:List aL}{mp:List (List (PV×PV))}{env:List (Nat×V)}{p:PV}{K:V->Tn->Prop}(hv:EW v)(hp:∃n,p=.int .i64 n)(h:K (.pv p) {all:=some ([(s,[v])],ar,mp)}):Fx [.tmp 4] [s] K .mk .ret ⟨(4,.pv p)::env,⟨[(200000,[v])],ar,mp⟩⟩:=by
 obtain⟨n,rfl⟩:=hp;rcases hv with rfl|⟨_,_,_,_,rfl⟩<;>exact⟨_,rfl,_,rfl,_,rfl,h⟩
theorem call5 {v:V}{ar:List aL}{nm:ByteArray}{a1 a2 a3 a4 a5 b1 b2 b3:PV}{K:V->Tn->Prop}(hv:EW v)(h:W A ay F441.body ⟨[(0,.ptr 200000 0),(1,.pv (.str nm))],⟨[(200000,[v])],ar,[]⟩⟩ (Fx [.tmp 4] [5] K)):
  IW A ay 441 [.ptr 5 0,.pv (.str nm)] ⟨[(1,[.pv a1,.pv a2,.pv a3,.pv a4,.pv a5]),(5,[v]),(6,[.tl []]),(8,[.pv b1,.pv b2,.pv b3])],ar,[]⟩ K:=by
 rw[LY a441];rcases hv with rfl|⟨_,_,_,_,rfl⟩<;>exact⟨rfl,_,rfl,_,rfl,h⟩
theorem call6 {v:V}{ar:List aL}{nm:ByteArray}{a1 a2 a3 a4 a5 b1 b2:PV}{K:V->Tn->Prop}(hv:EW v)(h:W A ay F441.body ⟨[(0,.ptr 200000 0),(1,.pv (.str nm))],⟨[(200000,[v])],ar,[]⟩⟩ (Fx [.tmp 4] [6] K)):
  IW A ay 441 [.ptr 6 0,.pv (.str nm)] ⟨[(1,[.pv a1,.pv a2,.pv a3,.pv a4,.pv a5]),(6,[v]),(14,[.pv b1,.pv b2])],ar,[]⟩ K:=by
 rw[LY a441];rcases hv with rfl|⟨_,_,_,_,rfl⟩<;>exact⟨rfl,_,rfl,_,rfl,h⟩
def oL {α:Type}(f:Nat->α->Int)(l:List α)(k:Nat):Int:=match l[k]? with
 |some x=>f k x
 |none=>0
def dj {α:Type}(f:Nat->α->Int)(l:List α):Int:=match (List.range l.length).find? (λk=>decide (oL f l k≠0))with
 |some k=>oL f l k
 |none=>0
theorem fW {α:Type}{f:Nat->α->Int}{l:List α}{i k:Nat}{x:α}(hx:l[k]?=some x)(h:Found (List.range l.length) (λk=>decide (oL f l k≠0)) i k):dj f l=f k x:=by
 unfold dj;rw[h.find];simp only[oL,hx]
theorem fX {α:Type}{f:Nat->α->Int}{l:List α}(h:jy (List.range l.length) (λk=>decide (oL f l k≠0))):dj f l=0:=by
 unfold dj;rw[h.find]
theorem eh {α:Type}{f:Nat->α->Int}{l:List α}{k:Nat}{x:α}(hx:l[k]?=some x):oL f l k=f k x:=by
 simp only[oL,hx]
def mO (n:Nat)(l:List j8)(k:Nat)(c:j8):Int:=if isName c.name=false then 1 else if cz ((l.map (·.name)).take k) c.name=true then 5 else if (cM n c.lK||cM n c.rep)=true then 4 else 0
def mA (n:Nat)(l:List ky)(k:Nat)(c:ky):Int:=if isName c.name=false then 1 else if cz ((l.map (·.name)).take k) c.name=true then 5 else if cM n c.ty=true then 4 else 0
def mP (n:Nat)(l:List dt)(k:Nat)(w:dt):Int:=if cz ((l.map (·.name)).take k) w.name=true then 5 else oK n w
theorem r462 (u:Nat)(T:List (List PV))(t:Int)(hl:T.length<=2^63 - 1):res A ay 462 [.agg [.ae u T],.int .i64 t]=some [.bool (!cM T.length t)]:=by
 refine ai a462 rfl rfl ?_;simp only[F462,Pz];unfold cM;simp(disch:=omega)only[go_sem];by_cases c:0<=t
 .have e:decide (t<0)=false:=decide_eq_false (by omega);have e3:decide (0<=t)=true:=decide_eq_true c;have e2:(!decide ((T.length:Int)<=t))=decide (t<(T.length:Int)):=by
   rw[aa4];simp
  simp(disch:=omega)only[go_sem,e,e3];rw[e2]
 .have e:decide (t<0)=true:=decide_eq_true (by omega);have e3:decide (0<=t)=false:=decide_eq_false c;simp(disch:=omega)only[go_sem,e,e3]
structure gK (v:eV):Prop where
 nm:bo v.name
 tl:v.types.length<=2147483648
 to:∀t∈v.types,t.ok
 ts:∀t∈v.types,t.short
 cl:v.calls.length<=2^63 - 1
 cs:∀c∈v.calls,bo c.name
 sl:v.az.length<=2^63 - 1
 ss:∀w∈v.az,bo w.name/\w.msgs.length<=2^63 - 1/\(∀m∈w.msgs,bo m.name)/\w.auto.aa.length<=2000000000
 pl:v.aI.length<=2^63 - 1
 ps:∀c∈v.aI,bo c.name
set_option maxHeartbeats 2000000 in
theorem r436 (t1 t2 t3 t4:Nat)(v:eV)(hv:gK v):res A ay 436 [.agg (eY t1 t2 t3 t4 v)]=some [.int .i64 (dj (mO v.types.length v.calls) v.calls)]:=by
 have hcl:=hv.cl;have htl:=hv.tl;refine ai a436 rfl rfl ?_;simp only[F436,Pe,eY];simp(disch:=omega)only[go_sem];obtain⟨G,hG⟩:∃G,dj (mO v.types.length v.calls) v.calls=G:=⟨_,rfl⟩;rw[hG];refine W.find (List.range v.calls.length) (λk=>decide (oL (mO v.types.length v.calls) v.calls k≠0)) (λk=>⟨[(1,.ptr 1 0),(3,.pv (.int .i64 k))],⟨[(1,[.pv (.str v.name),.pv (.ae t1 (v.types.map aB.c)),.pv (.ae t2 (bm v.calls)),.pv (.ae t3 (az v.az)),.pv (.ae t4 (cg v.aI))])],[],[]⟩⟩) rfl (λi k hx hk hfd=>?_) (λhn=>?_)
 .obtain⟨rfl,hk⟩:=cZ hx;obtain⟨x,hx⟩:=get_some hk;have done:∀e:Int,mO v.types.length v.calls k x=e->e≠0->(some [PV.int .i64 e]:Option (List PV))=some [.int .i64 G]:=λe h1 h2=>by
   rw[<- hG,fW hx (hfd (by rw[eh hx,h1];exact decide_eq_true h2)),h1]
  rw[eh hx];have h310:=r310 x.name (hv.cs x (aaj hx));have h462:=λu t=>r462 u (v.types.map aB.c) t (by rw[aam];omega);rw[aam]at h462;simp(disch:=omega)only[go_sem];refine Br.aF (λc=>?_) (λc=>(c (by omega)).elim);simp(disch:=omega)only[go_sem,hx,j8.c,h310];unfold mO at done |-;cases hi:isName x.name with
  |false=>
   simp(disch:=omega)only[go_sem];exact done 1 (by rw[if_pos hi]) (by decide)
  |true=>
   simp(disch:=omega)only[go_sem];rw[if_neg (by simp[hi])]at done |-;refine W.find (v.calls.take k) (λq=>decide (q.name=x.name)) (λj=>⟨[(1,.ptr 1 0),(3,.pv (.int .i64 k)),(4,.ptr 4 0),(5,.pv (.int .i64 j))],⟨[(1,[.pv (.str v.name),.pv (.ae t1 (v.types.map aB.c)),.pv (.ae t2 (bm v.calls)),.pv (.ae t3 (az v.az)),.pv (.ae t4 (cg v.aI))]),(4,[.pv (.str x.name),.pv (.int .i64 x.lK),.pv (.int .i64 x.rep)])],[],[]⟩⟩) rfl (λj q hj hjl hfd2=>?_) (λhn2=>?_)
   .have hjl':j<k/\j<v.calls.length:=by rw[aaA]at hjl;omega
    have hj':v.calls[j]?=some q:=by
     rw[aax,if_pos hjl'.1]at hj;exact hj
    simp(disch:=omega)only[go_sem];refine Br.aF (λc=>?_) (λc=>(c (by omega)).elim);simp(disch:=omega)only[go_sem,hj',j8.c];refine Br.aF (λc3=>?_) (λc3=>?_)<;>simp(disch:=omega)only[go_sem,c3]
    .refine done 5 ?_ (by decide);have:cz ((v.calls.map (·.name)).take k) x.name=true:=by
      unfold cz;rw[<- abl,abt];exact(hfd2 (by simp[c3])).any
     rw[if_pos this]
    .exact aX.of (by simp[c3]) rfl
   .have hlx:(v.calls.take k).length=k:=by rw[aaA];omega
    rw[hlx];have hh:cz ((v.calls.map (·.name)).take k) x.name=false:=by
     unfold cz;rw[<- abl,abt];exact hn2.any
    rw[if_neg (by simp[hh])]at done |-;simp(disch:=omega)only[go_sem,h462];cases h1:cM v.types.length x.lK with
    |true=>
     simp(disch:=omega)only[go_sem];exact done 4 (by rw[h1];rfl) (by decide)
    |false=>
     simp(disch:=omega)only[go_sem,h462];cases h2:cM v.types.length x.rep with
     |true=>
      simp(disch:=omega)only[go_sem];exact done 4 (by rw[h1,h2];rfl) (by decide)
     |false=>
      simp(disch:=omega)only[go_sem];exact aX.of (by simp) rfl
 .rw[aaJ,<- hG,fX hn];simp(disch:=omega)only[go_sem]
set_option maxHeartbeats 2000000 in
theorem r438 (t1 t2 t3 t4:Nat)(v:eV)(hv:gK v):res A ay 438 [.agg (eY t1 t2 t3 t4 v)]=some [.int .i64 (dj (mA v.types.length v.aI) v.aI)]:=by
 have hcl:=hv.pl;have htl:=hv.tl;refine ai a438 rfl rfl ?_;simp only[F438,Pg,eY];simp(disch:=omega)only[go_sem];obtain⟨G,hG⟩:∃G,dj (mA v.types.length v.aI) v.aI=G:=⟨_,rfl⟩;rw[hG];refine W.find (List.range v.aI.length) (λk=>decide (oL (mA v.types.length v.aI) v.aI k≠0)) (λk=>⟨[(1,.ptr 1 0),(3,.pv (.int .i64 k))],⟨[(1,[.pv (.str v.name),.pv (.ae t1 (v.types.map aB.c)),.pv (.ae t2 (bm v.calls)),.pv (.ae t3 (az v.az)),.pv (.ae t4 (cg v.aI))])],[],[]⟩⟩) rfl (λi k hx hk hfd=>?_) (λhn=>?_)
 .obtain⟨rfl,hk⟩:=cZ hx;obtain⟨x,hx⟩:=get_some hk;have done:∀e:Int,mA v.types.length v.aI k x=e->e≠0->(some [PV.int .i64 e]:Option (List PV))=some [.int .i64 G]:=λe h1 h2=>by
   rw[<- hG,fW hx (hfd (by rw[eh hx,h1];exact decide_eq_true h2)),h1]
  rw[eh hx];have h310:=r310 x.name (hv.ps x (aaj hx));have h462:=λu t=>r462 u (v.types.map aB.c) t (by rw[aam];omega);rw[aam]at h462;simp(disch:=omega)only[go_sem];refine Br.aF (λc=>?_) (λc=>(c (by omega)).elim);simp(disch:=omega)only[go_sem,hx,ky.c,h310];unfold mA at done |-;cases hi:isName x.name with
  |false=>
   simp(disch:=omega)only[go_sem];exact done 1 (by rw[if_pos hi]) (by decide)
  |true=>
   simp(disch:=omega)only[go_sem];rw[if_neg (by simp[hi])]at done |-;refine W.find (v.aI.take k) (λq=>decide (q.name=x.name)) (λj=>⟨[(1,.ptr 1 0),(3,.pv (.int .i64 k)),(4,.ptr 4 0),(5,.pv (.int .i64 j))],⟨[(1,[.pv (.str v.name),.pv (.ae t1 (v.types.map aB.c)),.pv (.ae t2 (bm v.calls)),.pv (.ae t3 (az v.az)),.pv (.ae t4 (cg v.aI))]),(4,[.pv (.str x.name),.pv (.int .i64 x.ty)])],[],[]⟩⟩) rfl (λj q hj hjl hfd2=>?_) (λhn2=>?_)
   .have hjl':j<k/\j<v.aI.length:=by rw[aaA]at hjl;omega
    have hj':v.aI[j]?=some q:=by
     rw[aax,if_pos hjl'.1]at hj;exact hj
    simp(disch:=omega)only[go_sem];refine Br.aF (λc=>?_) (λc=>(c (by omega)).elim);simp(disch:=omega)only[go_sem,hj',ky.c];refine Br.aF (λc3=>?_) (λc3=>?_)<;>simp(disch:=omega)only[go_sem,c3]
    .refine done 5 ?_ (by decide);have:cz ((v.aI.map (·.name)).take k) x.name=true:=by
      unfold cz;rw[<- abl,abt];exact(hfd2 (by simp[c3])).any
     rw[if_pos this]
    .exact aX.of (by simp[c3]) rfl
   .have hlx:(v.aI.take k).length=k:=by rw[aaA];omega
    rw[hlx];have hh:cz ((v.aI.map (·.name)).take k) x.name=false:=by
     unfold cz;rw[<- abl,abt];exact hn2.any
    rw[if_neg (by simp[hh])]at done |-;simp(disch:=omega)only[go_sem,h462];cases h1:cM v.types.length x.ty with
    |true=>
     simp(disch:=omega)only[go_sem];exact done 4 (by rw[h1];rfl) (by decide)
    |false=>
     simp(disch:=omega)only[go_sem];exact aX.of (by simp) rfl
 .rw[aaJ,<- hG,fX hn];simp(disch:=omega)only[go_sem]
set_option maxHeartbeats 2000000 in
theorem r437 (t1 t2 t3 t4:Nat)(v:eV)(hv:gK v)(h0:bG v.types=0):res A ay 437 [.agg (eY t1 t2 t3 t4 v)]=some [.int .i64 (dj (mP v.types.length v.az) v.az)]:=by
 have hcl:=hv.sl;refine ai a437 rfl rfl ?_;simp only[F437,Pf,eY];simp(disch:=omega)only[go_sem];obtain⟨G,hG⟩:∃G,dj (mP v.types.length v.az) v.az=G:=⟨_,rfl⟩;rw[hG];refine W.find (List.range v.az.length) (λk=>decide (oL (mP v.types.length v.az) v.az k≠0)) (λk=>⟨[(1,.ptr 1 0),(3,.pv (.int .i64 k))],⟨[(1,[.pv (.str v.name),.pv (.ae t1 (v.types.map aB.c)),.pv (.ae t2 (bm v.calls)),.pv (.ae t3 (az v.az)),.pv (.ae t4 (cg v.aI))])],[],[]⟩⟩) rfl (λi k hx hk hfd=>?_) (λhn=>?_)
 .obtain⟨rfl,hk⟩:=cZ hx;obtain⟨x,hx⟩:=get_some hk;have done:∀e:Int,mP v.types.length v.az k x=e->e≠0->(some [PV.int .i64 e]:Option (List PV))=some [.int .i64 G]:=λe h1 h2=>by
   rw[<- hG,fW hx (hfd (by rw[eh hx,h1];exact decide_eq_true h2)),h1]
  rw[eh hx];obtain⟨s1,s2,s3,s4⟩:=hv.ss x (aaj hx);have h463:=λu=>r463 u v.types x hv.tl hv.to hv.ts s2 s1 s3 s4;rw[if_neg (by simp[h0])]at h463;unfold mP at done |-;simp only[dt.c]at h463;simp(disch:=omega)only[go_sem];refine Br.aF (λc=>?_) (λc=>(c (by omega)).elim);simp(disch:=omega)only[go_sem];refine W.find (v.az.take k) (λq=>decide (q.name=x.name)) (λj=>⟨[(1,.ptr 1 0),(3,.pv (.int .i64 k)),(4,.pv (.int .i64 j))],⟨[(1,[.pv (.str v.name),.pv (.ae t1 (v.types.map aB.c)),.pv (.ae t2 (bm v.calls)),.pv (.ae t3 (az v.az)),.pv (.ae t4 (cg v.aI))])],[],[]⟩⟩) rfl (λj q hj hjl hfd2=>?_) (λhn2=>?_)
  .have hjl':j<k/\j<v.az.length:=by rw[aaA]at hjl;omega
   have hj':v.az[j]?=some q:=by
    rw[aax,if_pos hjl'.1]at hj;exact hj
   simp(disch:=omega)only[go_sem];refine Br.aF (λc=>?_) (λc=>(c (by omega)).elim);simp(disch:=omega)only[go_sem,hj',hx,Option.map_some,dt.c];refine Br.aF (λc3=>?_) (λc3=>?_)<;>simp(disch:=omega)only[go_sem,c3]
   .refine done 5 ?_ (by decide);have:cz ((v.az.map (·.name)).take k) x.name=true:=by
     unfold cz;rw[<- abl,abt];exact(hfd2 (by simp[c3])).any
    rw[if_pos this]
   .exact aX.of (by simp[c3]) rfl
  .have hlx:(v.az.take k).length=k:=by rw[aaA];omega
   rw[hlx];have hh:cz ((v.az.map (·.name)).take k) x.name=false:=by
    unfold cz;rw[<- abl,abt];exact hn2.any
   rw[if_neg (by simp[hh])]at done |-;generalize oK v.types.length x=e at *;simp(disch:=omega)only[go_sem,hx,Option.map_some,dt.c,h463];refine Br.aF (λc=>?_) (λc=>?_)<;>simp(disch:=omega)only[go_sem]
   .exact aX.of (by simp[c]) rfl
   .exact done e rfl c
 .rw[aaJ,<- hG,fX hn];simp(disch:=omega)only[go_sem]
noncomputable def rn (v:eV):Int:=
 if 8<v.calls.length\/8<v.az.length\/8<v.aI.length then 3
 else if isName v.name=false then 1
 else if eS v.types≠0 then eS v.types
 else if dj (mO v.types.length v.calls) v.calls≠0 then dj (mO v.types.length v.calls) v.calls
 else if dj (mP v.types.length v.az) v.az≠0 then dj (mP v.types.length v.az) v.az
 else dj (mA v.types.length v.aI) v.aI
theorem nT {T:List aB}(h:eS T=0):bG T=0:=by
 unfold eS at h;split at h
 .rename_i h1;exact absurd h h1
 .rename_i h1;exact(gl (by simpa using h1)).1
set_option maxHeartbeats 2000000 in
theorem r406 (t1 t2 t3 t4:Nat)(v:eV)(hv:gK v):res A ay 406 [.agg (eY t1 t2 t3 t4 v)]=some [.int .i64 (rn v)]:=by
 have h1:=hv.cl;have h2:=hv.sl;have h3:=hv.pl;have h310:=r310 v.name hv.nm;have h435:=λu=>r435 u v.types hv.tl hv.to hv.ts;have h436:=r436 t1 t2 t3 t4 v hv;have h437:=λh=>r437 t1 t2 t3 t4 v hv (nT h);have h438:=r438 t1 t2 t3 t4 v hv;refine ai a406 rfl rfl ?_;unfold rn;simp only[F406,O3,eY]at h436 h437 h438 |-;generalize dj (mO v.types.length v.calls) v.calls=e1 at *;generalize dj (mP v.types.length v.az) v.az=e2 at *;generalize dj (mA v.types.length v.aI) v.aI=e3 at *;generalize eS v.types=e0 at *;simp(disch:=omega)only[go_sem];refine Br.aF (λc1=>?_) (λc1=>?_)<;>simp(disch:=omega)only[go_sem,c1]
 .rw[if_pos (by omega)]
 refine Br.aF (λc2=>?_) (λc2=>?_)<;>simp(disch:=omega)only[go_sem,c2]
 .rw[if_pos (by omega)]
 refine Br.aF (λc3=>?_) (λc3=>?_)<;>simp(disch:=omega)only[go_sem,c3,h310]
 .rw[if_pos (by omega)]
 rw[if_neg (by omega)];cases hi:isName v.name with
 |false=>simp(disch:=omega)only[go_sem,if_true]
 |true=>
  simp(disch:=omega)only[go_sem,h435];rw[if_neg (by decide)];refine Br.aF (λc=>?_) (λc=>?_)<;>simp(disch:=omega)only[go_sem,h436]
  rotate_left
  .rw[if_pos c]
  have h437:=h437 c;rw[if_neg (by simp[c])];refine Br.aF (λc=>?_) (λc=>?_)<;>simp(disch:=omega)only[go_sem,h437]
  rotate_left
  .rw[if_pos c]
  rw[if_neg (by simp[c])];refine Br.aF (λc=>?_) (λc=>?_)<;>simp(disch:=omega)only[go_sem,h438]
  .rw[if_neg (by simp[c])]
  .rw[if_pos c]
theorem r440 (t:Int)(u:Nat)(nm:PV)(tt:Nat)(T:List (List PV))(c1 c2 c3:PV)(hl:T.length<=2^63 - 1):res A ay 440 [.int .i64 t,.ro u [nm,.ae tt T,c1,c2,c3]]=some [.bool (cM T.length t)]:=by
 refine ai a440 rfl rfl ?_;simp only[F440,Pj];unfold cM;simp(disch:=omega)only[go_sem];refine Br.aF (λc=>?_) (λc=>?_)<;>simp(disch:=omega)only[go_sem,c,decide_true,decide_false,Bool.true_or,Bool.false_or]
theorem r443 (x y:dt)(u:Nat):res A ay 443 [.agg x.c,.ro u y.c]=some [.bool (decide (x.name=y.name))]:=by
 refine ai a443 rfl rfl ?_;simp only[F443,Pl,dt.c];simp(disch:=omega)only[go_sem]
theorem r448b (t u:Nat)(l:List dt)(y:dt)(hl:l.length<=2^63 - 1):res A ay 448 [.ae t (az l),.func 443 [.ro u y.c]]=some [.int .i64 (bg (λw=>decide (w.name=y.name)) l)]:=by
 refine ai a448 rfl rfl ?_;simp only[F448,KM];simp(disch:=omega)only[go_sem];refine W.find l (λw=>decide (w.name=y.name)) (λk=>⟨[(0,.pv (.ae t (az l))),(1,.pv (.func 443 [.ro u y.c])),(7,.pv (.int .i64 l.length)),(8,.pv (.int .i64 k))],⟨[],[],[]⟩⟩) rfl (λk x hx hk hfd=>?_) (λhn=>?_)
 .have h443:=r443 x y u;simp only[dt.c]at h443 |-;simp(disch:=omega)only[go_sem];refine Br.aF (λh=>?_) (λh=>(h (by omega)).elim);simp(disch:=omega)only[go_sem,hx,Option.map_some,dt.c,h443];refine Br.of (λh2=>?_) (λh2=>?_)<;>simp(disch:=omega)only[go_sem]
  .rw[(hfd h2).bg]
  .exact aX.of h2 rfl
 .simp(disch:=omega)only[go_sem];rw[hn.bg]
theorem r442 (t u:Nat)(l:List dt)(y:dt)(hl:l.length<=2^63 - 1):res A ay 442 [.ae t (az l),.func 443 [.ro u y.c]]=some [.bool (cz (l.map (·.name)) y.name)]:=by
 refine ai a442 rfl rfl ?_;simp only[F442,Pk];have h448:=r448b t u l y hl;have e:decide (0<=bg (λw=>decide (w.name=y.name)) l)=cz (l.map (·.name)) y.name:=by
  unfold cz;rw[abt];rcases mw (λw:dt=>decide (w.name=y.name)) l with⟨f1,f2⟩|⟨k,x,f1,f2,f3⟩
  .rw[f2];symm;rw[show decide ((0:Int)<= -1)=false from rfl,aaW];exact abv.1 f1
  .rw[f3];symm;rw[show decide ((0:Int)<=(k:Int))=true by simp,List.any_eq_true];exact⟨x,ab1 f1,abS f1⟩
 simp only[dt.c]at h448 |-;simp(disch:=omega)only[go_sem,h448];rw[e]
theorem zx (l:List dt):aY 5 (.inl (az l))=true:=Be λr hr=>by
 obtain⟨w,_,rfl⟩:=aaq.1 hr;rfl
set_option maxHeartbeats 4000000 in
theorem r407 (t1 t2 t3 t4:Nat)(v:eV)(hv:gK v):res A ay 407 [.agg (eY t1 t2 t3 t4 v)]=some [.int .i64 (rn v)]:=by
 have h1:=hv.cl;have h2:=hv.sl;have h3:=hv.pl;have htl:=hv.tl;have hrf:=zx v.az;have h306:=r306 v.name hv.nm;have h439:=λu=>r439 u v.types hv.tl hv.to hv.ts;refine ai a407 rfl rfl ?_;unfold rn;simp only[F407,O4,eY];have hs0:=nT (T:=v.types);generalize eS v.types=e0 at *;simp(disch:=omega)only[go_sem];refine Br.aF (λc1=>?_) (λc1=>?_)<;>simp(disch:=omega)only[go_sem,c1]
 .rw[if_pos (by omega)]
 refine Br.aF (λc2=>?_) (λc2=>?_)<;>simp(disch:=omega)only[go_sem,c2]
 .rw[if_pos (by omega)]
 refine Br.aF (λc3=>?_) (λc3=>?_)<;>simp(disch:=omega)only[go_sem,c3,h306]
 .rw[if_pos (by omega)]
 rw[if_neg (by omega)];cases hi:isName v.name with
 |false=>simp(disch:=omega)only[go_sem,if_true]
 |true=>
  simp(disch:=omega)only[go_sem,h439];rw[if_neg (by decide)];refine Br.aF (λc=>?_) (λc=>?_)<;>simp(disch:=omega)only[go_sem]
  rotate_left
  .rw[if_pos c]
  have hvalid:=hs0 c;rw[if_neg (by simp[c])];obtain⟨G,hG⟩:∃G,(if dj (mO v.types.length v.calls) v.calls≠0 then dj (mO v.types.length v.calls) v.calls
   else if dj (mP v.types.length v.az) v.az≠0 then dj (mP v.types.length v.az) v.az
   else dj (mA v.types.length v.aI) v.aI)=G:=⟨_,rfl⟩
  rw[hG];refine W.find (List.range v.calls.length) (λk=>decide (oL (mO v.types.length v.calls) v.calls k≠0)) (λk=>⟨[(1,.ptr 1 0),(4,.func 440 [.ptr 1 0]),(5,.ptr 5 0),(6,.ptr 6 0),(46,.pv (.ae t2 (bm v.calls))),(47,.pv (.int .i64 v.calls.length)),(48,.pv (.int .i64 k))],⟨[(1,[.pv (.str v.name),.pv (.ae t1 (v.types.map aB.c)),.pv (.ae t2 (bm v.calls)),.pv (.ae t3 (az v.az)),.pv (.ae t4 (cg v.aI))]),(5,[dn 0 (strs ((v.calls.map (·.name)).take k))]),(6,[.tl []])],cG 1 (strs ((v.calls.map (·.name)).take k)),[]⟩⟩) rfl (λi k hx hk hfd=>?_) (λhn=>?_)
  .obtain⟨rfl,hk⟩:=cZ hx;obtain⟨x,hx⟩:=get_some hk;have done:∀e:Int,mO v.types.length v.calls k x=e->e≠0->(some [PV.int .i64 e]:Option (List PV))=some [.int .i64 G]:=λe h1 h2=>by
    have h3:=fW hx (hfd (by rw[eh hx,h1];exact decide_eq_true h2));rw[<- hG,h3,h1,if_pos h2]
   rw[eh hx];have hnx:(v.calls.map (·.name)).take (k+1)=(v.calls.map (·.name)).take k++[x.name]:=by
    rw[aaH,aap,hx];rfl
   have hsl:((v.calls.map (·.name)).take k).length<=8:=by rw[aaA,aam];omega
   unfold mO at done |-;generalize (v.calls.map (·.name)).take k=sn at *;simp(disch:=omega)only[go_sem];refine Br.aF (λc=>?_) (λc=>(c (by omega)).elim);simp(disch:=omega)only[go_sem,hx,j8.c];refine call5 (fL _ _) (EV x.name sn (hv.cs x (aaj hx)) (by omega) _ λenv=>?_);cases hi:isName x.name with
   |false=>
    rw[if_pos rfl];refine jC (fL _ _) ⟨_,rfl⟩ ?_;simp(disch:=omega)only[go_sem];exact done 1 (by rw[if_pos hi]) (by decide)
   |true=>
    rw[if_neg (by decide)];cases hh:cz sn x.name with
    |true=>
     rw[if_pos rfl];refine jC (fL _ _) ⟨_,rfl⟩ ?_;simp(disch:=omega)only[go_sem];exact done 5 (by rw[if_neg (by simp[hi]),if_pos hh]) (by decide)
    |false=>
     rw[if_neg (by decide)];refine jC (fL _ _) ⟨_,rfl⟩ ?_;rw[if_neg (by simp[hi]),if_neg (by simp[hh])]at done |-;have h440:=λt u=>r440 t u (.str v.name) t1 (v.types.map aB.c) (.ae t2 (bm v.calls)) (.ae t3 (az v.az)) (.ae t4 (cg v.aI)) (by rw[aam];omega);rw[aam]at h440;simp(disch:=omega)only[go_sem,h440];cases h1:cM v.types.length x.lK with
     |true=>
      simp(disch:=omega)only[go_sem];exact done 4 (by rw[h1];rfl) (by decide)
     |false=>
      simp(disch:=omega)only[go_sem,h440];cases h2:cM v.types.length x.rep with
      |true=>
       simp(disch:=omega)only[go_sem];exact done 4 (by rw[h1,h2];rfl) (by decide)
      |false=>
       simp(disch:=omega)only[go_sem];exact aX.of (by simp) (by rw[hnx];rfl)
  .rw[aaJ];have hz:=fX hn;rw[if_neg (by simp[hz])]at hG;clear hn hz;obtain⟨X,hXd⟩:∃X,cG 1 (strs ((v.calls.map (·.name)).take v.calls.length))=X:=⟨_,rfl⟩;have hX:X=[]\/∃a,X=[a]:=by
    rw[<- hXd];cases strs ((v.calls.map (·.name)).take v.calls.length)with
    |nil=>exact .inl rfl
    |cons y r=>exact .inr ⟨_,rfl⟩
   rw[hXd];clear hXd;simp(disch:=omega)only[go_sem];refine W.find (List.range v.az.length) (λk=>decide (oL (mP v.types.length v.az) v.az k≠0)) (λk=>⟨[(1,.ptr 1 0),(4,.func 440 [.ptr 1 0]),(6,.ptr 6 0),(70,.pv (.ae t3 (az v.az))),(71,.pv (.int .i64 v.az.length)),(72,.pv (.int .i64 k))],⟨[(1,[.pv (.str v.name),.pv (.ae t1 (v.types.map aB.c)),.pv (.ae t2 (bm v.calls)),.pv (.ae t3 (az v.az)),.pv (.ae t4 (cg v.aI))]),(6,[.tl []])],X,[]⟩⟩) rfl (λi k hx hk hfd=>?_) (λhn=>?_)
   .obtain⟨rfl,hk⟩:=cZ hx;obtain⟨x,hx⟩:=get_some hk;have done:∀e:Int,mP v.types.length v.az k x=e->e≠0->(some [PV.int .i64 e]:Option (List PV))=some [.int .i64 G]:=λe h1 h2=>by
     have h3:=fW hx (hfd (by rw[eh hx,h1];exact decide_eq_true h2));rw[<- hG,h3,h1,if_pos h2]
    rw[eh hx];obtain⟨s1,s2,s3,s4⟩:=hv.ss x (aaj hx);have h444:=λu=>r444 u v.types x hv.tl hv.to hv.ts s2 s1 s3 s4;rw[if_neg (by simp[hvalid])]at h444;have h442:=λt u=>r442 t u (v.az.take k) x (by rw[aaA];omega);have hst:(az v.az).take k=az (v.az.take k):=(abl ..).symm;rw[abl]at h442;unfold mP at done |-;simp only[dt.c]at h444 h442;simp(disch:=omega)only[go_sem];refine Br.aF (λc=>?_) (λc=>(c (by omega)).elim);simp(disch:=omega)only[go_sem,hx,Option.map_some,dt.c,hrf,hst,h442];cases hh:cz ((v.az.map (·.name)).take k) x.name with
    |true=>
     simp(disch:=omega)only[go_sem];exact done 5 (by rw[if_pos hh]) (by decide)
    |false=>
     rw[if_neg (by simp[hh])]at done |-;generalize oK v.types.length x=e at *;simp(disch:=omega)only[go_sem,h444];refine Br.aF (λc=>?_) (λc=>?_)<;>simp(disch:=omega)only[go_sem]
     .exact aX.of (by simp[c]) rfl
     .exact done e rfl c
   .rw[aaJ];have hz:=fX hn;rw[if_neg (by simp[hz])]at hG;clear hn hz;simp(disch:=omega)only[go_sem];rcases hX with rfl|⟨a,rfl⟩
    .refine W.find (List.range v.aI.length) (λk=>decide (oL (mA v.types.length v.aI) v.aI k≠0)) (λk=>⟨[(4,.func 440 [.ptr 1 0]),(6,.ptr 6 0),(92,.pv (.ae t4 (cg v.aI))),(93,.pv (.int .i64 v.aI.length)),(94,.pv (.int .i64 k))],⟨[(1,[.pv (.str v.name),.pv (.ae t1 (v.types.map aB.c)),.pv (.ae t2 (bm v.calls)),.pv (.ae t3 (az v.az)),.pv (.ae t4 (cg v.aI))]),(6,[dn 0 (strs ((v.aI.map (·.name)).take k))])],cG 1 (strs ((v.aI.map (·.name)).take k)),[]⟩⟩) rfl (λi k hx hk hfd=>?_) (λhn=>?_)
     .obtain⟨rfl,hk⟩:=cZ hx;obtain⟨x,hx⟩:=get_some hk;have done:∀e:Int,mA v.types.length v.aI k x=e->e≠0->(some [PV.int .i64 e]:Option (List PV))=some [.int .i64 G]:=λe h1 h2=>by
       have h3:=fW hx (hfd (by rw[eh hx,h1];exact decide_eq_true h2));rw[<- hG,h3,h1]
      rw[eh hx];have hnx:(v.aI.map (·.name)).take (k+1)=(v.aI.map (·.name)).take k++[x.name]:=by
       rw[aaH,aap,hx];rfl
      have hsl:((v.aI.map (·.name)).take k).length<=8:=by rw[aaA,aam];omega
      unfold mA at done |-;generalize (v.aI.map (·.name)).take k=sn at *;simp(disch:=omega)only[go_sem];refine Br.aF (λc=>?_) (λc=>(c (by omega)).elim);simp(disch:=omega)only[go_sem,hx,ky.c];refine call6 (fL _ _) (EV x.name sn (hv.ps x (aaj hx)) (by omega) _ λenv=>?_);cases hi:isName x.name with
      |false=>
       rw[if_pos rfl];refine jC (fL _ _) ⟨_,rfl⟩ ?_;simp(disch:=omega)only[go_sem];exact done 1 (by rw[if_pos hi]) (by decide)
      |true=>
       rw[if_neg (by decide)];cases hh:cz sn x.name with
       |true=>
        rw[if_pos rfl];refine jC (fL _ _) ⟨_,rfl⟩ ?_;simp(disch:=omega)only[go_sem];exact done 5 (by rw[if_neg (by simp[hi]),if_pos hh]) (by decide)
       |false=>
        rw[if_neg (by decide)];refine jC (fL _ _) ⟨_,rfl⟩ ?_;rw[if_neg (by simp[hi]),if_neg (by simp[hh])]at done |-;have h440:=λt u=>r440 t u (.str v.name) t1 (v.types.map aB.c) (.ae t2 (bm v.calls)) (.ae t3 (az v.az)) (.ae t4 (cg v.aI)) (by rw[aam];omega);rw[aam]at h440;simp(disch:=omega)only[go_sem,h440];cases h1:cM v.types.length x.ty with
        |true=>
         simp(disch:=omega)only[go_sem];exact done 4 (by rw[h1];rfl) (by decide)
        |false=>
         simp(disch:=omega)only[go_sem];exact aX.of (by simp) (by rw[hnx];rfl)
     .rw[aaJ];have hz:=fX hn;rw[hz]at hG;rw[<- hG];simp(disch:=omega)only[go_sem]
    .refine W.find (List.range v.aI.length) (λk=>decide (oL (mA v.types.length v.aI) v.aI k≠0)) (λk=>⟨[(4,.func 440 [.ptr 1 0]),(6,.ptr 6 0),(92,.pv (.ae t4 (cg v.aI))),(93,.pv (.int .i64 v.aI.length)),(94,.pv (.int .i64 k))],⟨[(1,[.pv (.str v.name),.pv (.ae t1 (v.types.map aB.c)),.pv (.ae t2 (bm v.calls)),.pv (.ae t3 (az v.az)),.pv (.ae t4 (cg v.aI))]),(6,[dn 1 (strs ((v.aI.map (·.name)).take k))])],a::cG 1 (strs ((v.aI.map (·.name)).take k)),[]⟩⟩) rfl (λi k hx hk hfd=>?_) (λhn=>?_)
     .obtain⟨rfl,hk⟩:=cZ hx;obtain⟨x,hx⟩:=get_some hk;have done:∀e:Int,mA v.types.length v.aI k x=e->e≠0->(some [PV.int .i64 e]:Option (List PV))=some [.int .i64 G]:=λe h1 h2=>by
       have h3:=fW hx (hfd (by rw[eh hx,h1];exact decide_eq_true h2));rw[<- hG,h3,h1]
      rw[eh hx];have hnx:(v.aI.map (·.name)).take (k+1)=(v.aI.map (·.name)).take k++[x.name]:=by
       rw[aaH,aap,hx];rfl
      have hsl:((v.aI.map (·.name)).take k).length<=8:=by rw[aaA,aam];omega
      unfold mA at done |-;generalize (v.aI.map (·.name)).take k=sn at *;simp(disch:=omega)only[go_sem];refine Br.aF (λc=>?_) (λc=>(c (by omega)).elim);simp(disch:=omega)only[go_sem,hx,ky.c];refine call6 (fL _ _) (IT a x.name sn (hv.ps x (aaj hx)) (by omega) _ λenv=>?_);cases hi:isName x.name with
      |false=>
       rw[if_pos rfl];refine jC (fL _ _) ⟨_,rfl⟩ ?_;simp(disch:=omega)only[go_sem];exact done 1 (by rw[if_pos hi]) (by decide)
      |true=>
       rw[if_neg (by decide)];cases hh:cz sn x.name with
       |true=>
        rw[if_pos rfl];refine jC (fL _ _) ⟨_,rfl⟩ ?_;simp(disch:=omega)only[go_sem];exact done 5 (by rw[if_neg (by simp[hi]),if_pos hh]) (by decide)
       |false=>
        rw[if_neg (by decide)];refine jC (fL _ _) ⟨_,rfl⟩ ?_;rw[if_neg (by simp[hi]),if_neg (by simp[hh])]at done |-;have h440:=λt u=>r440 t u (.str v.name) t1 (v.types.map aB.c) (.ae t2 (bm v.calls)) (.ae t3 (az v.az)) (.ae t4 (cg v.aI)) (by rw[aam];omega);rw[aam]at h440;simp(disch:=omega)only[go_sem,h440];cases h1:cM v.types.length x.ty with
        |true=>
         simp(disch:=omega)only[go_sem];exact done 4 (by rw[h1];rfl) (by decide)
        |false=>
         simp(disch:=omega)only[go_sem];exact aX.of (by simp) (by rw[hnx];rfl)
     .rw[aaJ];have hz:=fX hn;rw[hz]at hG;rw[<- hG];simp(disch:=omega)only[go_sem]
theorem nU {α:Type}{f:Nat->α->Int}{l:List α}(h:dj f l=0):∀(k:Nat)(x:α),l[k]?=some x->f k x=0:=by
 intro k x hx;unfold dj at h;cases hf:(List.range l.length).find? (λk=>decide (oL f l k≠0))with
 |none=>
  have:=abv.1 hf k (aaV.2 (aak.1 hx).1);rw[eh hx]at this;simpa using this
 |some j=>
  rw[hf]at h;have:=abS hf;simp[h]at this
theorem nV {α:Type}{f:Nat->α->Int}{l:List α}(h:∀(k:Nat)(x:α),l[k]?=some x->f k x=0):dj f l=0:=by
 unfold dj;have:(List.range l.length).find? (λk=>decide (oL f l k≠0))=none:=by
  rw[abv];intro k hk;obtain⟨x,hx⟩:=get_some (aaV.1 hk);rw[eh hx,h k x hx];simp
 rw[this]
theorem um {n:Nat}{u:Int}(h:cM n u=false):0<=u/\u<n:=by
 simp[cM]at h;omega
structure EX (n:Nat)(w:dt):Prop where
 C6:w.msgs.length<=16
 ZM:ft w=true
 ty:∀m∈w.msgs,0<=m.ty/\m.ty<n
 au:w.auto.err=0
 ZN:∀e∈w.auto.aa,w.msgs.any (iF e.label)=true
 all:(w.auto.order.length:Int)=w.auto.aj
theorem Gl {n:Nat}{w:dt}(h:oK n w=0):EX n w:=by
 unfold oK at h;split at h
 .cases h
 rename_i h1;split at h
 .cases h
 rename_i h2;split at h
 .cases h
 rename_i h3;split at h
 .rename_i h4;exact absurd h h4
 rename_i h4;split at h
 .cases h
 rename_i h5;split at h
 .cases h
 rename_i h6;refine⟨by omega,by simpa using h2,λm hm=>?_,by simpa using h4,λe he=>?_,by simpa using h6⟩
 .have:=List.any_eq_false.1 (by simpa using h3) m hm
  exact um (by simpa using this)
 .have:=List.any_eq_false.1 (by simpa using h5:w.auto.aa.any (λe=>!w.msgs.any (iF e.label))=false) e he
  simpa using this
structure cX (v:eV):Prop where
 C6:v.calls.length<=8/\v.az.length<=8/\v.aI.length<=8
 nm:isName v.name=true
 sound:eS v.types=0
 Xx:∀(k:Nat) c,v.calls[k]?=some c->mO v.types.length v.calls k c=0
 Zx:∀(k:Nat) w,v.az[k]?=some w->mP v.types.length v.az k w=0
 top:∀(k:Nat) c,v.aI[k]?=some c->mA v.types.length v.aI k c=0
theorem sA {v:eV}(h:rn v=0):cX v:=by
 unfold rn at h;split at h
 .cases h
 rename_i h1;split at h
 .cases h
 rename_i h2;split at h
 .rename_i h3;exact absurd h h3
 rename_i h3;split at h
 .rename_i h4;exact absurd h h4
 rename_i h4;split at h
 .rename_i h5;exact absurd h h5
 rename_i h5;exact⟨by omega,by simpa using h2,by simpa using h3,nU (by simpa using h4),nU (by simpa using h5),nU h⟩
theorem cX.err {v:eV}(h:cX v):rn v=0:=by
 unfold rn;rw[if_neg (by have:=h.C6;omega),if_neg (by rw[h.nm];decide),if_neg (by rw[h.sound];decide),nV h.Xx,nV h.Zx,nV h.top];simp
theorem sB {n:Nat}{l:List j8}{k:Nat}{c:j8}(h:mO n l k c=0):isName c.name=true/\cz ((l.map (·.name)).take k) c.name=false/\(0<=c.lK/\c.lK<n)/\0<=c.rep/\c.rep<n:=by
 unfold mO at h;split at h
 .cases h
 rename_i h1;split at h
 .cases h
 rename_i h2;split at h
 .cases h
 rename_i h3;simp only[Bool.or_eq_true,not_or,Bool.not_eq_true]at h3;exact⟨by simpa using h1,by simpa using h2,um h3.1,um h3.2⟩
theorem sC {n:Nat}{l:List ky}{k:Nat}{c:ky}(h:mA n l k c=0):isName c.name=true/\cz ((l.map (·.name)).take k) c.name=false/\0<=c.ty/\c.ty<n:=by
 unfold mA at h;split at h
 .cases h
 rename_i h1;split at h
 .cases h
 rename_i h2;split at h
 .cases h
 rename_i h3;exact⟨by simpa using h1,by simpa using h2,um (by simpa using h3)⟩
theorem yp {n:Nat}{l:List dt}{k:Nat}{w:dt}(h:mP n l k w=0):cz ((l.map (·.name)).take k) w.name=false/\EX n w:=by
 unfold mP at h;split at h
 .cases h
 rename_i h1;exact⟨by simpa using h1,Gl h⟩
theorem cX.call {v:eV}(h:cX v):∀c∈v.calls,(0<=c.lK/\c.lK<v.types.length)/\0<=c.rep/\c.rep<v.types.length:=λc hc=>by
 obtain⟨k,hk⟩:=aan.1 hc;exact(sB (h.Xx k c hk)).2.2
theorem cX.IU {v:eV}(h:cX v):∀c∈v.aI,0<=c.ty/\c.ty<v.types.length:=λc hc=>by
 obtain⟨k,hk⟩:=aan.1 hc;exact(sC (h.top k c hk)).2.2
theorem cX.kJ {v:eV}(h:cX v):∀w∈v.az,EX v.types.length w:=λc hc=>by
 obtain⟨k,hk⟩:=aan.1 hc;exact(yp (h.Zx k c hk)).2
theorem cX.valid {v:eV}(h:cX v):bG v.types=0:=nT h.sound
theorem cX.root {v:eV}(h:cX v):∀r∈eN v,0<=r/\r<v.types.length:=by
 intro r hr;unfold eN at hr;rcases aaY.1 hr with hr|hr
 .rcases aaY.1 hr with hr|hr
  .obtain⟨c,hc,hr⟩:=ab5.1 hr;have:=h.call c hc;simp at hr;rcases hr with rfl|rfl
   .exact this.1
   .exact this.2
  .obtain⟨w,hw,hr⟩:=ab5.1 hr;obtain⟨m,hm,rfl⟩:=aaq.1 hr;exact(h.kJ w hw).ty m hm
 .obtain⟨c,hc,rfl⟩:=aaq.1 hr;exact h.IU c hc
def gL (ar:List aL)(o:Nat)(v:V)(c:PV):Prop:=(v=.pv c/\c.perm=true)\/∃k rows,c=.ae 0 rows/\Home ar o k v rows
theorem gL.push {ar:List aL}{o:Nat}{v:V}{c:PV}(h:gL ar o v c)(x:List aL):gL (ar++x) o v c:=by
 rcases h with h|⟨k,rows,h1,h2⟩
 .exact .inl h
 .exact .inr ⟨k,rows,h1,h2.push x⟩
theorem gL.set {ar:List aL}{o:Nat}{v:V}{c:PV}(h:gL ar o v c)(a:aL):gL (ar.set o a) o v c:=by
 rcases h with h|⟨k,rows,h1,h2⟩
 .exact .inl h
 .exact .inr ⟨k,rows,h1,h2.set a⟩
theorem gL.bV {ar:List aL}{o:Nat}{v:V}{c:PV}(h:gL ar o v c)(bx:List (Nat×List V))(mp:List (List (PV×PV)))(d:Nat):bd ⟨bx,ar,mp⟩ (d+1) v=some c:=by
 rcases h with⟨rfl,h⟩|⟨k,rows,rfl,h2⟩
 .rw[vc,if_pos h]
 .exact h2.bV bx mp d
def dZ (ar:List aL)(o:Nat)(row:List V)(cs:List PV):Prop:=row.length=cs.length/\∀(i:Nat) v c,row[i]?=some v->cs[i]?=some c->gL ar o v c
theorem dZ.nil (ar:List aL)(o:Nat):dZ ar o [] []:=⟨rfl,λi v c h=>by simp at h⟩
theorem dZ.cons {ar:List aL}{o:Nat}{v:V}{c:PV}{row:List V}{cs:List PV}(h:gL ar o v c)(g:dZ ar o row cs):dZ ar o (v::row) (c::cs):=by
 refine⟨by simp[g.1],λi w d h1 h2=>?_⟩;cases i with
 |zero=>
  simp at h1 h2;rw[<- h1,<- h2];exact h
 |succ i=>exact g.2 i w d (by simpa using h1) (by simpa using h2)
theorem dZ.pure {ar:List aL}{o:Nat}{v:V}{c:PV}{row:List V}{cs:List PV}(h:v=.pv c)(hp:c.perm=true)(g:dZ ar o row cs):dZ ar o (v::row) (c::cs):=.cons (.inl ⟨h,hp⟩) g
theorem dZ.push {ar:List aL}{o:Nat}{row:List V}{cs:List PV}(h:dZ ar o row cs)(x:List aL):dZ (ar++x) o row cs:=⟨h.1,λi v c h1 h2=>(h.2 i v c h1 h2).push x⟩
theorem dZ.set {ar:List aL}{o:Nat}{row:List V}{cs:List PV}(h:dZ ar o row cs)(a:aL):dZ (ar.set o a) o row cs:=⟨h.1,λi v c h1 h2=>(h.2 i v c h1 h2).set a⟩
theorem dZ.bV {ar:List aL}{o:Nat}(bx:List (Nat×List V))(mp:List (List (PV×PV)))(d:Nat):∀{row:List V}{cs:List PV},dZ ar o row cs->aA (bd ⟨bx,ar,mp⟩ (d+1)) row=some cs
 |[],[],_=>rfl
 |[],_::_,h=>absurd h.1 (by simp)
 |_::_,[],h=>absurd h.1 (by simp)
 |v::row,c::cs,h=>by
  have h1:=(h.2 0 v c rfl rfl).bV bx mp d;have h2:=dZ.bV bx mp d (row:=row) (cs:=cs) ⟨by simpa using h.1,λi w e hi he=>h.2 (i+1) w e (by simpa using hi) (by simpa using he)⟩;simp only[aA,h1,h2]
structure ko (ar:List aL)(o:Nat)(rows:List (List V))(css:List (List PV)):Prop where
 len:rows.length=css.length
 row:∀(i:Nat) row cs,rows[i]?=some row->css[i]?=some cs->dZ ar o row cs
theorem ko.push {ar:List aL}{o:Nat}{rows:List (List V)}{css:List (List PV)}(h:ko ar o rows css)(x:List aL):ko (ar++x) o rows css:=⟨h.len,λi row cs h1 h2=>(h.row i row cs h1 h2).push x⟩
theorem ko.set {ar:List aL}{o:Nat}{rows:List (List V)}{css:List (List PV)}(h:ko ar o rows css)(a:aL):ko (ar.set o a) o rows css:=⟨h.len,λi row cs h1 h2=>(h.row i row cs h1 h2).set a⟩
theorem ko.snoc {ar:List aL}{o:Nat}{rows:List (List V)}{css:List (List PV)}{row:List V}{cs:List PV}(h:ko ar o rows css)(hr:dZ ar o row cs):ko ar o (rows++[row]) (css++[cs]):=by
 refine⟨by simp[h.len],λi r u h1 h2=>?_⟩;rcases aar i rows.length with hi|hi
 .rw[aao hi]at h1;rw[aao (by rw[<- h.len];exact hi)]at h2;exact h.row i r u h1 h2
 .rw[aav hi]at h1;rw[aav (by rw[<- h.len];exact hi)]at h2;rw[h.len]at h1;cases hj:i - css.length with
  |zero=>
   rw[hj]at h1 h2;cases h1;cases h2;exact hr
  |succ j=>
   rw[hj]at h1;simp at h1
def yq (ar:List aL)(o aw k:Nat)(css:List (List PV)):Prop:=∃body,ar[o]?=some ⟨aw,k,body⟩/\ko ar o (bl body) css
theorem yq.push {ar:List aL}{o aw k:Nat}{css:List (List PV)}(h:yq ar o aw k css)(x:List aL):yq (ar++x) o aw k css:=by
 obtain⟨body,h1,h2⟩:=h;exact⟨body,by rw[aao (aak.1 h1).1];exact h1,h2.push x⟩
theorem yq.bV {ar:List aL}{o aw k:Nat}{css:List (List PV)}(h:yq ar o aw k css)(bx:List (Nat×List V))(mp:List (List (PV×PV))):bd ⟨bx,ar,mp⟩ 4 (.own o aw 0 css.length)=some (.ae 0 css):=by
 obtain⟨body,h1,h2⟩:=h;rw[eo,iu,h1];simp only[Option.bind_some,if_true];have hk:=oq (f:=bd ⟨bx,ar,mp⟩ 3) (c:=id) h2.len (λi row t hi ht=>(h2.row i row t hi ht).bV bx mp 2);rw[ack]at hk;cases body with
 |inl R=>
  have hl:R.length=css.length:=by have:=h2.len;simpa [bl]using this
  simp only[aD,cb,List.drop_zero];rw[<- hl,aaQ];congr 2;apply aa0;intro i;rcases aar i R.length with hi|hi
  .have e1:=aal hi;have e2:=aal (l:=css) (i:=i) (by omega);have:=(h2.row i (R[i].map V.pv) (css[i]'(by omega)) (by simp[bl,e1]) e2).bV bx mp 2;have:=qO this;rw[e1,e2,this]
  .rw[aaX hi,aaX (by omega)]
 |inr R=>
  have hl:R.length=css.length:=by have:=h2.len;simpa [bl]using this
  simp only[aD,cb,List.drop_zero];rw[<- hl,aaQ];have hk':aA (aA (bd ⟨bx,ar,mp⟩ 3)) R=some css:=hk;rw[hk'];rfl
def dH (b:Nat)(ar:List aL)(V0:V)(k:Nat)(css:List (List PV)):Prop:=(V0=.tl []/\css=[])\/∃o aw,V0=.own o aw 0 css.length/\b<=o/\yq ar o aw k css
theorem dH.push {b:Nat}{ar:List aL}{V0:V}{k:Nat}{css:List (List PV)}(h:dH b ar V0 k css)(x:List aL):dH b (ar++x) V0 k css:=by
 rcases h with h|⟨o,aw,h1,h2,h3⟩
 .exact .inl h
 .exact .inr ⟨o,aw,h1,h2,h3.push x⟩
theorem dH.bV {b:Nat}{ar:List aL}{V0:V}{k:Nat}{css:List (List PV)}(h:dH b ar V0 k css)(bx:List (Nat×List V))(mp:List (List (PV×PV))):bd ⟨bx,ar,mp⟩ 4 V0=some (.ae 0 css):=by
 rcases h with⟨rfl,rfl⟩|⟨o,aw,rfl,_,h⟩
 .rfl
 .exact h.bV bx mp
theorem dH.quiet {b:Nat}{ar:List aL}{V0:V}{k:Nat}{css:List (List PV)}(h:dH b ar V0 k css):V0.calm=true/\V0.cells=[V0]:=by
 rcases h with⟨rfl,rfl⟩|⟨o,aw,rfl,_⟩<;>exact⟨rfl,rfl⟩
theorem QW {n:Nat}{b:Sum (List (List PV)) (List (List V))}(h:aE b=n):aD 0 n b=b:=by
 subst h;cases b<;>simp[aD,aE]
theorem VP {b:Nat}{ar X:List aL}{V0 y:V}{k:Nat}{css:List (List PV)}{cs:List PV}{new:Sum (List (List PV)) (List (List V))}{rd:Option Nat}{row:List V}(hO:dH b ar V0 k css)(hb:b<=ar.length)(hm:css.length+1<=2147483648)(hk:cs.length=k)
  (hs:∀bx,bj ⟨bx,ar++X,[]⟩ y=some (new,rd))(hn:bl new=[row])(hrd:∀o,rd=some o->ar.length<=o)(hr:∀o,o<ar.length\/(ar++X).length<=o->dZ (ar++X) o row cs):
  ∃V1 T ar',(∀bx,aJ ⟨bx,ar++X,[]⟩ k V0 y=some (V1,T))/\(∀bx,T.apply ⟨bx,ar++X,[]⟩=⟨bx,ar',[]⟩)/\V1.cells=[V1]/\V1.calm=true/\ar'.take b=ar.take b/\b<=ar'.length/\dH b ar' V1 k (css++[cs]):=by
 have hrow:row.length=k:=by rw[(hr _ (.inr (aau _))).1,hk]
 have h1:aE new=1:=by rw[<- gk,hn];rfl
 have h2:aY k new=true:=nI (by rw[hn];intro r hr';rw[aa7]at hr';rw[hr'];exact hrow);rcases hO with⟨rfl,rfl⟩|⟨o,aw,rfl,ho,body,hb1,hb2⟩
 .have happ:∀bx,aJ ⟨bx,ar++X,[]⟩ k (.tl []) y=some (.own (ar++X).length 0 0 1,{push:=[⟨0,k,aW (.inl []) new⟩],ra:=rd,base:=(ar++X).length}):=λbx=>by
   simp only[aJ,hs,h2,h1,if_true];simp[aY,aU]
  refine⟨_,_,(ar++X)++[⟨0,k,aW (.inl []) new⟩],happ,λbx=>by simp[Tn.apply],rfl,rfl,?_,by simp;omega,.inr ⟨(ar++X).length,0,rfl,?_,aW (.inl []) new,by simp,?_⟩⟩
  .rw[aay,abC hb]
  .rw[aas];omega
  .rw[jL,hn];have h3:ko ((ar++X)++[⟨0,k,aW (.inl []) new⟩]) (ar++X).length (bl (.inl [])) []:=⟨rfl,λi r u h1 _=>by simp[bl]at h1⟩;exact h3.snoc ((hr _ (.inr (aau _))).push _)
 .have hol:=(aak.1 hb1).1;have hb1':(ar++X)[o]?=some ⟨aw,k,body⟩:=by rw[aao hol];exact hb1
  have hbl:aE body=css.length:=by rw[<- gk];exact hb2.len
  have hrd':rd≠some o:=λe=>by have:=hrd o e;omega
  have happ:∀bx,aJ ⟨bx,ar++X,[]⟩ k (.own o aw 0 css.length) y=some (.own o (aw+1) 0 (css.length+1),{ar:=some (o,⟨aw+1,k,aW body new⟩),ra:=rd}):=λbx=>by
   have h3:aC ⟨bx,ar++X,[]⟩ o aw=some ⟨aw,k,body⟩:=by rw[iu,hb1'];simp
   have h4:(⟨aw,k,body⟩:aL).size=css.length:=by rw[<- hbl];cases body<;>rfl
   simp only[aJ,hs,h2,h1,h3,if_true,h4];rw[QW hbl];simp[aU,hm,hrd']
  refine⟨_,_,(ar++X).set o ⟨aw+1,k,aW body new⟩,happ,λbx=>by simp[Tn.apply],rfl,rfl,?_,by simp;omega,.inr ⟨o,aw+1,by simp,ho,aW body new,?_,?_⟩⟩
  .rw[List.take_set_of_le ho,abC hb]
  .rw[aaG (by rw[aas];omega)]
  .rw[jL,hn];exact(((hb2.push X).set _).snoc ((hr o (.inl hol)).set _))
theorem Lb {b:Nat}{ar X0:List aL}{V0:V}{k:Nat}{css:List (List PV)}{cs:List PV}{row:List V}{n:Nat}(hO:dH b ar V0 k css)(hb:b<=ar.length)(hm:css.length+1<=2147483648)(hk:cs.length=k)(hl:(ar++X0).length=n)
  (hr:∀o,o<ar.length\/n+1<=o->dZ (ar++X0++[⟨0,k,.inr [row]⟩]) o row cs):
  ∃V1 T ar',(∀bx,aJ ⟨bx,ar++X0++[⟨0,k,.inr [row]⟩],[]⟩ k V0 (.own n 0 0 1)=some (V1,T))/\(∀bx,T.apply ⟨bx,ar++X0++[⟨0,k,.inr [row]⟩],[]⟩=⟨bx,ar',[]⟩)/\V1.cells=[V1]/\V1.calm=true/\ar'.take b=ar.take b/\b<=ar'.length/\dH b ar' V1 k (css++[cs]):=by
 rw[aay]at hr |-;refine VP (X:=X0++[⟨0,k,.inr [row]⟩]) (new:=.inr [row]) (rd:=some n) hO hb hm hk (λbx=>?_) rfl (λo ho=>?_) (λo ho=>hr o ?_)
 .have hg:(ar++(X0++[⟨0,k,.inr [row]⟩]))[n]?=some ⟨0,k,.inr [row]⟩:=by
   rw[<- aay,<- hl];simp
  simp[bj,aC,hg,aD]
 .injection ho with ho;rw[<- ho,<- hl,aas];omega
 .rcases ho with ho|ho
  .exact .inl ho
  .rw[<- aay,aas,hl]at ho;exact .inr ho
def Lc (row:List V)(c:Nat)(news:List V):List V:=row.take c++news++row.drop (c+news.length)
def nW:V->Bool
 |.func _ _=>false
 |_=>true
theorem BO {v:V}{p:PV}(h:v.bU=some p)(hp:nW v=true):v=.pv p:=by
 cases v<;>simp[V.bU,nW]at h hp;rw[h.2]
theorem rp:∀{news:List V}{l:List PV},aA V.bU news=some l->(∀v∈news,nW v=true)->news=l.map .pv
 |[],l,h,_=>by cases h;rfl
 |v::news,l,h,hp=>by
  rw[pz]at h;cases hv:v.bU with
  |none=>simp[hv]at h
  |some p=>
   cases hm:aA V.bU news with
   |none=>simp[hv,hm]at h
   |some r=>
    simp[hv,hm]at h;rw[<- h,BO hv (hp v aaN),rp hm λw hw=>hp w (aaz _ hw)];rfl
theorem Gm {r c:Nat}{news:List V}{body:Sum (List (List PV)) (List (List V))}(hr:r<(bl body).length)(hp:∀v∈news,nW v=true):bl (setBody r c news body)=(bl body).set r (Lc ((bl body).getD r []) c news):=by
 cases body with
 |inl x=>
  have hx:r<x.length:=by simpa [bl]using hr
  have hg:((x.map (·.map V.pv)).getD r [])=(x.getD r []).map .pv:=by
   simp[List.getD_eq_getElem?_getD,List.getElem?_eq_getElem hx]
  simp only[setBody,bl];cases hm:aA V.bU news with
  |none=>
   dsimp only;rw[hg];rfl
  |some l=>
   dsimp only;have:=rp hm hp;subst this;rw[hg,List.map_set];congr 1;simp[Lc,List.map_take,List.map_drop]
 |inr x=>rfl
theorem lI (r:Nat)(body:Sum (List (List PV)) (List (List V))):mb r body=(bl body)[r]?:=by
 cases body with
 |inl x=>simp[mb,bl]
 |inr x=>rfl
theorem QX (a:aL):a.size=(bl a.body).length:=by
 obtain⟨v,k,b⟩:=a;cases b<;>simp[aL.size,bl]
theorem zy {id r c aw k:Nat}{news:List V}{body:Sum (List (List PV)) (List (List V))}(hr:r<(bl body).length)(hc:c+news.length<=k)(h4:news.all V.calm=true)(hp:∀v∈news,nW v=true):
  ∃body',dy id r c news ⟨aw,k,body⟩=some {ar:=some (id,⟨aw,k,body'⟩)}/\bl body'=(bl body).set r (Lc ((bl body).getD r []) c news):=by
 refine⟨_,?_,Gm hr hp⟩;have hs:r<(⟨aw,k,body⟩:aL).size:=by rw[QX];exact hr
 unfold dy;rw[if_pos ⟨hs,hc,h4⟩]
end Go.Pv
