/-
 What the functions of the law give.
-/
import Derived.Test.YtpchfogcccagjaaGreatC6
set_option linter.unusedSimpArgs false
set_option linter.unusedVariables false
open List renaming getElem?_eq_some_iff → Vy, mem_of_getElem? → Vz, getElem?_eq_getElem → VA, length_map → VB, getElem?_append_left → VC, mem_iff_getElem? → VD, length_append → VE, getElem?_map → VF, length_take → VH, eq_nil_of_length_eq_zero → VJ, getD_eq_getElem?_getD → VK, getElem?_append_right → VM, getElem?_take → VN, append_assoc → VO, mem_map → VP, take_of_length_le → VS, take_add_one → VT, take_length → VW, getElem?_set_self → VY, length_range → V7, getElem?_eq_none → V8, mem_cons_self → We, ext_getElem? → Wi, mem_cons_of_mem → Wl, mem_append → Wm, any_eq_false → Wt, mem_range → WA, length_set → WG, length_replicate → WI, any_map → WJ, map_take → WK, mem_singleton → WU, length_singleton → WV, find?_eq_none → Xc, find?_some → Xd, take_append_of_le_length → Xf, mem_flatMap → Xo
open Nat renaming lt_or_ge → VG, le_refl → VI, eq_zero_or_pos → Wu, add_assoc → Wx, zero_add → WY
open Bool renaming eq_iff_iff → Wp
open Int renaming toNat_natCast → Ws
namespace Go.Pv
def oh {α:Type} (f:Nat->α->Int) (l:List α) (k:Nat):Int:=match l[k]? with
 |some x=>f k x
 |none=>0
def dt {α:Type} (f:Nat->α->Int) (l:List α):Int:=match (List.range l.length).find? (fun k=>decide (oh f l k≠0))with
 |some k=>oh f l k
 |none=>0
theorem fq {α:Type} {f:Nat->α->Int} {l:List α} {i k:Nat} {x:α} (hx:l[k]?=some x) (h:Found (List.range l.length) (fun k=>decide (oh f l k≠0)) i k):dt f l=f k x:=by
 unfold dt
 rw[h.find]
 simp only[oh,hx]
theorem ft {α:Type} {f:Nat->α->Int} {l:List α} (h:kS (List.range l.length) (fun k=>decide (oh f l k≠0))):dt f l=0:=by
 unfold dt
 rw[h.find]
theorem ea {α:Type} {f:Nat->α->Int} {l:List α} {k:Nat} {x:α} (hx:l[k]?=some x):oh f l k=f k x:=by
 simp only[oh,hx]
def ni (n:Nat) (l:List lC) (k:Nat) (c:lC):Int:=if isName c.name=false then 1 else if cy ((l.map (·.name)).take k) c.name=true then 5 else if (dh n c.nH||dh n c.rep)=true then 4 else 0
def my (n:Nat) (l:List nc) (k:Nat) (c:nc):Int:=if isName c.name=false then 1 else if cy ((l.map (·.name)).take k) c.name=true then 5 else if dh n c.ty=true then 4 else 0
def nj (n:Nat) (l:List dx) (k:Nat) (w:dx):Int:=if cy ((l.map (·.name)).take k) w.name=true then 5 else uh n w
theorem r462 (u:Nat) (T:List (List PV)) (t:Int) (hl:T.length<=2^63 - 1):res A az 462 [.agg [.aa u T],.int .i64 t]=some [.bool (!dh T.length t)]:=by
 refine ai a462 rfl rfl ?_
 simp only[F462,KL]
 unfold dh
 simp(disch:=omega)only[go_sem]
 by_cases c:0<=t
 .have e:decide (t<0)=false:=decide_eq_false (by omega)
  have e3:decide (0<=t)=true:=decide_eq_true c
  have e2:(!decide ((T.length:Int)<=t))=decide (t<(T.length:Int)):=by
   rw[Wp]
   simp
  simp(disch:=omega)only[go_sem,e,e3]
  rw[e2]
 .have e:decide (t<0)=true:=decide_eq_true (by omega)
  have e3:decide (0<=t)=false:=decide_eq_false c
  simp(disch:=omega)only[go_sem,e,e3]
structure jw (v:kr):Prop where
 nm:bw v.name
 tl:v.types.length<=2147483648
 to:∀t∈v.types,t.ok
 ts:∀t∈v.types,t.short
 cl:v.calls.length<=2^63 - 1
 cs:∀c∈v.calls,bw c.name
 sl:v.ax.length<=2^63 - 1
 ss:∀w∈v.ax,bw w.name/\w.msgs.length<=2^63 - 1/\(∀m∈w.msgs,bw m.name)/\w.auto.aw.length<=2000000000
 pl:v.aK.length<=2^63 - 1
 ps:∀c∈v.aK,bw c.name
set_option maxHeartbeats 2000000 in
theorem r436 (t1 t2 t3 t4:Nat) (v:kr) (hv:jw v):res A az 436 [.agg (fT t1 t2 t3 t4 v)]=some [.int .i64 (dt (ni v.types.length v.calls) v.calls)]:=by
 have hcl:=hv.cl
 have htl:=hv.tl
 refine ai a436 rfl rfl ?_
 simp only[F436,Kx,fT]
 simp(disch:=omega)only[go_sem]
 obtain⟨G,hG⟩:∃G,dt (ni v.types.length v.calls) v.calls=G:=⟨_,rfl⟩
 rw[hG]
 refine W.find (List.range v.calls.length) (fun k=>decide (oh (ni v.types.length v.calls) v.calls k≠0)) (fun k=>⟨[(1,.ptr 1 0),(3,.pv (.int .i64 k))],⟨[(1,[.pv (.str v.name),.pv (.aa t1 (v.types.map aC.c)),.pv (.aa t2 (aW v.calls)),.pv (.aa t3 (ax v.ax)),.pv (.aa t4 (bo v.aK))])],[],[]⟩⟩) rfl (fun i k hx hk hfd=>?_) (fun hn=>?_)
 .obtain⟨rfl,hk⟩:=cL hx
  obtain⟨x,hx⟩:=get_some hk
  have done:∀e:Int,ni v.types.length v.calls k x=e->e≠0->(some [PV.int .i64 e]:Option (List PV))=some [.int .i64 G]:=fun e h1 h2=>by
   rw[<- hG,fq hx (hfd (by rw[ea hx,h1]; exact decide_eq_true h2)),h1]
  rw[ea hx]
  have h310:=r310 x.name (hv.cs x (Vz hx))
  have h462:=fun u t=>r462 u (v.types.map aC.c) t (by rw[VB]; omega)
  rw[VB]at h462
  simp(disch:=omega)only[go_sem]
  refine Br.aD (fun c=>?_) (fun c=>(c (by omega)).elim)
  simp(disch:=omega)only[go_sem,hx,lC.c,h310]
  unfold ni at done |-
  cases hi:isName x.name with
  |false=>
   simp(disch:=omega)only[go_sem]
   exact done 1 (by rw[if_pos hi]) (by decide)
  |true=>
   simp(disch:=omega)only[go_sem]
   rw[if_neg (by simp[hi])]at done |-
   refine W.find (v.calls.take k) (fun q=>decide (q.name=x.name)) (fun j=>⟨[(1,.ptr 1 0),(3,.pv (.int .i64 k)),(4,.ptr 4 0),(5,.pv (.int .i64 j))],⟨[(1,[.pv (.str v.name),.pv (.aa t1 (v.types.map aC.c)),.pv (.aa t2 (aW v.calls)),.pv (.aa t3 (ax v.ax)),.pv (.aa t4 (bo v.aK))]),(4,[.pv (.str x.name),.pv (.int .i64 x.nH),.pv (.int .i64 x.rep)])],[],[]⟩⟩) rfl (fun j q hj hjl hfd2=>?_) (fun hn2=>?_)
   .have hjl':j<k/\j<v.calls.length:=by rw[VH]at hjl; omega
    have hj':v.calls[j]?=some q:=by
     rw[VN,if_pos hjl'.1]at hj
     exact hj
    simp(disch:=omega)only[go_sem]
    refine Br.aD (fun c=>?_) (fun c=>(c (by omega)).elim)
    simp(disch:=omega)only[go_sem,hj',lC.c]
    refine Br.aD (fun c3=>?_) (fun c3=>?_)<;>simp(disch:=omega)only[go_sem,c3]
    .refine done 5 ?_ (by decide)
     have:cy ((v.calls.map (·.name)).take k) x.name=true:=by
      unfold cy
      rw[<- WK,WJ]
      exact(hfd2 (by simp[c3])).any
     rw[if_pos this]
    .exact aX.of (by simp[c3]) rfl
   .have hlx:(v.calls.take k).length=k:=by rw[VH]; omega
    rw[hlx]
    have hh:cy ((v.calls.map (·.name)).take k) x.name=false:=by
     unfold cy
     rw[<- WK,WJ]
     exact hn2.any
    rw[if_neg (by simp[hh])]at done |-
    simp(disch:=omega)only[go_sem,h462]
    cases h1:dh v.types.length x.nH with
    |true=>
     simp(disch:=omega)only[go_sem]
     exact done 4 (by rw[h1]; rfl) (by decide)
    |false=>
     simp(disch:=omega)only[go_sem,h462]
     cases h2:dh v.types.length x.rep with
     |true=>
      simp(disch:=omega)only[go_sem]
      exact done 4 (by rw[h1,h2]; rfl) (by decide)
     |false=>
      simp(disch:=omega)only[go_sem]
      exact aX.of (by simp) rfl
 .rw[V7,<- hG,ft hn]
  simp(disch:=omega)only[go_sem]
set_option maxHeartbeats 2000000 in
theorem r438 (t1 t2 t3 t4:Nat) (v:kr) (hv:jw v):res A az 438 [.agg (fT t1 t2 t3 t4 v)]=some [.int .i64 (dt (my v.types.length v.aK) v.aK)]:=by
 have hcl:=hv.pl
 have htl:=hv.tl
 refine ai a438 rfl rfl ?_
 simp only[F438,Kz,fT]
 simp(disch:=omega)only[go_sem]
 obtain⟨G,hG⟩:∃G,dt (my v.types.length v.aK) v.aK=G:=⟨_,rfl⟩
 rw[hG]
 refine W.find (List.range v.aK.length) (fun k=>decide (oh (my v.types.length v.aK) v.aK k≠0)) (fun k=>⟨[(1,.ptr 1 0),(3,.pv (.int .i64 k))],⟨[(1,[.pv (.str v.name),.pv (.aa t1 (v.types.map aC.c)),.pv (.aa t2 (aW v.calls)),.pv (.aa t3 (ax v.ax)),.pv (.aa t4 (bo v.aK))])],[],[]⟩⟩) rfl (fun i k hx hk hfd=>?_) (fun hn=>?_)
 .obtain⟨rfl,hk⟩:=cL hx
  obtain⟨x,hx⟩:=get_some hk
  have done:∀e:Int,my v.types.length v.aK k x=e->e≠0->(some [PV.int .i64 e]:Option (List PV))=some [.int .i64 G]:=fun e h1 h2=>by
   rw[<- hG,fq hx (hfd (by rw[ea hx,h1]; exact decide_eq_true h2)),h1]
  rw[ea hx]
  have h310:=r310 x.name (hv.ps x (Vz hx))
  have h462:=fun u t=>r462 u (v.types.map aC.c) t (by rw[VB]; omega)
  rw[VB]at h462
  simp(disch:=omega)only[go_sem]
  refine Br.aD (fun c=>?_) (fun c=>(c (by omega)).elim)
  simp(disch:=omega)only[go_sem,hx,nc.c,h310]
  unfold my at done |-
  cases hi:isName x.name with
  |false=>
   simp(disch:=omega)only[go_sem]
   exact done 1 (by rw[if_pos hi]) (by decide)
  |true=>
   simp(disch:=omega)only[go_sem]
   rw[if_neg (by simp[hi])]at done |-
   refine W.find (v.aK.take k) (fun q=>decide (q.name=x.name)) (fun j=>⟨[(1,.ptr 1 0),(3,.pv (.int .i64 k)),(4,.ptr 4 0),(5,.pv (.int .i64 j))],⟨[(1,[.pv (.str v.name),.pv (.aa t1 (v.types.map aC.c)),.pv (.aa t2 (aW v.calls)),.pv (.aa t3 (ax v.ax)),.pv (.aa t4 (bo v.aK))]),(4,[.pv (.str x.name),.pv (.int .i64 x.ty)])],[],[]⟩⟩) rfl (fun j q hj hjl hfd2=>?_) (fun hn2=>?_)
   .have hjl':j<k/\j<v.aK.length:=by rw[VH]at hjl; omega
    have hj':v.aK[j]?=some q:=by
     rw[VN,if_pos hjl'.1]at hj
     exact hj
    simp(disch:=omega)only[go_sem]
    refine Br.aD (fun c=>?_) (fun c=>(c (by omega)).elim)
    simp(disch:=omega)only[go_sem,hj',nc.c]
    refine Br.aD (fun c3=>?_) (fun c3=>?_)<;>simp(disch:=omega)only[go_sem,c3]
    .refine done 5 ?_ (by decide)
     have:cy ((v.aK.map (·.name)).take k) x.name=true:=by
      unfold cy
      rw[<- WK,WJ]
      exact(hfd2 (by simp[c3])).any
     rw[if_pos this]
    .exact aX.of (by simp[c3]) rfl
   .have hlx:(v.aK.take k).length=k:=by rw[VH]; omega
    rw[hlx]
    have hh:cy ((v.aK.map (·.name)).take k) x.name=false:=by
     unfold cy
     rw[<- WK,WJ]
     exact hn2.any
    rw[if_neg (by simp[hh])]at done |-
    simp(disch:=omega)only[go_sem,h462]
    cases h1:dh v.types.length x.ty with
    |true=>
     simp(disch:=omega)only[go_sem]
     exact done 4 (by rw[h1]; rfl) (by decide)
    |false=>
     simp(disch:=omega)only[go_sem]
     exact aX.of (by simp) rfl
 .rw[V7,<- hG,ft hn]
  simp(disch:=omega)only[go_sem]
set_option maxHeartbeats 2000000 in
theorem r437 (t1 t2 t3 t4:Nat) (v:kr) (hv:jw v) (h0:bW v.types=0):res A az 437 [.agg (fT t1 t2 t3 t4 v)]=some [.int .i64 (dt (nj v.types.length v.ax) v.ax)]:=by
 have hcl:=hv.sl
 refine ai a437 rfl rfl ?_
 simp only[F437,Ky,fT]
 simp(disch:=omega)only[go_sem]
 obtain⟨G,hG⟩:∃G,dt (nj v.types.length v.ax) v.ax=G:=⟨_,rfl⟩
 rw[hG]
 refine W.find (List.range v.ax.length) (fun k=>decide (oh (nj v.types.length v.ax) v.ax k≠0)) (fun k=>⟨[(1,.ptr 1 0),(3,.pv (.int .i64 k))],⟨[(1,[.pv (.str v.name),.pv (.aa t1 (v.types.map aC.c)),.pv (.aa t2 (aW v.calls)),.pv (.aa t3 (ax v.ax)),.pv (.aa t4 (bo v.aK))])],[],[]⟩⟩) rfl (fun i k hx hk hfd=>?_) (fun hn=>?_)
 .obtain⟨rfl,hk⟩:=cL hx
  obtain⟨x,hx⟩:=get_some hk
  have done:∀e:Int,nj v.types.length v.ax k x=e->e≠0->(some [PV.int .i64 e]:Option (List PV))=some [.int .i64 G]:=fun e h1 h2=>by
   rw[<- hG,fq hx (hfd (by rw[ea hx,h1]; exact decide_eq_true h2)),h1]
  rw[ea hx]
  obtain⟨s1,s2,s3,s4⟩:=hv.ss x (Vz hx)
  have h463:=fun u=>r463 u v.types x hv.tl hv.to hv.ts s2 s1 s3 s4
  rw[if_neg (by simp[h0])]at h463
  unfold nj at done |-
  simp only[dx.c]at h463
  simp(disch:=omega)only[go_sem]
  refine Br.aD (fun c=>?_) (fun c=>(c (by omega)).elim)
  simp(disch:=omega)only[go_sem]
  refine W.find (v.ax.take k) (fun q=>decide (q.name=x.name)) (fun j=>⟨[(1,.ptr 1 0),(3,.pv (.int .i64 k)),(4,.pv (.int .i64 j))],⟨[(1,[.pv (.str v.name),.pv (.aa t1 (v.types.map aC.c)),.pv (.aa t2 (aW v.calls)),.pv (.aa t3 (ax v.ax)),.pv (.aa t4 (bo v.aK))])],[],[]⟩⟩) rfl (fun j q hj hjl hfd2=>?_) (fun hn2=>?_)
  .have hjl':j<k/\j<v.ax.length:=by rw[VH]at hjl; omega
   have hj':v.ax[j]?=some q:=by
    rw[VN,if_pos hjl'.1]at hj
    exact hj
   simp(disch:=omega)only[go_sem]
   refine Br.aD (fun c=>?_) (fun c=>(c (by omega)).elim)
   simp(disch:=omega)only[go_sem,hj',hx,Option.map_some,dx.c]
   refine Br.aD (fun c3=>?_) (fun c3=>?_)<;>simp(disch:=omega)only[go_sem,c3]
   .refine done 5 ?_ (by decide)
    have:cy ((v.ax.map (·.name)).take k) x.name=true:=by
     unfold cy
     rw[<- WK,WJ]
     exact(hfd2 (by simp[c3])).any
    rw[if_pos this]
   .exact aX.of (by simp[c3]) rfl
  .have hlx:(v.ax.take k).length=k:=by rw[VH]; omega
   rw[hlx]
   have hh:cy ((v.ax.map (·.name)).take k) x.name=false:=by
    unfold cy
    rw[<- WK,WJ]
    exact hn2.any
   rw[if_neg (by simp[hh])]at done |-
   generalize uh v.types.length x=e at *
   simp(disch:=omega)only[go_sem,hx,Option.map_some,dx.c,h463]
   refine Br.aD (fun c=>?_) (fun c=>?_)<;>simp(disch:=omega)only[go_sem]
   .exact aX.of (by simp[c]) rfl
   .exact done e rfl c
 .rw[V7,<- hG,ft hn]
  simp(disch:=omega)only[go_sem]
noncomputable def ui (v:kr):Int:=
 if 8<v.calls.length\/8<v.ax.length\/8<v.aK.length then 3
 else if isName v.name=false then 1
 else if jv v.types≠0 then jv v.types
 else if dt (ni v.types.length v.calls) v.calls≠0 then dt (ni v.types.length v.calls) v.calls
 else if dt (nj v.types.length v.ax) v.ax≠0 then dt (nj v.types.length v.ax) v.ax
 else dt (my v.types.length v.aK) v.aK
theorem mz {T:List aC} (h:jv T=0):bW T=0:=by
 unfold jv at h
 split at h
 .rename_i h1
  exact absurd h h1
 .rename_i h1
  exact(gW (by simpa using h1)).1
set_option maxHeartbeats 2000000 in
theorem r406 (t1 t2 t3 t4:Nat) (v:kr) (hv:jw v):res A az 406 [.agg (fT t1 t2 t3 t4 v)]=some [.int .i64 (ui v)]:=by
 have h1:=hv.cl
 have h2:=hv.sl
 have h3:=hv.pl
 have h310:=r310 v.name hv.nm
 have h435:=fun u=>r435 u v.types hv.tl hv.to hv.ts
 have h436:=r436 t1 t2 t3 t4 v hv
 have h437:=fun h=>r437 t1 t2 t3 t4 v hv (mz h)
 have h438:=r438 t1 t2 t3 t4 v hv
 refine ai a406 rfl rfl ?_
 unfold ui
 simp only[F406,Kp,fT]at h436 h437 h438 |-
 generalize dt (ni v.types.length v.calls) v.calls=e1 at *
 generalize dt (nj v.types.length v.ax) v.ax=e2 at *
 generalize dt (my v.types.length v.aK) v.aK=e3 at *
 generalize jv v.types=e0 at *
 simp(disch:=omega)only[go_sem]
 refine Br.aD (fun c1=>?_) (fun c1=>?_)<;>simp(disch:=omega)only[go_sem,c1]
 .rw[if_pos (by omega)]
 refine Br.aD (fun c2=>?_) (fun c2=>?_)<;>simp(disch:=omega)only[go_sem,c2]
 .rw[if_pos (by omega)]
 refine Br.aD (fun c3=>?_) (fun c3=>?_)<;>simp(disch:=omega)only[go_sem,c3,h310]
 .rw[if_pos (by omega)]
 rw[if_neg (by omega)]
 cases hi:isName v.name with
 |false=>simp(disch:=omega)only[go_sem,if_true]
 |true=>
  simp(disch:=omega)only[go_sem,h435]
  rw[if_neg (by decide)]
  refine Br.aD (fun c=>?_) (fun c=>?_)<;>simp(disch:=omega)only[go_sem,h436]
  rotate_left
  .rw[if_pos c]
  have h437:=h437 c
  rw[if_neg (by simp[c])]
  refine Br.aD (fun c=>?_) (fun c=>?_)<;>simp(disch:=omega)only[go_sem,h437]
  rotate_left
  .rw[if_pos c]
  rw[if_neg (by simp[c])]
  refine Br.aD (fun c=>?_) (fun c=>?_)<;>simp(disch:=omega)only[go_sem,h438]
  .rw[if_neg (by simp[c])]
  .rw[if_pos c]
theorem r440 (t:Int) (u:Nat) (nm:PV) (tt:Nat) (T:List (List PV)) (c1 c2 c3:PV) (hl:T.length<=2^63 - 1):res A az 440 [.int .i64 t,.ro u [nm,.aa tt T,c1,c2,c3]]=some [.bool (dh T.length t)]:=by
 refine ai a440 rfl rfl ?_
 simp only[F440,KB]
 unfold dh
 simp(disch:=omega)only[go_sem]
 refine Br.aD (fun c=>?_) (fun c=>?_)<;>simp(disch:=omega)only[go_sem,c,decide_true,decide_false,Bool.true_or,Bool.false_or]
theorem r443 (x y:dx) (u:Nat):res A az 443 [.agg x.c,.ro u y.c]=some [.bool (decide (x.name=y.name))]:=by
 refine ai a443 rfl rfl ?_
 simp only[F443,KD,dx.c]
 simp(disch:=omega)only[go_sem]
theorem r448b (t u:Nat) (l:List dx) (y:dx) (hl:l.length<=2^63 - 1):res A az 448 [.aa t (ax l),.func 443 [.ro u y.c]]=some [.int .i64 (bd (fun w=>decide (w.name=y.name)) l)]:=by
 refine ai a448 rfl rfl ?_
 simp only[F448,KG]
 simp(disch:=omega)only[go_sem]
 refine W.find l (fun w=>decide (w.name=y.name)) (fun k=>⟨[(0,.pv (.aa t (ax l))),(1,.pv (.func 443 [.ro u y.c])),(7,.pv (.int .i64 l.length)),(8,.pv (.int .i64 k))],⟨[],[],[]⟩⟩) rfl (fun k x hx hk hfd=>?_) (fun hn=>?_)
 .have h443:=r443 x y u
  simp only[dx.c]at h443 |-
  simp(disch:=omega)only[go_sem]
  refine Br.aD (fun h=>?_) (fun h=>(h (by omega)).elim)
  simp(disch:=omega)only[go_sem,hx,Option.map_some,dx.c,h443]
  refine Br.of (fun h2=>?_) (fun h2=>?_)<;>simp(disch:=omega)only[go_sem]
  .rw[(hfd h2).bd]
  .exact aX.of h2 rfl
 .simp(disch:=omega)only[go_sem]
  rw[hn.bd]
theorem r442 (t u:Nat) (l:List dx) (y:dx) (hl:l.length<=2^63 - 1):res A az 442 [.aa t (ax l),.func 443 [.ro u y.c]]=some [.bool (cy (l.map (·.name)) y.name)]:=by
 refine ai a442 rfl rfl ?_
 simp only[F442,KC]
 have h448:=r448b t u l y hl
 have e:decide (0<=bd (fun w=>decide (w.name=y.name)) l)=cy (l.map (·.name)) y.name:=by
  unfold cy
  rw[WJ]
  rcases kZ (fun w:dx=>decide (w.name=y.name)) l with⟨f1,f2⟩|⟨k,x,f1,f2,f3⟩
  .rw[f2]
   symm
   rw[show decide ((0:Int)<= -1)=false from rfl,Wt]
   exact Xc.1 f1
  .rw[f3]
   symm
   rw[show decide ((0:Int)<=(k:Int))=true by simp,List.any_eq_true]
   exact⟨x,List.mem_of_find?_eq_some f1,Xd f1⟩
 simp only[dx.c]at h448 |-
 simp(disch:=omega)only[go_sem,h448]
 rw[e]
theorem xk (l:List dx):aP 5 (.inl (ax l))=true:=yZ fun r hr=>by
 obtain⟨w,_,rfl⟩:=VP.1 hr
 rfl
set_option maxHeartbeats 4000000 in
theorem r407 (t1 t2 t3 t4:Nat) (v:kr) (hv:jw v):res A az 407 [.agg (fT t1 t2 t3 t4 v)]=some [.int .i64 (ui v)]:=by
 have h1:=hv.cl
 have h2:=hv.sl
 have h3:=hv.pl
 have htl:=hv.tl
 have hrf:=xk v.ax
 have h306:=r306 v.name hv.nm
 have h439:=fun u=>r439 u v.types hv.tl hv.to hv.ts
 refine ai a407 rfl rfl ?_
 unfold ui
 simp only[F407,Kq,fT]
 have hs0:=mz (T:=v.types)
 generalize jv v.types=e0 at *
 simp(disch:=omega)only[go_sem]
 refine Br.aD (fun c1=>?_) (fun c1=>?_)<;>simp(disch:=omega)only[go_sem,c1]
 .rw[if_pos (by omega)]
 refine Br.aD (fun c2=>?_) (fun c2=>?_)<;>simp(disch:=omega)only[go_sem,c2]
 .rw[if_pos (by omega)]
 refine Br.aD (fun c3=>?_) (fun c3=>?_)<;>simp(disch:=omega)only[go_sem,c3,h306]
 .rw[if_pos (by omega)]
 rw[if_neg (by omega)]
 cases hi:isName v.name with
 |false=>simp(disch:=omega)only[go_sem,if_true]
 |true=>
  simp(disch:=omega)only[go_sem,h439]
  rw[if_neg (by decide)]
  refine Br.aD (fun c=>?_) (fun c=>?_)<;>simp(disch:=omega)only[go_sem]
  rotate_left
  .rw[if_pos c]
  have hvalid:=hs0 c
  rw[if_neg (by simp[c])]
  obtain⟨G,hG⟩:∃G,(if dt (ni v.types.length v.calls) v.calls≠0 then dt (ni v.types.length v.calls) v.calls
   else if dt (nj v.types.length v.ax) v.ax≠0 then dt (nj v.types.length v.ax) v.ax
   else dt (my v.types.length v.aK) v.aK)=G:=⟨_,rfl⟩
  rw[hG]
  refine W.find (List.range v.calls.length) (fun k=>decide (oh (ni v.types.length v.calls) v.calls k≠0)) (fun k=>⟨[(1,.ptr 1 0),(4,.func 440 [.ptr 1 0]),(5,.ptr 5 0),(6,.ptr 6 0),(46,.pv (.aa t2 (aW v.calls))),(47,.pv (.int .i64 v.calls.length)),(48,.pv (.int .i64 k))],⟨[(1,[.pv (.str v.name),.pv (.aa t1 (v.types.map aC.c)),.pv (.aa t2 (aW v.calls)),.pv (.aa t3 (ax v.ax)),.pv (.aa t4 (bo v.aK))]),(5,[cY 0 (strs ((v.calls.map (·.name)).take k))]),(6,[.tl []])],cm 1 (strs ((v.calls.map (·.name)).take k)),[]⟩⟩) rfl (fun i k hx hk hfd=>?_) (fun hn=>?_)
  .obtain⟨rfl,hk⟩:=cL hx
   obtain⟨x,hx⟩:=get_some hk
   have done:∀e:Int,ni v.types.length v.calls k x=e->e≠0->(some [PV.int .i64 e]:Option (List PV))=some [.int .i64 G]:=fun e h1 h2=>by
    have h3:=fq hx (hfd (by rw[ea hx,h1]; exact decide_eq_true h2))
    rw[<- hG,h3,h1,if_pos h2]
   rw[ea hx]
   have hnx:(v.calls.map (·.name)).take (k+1)=(v.calls.map (·.name)).take k++[x.name]:=by
    rw[VT,VF,hx]
    rfl
   have hsl:((v.calls.map (·.name)).take k).length<=8:=by rw[VH,VB]; omega
   unfold ni at done |-
   generalize (v.calls.map (·.name)).take k=sn at *
   simp(disch:=omega)only[go_sem]
   refine Br.aD (fun c=>?_) (fun c=>(c (by omega)).elim)
   simp(disch:=omega)only[go_sem,hx,lC.c]
   refine call5 (fa _ _) (Ca x.name sn (hv.cs x (Vz hx)) (by omega) _ fun env=>?_)
   cases hi:isName x.name with
   |false=>
    rw[if_pos rfl]
    refine iN (fa _ _) ⟨_,rfl⟩ ?_
    simp(disch:=omega)only[go_sem]
    exact done 1 (by rw[if_pos hi]) (by decide)
   |true=>
    rw[if_neg (by decide)]
    cases hh:cy sn x.name with
    |true=>
     rw[if_pos rfl]
     refine iN (fa _ _) ⟨_,rfl⟩ ?_
     simp(disch:=omega)only[go_sem]
     exact done 5 (by rw[if_neg (by simp[hi]),if_pos hh]) (by decide)
    |false=>
     rw[if_neg (by decide)]
     refine iN (fa _ _) ⟨_,rfl⟩ ?_
     rw[if_neg (by simp[hi]),if_neg (by simp[hh])]at done |-
     have h440:=fun t u=>r440 t u (.str v.name) t1 (v.types.map aC.c) (.aa t2 (aW v.calls)) (.aa t3 (ax v.ax)) (.aa t4 (bo v.aK)) (by rw[VB]; omega)
     rw[VB]at h440
     simp(disch:=omega)only[go_sem,h440]
     cases h1:dh v.types.length x.nH with
     |true=>
      simp(disch:=omega)only[go_sem]
      exact done 4 (by rw[h1]; rfl) (by decide)
     |false=>
      simp(disch:=omega)only[go_sem,h440]
      cases h2:dh v.types.length x.rep with
      |true=>
       simp(disch:=omega)only[go_sem]
       exact done 4 (by rw[h1,h2]; rfl) (by decide)
      |false=>
       simp(disch:=omega)only[go_sem]
       exact aX.of (by simp) (by rw[hnx]; rfl)
  .rw[V7]
   have hz:=ft hn
   rw[if_neg (by simp[hz])]at hG
   clear hn hz
   obtain⟨X,hXd⟩:∃X,cm 1 (strs ((v.calls.map (·.name)).take v.calls.length))=X:=⟨_,rfl⟩
   have hX:X=[]\/∃a,X=[a]:=by
    rw[<- hXd]
    cases strs ((v.calls.map (·.name)).take v.calls.length)with
    |nil=>exact .inl rfl
    |cons y r=>exact .inr ⟨_,rfl⟩
   rw[hXd]
   clear hXd
   simp(disch:=omega)only[go_sem]
   refine W.find (List.range v.ax.length) (fun k=>decide (oh (nj v.types.length v.ax) v.ax k≠0)) (fun k=>⟨[(1,.ptr 1 0),(4,.func 440 [.ptr 1 0]),(6,.ptr 6 0),(70,.pv (.aa t3 (ax v.ax))),(71,.pv (.int .i64 v.ax.length)),(72,.pv (.int .i64 k))],⟨[(1,[.pv (.str v.name),.pv (.aa t1 (v.types.map aC.c)),.pv (.aa t2 (aW v.calls)),.pv (.aa t3 (ax v.ax)),.pv (.aa t4 (bo v.aK))]),(6,[.tl []])],X,[]⟩⟩) rfl (fun i k hx hk hfd=>?_) (fun hn=>?_)
   .obtain⟨rfl,hk⟩:=cL hx
    obtain⟨x,hx⟩:=get_some hk
    have done:∀e:Int,nj v.types.length v.ax k x=e->e≠0->(some [PV.int .i64 e]:Option (List PV))=some [.int .i64 G]:=fun e h1 h2=>by
     have h3:=fq hx (hfd (by rw[ea hx,h1]; exact decide_eq_true h2))
     rw[<- hG,h3,h1,if_pos h2]
    rw[ea hx]
    obtain⟨s1,s2,s3,s4⟩:=hv.ss x (Vz hx)
    have h444:=fun u=>r444 u v.types x hv.tl hv.to hv.ts s2 s1 s3 s4
    rw[if_neg (by simp[hvalid])]at h444
    have h442:=fun t u=>r442 t u (v.ax.take k) x (by rw[VH]; omega)
    have hst:(ax v.ax).take k=ax (v.ax.take k):=(WK ..).symm
    rw[WK]at h442
    unfold nj at done |-
    simp only[dx.c]at h444 h442
    simp(disch:=omega)only[go_sem]
    refine Br.aD (fun c=>?_) (fun c=>(c (by omega)).elim)
    simp(disch:=omega)only[go_sem,hx,Option.map_some,dx.c,hrf,hst,h442]
    cases hh:cy ((v.ax.map (·.name)).take k) x.name with
    |true=>
     simp(disch:=omega)only[go_sem]
     exact done 5 (by rw[if_pos hh]) (by decide)
    |false=>
     rw[if_neg (by simp[hh])]at done |-
     generalize uh v.types.length x=e at *
     simp(disch:=omega)only[go_sem,h444]
     refine Br.aD (fun c=>?_) (fun c=>?_)<;>simp(disch:=omega)only[go_sem]
     .exact aX.of (by simp[c]) rfl
     .exact done e rfl c
   .rw[V7]
    have hz:=ft hn
    rw[if_neg (by simp[hz])]at hG
    clear hn hz
    simp(disch:=omega)only[go_sem]
    rcases hX with rfl|⟨a,rfl⟩
    .refine W.find (List.range v.aK.length) (fun k=>decide (oh (my v.types.length v.aK) v.aK k≠0)) (fun k=>⟨[(4,.func 440 [.ptr 1 0]),(6,.ptr 6 0),(92,.pv (.aa t4 (bo v.aK))),(93,.pv (.int .i64 v.aK.length)),(94,.pv (.int .i64 k))],⟨[(1,[.pv (.str v.name),.pv (.aa t1 (v.types.map aC.c)),.pv (.aa t2 (aW v.calls)),.pv (.aa t3 (ax v.ax)),.pv (.aa t4 (bo v.aK))]),(6,[cY 0 (strs ((v.aK.map (·.name)).take k))])],cm 1 (strs ((v.aK.map (·.name)).take k)),[]⟩⟩) rfl (fun i k hx hk hfd=>?_) (fun hn=>?_)
     .obtain⟨rfl,hk⟩:=cL hx
      obtain⟨x,hx⟩:=get_some hk
      have done:∀e:Int,my v.types.length v.aK k x=e->e≠0->(some [PV.int .i64 e]:Option (List PV))=some [.int .i64 G]:=fun e h1 h2=>by
       have h3:=fq hx (hfd (by rw[ea hx,h1]; exact decide_eq_true h2))
       rw[<- hG,h3,h1]
      rw[ea hx]
      have hnx:(v.aK.map (·.name)).take (k+1)=(v.aK.map (·.name)).take k++[x.name]:=by
       rw[VT,VF,hx]
       rfl
      have hsl:((v.aK.map (·.name)).take k).length<=8:=by rw[VH,VB]; omega
      unfold my at done |-
      generalize (v.aK.map (·.name)).take k=sn at *
      simp(disch:=omega)only[go_sem]
      refine Br.aD (fun c=>?_) (fun c=>(c (by omega)).elim)
      simp(disch:=omega)only[go_sem,hx,nc.c]
      refine call6 (fa _ _) (Ca x.name sn (hv.ps x (Vz hx)) (by omega) _ fun env=>?_)
      cases hi:isName x.name with
      |false=>
       rw[if_pos rfl]
       refine iN (fa _ _) ⟨_,rfl⟩ ?_
       simp(disch:=omega)only[go_sem]
       exact done 1 (by rw[if_pos hi]) (by decide)
      |true=>
       rw[if_neg (by decide)]
       cases hh:cy sn x.name with
       |true=>
        rw[if_pos rfl]
        refine iN (fa _ _) ⟨_,rfl⟩ ?_
        simp(disch:=omega)only[go_sem]
        exact done 5 (by rw[if_neg (by simp[hi]),if_pos hh]) (by decide)
       |false=>
        rw[if_neg (by decide)]
        refine iN (fa _ _) ⟨_,rfl⟩ ?_
        rw[if_neg (by simp[hi]),if_neg (by simp[hh])]at done |-
        have h440:=fun t u=>r440 t u (.str v.name) t1 (v.types.map aC.c) (.aa t2 (aW v.calls)) (.aa t3 (ax v.ax)) (.aa t4 (bo v.aK)) (by rw[VB]; omega)
        rw[VB]at h440
        simp(disch:=omega)only[go_sem,h440]
        cases h1:dh v.types.length x.ty with
        |true=>
         simp(disch:=omega)only[go_sem]
         exact done 4 (by rw[h1]; rfl) (by decide)
        |false=>
         simp(disch:=omega)only[go_sem]
         exact aX.of (by simp) (by rw[hnx]; rfl)
     .rw[V7]
      have hz:=ft hn
      rw[hz]at hG
      rw[<- hG]
      simp(disch:=omega)only[go_sem]
    .refine W.find (List.range v.aK.length) (fun k=>decide (oh (my v.types.length v.aK) v.aK k≠0)) (fun k=>⟨[(4,.func 440 [.ptr 1 0]),(6,.ptr 6 0),(92,.pv (.aa t4 (bo v.aK))),(93,.pv (.int .i64 v.aK.length)),(94,.pv (.int .i64 k))],⟨[(1,[.pv (.str v.name),.pv (.aa t1 (v.types.map aC.c)),.pv (.aa t2 (aW v.calls)),.pv (.aa t3 (ax v.ax)),.pv (.aa t4 (bo v.aK))]),(6,[cY 1 (strs ((v.aK.map (·.name)).take k))])],a::cm 1 (strs ((v.aK.map (·.name)).take k)),[]⟩⟩) rfl (fun i k hx hk hfd=>?_) (fun hn=>?_)
     .obtain⟨rfl,hk⟩:=cL hx
      obtain⟨x,hx⟩:=get_some hk
      have done:∀e:Int,my v.types.length v.aK k x=e->e≠0->(some [PV.int .i64 e]:Option (List PV))=some [.int .i64 G]:=fun e h1 h2=>by
       have h3:=fq hx (hfd (by rw[ea hx,h1]; exact decide_eq_true h2))
       rw[<- hG,h3,h1]
      rw[ea hx]
      have hnx:(v.aK.map (·.name)).take (k+1)=(v.aK.map (·.name)).take k++[x.name]:=by
       rw[VT,VF,hx]
       rfl
      have hsl:((v.aK.map (·.name)).take k).length<=8:=by rw[VH,VB]; omega
      unfold my at done |-
      generalize (v.aK.map (·.name)).take k=sn at *
      simp(disch:=omega)only[go_sem]
      refine Br.aD (fun c=>?_) (fun c=>(c (by omega)).elim)
      simp(disch:=omega)only[go_sem,hx,nc.c]
      refine call6 (fa _ _) (Fu a x.name sn (hv.ps x (Vz hx)) (by omega) _ fun env=>?_)
      cases hi:isName x.name with
      |false=>
       rw[if_pos rfl]
       refine iN (fa _ _) ⟨_,rfl⟩ ?_
       simp(disch:=omega)only[go_sem]
       exact done 1 (by rw[if_pos hi]) (by decide)
      |true=>
       rw[if_neg (by decide)]
       cases hh:cy sn x.name with
       |true=>
        rw[if_pos rfl]
        refine iN (fa _ _) ⟨_,rfl⟩ ?_
        simp(disch:=omega)only[go_sem]
        exact done 5 (by rw[if_neg (by simp[hi]),if_pos hh]) (by decide)
       |false=>
        rw[if_neg (by decide)]
        refine iN (fa _ _) ⟨_,rfl⟩ ?_
        rw[if_neg (by simp[hi]),if_neg (by simp[hh])]at done |-
        have h440:=fun t u=>r440 t u (.str v.name) t1 (v.types.map aC.c) (.aa t2 (aW v.calls)) (.aa t3 (ax v.ax)) (.aa t4 (bo v.aK)) (by rw[VB]; omega)
        rw[VB]at h440
        simp(disch:=omega)only[go_sem,h440]
        cases h1:dh v.types.length x.ty with
        |true=>
         simp(disch:=omega)only[go_sem]
         exact done 4 (by rw[h1]; rfl) (by decide)
        |false=>
         simp(disch:=omega)only[go_sem]
         exact aX.of (by simp) (by rw[hnx]; rfl)
     .rw[V7]
      have hz:=ft hn
      rw[hz]at hG
      rw[<- hG]
      simp(disch:=omega)only[go_sem]
theorem mA {α:Type} {f:Nat->α->Int} {l:List α} (h:dt f l=0):∀(k:Nat) (x:α),l[k]?=some x->f k x=0:=by
 intro k x hx
 unfold dt at h
 cases hf:(List.range l.length).find? (fun k=>decide (oh f l k≠0))with
 |none=>
  have:=Xc.1 hf k (WA.2 (Vy.1 hx).1)
  rw[ea hx]at this
  simpa using this
 |some j=>
  rw[hf]at h
  have:=Xd hf
  simp[h]at this
theorem rW {n:Nat} {u:Int} (h:dh n u=false):0<=u/\u<n:=by
 simp[dh]at h
 omega
structure Fv (n:Nat) (w:dx):Prop where
 HQ:w.msgs.length<=16
 Vw:ij w=true
 ty:∀m∈w.msgs,0<=m.ty/\m.ty<n
 au:w.auto.err=0
 Vx:∀e∈w.auto.aw,w.msgs.any (ig e.label)=true
 all:(w.auto.order.length:Int)=w.auto.ay
theorem Dl {n:Nat} {w:dx} (h:uh n w=0):Fv n w:=by
 unfold uh at h
 split at h
 .cases h
 rename_i h1
 split at h
 .cases h
 rename_i h2
 split at h
 .cases h
 rename_i h3
 split at h
 .rename_i h4
  exact absurd h h4
 rename_i h4
 split at h
 .cases h
 rename_i h5
 split at h
 .cases h
 rename_i h6
 refine⟨by omega,by simpa using h2,fun m hm=>?_,by simpa using h4,fun e he=>?_,by simpa using h6⟩
 .have:=List.any_eq_false.1 (by simpa using h3) m hm
  exact rW (by simpa using this)
 .have:=List.any_eq_false.1 (by simpa using h5:w.auto.aw.any (fun e=>!w.msgs.any (ig e.label))=false) e he
  simpa using this
structure ki (v:kr):Prop where
 HQ:v.calls.length<=8/\v.ax.length<=8/\v.aK.length<=8
 nm:isName v.name=true
 sound:jv v.types=0
 Vs:∀(k:Nat) c,v.calls[k]?=some c->ni v.types.length v.calls k c=0
 Vt:∀(k:Nat) w,v.ax[k]?=some w->nj v.types.length v.ax k w=0
 top:∀(k:Nat) c,v.aK[k]?=some c->my v.types.length v.aK k c=0
theorem v8 {v:kr} (h:ui v=0):ki v:=by
 unfold ui at h
 split at h
 .cases h
 rename_i h1
 split at h
 .cases h
 rename_i h2
 split at h
 .rename_i h3
  exact absurd h h3
 rename_i h3
 split at h
 .rename_i h4
  exact absurd h h4
 rename_i h4
 split at h
 .rename_i h5
  exact absurd h h5
 rename_i h5
 exact⟨by omega,by simpa using h2,by simpa using h3,mA (by simpa using h4),mA (by simpa using h5),mA h⟩
theorem Dm {n:Nat} {l:List lC} {k:Nat} {c:lC} (h:ni n l k c=0):isName c.name=true/\cy ((l.map (·.name)).take k) c.name=false/\(0<=c.nH/\c.nH<n)/\0<=c.rep/\c.rep<n:=by
 unfold ni at h
 split at h
 .cases h
 rename_i h1
 split at h
 .cases h
 rename_i h2
 split at h
 .cases h
 rename_i h3
 simp only[Bool.or_eq_true,not_or,Bool.not_eq_true]at h3
 exact⟨by simpa using h1,by simpa using h2,rW h3.1,rW h3.2⟩
theorem Dn {n:Nat} {l:List nc} {k:Nat} {c:nc} (h:my n l k c=0):isName c.name=true/\cy ((l.map (·.name)).take k) c.name=false/\0<=c.ty/\c.ty<n:=by
 unfold my at h
 split at h
 .cases h
 rename_i h1
 split at h
 .cases h
 rename_i h2
 split at h
 .cases h
 rename_i h3
 exact⟨by simpa using h1,by simpa using h2,rW (by simpa using h3)⟩
theorem Dp {n:Nat} {l:List dx} {k:Nat} {w:dx} (h:nj n l k w=0):cy ((l.map (·.name)).take k) w.name=false/\Fv n w:=by
 unfold nj at h
 split at h
 .cases h
 rename_i h1
 exact⟨by simpa using h1,Dl h⟩
theorem ki.call {v:kr} (h:ki v):∀c∈v.calls,(0<=c.nH/\c.nH<v.types.length)/\0<=c.rep/\c.rep<v.types.length:=fun c hc=>by
 obtain⟨k,hk⟩:=VD.1 hc
 exact(Dm (h.Vs k c hk)).2.2
theorem ki.Rg {v:kr} (h:ki v):∀c∈v.aK,0<=c.ty/\c.ty<v.types.length:=fun c hc=>by
 obtain⟨k,hk⟩:=VD.1 hc
 exact(Dn (h.top k c hk)).2.2
theorem ki.rX {v:kr} (h:ki v):∀w∈v.ax,Fv v.types.length w:=fun c hc=>by
 obtain⟨k,hk⟩:=VD.1 hc
 exact(Dp (h.Vt k c hk)).2
theorem ki.valid {v:kr} (h:ki v):bW v.types=0:=mz h.sound
theorem ki.root {v:kr} (h:ki v):∀r∈du v,0<=r/\r<v.types.length:=by
 intro r hr
 unfold du at hr
 rcases Wm.1 hr with hr|hr
 .rcases Wm.1 hr with hr|hr
  .obtain⟨c,hc,hr⟩:=Xo.1 hr
   have:=h.call c hc
   simp at hr
   rcases hr with rfl|rfl
   .exact this.1
   .exact this.2
  .obtain⟨w,hw,hr⟩:=Xo.1 hr
   obtain⟨m,hm,rfl⟩:=VP.1 hr
   exact(h.rX w hw).ty m hm
 .obtain⟨c,hc,rfl⟩:=VP.1 hr
  exact h.Rg c hc
def fu (ar:List aL) (o:Nat) (v:V) (c:PV):Prop:=(v=.pv c/\c.perm=true)\/∃k rows,c=.aa 0 rows/\Home ar o k v rows
theorem fu.push {ar:List aL} {o:Nat} {v:V} {c:PV} (h:fu ar o v c) (x:List aL):fu (ar++x) o v c:=by
 rcases h with h|⟨k,rows,h1,h2⟩
 .exact .inl h
 .exact .inr ⟨k,rows,h1,h2.push x⟩
theorem fu.set {ar:List aL} {o:Nat} {v:V} {c:PV} (h:fu ar o v c) (a:aL):fu (ar.set o a) o v c:=by
 rcases h with h|⟨k,rows,h1,h2⟩
 .exact .inl h
 .exact .inr ⟨k,rows,h1,h2.set a⟩
theorem fu.bO {ar:List aL} {o:Nat} {v:V} {c:PV} (h:fu ar o v c) (bx:List (Nat×List V)) (mp:List (List (PV×PV))) (d:Nat):aV ⟨bx,ar,mp⟩ (d+1) v=some c:=by
 rcases h with⟨rfl,h⟩|⟨k,rows,rfl,h2⟩
 .rw[sW,if_pos h]
 .exact h2.bO bx mp d
def dE (ar:List aL) (o:Nat) (row:List V) (cs:List PV):Prop:=row.length=cs.length/\∀(i:Nat) v c,row[i]?=some v->cs[i]?=some c->fu ar o v c
theorem dE.nil (ar:List aL) (o:Nat):dE ar o [] []:=⟨rfl,fun i v c h=>by simp at h⟩
theorem dE.cons {ar:List aL} {o:Nat} {v:V} {c:PV} {row:List V} {cs:List PV} (h:fu ar o v c) (g:dE ar o row cs):dE ar o (v::row) (c::cs):=by
 refine⟨by simp[g.1],fun i w d h1 h2=>?_⟩
 cases i with
 |zero=>
  simp at h1 h2
  rw[<- h1,<- h2]
  exact h
 |succ i=>exact g.2 i w d (by simpa using h1) (by simpa using h2)
theorem dE.pure {ar:List aL} {o:Nat} {v:V} {c:PV} {row:List V} {cs:List PV} (h:v=.pv c) (hp:c.perm=true) (g:dE ar o row cs):dE ar o (v::row) (c::cs):=.cons (.inl ⟨h,hp⟩) g
theorem dE.push {ar:List aL} {o:Nat} {row:List V} {cs:List PV} (h:dE ar o row cs) (x:List aL):dE (ar++x) o row cs:=⟨h.1,fun i v c h1 h2=>(h.2 i v c h1 h2).push x⟩
theorem dE.set {ar:List aL} {o:Nat} {row:List V} {cs:List PV} (h:dE ar o row cs) (a:aL):dE (ar.set o a) o row cs:=⟨h.1,fun i v c h1 h2=>(h.2 i v c h1 h2).set a⟩
theorem dE.bO {ar:List aL} {o:Nat} (bx:List (Nat×List V)) (mp:List (List (PV×PV))) (d:Nat):∀{row:List V} {cs:List PV},dE ar o row cs->aA (aV ⟨bx,ar,mp⟩ (d+1)) row=some cs
 |[],[],_=>rfl
 |[],_::_,h=>absurd h.1 (by simp)
 |_::_,[],h=>absurd h.1 (by simp)
 |v::row,c::cs,h=>by
  have h1:=(h.2 0 v c rfl rfl).bO bx mp d
  have h2:=dE.bO bx mp d (row:=row) (cs:=cs) ⟨by simpa using h.1,fun i w e hi he=>h.2 (i+1) w e (by simpa using hi) (by simpa using he)⟩
  simp only[aA,h1,h2]
structure jx (ar:List aL) (o:Nat) (rows:List (List V)) (css:List (List PV)):Prop where
 len:rows.length=css.length
 row:∀(i:Nat) row cs,rows[i]?=some row->css[i]?=some cs->dE ar o row cs
theorem jx.push {ar:List aL} {o:Nat} {rows:List (List V)} {css:List (List PV)} (h:jx ar o rows css) (x:List aL):jx (ar++x) o rows css:=⟨h.len,fun i row cs h1 h2=>(h.row i row cs h1 h2).push x⟩
theorem jx.set {ar:List aL} {o:Nat} {rows:List (List V)} {css:List (List PV)} (h:jx ar o rows css) (a:aL):jx (ar.set o a) o rows css:=⟨h.len,fun i row cs h1 h2=>(h.row i row cs h1 h2).set a⟩
theorem jx.snoc {ar:List aL} {o:Nat} {rows:List (List V)} {css:List (List PV)} {row:List V} {cs:List PV} (h:jx ar o rows css) (hr:dE ar o row cs):jx ar o (rows++[row]) (css++[cs]):=by
 refine⟨by simp[h.len],fun i r u h1 h2=>?_⟩
 rcases VG i rows.length with hi|hi
 .rw[VC hi]at h1
  rw[VC (by rw[<- h.len]; exact hi)]at h2
  exact h.row i r u h1 h2
 .rw[VM hi]at h1
  rw[VM (by rw[<- h.len]; exact hi)]at h2
  rw[h.len]at h1
  cases hj:i - css.length with
  |zero=>
   rw[hj]at h1 h2
   cases h1
   cases h2
   exact hr
  |succ j=>
   rw[hj]at h1
   simp at h1
def wc (ar:List aL) (o aq k:Nat) (css:List (List PV)):Prop:=∃body,ar[o]?=some ⟨aq,k,body⟩/\jx ar o (bh body) css
theorem wc.push {ar:List aL} {o aq k:Nat} {css:List (List PV)} (h:wc ar o aq k css) (x:List aL):wc (ar++x) o aq k css:=by
 obtain⟨body,h1,h2⟩:=h
 exact⟨body,by rw[VC (Vy.1 h1).1]; exact h1,h2.push x⟩
theorem wc.bO {ar:List aL} {o aq k:Nat} {css:List (List PV)} (h:wc ar o aq k css) (bx:List (Nat×List V)) (mp:List (List (PV×PV))):aV ⟨bx,ar,mp⟩ 4 (.own o aq 0 css.length)=some (.aa 0 css):=by
 obtain⟨body,h1,h2⟩:=h
 rw[fC,gp,h1]
 simp only[Option.bind_some,if_true]
 have hk:=mN (f:=aV ⟨bx,ar,mp⟩ 3) (c:=id) h2.len (fun i row t hi ht=>(h2.row i row t hi ht).bO bx mp 2)
 rw[List.map_id]at hk
 cases body with
 |inl R=>
  have hl:R.length=css.length:=by have:=h2.len; simpa [bh]using this
  simp only[aI,dD,List.drop_zero]
  rw[<- hl,VW]
  congr 2
  apply Wi
  intro i
  rcases VG i R.length with hi|hi
  .have e1:=VA hi
   have e2:=VA (l:=css) (i:=i) (by omega)
   have:=(h2.row i (R[i].map V.pv) (css[i]'(by omega)) (by simp[bh,e1]) e2).bO bx mp 2
   have:=pn this
   rw[e1,e2,this]
  .rw[V8 hi,V8 (by omega)]
 |inr R=>
  have hl:R.length=css.length:=by have:=h2.len; simpa [bh]using this
  simp only[aI,dD,List.drop_zero]
  rw[<- hl,VW]
  have hk':aA (aA (aV ⟨bx,ar,mp⟩ 3)) R=some css:=hk
  rw[hk']
  rfl
def cg (b:Nat) (ar:List aL) (V0:V) (k:Nat) (css:List (List PV)):Prop:=(V0=.tl []/\css=[])\/∃o aq,V0=.own o aq 0 css.length/\b<=o/\wc ar o aq k css
theorem cg.push {b:Nat} {ar:List aL} {V0:V} {k:Nat} {css:List (List PV)} (h:cg b ar V0 k css) (x:List aL):cg b (ar++x) V0 k css:=by
 rcases h with h|⟨o,aq,h1,h2,h3⟩
 .exact .inl h
 .exact .inr ⟨o,aq,h1,h2,h3.push x⟩
theorem cg.bO {b:Nat} {ar:List aL} {V0:V} {k:Nat} {css:List (List PV)} (h:cg b ar V0 k css) (bx:List (Nat×List V)) (mp:List (List (PV×PV))):aV ⟨bx,ar,mp⟩ 4 V0=some (.aa 0 css):=by
 rcases h with⟨rfl,rfl⟩|⟨o,aq,rfl,_,h⟩
 .rfl
 .exact h.bO bx mp
theorem cg.quiet {b:Nat} {ar:List aL} {V0:V} {k:Nat} {css:List (List PV)} (h:cg b ar V0 k css):V0.calm=true/\V0.cells=[V0]:=by
 rcases h with⟨rfl,rfl⟩|⟨o,aq,rfl,_⟩<;>exact⟨rfl,rfl⟩
theorem L5 {n:Nat} {b:Sum (List (List PV)) (List (List V))} (h:aB b=n):aI 0 n b=b:=by
 subst h
 cases b<;>simp[aI,aB]
theorem Rh {b:Nat} {ar X:List aL} {V0 y:V} {k:Nat} {css:List (List PV)} {cs:List PV} {new:Sum (List (List PV)) (List (List V))} {rd:Option Nat} {row:List V} (hO:cg b ar V0 k css) (hb:b<=ar.length) (hm:css.length+1<=2147483648) (hk:cs.length=k)
  (hs:∀bx,bg ⟨bx,ar++X,[]⟩ y=some (new,rd)) (hn:bh new=[row]) (hrd:∀o,rd=some o->ar.length<=o) (hr:∀o,o<ar.length\/(ar++X).length<=o->dE (ar++X) o row cs):
  ∃V1 T ar',(∀bx,aJ ⟨bx,ar++X,[]⟩ k V0 y=some (V1,T))/\(∀bx,T.apply ⟨bx,ar++X,[]⟩=⟨bx,ar',[]⟩)/\V1.cells=[V1]/\V1.calm=true/\ar'.take b=ar.take b/\b<=ar'.length/\cg b ar' V1 k (css++[cs]):=by
 have hrow:row.length=k:=by rw[(hr _ (.inr (VI _))).1,hk]
 have h1:aB new=1:=by rw[<- fF,hn]; rfl
 have h2:aP k new=true:=mm (by rw[hn]; intro r hr'; rw[WU]at hr'; rw[hr']; exact hrow)
 rcases hO with⟨rfl,rfl⟩|⟨o,aq,rfl,ho,body,hb1,hb2⟩
 .have happ:∀bx,aJ ⟨bx,ar++X,[]⟩ k (.tl []) y=some (.own (ar++X).length 0 0 1,{ push:=[⟨0,k,aR (.inl []) new⟩],ra:=rd,base:=(ar++X).length }):=fun bx=>by
   simp only[aJ,hs,h2,h1,if_true]
   simp[aP,aT]
  refine⟨_,_,(ar++X)++[⟨0,k,aR (.inl []) new⟩],happ,fun bx=>by simp[Tn.apply],rfl,rfl,?_,by simp; omega,.inr ⟨(ar++X).length,0,rfl,?_,aR (.inl []) new,by simp,?_⟩⟩
  .rw[VO,Xf hb]
  .rw[VE]
   omega
  .rw[iR,hn]
   have h3:jx ((ar++X)++[⟨0,k,aR (.inl []) new⟩]) (ar++X).length (bh (.inl [])) []:=⟨rfl,fun i r u h1 _=>by simp[bh]at h1⟩
   exact h3.snoc ((hr _ (.inr (VI _))).push _)
 .have hol:=(Vy.1 hb1).1
  have hb1':(ar++X)[o]?=some ⟨aq,k,body⟩:=by rw[VC hol]; exact hb1
  have hbl:aB body=css.length:=by rw[<- fF]; exact hb2.len
  have hrd':rd≠some o:=fun e=>by have:=hrd o e; omega
  have happ:∀bx,aJ ⟨bx,ar++X,[]⟩ k (.own o aq 0 css.length) y=some (.own o (aq+1) 0 (css.length+1),{ ar:=some (o,⟨aq+1,k,aR body new⟩),ra:=rd }):=fun bx=>by
   have h3:aF ⟨bx,ar++X,[]⟩ o aq=some ⟨aq,k,body⟩:=by rw[gp,hb1']; simp
   have h4:(⟨aq,k,body⟩:aL).size=css.length:=by rw[<- hbl]; cases body<;>rfl
   simp only[aJ,hs,h2,h1,h3,if_true,h4]
   rw[L5 hbl]
   simp[aT,hm,hrd']
  refine⟨_,_,(ar++X).set o ⟨aq+1,k,aR body new⟩,happ,fun bx=>by simp[Tn.apply],rfl,rfl,?_,by simp; omega,.inr ⟨o,aq+1,by simp,ho,aR body new,?_,?_⟩⟩
  .rw[List.take_set_of_le ho,Xf hb]
  .rw[VY (by rw[VE]; omega)]
  .rw[iR,hn]
   exact(((hb2.push X).set _).snoc ((hr o (.inl hol)).set _))
theorem xm {b:Nat} {ar X0:List aL} {V0:V} {k:Nat} {css:List (List PV)} {cs:List PV} {row:List V} {n:Nat} (hO:cg b ar V0 k css) (hb:b<=ar.length) (hm:css.length+1<=2147483648) (hk:cs.length=k) (hl:(ar++X0).length=n)
  (hr:∀o,o<ar.length\/n+1<=o->dE (ar++X0++[⟨0,k,.inr [row]⟩]) o row cs):
  ∃V1 T ar',(∀bx,aJ ⟨bx,ar++X0++[⟨0,k,.inr [row]⟩],[]⟩ k V0 (.own n 0 0 1)=some (V1,T))/\(∀bx,T.apply ⟨bx,ar++X0++[⟨0,k,.inr [row]⟩],[]⟩=⟨bx,ar',[]⟩)/\V1.cells=[V1]/\V1.calm=true/\ar'.take b=ar.take b/\b<=ar'.length/\cg b ar' V1 k (css++[cs]):=by
 rw[VO]at hr |-
 refine Rh (X:=X0++[⟨0,k,.inr [row]⟩]) (new:=.inr [row]) (rd:=some n) hO hb hm hk (fun bx=>?_) rfl (fun o ho=>?_) (fun o ho=>hr o ?_)
 .have hg:(ar++(X0++[⟨0,k,.inr [row]⟩]))[n]?=some ⟨0,k,.inr [row]⟩:=by
   rw[<- VO,<- hl]
   simp
  simp[bg,aF,hg,aI]
 .injection ho with ho
  rw[<- ho,<- hl,VE]
  omega
 .rcases ho with ho|ho
  .exact .inl ho
  .rw[<- VO,VE,hl]at ho
   exact .inr ho
def G9 (row:List V) (c:Nat) (news:List V):List V:=row.take c++news++row.drop (c+news.length)
def ld:V->Bool
 |.func _ _=>false
 |_=>true
theorem zC {v:V} {p:PV} (h:v.bN=some p) (hp:ld v=true):v=.pv p:=by
 cases v<;>simp[V.bN,ld]at h hp
 rw[h.2]
theorem pN:∀{news:List V} {l:List PV},aA V.bN news=some l->(∀v∈news,ld v=true)->news=l.map .pv
 |[],l,h,_=>by cases h; rfl
 |v::news,l,h,hp=>by
  rw[nV]at h
  cases hv:v.bN with
  |none=>simp[hv]at h
  |some p=>
   cases hm:aA V.bN news with
   |none=>simp[hv,hm]at h
   |some r=>
    simp[hv,hm]at h
    rw[<- h,zC hv (hp v We),pN hm fun w hw=>hp w (Wl _ hw)]
    rfl
theorem Dq {r c:Nat} {news:List V} {body:Sum (List (List PV)) (List (List V))} (hr:r<(bh body).length) (hp:∀v∈news,ld v=true):bh (setBody r c news body)=(bh body).set r (G9 ((bh body).getD r []) c news):=by
 cases body with
 |inl x=>
  have hx:r<x.length:=by simpa [bh]using hr
  have hg:((x.map (·.map V.pv)).getD r [])=(x.getD r []).map .pv:=by
   simp[List.getD_eq_getElem?_getD,List.getElem?_eq_getElem hx]
  simp only[setBody,bh]
  cases hm:aA V.bN news with
  |none=>
   dsimp only
   rw[hg]
   rfl
  |some l=>
   dsimp only
   have:=pN hm hp
   subst this
   rw[hg,List.map_set]
   congr 1
   simp[G9,List.map_take,List.map_drop]
 |inr x=>rfl
theorem kj (r:Nat) (body:Sum (List (List PV)) (List (List V))):kQ r body=(bh body)[r]?:=by
 cases body with
 |inl x=>simp[kQ,bh]
 |inr x=>rfl
theorem L6 (a:aL):a.size=(bh a.body).length:=by
 obtain⟨v,k,b⟩:=a
 cases b<;>simp[aL.size,bh]
theorem xn {id r c aq k:Nat} {news:List V} {body:Sum (List (List PV)) (List (List V))} (hr:r<(bh body).length) (hc:c+news.length<=k) (h4:news.all V.calm=true) (hp:∀v∈news,ld v=true):
  ∃body',dC id r c news ⟨aq,k,body⟩=some { ar:=some (id,⟨aq,k,body'⟩) }/\bh body'=(bh body).set r (G9 ((bh body).getD r []) c news):=by
 refine⟨_,?_,Dq hr hp⟩
 have hs:r<(⟨aq,k,body⟩:aL).size:=by rw[L6]; exact hr
 unfold dC
 rw[if_pos ⟨hs,hc,h4⟩]
theorem zD (l:List Int):aP 1 (.inl (ints l))=true:=by simp[aP,ints]
theorem Ha (h:af) (rows:List (List PV)):bg h (.pv (.aa 0 rows))=some (.inl rows,none):=rfl
theorem Fw (l m:List Int):ints l++ints m=ints (l++m):=by simp[ints]
theorem qB {src:V} (bx:List (Nat×List V)) (mp:List (List (PV×PV))) (l:List Int) (hs:∀h,bg h src=some (.inl (ints l),none)) (h0:l≠[]) (hm:l.length<=2147483648):aJ ⟨bx,[],mp⟩ 1 (.tl []) src=some (.own 0 0 0 l.length,{ push:=[⟨0,1,.inl (ints l)⟩],base:=0 }):=by
 have h1:¬(ints l).length=0:=by rw[aH]; exact fun e=>h0 (VJ e)
 unfold aJ
 rw[hs]
 dsimp only
 rw[if_pos (zD l)]
 simp only[aB,aR,List.nil_append,List.length_nil,Nat.zero_add]
 rw[if_neg h1,if_pos ⟨by rw[aH]; exact hm,by rfl⟩,aH]
theorem xp {src:V} (bx:List (Nat×List V)) (mp:List (List (PV×PV))) (v n:Nat) (l m:List Int) (hn:n=l.length) (hs:∀h,bg h src=some (.inl (ints m),none)) (h0:m≠[]) (hm:l.length+m.length<=2147483648):aJ ⟨bx,[⟨v,1,.inl (ints l)⟩],mp⟩ 1 (.own 0 v 0 n) src=some (.own 0 (v+1) 0 (l++m).length,{ ar:=some (0,⟨v+1,1,.inl (ints (l++m))⟩) }):=by
 subst hn
 have h1:¬(ints m).length=0:=by rw[aH]; exact fun e=>h0 (VJ e)
 have h2:aF ⟨bx,[⟨v,1,.inl (ints l)⟩],mp⟩ 0 v=some ⟨v,1,.inl (ints l)⟩:=by simp[aF]
 have h3:((ints l).drop 0).take l.length=ints l:=by rw[List.drop_zero]; exact List.take_of_length_le (by simp[ints])
 unfold aJ
 rw[hs]
 dsimp only
 rw[if_pos (zD m),h2]
 simp only[aB]
 rw[if_neg h1,if_pos ⟨by simp[aL.size,ints],by trivial,by unfold aT; rw[aH]; exact hm,by simp⟩]
 simp only[aI,h3,aR,Fw,aH,List.length_append]
theorem zE {src:V} (bx:List (Nat×List V)) (mp:List (List (PV×PV))) (v n:Nat) (l:List Int) (hs:∀h,bg h src=some (.inl [],none)):aJ ⟨bx,[⟨v,1,.inl (ints l)⟩],mp⟩ 1 (.own 0 v 0 n) src=some (.own 0 v 0 n,{ nD:=some 0 }):=by
 have h2:aF ⟨bx,[⟨v,1,.inl (ints l)⟩],mp⟩ 0 v=some ⟨v,1,.inl (ints l)⟩:=by simp[aF]
 unfold aJ
 rw[hs]
 dsimp only
 rw[if_pos (by rfl),h2]
 rfl
theorem zF {src:V} (h:af) (hs:∀h,bg h src=some (.inl [],none)):aJ h 1 (.tl []) src=some (.tl [],{}):=by
 unfold aJ
 rw[hs]
 rfl
theorem pO (bx:List (Nat×List V)) (mp:List (List (PV×PV))) (a:aL) (b:Nat):({ push:=[a],base:=b }:Tn).apply ⟨bx,[],mp⟩=⟨bx,[a],mp⟩:=by simp[Tn.apply]
theorem xq (bx:List (Nat×List V)) (mp:List (List (PV×PV))) (a b:aL):({ ar:=some (0,b) }:Tn).apply ⟨bx,[a],mp⟩=⟨bx,[b],mp⟩:=by simp[Tn.apply]
theorem Fx (h:af):({ nD:=some 0 }:Tn).apply h=h:=by cases h; simp[Tn.apply]
set_option maxHeartbeats 1000000 in
theorem r452 (l:List Int) (n:Int) (hl:l.length<=1000000):res A az 452 [.aa 0 (ints l),.int .i64 n]=some [.aa 0 (ints (uw n l))]:=by
 refine ai a452 rfl rfl ?_
 simp only[F452,KH]
 simp(disch:=omega)only[go_sem]
 refine W.cD l.length (fun k=>⟨[(0,.pv (.aa 0 (ints l))),(1,.pv (.int .i64 n)),(5,.pv (.int .i64 k))],⟨[],[],[]⟩⟩) (fun k=>∀j z,j<k->l[j]?=some z->z<n) rfl (fun j z hj=>absurd hj (by omega)) fun k hk hi=>?_
 have key:(∀z,l[k]?=some z->¬z<n)->uw n l=if l[k]?=some n then l else l.take k++n::l.drop k:=fun h=>vK n l k hi hk h
 rcases VG k l.length with h|h
 .obtain⟨z,hz⟩:=get_some h
  have e1:decide ((k:Int)<l.length)=true:=decide_eq_true (by omega)
  cases hd:decide (z<n)with
  |true=>
   simp(disch:=omega)only[go_sem,e1,hz,hd]
   exact .of h rfl (yL hz hi (of_decide_eq_true hd))
  |false=>
   have key:=key (fun z' hz'=>by
    rw[hz]at hz'
    cases hz'
    simpa using hd)
   rw[hz]at key
   by_cases he:z=n
   .rw[if_pos (by rw[he])]at key
    have e2:decide (z=n)=true:=decide_eq_true he
    rw[key]
    simp(disch:=omega)only[go_sem,e1,hz,hd,e2]
   .rw[if_neg (by simpa using he)]at key
    have e2:decide (z=n)=false:=decide_eq_false he
    rw[key]
    have hdr:l.drop k≠[]:=by
     intro e
     have:=congrArg List.length e
     rw[List.length_drop]at this
     simp at this
     omega
    have t1:(l.take k).length<=l.length:=by rw[VH]; omega
    have t2:(l.drop k).length<=l.length:=by rw[List.length_drop]; omega
    rcases Wu k with h0|h0
    .subst h0
     rw[List.drop_zero]at hdr
     have a1:=fun h=>zF (src:=.pv (.aa 0 [])) h (fun _=>rfl)
     have a3:=fun bx mp v=>xp (src:=.pv (.aa 0 (ints l))) bx mp v 1 [n] l rfl (fun _=>rfl) hdr (by rw[WV]; omega)
     simp(disch:=omega)only[go_sem,e1,hz,hd,e2,a1,a3,pO,xq]
     rw[VW]
    .have htk:l.take k≠[]:=by
      intro e
      have:=congrArg List.length e
      rw[VH,List.length_nil]at this
      omega
     have a1:=fun bx mp=>qB (src:=.pv (.aa 0 (ints (l.take k)))) bx mp (l.take k) (fun _=>rfl) htk (by omega)
     have a3:=fun bx mp v=>xp (src:=.pv (.aa 0 (ints (l.drop k)))) bx mp v ((l.take k).length+1) (l.take k++[n]) (l.drop k) (by rw[VE,WV]) (fun _=>rfl) hdr (by rw[VE,WV]; omega)
     simp(disch:=omega)only[go_sem,e1,hz,hd,e2,a1,a3,pO,xq]
     rw[List.take_of_length_le (by simp only[List.length_append,List.length_singleton]; omega),List.append_assoc]
     rfl
 .obtain rfl:k=l.length:=by omega
  have e1:decide ((l.length:Int)<l.length)=false:=decide_eq_false (by omega)
  have key:=key (fun z' hz'=>by
   rw[V8 (VI _)]at hz'
   cases hz')
  rw[List.getElem?_eq_none (Nat.le_refl _),if_neg (by simp)]at key
  rw[key]
  have hdr:l.drop l.length=[]:=List.drop_length
  rcases Wu l.length with h0|h0
  .obtain rfl:=VJ h0
   have a1:=fun h=>zF (src:=.pv (.aa 0 [])) h (fun _=>rfl)
   have a3:=fun bx mp v=>zE (src:=.pv (.aa 0 [])) bx mp v 1 [n] (fun _=>rfl)
   have e0:decide (((0:Nat):Int)<((0:Nat):Int))=false:=rfl
   have ef:aP 1 (.inl [])=true:=rfl
   simp(disch:=omega)only[go_sem,e0,ef,a1,a3,pO,Fx]
  .have htk:l.take l.length≠[]:=by
    rw[VW]
    exact fun e=>by rw[e]at h0; simp at h0
   have t1:(l.take l.length).length<=l.length:=by rw[VH]; omega
   have a1:=fun bx mp=>qB (src:=.pv (.aa 0 (ints (l.take l.length)))) bx mp (l.take l.length) (fun _=>rfl) htk (by omega)
   have a3:=fun bx mp v l' n'=>zE (src:=.pv (.aa 0 [])) bx mp v n' l' (fun _=>rfl)
   simp(disch:=omega)only[go_sem,e1,hdr,te,a1,a3,pO,xq,Fx]
   rw[List.take_of_length_le (by simp only[List.length_append,List.length_singleton]; omega)]
def FY:Nat->List Int->V
 |0,_=>.tl []
 |v+1,l=>.own 0 v 0 l.length
def FZ:Nat->List Int->List aL
 |0,_=>[]
 |v+1,l=>[⟨v,1,.inl (ints l)⟩]
def T1:Nat->List Int->Tn
 |0,l=>{ push:=[⟨0,1,.inl (ints l)⟩],base:=0 }
 |v+1,l=>{ ar:=some (0,⟨v+1,1,.inl (ints l)⟩) }
theorem Bg (bx:List (Nat×List V)) (mp:List (List (PV×PV))) (n:Nat) (l m:List Int) (h0:n=0->l=[]) (h1:m≠[]) (hm:l.length+m.length<=2147483648):aJ ⟨bx,FZ n l,mp⟩ 1 (FY n l) (.tl (ints m))=some (FY (n+1) (l++m),T1 n (l++m)):=by
 cases n with
 |zero=>
  obtain rfl:=h0 rfl
  exact qB bx mp m (fun _=>rfl) h1 (by omega)
 |succ v=>exact xp bx mp v l.length l m rfl (fun _=>rfl) h1 hm
theorem uj (bx:List (Nat×List V)) (mp:List (List (PV×PV))) (n:Nat) (l m:List Int):(T1 n m).apply ⟨bx,FZ n l,mp⟩=⟨bx,FZ (n+1) m,mp⟩:=by cases n<;>simp[T1,FZ,Tn.apply]
@[go_sem] theorem Ri (kb:List Nat) (n:Nat) (l:List Int):dO kb (FY n l)=FY n l:=by cases n<;>rfl
theorem mW:∀l:List lC,(cC l).length=2*l.length
 |[]=>rfl
 |c::l=>by
  have:=mW l
  simp only[cC,List.flatMap_cons,List.length_append,List.length_cons,List.length_nil]at this |-
  omega
theorem pP {α β:Type} (f:α->β) {l:List α} {k:Nat} {x:α} (h:l[k]?=some x):(l.map f).take (k+1)=(l.map f).take k++[f x]:=by
 rw[VT,VF,h]
 rfl
set_option maxHeartbeats 4000000 in
theorem r417 (t u x y:Nat) (v:kr) (hn:(du v).length<=1000000) (h1:v.calls.length<=2^63 - 1) (h2:v.ax.length<=2^63 - 1) (h3:v.aK.length<=2^63 - 1) (h4:∀w∈v.ax,w.msgs.length<=2^63 - 1):res A az 417 [.agg (fT t u x y v)]=some [.aa 0 (ints (lu (du v)))]:=by
 refine ai a417 rfl rfl ?_
 simp only[F417,Kt,fT]
 have hl:(cC v.calls).length+(dj v.ax).length+(jt v.aK).length<=1000000:=by
  unfold du at hn
  rw[VE,VE]at hn
  exact hn
 simp(disch:=omega)only[go_sem]
 refine W.cD v.calls.length (fun k=>⟨[(1,.ptr 1 0),(3,FY k (cC (v.calls.take k))),(13,.pv (.aa u (aW v.calls))),(14,.pv (.int .i64 v.calls.length)),(15,.pv (.int .i64 k))],⟨[(1,[.pv (.str v.name),.pv (.aa t (v.types.map aC.c)),.pv (.aa u (aW v.calls)),.pv (.aa x (ax v.ax)),.pv (.aa y (bo v.aK))])],FZ k (cC (v.calls.take k)),[]⟩⟩) (fun _=>True) rfl trivial fun k hk _=>?_
 simp(disch:=omega)only[go_sem]
 refine Br.aD (fun c1=>?_) (fun c1=>?_)
 .obtain⟨c,hc⟩:=get_some (l:=v.calls) (k:=k) (by omega)
  have hkl:=gF (fun c:lC=>[c.nH,c.rep]) v.calls k
  have hap:=fun bx mp=>Bg bx mp k (cC (v.calls.take k)) [c.nH,c.rep] (fun h=>by subst h; rfl) (by simp) (by simp only[cC,List.length_cons,List.length_nil]at hl hkl |-; omega)
  have hin:ints [c.nH,c.rep]=[[.int .i64 c.nH],[.int .i64 c.rep]]:=rfl
  rw[hin]at hap
  have hsn:cC (v.calls.take (k+1))=cC (v.calls.take k)++[c.nH,c.rep]:=iS _ hc
  simp(disch:=omega)only[go_sem,hc,Option.map_some,hap,uj]
  exact .of (by omega) (by rw[hsn]; rfl) trivial
 obtain rfl:k=v.calls.length:=by omega
 clear hk c1
 rw[VW]
 have hcl:=mW v.calls
 simp(disch:=omega)only[go_sem]
 refine W.cD v.ax.length (fun k=>⟨[(1,.ptr 1 0),(3,FY (v.calls.length+(dj (v.ax.take k)).length) (cC v.calls++dj (v.ax.take k))),(28,.pv (.aa x (ax v.ax))),(29,.pv (.int .i64 v.ax.length)),(30,.pv (.int .i64 k))],⟨[(1,[.pv (.str v.name),.pv (.aa t (v.types.map aC.c)),.pv (.aa u (aW v.calls)),.pv (.aa x (ax v.ax)),.pv (.aa y (bo v.aK))])],FZ (v.calls.length+(dj (v.ax.take k)).length) (cC v.calls++dj (v.ax.take k)),[]⟩⟩) (fun _=>True) (by simp[dj]) trivial fun k hk _=>?_
 simp(disch:=omega)only[go_sem]
 refine Br.aD (fun c1=>?_) (fun c1=>?_)
 .obtain⟨w,hw⟩:=get_some (l:=v.ax) (k:=k) (by omega)
  have hkl:(dj (v.ax.take k)).length+(gx w.msgs).length<=(dj v.ax).length:=by
   have h5:=gF (fun w:dx=>gx w.msgs) v.ax (k+1)
   rw[iS _ hw,VE]at h5
   exact h5
  have hsn:dj (v.ax.take (k+1))=dj (v.ax.take k)++gx w.msgs:=iS _ hw
  have hml:=h4 w (Vz hw)
  have hmn:(gx w.msgs).length=w.msgs.length:=VB _
  have hmm:w.msgs.map eD.c=msgs w.msgs:=rfl
  simp(disch:=omega)only[go_sem,hw,Option.map_some,hmm]
  refine W.cD w.msgs.length (fun j=>⟨[(1,.ptr 1 0),(3,FY (v.calls.length+(dj (v.ax.take k)).length+j) (cC v.calls++dj (v.ax.take k)++(gx w.msgs).take j)),(28,.pv (.aa x (ax v.ax))),(29,.pv (.int .i64 v.ax.length)),(30,.pv (.int .i64 k)),(35,.pv (.aa 0 (msgs w.msgs))),(36,.pv (.int .i64 w.msgs.length)),(37,.pv (.int .i64 j))],⟨[(1,[.pv (.str v.name),.pv (.aa t (v.types.map aC.c)),.pv (.aa u (aW v.calls)),.pv (.aa x (ax v.ax)),.pv (.aa y (bo v.aK))])],FZ (v.calls.length+(dj (v.ax.take k)).length+j) (cC v.calls++dj (v.ax.take k)++(gx w.msgs).take j),[]⟩⟩) (fun _=>True) (by simp) trivial fun j hj _=>?_
  simp(disch:=omega)only[go_sem]
  refine Br.aD (fun c2=>?_) (fun c2=>?_)
  .obtain⟨m,hm⟩:=get_some (l:=w.msgs) (k:=j) (by omega)
   have htl:((gx w.msgs).take j).length=j:=by rw[VH]; omega
   have hap:=fun bx mp=>Bg bx mp (v.calls.length+(dj (v.ax.take k)).length+j) (cC v.calls++dj (v.ax.take k)++(gx w.msgs).take j) [m.ty] (fun h=>List.eq_nil_of_length_eq_zero (by rw[List.length_append,List.length_append]; omega)) (by simp) (by rw[List.length_append,List.length_append,List.length_singleton]; omega)
   have hin:ints [m.ty]=[[.int .i64 m.ty]]:=rfl
   rw[hin]at hap
   have hms:(gx w.msgs).take (j+1)=(gx w.msgs).take j++[m.ty]:=pP _ hm
   simp(disch:=omega)only[go_sem,hm,Option.map_some,hap,uj]
   refine .of (by omega) ?_ trivial
   rw[hms,<- VO]
   rfl
  .obtain rfl:j=w.msgs.length:=by omega
   have ht:(gx w.msgs).take w.msgs.length=gx w.msgs:=VS (by omega)
   rw[ht]
   simp(disch:=omega)only[go_sem]
   refine .of (by omega) ?_ trivial
   rw[hsn,VE,hmn,<- Wx,<- VO]
   rfl
 obtain rfl:k=v.ax.length:=by omega
 clear hk c1
 rw[VW]
 simp(disch:=omega)only[go_sem]
 have htn:(jt v.aK).length=v.aK.length:=VB _
 refine W.cD v.aK.length (fun k=>⟨[(3,FY (v.calls.length+(dj v.ax).length+k) (cC v.calls++dj v.ax++(jt v.aK).take k)),(49,.pv (.aa y (bo v.aK))),(50,.pv (.int .i64 v.aK.length)),(51,.pv (.int .i64 k))],⟨[],FZ (v.calls.length+(dj v.ax).length+k) (cC v.calls++dj v.ax++(jt v.aK).take k),[]⟩⟩) (fun _=>True) (by simp) trivial fun k hk _=>?_
 simp(disch:=omega)only[go_sem]
 refine Br.aD (fun c1=>?_) (fun c1=>?_)
 .obtain⟨m,hm⟩:=get_some (l:=v.aK) (k:=k) (by omega)
  have htl:((jt v.aK).take k).length=k:=by rw[VH]; omega
  have hap:=fun bx mp=>Bg bx mp (v.calls.length+(dj v.ax).length+k) (cC v.calls++dj v.ax++(jt v.aK).take k) [m.ty] (fun h=>List.eq_nil_of_length_eq_zero (by rw[List.length_append,List.length_append]; omega)) (by simp) (by rw[List.length_append,List.length_append,List.length_singleton]; omega)
  have hin:ints [m.ty]=[[.int .i64 m.ty]]:=rfl
  rw[hin]at hap
  have hms:(jt v.aK).take (k+1)=(jt v.aK).take k++[m.ty]:=pP _ hm
  simp(disch:=omega)only[go_sem,hm,Option.map_some,hap,uj]
  refine .of (by omega) ?_ trivial
  rw[hms,<- VO]
  rfl
 obtain rfl:k=v.aK.length:=by omega
 rw[VS (by omega)]
 have hroot:cC v.calls++dj v.ax++jt v.aK=du v:=rfl
 rw[hroot]
 have hrl:(du v).length=2*v.calls.length+(dj v.ax).length+v.aK.length:=by rw[<- hroot,VE,VE]; omega
 generalize hnn:v.calls.length+(dj v.ax).length+v.aK.length=nn
 generalize du v=R at *
 cases nn with
 |zero=>
  have hR:R=[]:=VJ (by omega)
  subst hR
  simp only[FY,FZ]
  simp(disch:=omega)only[go_sem]
  rfl
 |succ q=>
  have hR:R.length≠0:=by omega
  simp only[FY,FZ]
  simp(disch:=(first|omega|(simp only[qp]; done)|(simp only[qp]; omega)))only[go_sem]
  rw[VW]
  rfl
def tV:Nat->List Int->V
 |0,_=>.tl []
 |_+1,l=>.pv (.aa 0 (ints l))
@[go_sem] theorem Rj (kb:List Nat) (n:Nat) (l:List Int):dO kb (tV n l)=tV n l:=by cases n<;>rfl
theorem rY (h:af) (n:Nat) (l:List Int) (h0:n=0->l=[]):cM h (tV n l)=some (.aa 0 (ints l)):=by
 cases n with
 |zero=>rw[h0 rfl]; rfl
 |succ n=>rfl
set_option maxHeartbeats 4000000 in
theorem r418 (t u x y:Nat) (v:kr) (hn:(du v).length<=100000) (h1:v.calls.length<=2^63 - 1) (h2:v.ax.length<=2^63 - 1) (h3:v.aK.length<=2^63 - 1) (h4:∀w∈v.ax,w.msgs.length<=2^63 - 1):res A az 418 [.agg (fT t u x y v)]=some [.aa 0 (ints (lu (du v)))]:=by
 refine ai a418 rfl rfl ?_
 simp only[F418,Ku,fT]
 have hl:(cC v.calls).length+(dj v.ax).length+(jt v.aK).length<=100000:=by
  unfold du at hn
  rw[VE,VE]at hn
  exact hn
 have hcl:=mW v.calls
 simp(disch:=omega)only[go_sem]
 refine W.cD v.calls.length (fun k=>⟨[(1,.ptr 1 0),(3,tV k (eT [] (cC (v.calls.take k)))),(4,.pv (.int .i64 k))],⟨[(1,[.pv (.str v.name),.pv (.aa t (v.types.map aC.c)),.pv (.aa u (aW v.calls)),.pv (.aa x (ax v.ax)),.pv (.aa y (bo v.aK))])],[],[]⟩⟩) (fun _=>True) rfl trivial fun k hk _=>?_
 simp(disch:=omega)only[go_sem]
 refine Br.aD (fun c1=>?_) (fun c1=>?_)
 .obtain⟨c,hc⟩:=get_some (l:=v.calls) (k:=k) (by omega)
  have hkl:=gF (fun c:lC=>[c.nH,c.rep]) v.calls k
  have hpl:=pz (cC (v.calls.take k)) []
  have hpl2:=rU c.nH (eT [] (cC (v.calls.take k)))
  rw[List.length_nil,WY]at hpl
  have hle:=fun h=>rY h k (eT [] (cC (v.calls.take k))) (fun h=>by subst h; rfl)
  have q1:=r452 (eT [] (cC (v.calls.take k))) c.nH (by simp only[cC]at hl hkl hpl |-; omega)
  have q2:=r452 (uw c.nH (eT [] (cC (v.calls.take k)))) c.rep (by simp only[cC]at hl hkl hpl hpl2 |-; omega)
  have hsn:cC (v.calls.take (k+1))=cC (v.calls.take k)++[c.nH,c.rep]:=iS _ hc
  simp(disch:=omega)only[go_sem,hc,Option.map_some,hle,q1,q2]
  refine .of (by omega) ?_ trivial
  rw[hsn,mq]
  rfl
 obtain rfl:k=v.calls.length:=by omega
 clear hk c1
 rw[VW]
 simp(disch:=omega)only[go_sem]
 refine W.cD v.ax.length (fun k=>⟨[(1,.ptr 1 0),(3,tV (v.calls.length+(dj (v.ax.take k)).length) (eT [] (cC v.calls++dj (v.ax.take k)))),(5,.pv (.int .i64 k))],⟨[(1,[.pv (.str v.name),.pv (.aa t (v.types.map aC.c)),.pv (.aa u (aW v.calls)),.pv (.aa x (ax v.ax)),.pv (.aa y (bo v.aK))])],[],[]⟩⟩) (fun _=>True) (by simp[dj]) trivial fun k hk _=>?_
 simp(disch:=omega)only[go_sem]
 refine Br.aD (fun c1=>?_) (fun c1=>?_)
 .obtain⟨w,hw⟩:=get_some (l:=v.ax) (k:=k) (by omega)
  have hkl:(dj (v.ax.take k)).length+(gx w.msgs).length<=(dj v.ax).length:=by
   have h5:=gF (fun w:dx=>gx w.msgs) v.ax (k+1)
   rw[iS _ hw,VE]at h5
   exact h5
  have hsn:dj (v.ax.take (k+1))=dj (v.ax.take k)++gx w.msgs:=iS _ hw
  have hml:=h4 w (Vz hw)
  have hmn:(gx w.msgs).length=w.msgs.length:=VB _
  have hmm:w.msgs.map eD.c=msgs w.msgs:=rfl
  simp(disch:=omega)only[go_sem]
  refine W.cD w.msgs.length (fun j=>⟨[(1,.ptr 1 0),(3,tV (v.calls.length+(dj (v.ax.take k)).length+j) (eT [] (cC v.calls++dj (v.ax.take k)++(gx w.msgs).take j))),(5,.pv (.int .i64 k)),(6,.pv (.int .i64 j))],⟨[(1,[.pv (.str v.name),.pv (.aa t (v.types.map aC.c)),.pv (.aa u (aW v.calls)),.pv (.aa x (ax v.ax)),.pv (.aa y (bo v.aK))])],[],[]⟩⟩) (fun _=>True) (by simp) trivial fun j hj _=>?_
  simp(disch:=omega)only[go_sem,hw,Option.map_some,hmm]
  refine Br.aD (fun c2=>?_) (fun c2=>?_)
  .obtain⟨m,hm⟩:=get_some (l:=w.msgs) (k:=j) (by omega)
   have htl:((gx w.msgs).take j).length=j:=by rw[VH]; omega
   have hpl:=pz (cC v.calls++dj (v.ax.take k)++(gx w.msgs).take j) []
   rw[List.length_nil,WY,VE,VE]at hpl
   have hle:=fun h=>rY h (v.calls.length+(dj (v.ax.take k)).length+j) (eT [] (cC v.calls++dj (v.ax.take k)++(gx w.msgs).take j)) (fun h=>VJ (by omega))
   have q1:=r452 (eT [] (cC v.calls++dj (v.ax.take k)++(gx w.msgs).take j)) m.ty (by omega)
   have hms:(gx w.msgs).take (j+1)=(gx w.msgs).take j++[m.ty]:=pP _ hm
   simp(disch:=omega)only[go_sem,hw,hm,Option.map_some,hmm,hle,q1]
   refine .of (by omega) ?_ trivial
   rw[hms,<- VO,mq _ _ [m.ty]]
   rfl
  .obtain rfl:j=w.msgs.length:=by omega
   have ht:(gx w.msgs).take w.msgs.length=gx w.msgs:=VS (by omega)
   rw[ht]
   simp(disch:=omega)only[go_sem]
   refine .of (by omega) ?_ trivial
   rw[hsn,VE,hmn,<- Wx,<- VO]
   rfl
 obtain rfl:k=v.ax.length:=by omega
 clear hk c1
 rw[VW]
 simp(disch:=omega)only[go_sem]
 have htn:(jt v.aK).length=v.aK.length:=VB _
 refine W.cD v.aK.length (fun k=>⟨[(1,.ptr 1 0),(3,tV (v.calls.length+(dj v.ax).length+k) (eT [] (cC v.calls++dj v.ax++(jt v.aK).take k))),(7,.pv (.int .i64 k))],⟨[(1,[.pv (.str v.name),.pv (.aa t (v.types.map aC.c)),.pv (.aa u (aW v.calls)),.pv (.aa x (ax v.ax)),.pv (.aa y (bo v.aK))])],[],[]⟩⟩) (fun _=>True) (by simp) trivial fun k hk _=>?_
 simp(disch:=omega)only[go_sem]
 refine Br.aD (fun c1=>?_) (fun c1=>?_)
 .obtain⟨m,hm⟩:=get_some (l:=v.aK) (k:=k) (by omega)
  have htl:((jt v.aK).take k).length=k:=by rw[VH]; omega
  have hpl:=pz (cC v.calls++dj v.ax++(jt v.aK).take k) []
  rw[List.length_nil,WY,VE,VE]at hpl
  have hle:=fun h=>rY h (v.calls.length+(dj v.ax).length+k) (eT [] (cC v.calls++dj v.ax++(jt v.aK).take k)) (fun h=>VJ (by omega))
  have q1:=r452 (eT [] (cC v.calls++dj v.ax++(jt v.aK).take k)) m.ty (by omega)
  have hms:(jt v.aK).take (k+1)=(jt v.aK).take k++[m.ty]:=pP _ hm
  simp(disch:=omega)only[go_sem,hm,Option.map_some,hle,q1]
  refine .of (by omega) ?_ trivial
  rw[hms,<- VO,mq _ _ [m.ty]]
  rfl
 obtain rfl:k=v.aK.length:=by omega
 have htt:(jt v.aK).take v.aK.length=jt v.aK:=VS (by omega)
 have hroot:cC v.calls++dj v.ax++jt v.aK=du v:=rfl
 rw[htt,hroot,AV]
 have hrl:(du v).length=2*v.calls.length+(dj v.ax).length+v.aK.length:=by rw[<- hroot,VE,VE]; omega
 generalize hnn:v.calls.length+(dj v.ax).length+v.aK.length=nn
 generalize du v=R at *
 cases nn with
 |zero=>
  have hR:R=[]:=VJ (by omega)
  subst hR
  simp only[tV]
  simp(disch:=omega)only[go_sem]
  rfl
 |succ q=>
  simp only[tV]
  simp(disch:=omega)only[go_sem]
def Rk (d:Int) (s:List Int×List Int) (x:Int):List Int×List Int:=if s.1.getD x.toNat (-1)<0 then (s.1.set x.toNat d,s.2++[x]) else s
def HY (nx:Int->List Int):Nat->Nat->List Int×List Int->List Int×List Int
 |0,_,s=>s
 |n+1,i,s=>match s.2[i]? with
  |none=>s
  |some v=>HY nx n (i+1) ((nx v).foldl (Rk (s.1.getD v.toNat (-1)+1)) s)
def levels (nx:Int->List Int) (n:Nat) (fr:List Int):List Int:=(HY nx n 0 (fr.foldl (Rk 0) (List.replicate n (-1),[]))).1
@[go_sem] theorem r33e (t:Nat) (n s:Int) (l:List Edge) (hl:l.length<=2000000000):res A az 33 [.agg [.int .i64 n,.int .i64 s,.aa t (cB l)]]=some (if (⟨n,s,l⟩:bj).err=0 then [.agg [.int .i64 (⟨n,s,l⟩:bj).order.length,.int .i64 0,.aa 0 (cB (mn Edge.lt (kept (⟨n,s,l⟩:bj).order l)))],.int .i64 0] else [.agg [.int .i64 0,.int .i64 0,.aa 0 []],.int .i64 (⟨n,s,l⟩:bj).err]):=r33 t ⟨n,s,l⟩ hl
def eO.from (d:eO) (s:Int):bj:=⟨1+d.n%4,s%(1+d.n%4),d.auto.aw⟩
structure Mv where
 send:Bool
 label:Int
 cls:Int
 deriving DecidableEq,Inhabited
def Mv.c (m:Mv):List PV:=[.bool m.send,.int .i64 m.label,.int .i64 m.cls]
def U6 (l:List Mv):List (List PV):=l.map Mv.c
@[go_sem] theorem SC:U6 []=[]:=rfl
@[go_sem] theorem Mv.Ev (m:Mv):m.c=[.bool m.send,.int .i64 m.label,.int .i64 m.cls]:=rfl
def Fy (es:List Edge) (s:Int) (c:List Int):List Mv:=(es.filter fun e=>e.fr==s).map fun e=>⟨e.send,e.label,c.getD e.to.toNat 0⟩
def T2 (es:List Edge) (c:List Int) (k i:Nat):Bool:=decide (c.getD k 0=c.getD i 0)&&decide (Fy es (k:Int) c=Fy es (i:Int) c)
def L7 (es:List Edge) (c:List Int) (i:Nat):Nat:=((List.range i).find? fun k=>T2 es c k i).getD i
def Rl (n:Nat) (es:List Edge) (c:List Int):List Int:=(List.range n).map fun i=>(L7 es c i:Int)
def cls (n:Nat) (es:List Edge):Nat->List Int
 |0=>List.replicate n 0
 |j+1=>Rl n es (cls n es j)
set_option maxHeartbeats 1000000 in
theorem r416 (w:dx) (h1:w.msgs.length<=2^63 - 1) (h2:w.auto.aw.length<=2^63 - 1):res A az 416 [.agg w.c,.agg w.c]=some [.bool true]:=by
 refine ai a416 rfl rfl ?_
 simp only[F416,Ks,dx.c]
 have hm:w.msgs.map eD.c=msgs w.msgs:=rfl
 rw[hm]
 simp(disch:=omega)only[go_sem]
 refine W.cD w.msgs.length (fun k=>⟨[(2,.ptr 2 0),(3,.ptr 3 0),(5,.pv (.int .i64 k))],⟨[(2,[.pv (.str w.name),.pv (.aa 0 (msgs w.msgs)),.pv (.int .i64 w.auto.ay),.pv (.int .i64 w.auto.start),.pv (.aa 0 (w.auto.aw.map Edge.c))]),(3,[.pv (.str w.name),.pv (.aa 0 (msgs w.msgs)),.pv (.int .i64 w.auto.ay),.pv (.int .i64 w.auto.start),.pv (.aa 0 (w.auto.aw.map Edge.c))])],[],[]⟩⟩) (fun _=>True) rfl trivial fun k hk _=>?_
 simp(disch:=omega)only[go_sem]
 refine Br.aD (fun c6=>?_) (fun c6=>?_)
 .obtain⟨m,hm⟩:=get_some (l:=w.msgs) (k:=k) (by omega)
  simp(disch:=omega)only[go_sem,hm,Option.map_some]
  exact .of (by omega) rfl trivial
 .simp(disch:=omega)only[go_sem]
theorem Hb {l:List dx} (h:∀w∈l,w.msgs.length<=20):(dj l).length<=20*l.length:=by
 induction l with
 |nil=>simp[dj]
 |cons w l ih=>
  have h1:=ih fun x hx=>h x (Wl _ hx)
  have h2:=h w (We ..)
  have h3:(gx w.msgs).length=w.msgs.length:=VB _
  simp only[dj,List.flatMap_cons,List.length_append,List.length_cons]at h1 |-
  omega
def AC.one:AC->AC
 |.seq a _=>a
 |c=>c
def AC.two:AC->AC
 |.seq _ b=>b
 |c=>c
def AC.aY:AC->AC
 |.block _ a=>a
 |.loop a=>a
 |.mask _ _ a=>a
 |c=>c
set_option maxHeartbeats 2000000 in
theorem U7 (t1 t2 t3 t4:Nat) (v:kr) (hv:jw v) (hvv:bW v.types=0) (R:List Int) (hR:∀r∈R,0<=r/\r<v.types.length) (hRl:R.length<=1000) (Q:Ex->St->Prop)
  (hQ:∀env,Q (.exit 0) ⟨(1,.ptr 1 0)::(2,.ptr 2 0)::(5,.own 0 0 0 v.types.length)::env,⟨[(1,[.pv (.str v.name),.pv (.aa t1 (v.types.map aC.c)),.pv (.aa t2 (aW v.calls)),.pv (.aa t3 (ax v.ax)),.pv (.aa t4 (bo v.aK))]),(2,[.pv (.str ⟨#[]⟩),.tl [],.tl [],.tl [],.tl []])],[⟨0,1,.inl (cV (q9 v.types R))⟩],[]⟩⟩):
  W A az F408.body.two.two.two.one.two.aY ⟨[(1,.ptr 1 0),(2,.ptr 2 0),(5,.own 0 0 0 v.types.length),(38,.pv (.aa 0 (ints R))),(39,.pv (.int .i64 R.length)),(40,.pv (.int .i64 0))],⟨[(1,[.pv (.str v.name),.pv (.aa t1 (v.types.map aC.c)),.pv (.aa t2 (aW v.calls)),.pv (.aa t3 (ax v.ax)),.pv (.aa t4 (bo v.aK))]),(2,[.pv (.str ⟨#[]⟩),.tl [],.tl [],.tl [],.tl []])],[⟨0,1,.inl (cV (List.replicate v.types.length false))⟩],[]⟩⟩ Q:=by
 have h32:=(bS hvv).len
 have htl:=hv.tl
 simp only[F408,nX,AC.one,AC.two,AC.aY]at hQ |-
 unfold q9 at hQ
 refine W.fold R (fun u r=>ny u (bL v.types r).1) (List.replicate v.types.length false) (fun k u=>⟨[(1,.ptr 1 0),(2,.ptr 2 0),(5,.own 0 0 0 v.types.length),(38,.pv (.aa 0 (ints R))),(39,.pv (.int .i64 R.length)),(40,.pv (.int .i64 k))],⟨[(1,[.pv (.str v.name),.pv (.aa t1 (v.types.map aC.c)),.pv (.aa t2 (aW v.calls)),.pv (.aa t3 (ax v.ax)),.pv (.aa t4 (bo v.aK))]),(2,[.pv (.str ⟨#[]⟩),.tl [],.tl [],.tl [],.tl []])],[⟨0,1,.inl (cV u)⟩],[]⟩⟩) (fun _ u=>u.length=v.types.length) rfl WI (fun k r u hr hk _ hu=>?_) (fun u hu _=>?_)
 .have h273:=fun t=>r273 t v.types r hv.tl hv.to hv.ts
  have hin:=kX (T:=v.types) (r:=r)
  have hlen:=tC (l:=v.types) (i:=r)
  generalize (bL v.types r).1=L at *
  generalize (bL v.types r).2=e at *
  simp(disch:=omega)only[go_sem]
  refine Br.aD (fun c=>?_) (fun c=>(c (by omega)).elim)
  simp(disch:=omega)only[go_sem,hr,h273]
  refine W.fold L (fun u x=>u.set x.toNat true) u (fun j w=>⟨[(1,.ptr 1 0),(2,.ptr 2 0),(5,.own 0 0 0 v.types.length),(38,.pv (.aa 0 (ints R))),(39,.pv (.int .i64 R.length)),(40,.pv (.int .i64 k)),(51,.pv (.aa 0 (ints L))),(52,.pv (.int .i64 L.length)),(53,.pv (.int .i64 j))],⟨[(1,[.pv (.str v.name),.pv (.aa t1 (v.types.map aC.c)),.pv (.aa t2 (aW v.calls)),.pv (.aa t3 (ax v.ax)),.pv (.aa t4 (bo v.aK))]),(2,[.pv (.str ⟨#[]⟩),.tl [],.tl [],.tl [],.tl []])],[⟨0,1,.inl (cV w)⟩],[]⟩⟩) (fun _ w=>w.length=v.types.length) rfl hu (fun j x w hx hj _ hw=>?_) (fun w hw hwl=>?_)
  .obtain⟨x0,x1⟩:=hin x (Vz hx)
   simp(disch:=omega)only[go_sem]
   refine Br.aD (fun c=>?_) (fun c=>(c (by omega)).elim)
   simp(disch:=omega)only[go_sem,hx]
   exact cI.of rfl (by rw[WG,hw])
  .simp(disch:=omega)only[go_sem]
   exact cI.of (by rw[hw]; rfl) (by unfold ny; rw[<- hw]; exact hwl)
 .simp(disch:=omega)only[go_sem]
  rw[hu]
  exact hQ _
def kl (T:List aC) (U:List Bool) (k:Nat):List (List PV):=(jJ U k).map fun(i:Nat)=>(bK T (i:Int)).c
theorem Dr (T:List aC) (U:List Bool) (k:Nat):(kl T U k).length=(jJ U k).length:=VB _
theorem Bh (T:List aC) (U:List Bool) (k:Nat):kl T U (k+1)=if U.getD k false=true then kl T U k++[(bK T (k:Int)).c] else kl T U k:=by
 unfold kl
 rw[tK]
 split<;>simp
set_option maxHeartbeats 2000000 in
theorem U8 (t1 t2 t3 t4:Nat) (v:kr) (h32:v.types.length<=32) (U:List Bool) (hU:U.length=v.types.length) (Q:Ex->St->Prop)
  (hQ:∀env,Q (.exit 4) ⟨(1,.ptr 1 0)::(2,.ptr 2 0)::(5,.own 0 0 0 v.types.length)::(12,.own 1 0 0 v.types.length)::(13,.ptr 13 0)::env,⟨[(1,[.pv (.str v.name),.pv (.aa t1 (v.types.map aC.c)),.pv (.aa t2 (aW v.calls)),.pv (.aa t3 (ax v.ax)),.pv (.aa t4 (bo v.aK))]),(2,[.pv (.str ⟨#[]⟩),.tl [],.tl [],.tl [],.tl []]),(13,[.pv (.str v.name),cY 2 (kl v.types U v.types.length),.tl [],.tl [],.tl []])],⟨0,1,.inl (cV U)⟩::⟨0,1,.inl (ints (nh U v.types.length v.types.length))⟩::cm 10 (kl v.types U v.types.length),[]⟩⟩):
  W A az F408.body.two.two.two.two.two.two.one.two.aY ⟨[(1,.ptr 1 0),(2,.ptr 2 0),(5,.own 0 0 0 v.types.length),(12,.own 1 0 0 v.types.length),(13,.ptr 13 0),(70,.pv (.aa t1 (v.types.map aC.c))),(71,.pv (.int .i64 v.types.length)),(72,.pv (.int .i64 0))],⟨[(1,[.pv (.str v.name),.pv (.aa t1 (v.types.map aC.c)),.pv (.aa t2 (aW v.calls)),.pv (.aa t3 (ax v.ax)),.pv (.aa t4 (bo v.aK))]),(2,[.pv (.str ⟨#[]⟩),.tl [],.tl [],.tl [],.tl []]),(13,[.pv (.str v.name),.tl [],.tl [],.tl [],.tl []])],[⟨0,1,.inl (cV U)⟩,⟨0,1,.inl (ints (List.replicate v.types.length 0))⟩],[]⟩⟩ Q:=by
 simp only[F408,nX,AC.one,AC.two,AC.aY]at hQ |-
 refine W.cD v.types.length (fun k=>⟨[(1,.ptr 1 0),(2,.ptr 2 0),(5,.own 0 0 0 v.types.length),(12,.own 1 0 0 v.types.length),(13,.ptr 13 0),(70,.pv (.aa t1 (v.types.map aC.c))),(71,.pv (.int .i64 v.types.length)),(72,.pv (.int .i64 k))],⟨[(1,[.pv (.str v.name),.pv (.aa t1 (v.types.map aC.c)),.pv (.aa t2 (aW v.calls)),.pv (.aa t3 (ax v.ax)),.pv (.aa t4 (bo v.aK))]),(2,[.pv (.str ⟨#[]⟩),.tl [],.tl [],.tl [],.tl []]),(13,[.pv (.str v.name),cY 2 (kl v.types U k),.tl [],.tl [],.tl []])],⟨0,1,.inl (cV U)⟩::⟨0,1,.inl (ints (nh U v.types.length k))⟩::cm 10 (kl v.types U k),[]⟩⟩) (fun _=>True) (by rw[C5]; rfl) trivial fun k hk _=>?_
 have hnl:=zb U v.types.length k
 simp(disch:=omega)only[go_sem]
 refine Br.aD (fun c=>?_) (fun c=>?_)
 .obtain⟨x,hx⟩:=get_some (l:=v.types) (k:=k) (by omega)
  have hta:bK v.types (k:Int)=x:=by
   unfold bK
   rw[Ws,hx]
   rfl
  have hul:U[k]?=some (U.getD k false):=by
   rw[VK,VA (show k<U.length by omega)]
   rfl
  have hset:=ER U v.types.length k
  have hnx:=Bh v.types U k
  have hkl:=Dr v.types U k
  have hkn:=mS U k
  rw[hta]at hnx
  rw[<- hkl]at hset
  have hg:=fun bx mp a b=>QP bx mp a b 10 (kl v.types U k) x.c rfl (by omega)
  generalize kl v.types U k=rows at *
  generalize U.getD k false=ub at *
  unfold aC.c at hg hnx
  cases ub with
  |true=>
   rw[if_pos rfl]at hnx
   simp(disch:=omega)only[go_sem,hx,Option.map_some,aC.c,hul,hg]
   refine .of (by omega) ?_ trivial
   rw[<- hset,hnx]
   rfl
  |false=>
   rw[if_neg (by decide)]at hnx
   simp(disch:=omega)only[go_sem,hx,Option.map_some,aC.c,hul]
   refine .of (by omega) ?_ trivial
   rw[<- hset,hnx]
   rfl
 .obtain rfl:k=v.types.length:=by omega
  simp(disch:=omega)only[go_sem]
  exact hQ _
end Go.Pv
