/-
 What the functions of the law give.
-/
import Derived.Test.YtpchfogcccagjaaGreatC5
set_option linter.unusedSimpArgs false
set_option linter.unusedVariables false
open List renaming getElem?_eq_some_iff → Wq, mem_of_getElem? → Wr, mem_iff_getElem? → Wt, length_map → Wu, getElem?_map → Wv, mem_map → Wz, all_eq_true → WI, mem_cons_of_mem → WK, getD_eq_getElem?_getD → WS, length_append → WX, map_append → WZ, mem_cons_self → W1, append_assoc → W2, length_range → W3, mem_range → W4, take_add_one → W5, any_eq_false → Xc, take_length → Xf, mem_filterMap → Xh, length_take → Xm, append_nil → Xv, any_eq_true → XB, find?_eq_none → XC, range_succ → XH, length_set → XN, find?_some → XV, filterMap_append → XW, map_cons → XX, mem_or_eq_of_mem_set → XZ, length_filter_le → Yd, length_cons → Yf
open Nat renaming le_refl → Wy, le_trans → Xg, not_lt_zero → XG
open Option renaming map_eq_some_iff → WW, bind_eq_some_iff → X6
open Int renaming toNat_natCast → Xb, emod_nonneg → X7, le_refl → X8
open Bool renaming true_and → Xe, eq_iff_iff → Xo, false_and → XL, eq_false_iff → XP, and_eq_true → X5
namespace Go.Pv
noncomputable def ur (v:iY):Int:=
 if 8<v.calls.length\/8<v.aF.length\/8<v.aS.length then 3
 else if isName v.name=false then 1
 else if iW v.types≠0 then iW v.types
 else if dU (rh v.types.length v.calls) v.calls≠0 then dU (rh v.types.length v.calls) v.calls
 else if dU (qc v.types.length v.aF) v.aF≠0 then dU (qc v.types.length v.aF) v.aF
 else dU (qb v.types.length v.aS) v.aS
theorem qO {T:List aI} (h:iW T=0):cP T=0:=by
 unfold iW at h
 split at h
 .rename_i h1
  exact absurd h h1
 .rename_i h1
  exact(lH (by simpa using h1)).1
theorem r440 (t:Int) (u:Nat) (nm:PV) (tt:Nat) (T:List (List PV)) (c1 c2 c3:PV) (hl:T.length<=2^63 - 1):res A az 440 [.int .i64 t,.ro u [nm,.aq tt T,c1,c2,c3]]=some [.bool (dO T.length t)]:=by
 refine aw a440 rfl rfl ?_
 simp only[F440,LH]
 unfold dO
 simp(disch:=omega)only[go_sem]
 refine Br.aJ (fun c=>?_) (fun c=>?_)<;>simp(disch:=omega)only[go_sem,c,decide_true,decide_false,Bool.true_or,Bool.false_or]
theorem r443 (x y:dW) (u:Nat):res A az 443 [.agg x.c,.ro u y.c]=some [.bool (decide (x.name=y.name))]:=by
 refine aw a443 rfl rfl ?_
 simp only[F443,LJ,dW.c]
 simp(disch:=omega)only[go_sem]
theorem r448b (t u:Nat) (l:List dW) (y:dW) (hl:l.length<=2^63 - 1):res A az 448 [.aq t (aF l),.func 443 [.ro u y.c]]=some [.int .i64 (bk (fun w=>decide (w.name=y.name)) l)]:=by
 refine aw a448 rfl rfl ?_
 simp only[F448,HN]
 simp(disch:=omega)only[go_sem]
 refine W.find l (fun w=>decide (w.name=y.name)) (fun k=>⟨[(0,.pv (.aq t (aF l))),(1,.pv (.func 443 [.ro u y.c])),(7,.pv (.int .i64 l.length)),(8,.pv (.int .i64 k))],⟨[],[],[]⟩⟩) rfl (fun k x hx hk hfd=>?_) (fun hn=>?_)
 .have h443:=r443 x y u
  simp only[dW.c]at h443 |-
  simp(disch:=omega)only[go_sem]
  refine Br.aJ (fun h=>?_) (fun h=>(h (by omega)).elim)
  simp(disch:=omega)only[go_sem,hx,Option.map_some,dW.c,h443]
  refine Br.of (fun h2=>?_) (fun h2=>?_)<;>simp(disch:=omega)only[go_sem]
  .rw[(hfd h2).bk]
  .exact bA.of h2 rfl
 .simp(disch:=omega)only[go_sem]
  rw[hn.bk]
theorem r442 (t u:Nat) (l:List dW) (y:dW) (hl:l.length<=2^63 - 1):res A az 442 [.aq t (aF l),.func 443 [.ro u y.c]]=some [.bool (cX (l.map (·.name)) y.name)]:=by
 refine aw a442 rfl rfl ?_
 simp only[F442,LI]
 have h448:=r448b t u l y hl
 have e:decide (0<=bk (fun w=>decide (w.name=y.name)) l)=cX (l.map (·.name)) y.name:=by
  unfold cX
  rw[List.any_map]
  rcases ky (fun w:dW=>decide (w.name=y.name)) l with⟨f1,f2⟩|⟨k,x,f1,f2,f3⟩
  .rw[f2]
   symm
   rw[show decide ((0:Int)<= -1)=false from rfl,Xc]
   exact XC.1 f1
  .rw[f3]
   symm
   rw[show decide ((0:Int)<=(k:Int))=true by simp,List.any_eq_true]
   exact⟨x,List.mem_of_find?_eq_some f1,XV f1⟩
 simp only[dW.c]at h448 |-
 simp(disch:=omega)only[go_sem,h448]
 rw[e]
theorem wT (l:List dW):aP 5 (.inl (aF l))=true:=yL fun r hr=>by
 obtain⟨w,_,rfl⟩:=Wz.1 hr
 rfl
set_option maxHeartbeats 4000000 in
theorem r407 (t1 t2 t3 t4:Nat) (v:iY) (hv:nu v):res A az 407 [.agg (lF t1 t2 t3 t4 v)]=some [.int .i64 (ur v)]:=by
 have h1:=hv.cl
 have h2:=hv.sl
 have h3:=hv.pl
 have htl:=hv.tl
 have hrf:=wT v.aF
 have h306:=r306 v.name hv.nm
 have h439:=fun u=>r439 u v.types hv.tl hv.to hv.ts
 refine aw a407 rfl rfl ?_
 unfold ur
 simp only[F407,Lz,lF]
 have hs0:=qO (T:=v.types)
 generalize iW v.types=e0 at *
 simp(disch:=omega)only[go_sem]
 refine Br.aJ (fun c1=>?_) (fun c1=>?_)<;>simp(disch:=omega)only[go_sem,c1]
 .rw[if_pos (by omega)]
 refine Br.aJ (fun c2=>?_) (fun c2=>?_)<;>simp(disch:=omega)only[go_sem,c2]
 .rw[if_pos (by omega)]
 refine Br.aJ (fun c3=>?_) (fun c3=>?_)<;>simp(disch:=omega)only[go_sem,c3,h306]
 .rw[if_pos (by omega)]
 rw[if_neg (by omega)]
 cases hi:isName v.name with
 |false=>simp(disch:=omega)only[go_sem,if_true]
 |true=>
  simp(disch:=omega)only[go_sem,h439]
  rw[if_neg (by decide)]
  refine Br.aJ (fun c=>?_) (fun c=>?_)<;>simp(disch:=omega)only[go_sem]
  rotate_left
  .rw[if_pos c]
  have hvalid:=hs0 c
  rw[if_neg (by simp[c])]
  obtain⟨G,hG⟩:∃G,(if dU (rh v.types.length v.calls) v.calls≠0 then dU (rh v.types.length v.calls) v.calls
   else if dU (qc v.types.length v.aF) v.aF≠0 then dU (qc v.types.length v.aF) v.aF
   else dU (qb v.types.length v.aS) v.aS)=G:=⟨_,rfl⟩
  rw[hG]
  refine W.find (List.range v.calls.length) (fun k=>decide (qa (rh v.types.length v.calls) v.calls k≠0)) (fun k=>⟨[(1,.ptr 1 0),(4,.func 440 [.ptr 1 0]),(5,.ptr 5 0),(6,.ptr 6 0),(46,.pv (.aq t2 (cg v.calls))),(47,.pv (.int .i64 v.calls.length)),(48,.pv (.int .i64 k))],⟨[(1,[.pv (.str v.name),.pv (.aq t1 (v.types.map aI.c)),.pv (.aq t2 (cg v.calls)),.pv (.aq t3 (aF v.aF)),.pv (.aq t4 (cQ v.aS))]),(5,[dc 0 (strs ((v.calls.map (·.name)).take k))]),(6,[.tl []])],cJ 1 (strs ((v.calls.map (·.name)).take k)),[]⟩⟩) rfl (fun i k hx hk hfd=>?_) (fun hn=>?_)
  .obtain⟨rfl,hk⟩:=ey hx
   obtain⟨x,hx⟩:=get_some hk
   have done:∀e:Int,rh v.types.length v.calls k x=e->e≠0->(some [PV.int .i64 e]:Option (List PV))=some [.int .i64 G]:=fun e h1 h2=>by
    have h3:=kz hx (hfd (by rw[gr hx,h1]; exact decide_eq_true h2))
    rw[<- hG,h3,h1,if_pos h2]
   rw[gr hx]
   have hnx:(v.calls.map (·.name)).take (k+1)=(v.calls.map (·.name)).take k++[x.name]:=by
    rw[W5,Wv,hx]
    rfl
   have hsl:((v.calls.map (·.name)).take k).length<=8:=by rw[Xm,Wu]; omega
   unfold rh at done |-
   generalize (v.calls.map (·.name)).take k=sn at *
   simp(disch:=omega)only[go_sem]
   refine Br.aJ (fun c=>?_) (fun c=>(c (by omega)).elim)
   simp(disch:=omega)only[go_sem,hx,jG.c]
   refine call5 (eN _ _) (Cf x.name sn (hv.cs x (Wr hx)) (by omega) _ fun env=>?_)
   cases hi:isName x.name with
   |false=>
    rw[if_pos rfl]
    refine hV (eN _ _) ⟨_,rfl⟩ ?_
    simp(disch:=omega)only[go_sem]
    exact done 1 (by rw[if_pos hi]) (by decide)
   |true=>
    rw[if_neg (by decide)]
    cases hh:cX sn x.name with
    |true=>
     rw[if_pos rfl]
     refine hV (eN _ _) ⟨_,rfl⟩ ?_
     simp(disch:=omega)only[go_sem]
     exact done 5 (by rw[if_neg (by simp[hi]),if_pos hh]) (by decide)
    |false=>
     rw[if_neg (by decide)]
     refine hV (eN _ _) ⟨_,rfl⟩ ?_
     rw[if_neg (by simp[hi]),if_neg (by simp[hh])]at done |-
     have h440:=fun t u=>r440 t u (.str v.name) t1 (v.types.map aI.c) (.aq t2 (cg v.calls)) (.aq t3 (aF v.aF)) (.aq t4 (cQ v.aS)) (by rw[Wu]; omega)
     rw[Wu]at h440
     simp(disch:=omega)only[go_sem,h440]
     cases h1:dO v.types.length x.rn with
     |true=>
      simp(disch:=omega)only[go_sem]
      exact done 4 (by rw[h1]; rfl) (by decide)
     |false=>
      simp(disch:=omega)only[go_sem,h440]
      cases h2:dO v.types.length x.rep with
      |true=>
       simp(disch:=omega)only[go_sem]
       exact done 4 (by rw[h1,h2]; rfl) (by decide)
      |false=>
       simp(disch:=omega)only[go_sem]
       exact bA.of (by simp) (by rw[hnx]; rfl)
  .rw[W3]
   have hz:=kA hn
   rw[if_neg (by simp[hz])]at hG
   clear hn hz
   obtain⟨X,hXd⟩:∃X,cJ 1 (strs ((v.calls.map (·.name)).take v.calls.length))=X:=⟨_,rfl⟩
   have hX:X=[]\/∃a,X=[a]:=by
    rw[<- hXd]
    cases strs ((v.calls.map (·.name)).take v.calls.length)with
    |nil=>exact .inl rfl
    |cons y r=>exact .inr ⟨_,rfl⟩
   rw[hXd]
   clear hXd
   simp(disch:=omega)only[go_sem]
   refine W.find (List.range v.aF.length) (fun k=>decide (qa (qc v.types.length v.aF) v.aF k≠0)) (fun k=>⟨[(1,.ptr 1 0),(4,.func 440 [.ptr 1 0]),(6,.ptr 6 0),(70,.pv (.aq t3 (aF v.aF))),(71,.pv (.int .i64 v.aF.length)),(72,.pv (.int .i64 k))],⟨[(1,[.pv (.str v.name),.pv (.aq t1 (v.types.map aI.c)),.pv (.aq t2 (cg v.calls)),.pv (.aq t3 (aF v.aF)),.pv (.aq t4 (cQ v.aS))]),(6,[.tl []])],X,[]⟩⟩) rfl (fun i k hx hk hfd=>?_) (fun hn=>?_)
   .obtain⟨rfl,hk⟩:=ey hx
    obtain⟨x,hx⟩:=get_some hk
    have done:∀e:Int,qc v.types.length v.aF k x=e->e≠0->(some [PV.int .i64 e]:Option (List PV))=some [.int .i64 G]:=fun e h1 h2=>by
     have h3:=kz hx (hfd (by rw[gr hx,h1]; exact decide_eq_true h2))
     rw[<- hG,h3,h1,if_pos h2]
    rw[gr hx]
    obtain⟨s1,s2,s3,s4⟩:=hv.ss x (Wr hx)
    have h444:=fun u=>r444 u v.types x hv.tl hv.to hv.ts s2 s1 s3 s4
    rw[if_neg (by simp[hvalid])]at h444
    have h442:=fun t u=>r442 t u (v.aF.take k) x (by rw[Xm]; omega)
    have hst:(aF v.aF).take k=aF (v.aF.take k):=(List.map_take ..).symm
    rw[List.map_take]at h442
    unfold qc at done |-
    simp only[dW.c]at h444 h442
    simp(disch:=omega)only[go_sem]
    refine Br.aJ (fun c=>?_) (fun c=>(c (by omega)).elim)
    simp(disch:=omega)only[go_sem,hx,Option.map_some,dW.c,hrf,hst,h442]
    cases hh:cX ((v.aF.map (·.name)).take k) x.name with
    |true=>
     simp(disch:=omega)only[go_sem]
     exact done 5 (by rw[if_pos hh]) (by decide)
    |false=>
     rw[if_neg (by simp[hh])]at done |-
     generalize tG v.types.length x=e at *
     simp(disch:=omega)only[go_sem,h444]
     refine Br.aJ (fun c=>?_) (fun c=>?_)<;>simp(disch:=omega)only[go_sem]
     .exact bA.of (by simp[c]) rfl
     .exact done e rfl c
   .rw[W3]
    have hz:=kA hn
    rw[if_neg (by simp[hz])]at hG
    clear hn hz
    simp(disch:=omega)only[go_sem]
    rcases hX with rfl|⟨a,rfl⟩
    .refine W.find (List.range v.aS.length) (fun k=>decide (qa (qb v.types.length v.aS) v.aS k≠0)) (fun k=>⟨[(4,.func 440 [.ptr 1 0]),(6,.ptr 6 0),(92,.pv (.aq t4 (cQ v.aS))),(93,.pv (.int .i64 v.aS.length)),(94,.pv (.int .i64 k))],⟨[(1,[.pv (.str v.name),.pv (.aq t1 (v.types.map aI.c)),.pv (.aq t2 (cg v.calls)),.pv (.aq t3 (aF v.aF)),.pv (.aq t4 (cQ v.aS))]),(6,[dc 0 (strs ((v.aS.map (·.name)).take k))])],cJ 1 (strs ((v.aS.map (·.name)).take k)),[]⟩⟩) rfl (fun i k hx hk hfd=>?_) (fun hn=>?_)
     .obtain⟨rfl,hk⟩:=ey hx
      obtain⟨x,hx⟩:=get_some hk
      have done:∀e:Int,qb v.types.length v.aS k x=e->e≠0->(some [PV.int .i64 e]:Option (List PV))=some [.int .i64 G]:=fun e h1 h2=>by
       have h3:=kz hx (hfd (by rw[gr hx,h1]; exact decide_eq_true h2))
       rw[<- hG,h3,h1]
      rw[gr hx]
      have hnx:(v.aS.map (·.name)).take (k+1)=(v.aS.map (·.name)).take k++[x.name]:=by
       rw[W5,Wv,hx]
       rfl
      have hsl:((v.aS.map (·.name)).take k).length<=8:=by rw[Xm,Wu]; omega
      unfold qb at done |-
      generalize (v.aS.map (·.name)).take k=sn at *
      simp(disch:=omega)only[go_sem]
      refine Br.aJ (fun c=>?_) (fun c=>(c (by omega)).elim)
      simp(disch:=omega)only[go_sem,hx,jH.c]
      refine call6 (eN _ _) (Cf x.name sn (hv.ps x (Wr hx)) (by omega) _ fun env=>?_)
      cases hi:isName x.name with
      |false=>
       rw[if_pos rfl]
       refine hV (eN _ _) ⟨_,rfl⟩ ?_
       simp(disch:=omega)only[go_sem]
       exact done 1 (by rw[if_pos hi]) (by decide)
      |true=>
       rw[if_neg (by decide)]
       cases hh:cX sn x.name with
       |true=>
        rw[if_pos rfl]
        refine hV (eN _ _) ⟨_,rfl⟩ ?_
        simp(disch:=omega)only[go_sem]
        exact done 5 (by rw[if_neg (by simp[hi]),if_pos hh]) (by decide)
       |false=>
        rw[if_neg (by decide)]
        refine hV (eN _ _) ⟨_,rfl⟩ ?_
        rw[if_neg (by simp[hi]),if_neg (by simp[hh])]at done |-
        have h440:=fun t u=>r440 t u (.str v.name) t1 (v.types.map aI.c) (.aq t2 (cg v.calls)) (.aq t3 (aF v.aF)) (.aq t4 (cQ v.aS)) (by rw[Wu]; omega)
        rw[Wu]at h440
        simp(disch:=omega)only[go_sem,h440]
        cases h1:dO v.types.length x.ty with
        |true=>
         simp(disch:=omega)only[go_sem]
         exact done 4 (by rw[h1]; rfl) (by decide)
        |false=>
         simp(disch:=omega)only[go_sem]
         exact bA.of (by simp) (by rw[hnx]; rfl)
     .rw[W3]
      have hz:=kA hn
      rw[hz]at hG
      rw[<- hG]
      simp(disch:=omega)only[go_sem]
    .refine W.find (List.range v.aS.length) (fun k=>decide (qa (qb v.types.length v.aS) v.aS k≠0)) (fun k=>⟨[(4,.func 440 [.ptr 1 0]),(6,.ptr 6 0),(92,.pv (.aq t4 (cQ v.aS))),(93,.pv (.int .i64 v.aS.length)),(94,.pv (.int .i64 k))],⟨[(1,[.pv (.str v.name),.pv (.aq t1 (v.types.map aI.c)),.pv (.aq t2 (cg v.calls)),.pv (.aq t3 (aF v.aF)),.pv (.aq t4 (cQ v.aS))]),(6,[dc 1 (strs ((v.aS.map (·.name)).take k))])],a::cJ 1 (strs ((v.aS.map (·.name)).take k)),[]⟩⟩) rfl (fun i k hx hk hfd=>?_) (fun hn=>?_)
     .obtain⟨rfl,hk⟩:=ey hx
      obtain⟨x,hx⟩:=get_some hk
      have done:∀e:Int,qb v.types.length v.aS k x=e->e≠0->(some [PV.int .i64 e]:Option (List PV))=some [.int .i64 G]:=fun e h1 h2=>by
       have h3:=kz hx (hfd (by rw[gr hx,h1]; exact decide_eq_true h2))
       rw[<- hG,h3,h1]
      rw[gr hx]
      have hnx:(v.aS.map (·.name)).take (k+1)=(v.aS.map (·.name)).take k++[x.name]:=by
       rw[W5,Wv,hx]
       rfl
      have hsl:((v.aS.map (·.name)).take k).length<=8:=by rw[Xm,Wu]; omega
      unfold qb at done |-
      generalize (v.aS.map (·.name)).take k=sn at *
      simp(disch:=omega)only[go_sem]
      refine Br.aJ (fun c=>?_) (fun c=>(c (by omega)).elim)
      simp(disch:=omega)only[go_sem,hx,jH.c]
      refine call6 (eN _ _) (FN a x.name sn (hv.ps x (Wr hx)) (by omega) _ fun env=>?_)
      cases hi:isName x.name with
      |false=>
       rw[if_pos rfl]
       refine hV (eN _ _) ⟨_,rfl⟩ ?_
       simp(disch:=omega)only[go_sem]
       exact done 1 (by rw[if_pos hi]) (by decide)
      |true=>
       rw[if_neg (by decide)]
       cases hh:cX sn x.name with
       |true=>
        rw[if_pos rfl]
        refine hV (eN _ _) ⟨_,rfl⟩ ?_
        simp(disch:=omega)only[go_sem]
        exact done 5 (by rw[if_neg (by simp[hi]),if_pos hh]) (by decide)
       |false=>
        rw[if_neg (by decide)]
        refine hV (eN _ _) ⟨_,rfl⟩ ?_
        rw[if_neg (by simp[hi]),if_neg (by simp[hh])]at done |-
        have h440:=fun t u=>r440 t u (.str v.name) t1 (v.types.map aI.c) (.aq t2 (cg v.calls)) (.aq t3 (aF v.aF)) (.aq t4 (cQ v.aS)) (by rw[Wu]; omega)
        rw[Wu]at h440
        simp(disch:=omega)only[go_sem,h440]
        cases h1:dO v.types.length x.ty with
        |true=>
         simp(disch:=omega)only[go_sem]
         exact done 4 (by rw[h1]; rfl) (by decide)
        |false=>
         simp(disch:=omega)only[go_sem]
         exact bA.of (by simp) (by rw[hnx]; rfl)
     .rw[W3]
      have hz:=kA hn
      rw[hz]at hG
      rw[<- hG]
      simp(disch:=omega)only[go_sem]
theorem lM {α:Type} {f:Nat->α->Int} {l:List α} (h:dU f l=0):∀(k:Nat) (x:α),l[k]?=some x->f k x=0:=by
 intro k x hx
 unfold dU at h
 cases hf:(List.range l.length).find? (fun k=>decide (qa f l k≠0))with
 |none=>
  have:=XC.1 hf k (W4.2 (Wq.1 hx).1)
  rw[gr hx]at this
  simpa using this
 |some j=>
  rw[hf]at h
  have:=XV hf
  simp[h]at this
theorem lN {α:Type} {f:Nat->α->Int} {l:List α} (h:∀(k:Nat) (x:α),l[k]?=some x->f k x=0):dU f l=0:=by
 unfold dU
 have:(List.range l.length).find? (fun k=>decide (qa f l k≠0))=none:=by
  rw[XC]
  intro k hk
  obtain⟨x,hx⟩:=get_some (W4.1 hk)
  rw[gr hx,h k x hx]
  simp
 rw[this]
theorem rI {n:Nat} {u:Int} (h:dO n u=false):0<=u/\u<n:=by
 simp[dO]at h
 omega
structure FO (n:Nat) (w:dW):Prop where
 HP:w.msgs.length<=16
 Wo:lL w=true
 ty:∀m∈w.msgs,0<=m.ty/\m.ty<n
 au:w.auto.err=0
 Wp:∀e∈w.auto.aa,w.msgs.any (lK e.label)=true
 all:(w.auto.order.length:Int)=w.auto.ai
theorem Dp {n:Nat} {w:dW} (h:tG n w=0):FO n w:=by
 unfold tG at h
 split at h
 .cases h
 rename_i h1
 split at h
 .cases h
 rename_i h2
 split at h
 .cases h
 rename_i h3
 split at h
 .rename_i h4
  exact absurd h h4
 rename_i h4
 split at h
 .cases h
 rename_i h5
 split at h
 .cases h
 rename_i h6
 refine⟨by omega,by simpa using h2,fun m hm=>?_,by simpa using h4,fun e he=>?_,by simpa using h6⟩
 .have:=List.any_eq_false.1 (by simpa using h3) m hm
  exact rI (by simpa using this)
 .have:=List.any_eq_false.1 (by simpa using h5:w.auto.aa.any (fun e=>!w.msgs.any (lK e.label))=false) e he
  simpa using this
structure cS (v:iY):Prop where
 HP:v.calls.length<=8/\v.aF.length<=8/\v.aS.length<=8
 nm:isName v.name=true
 sound:iW v.types=0
 TP:∀(k:Nat) c,v.calls[k]?=some c->rh v.types.length v.calls k c=0
 TQ:∀(k:Nat) w,v.aF[k]?=some w->qc v.types.length v.aF k w=0
 top:∀(k:Nat) c,v.aS[k]?=some c->qb v.types.length v.aS k c=0
theorem vK {v:iY} (h:ur v=0):cS v:=by
 unfold ur at h
 split at h
 .cases h
 rename_i h1
 split at h
 .cases h
 rename_i h2
 split at h
 .rename_i h3
  exact absurd h h3
 rename_i h3
 split at h
 .rename_i h4
  exact absurd h h4
 rename_i h4
 split at h
 .rename_i h5
  exact absurd h h5
 rename_i h5
 exact⟨by omega,by simpa using h2,by simpa using h3,lM (by simpa using h4),lM (by simpa using h5),lM h⟩
theorem cS.err {v:iY} (h:cS v):ur v=0:=by
 unfold ur
 rw[if_neg (by have:=h.HP; omega),if_neg (by rw[h.nm]; decide),if_neg (by rw[h.sound]; decide),lN h.TP,lN h.TQ,lN h.top]
 simp
theorem qd {n:Nat} {l:List jG} {k:Nat} {c:jG} (h:rh n l k c=0):isName c.name=true/\cX ((l.map (·.name)).take k) c.name=false/\(0<=c.rn/\c.rn<n)/\0<=c.rep/\c.rep<n:=by
 unfold rh at h
 split at h
 .cases h
 rename_i h1
 split at h
 .cases h
 rename_i h2
 split at h
 .cases h
 rename_i h3
 simp only[Bool.or_eq_true,not_or,Bool.not_eq_true]at h3
 exact⟨by simpa using h1,by simpa using h2,rI h3.1,rI h3.2⟩
theorem qe {n:Nat} {l:List jH} {k:Nat} {c:jH} (h:qb n l k c=0):isName c.name=true/\cX ((l.map (·.name)).take k) c.name=false/\0<=c.ty/\c.ty<n:=by
 unfold qb at h
 split at h
 .cases h
 rename_i h1
 split at h
 .cases h
 rename_i h2
 split at h
 .cases h
 rename_i h3
 exact⟨by simpa using h1,by simpa using h2,rI (by simpa using h3)⟩
theorem vL {n:Nat} {l:List dW} {k:Nat} {w:dW} (h:qc n l k w=0):cX ((l.map (·.name)).take k) w.name=false/\FO n w:=by
 unfold qc at h
 split at h
 .cases h
 rename_i h1
 exact⟨by simpa using h1,Dp h⟩
theorem cS.call {v:iY} (h:cS v):∀c∈v.calls,(0<=c.rn/\c.rn<v.types.length)/\0<=c.rep/\c.rep<v.types.length:=fun c hc=>by
 obtain⟨k,hk⟩:=Wt.1 hc
 exact(qd (h.TP k c hk)).2.2
theorem cS.FP {v:iY} (h:cS v):∀c∈v.aS,0<=c.ty/\c.ty<v.types.length:=fun c hc=>by
 obtain⟨k,hk⟩:=Wt.1 hc
 exact(qe (h.top k c hk)).2.2
theorem cS.rJ {v:iY} (h:cS v):∀w∈v.aF,FO v.types.length w:=fun c hc=>by
 obtain⟨k,hk⟩:=Wt.1 hc
 exact(vL (h.TQ k c hk)).2
theorem cS.valid {v:iY} (h:cS v):cP v.types=0:=qO h.sound
def Si (d:Int) (s:List Int×List Int) (x:Int):List Int×List Int:=if s.1.getD x.toNat (-1)<0 then (s.1.set x.toNat d,s.2++[x]) else s
def Jw (nx:Int->List Int):Nat->Nat->List Int×List Int->List Int×List Int
 |0,_,s=>s
 |n+1,i,s=>match s.2[i]? with
  |none=>s
  |some v=>Jw nx n (i+1) ((nx v).foldl (Si (s.1.getD v.toNat (-1)+1)) s)
def levels (nx:Int->List Int) (n:Nat) (fr:List Int):List Int:=(Jw nx n 0 (fr.foldl (Si 0) (List.replicate n (-1),[]))).1
@[go_sem] theorem r33e (t:Nat) (n s:Int) (l:List Edge) (hl:l.length<=2000000000):res A az 33 [.agg [.int .i64 n,.int .i64 s,.aq t (bD l)]]=some (if (⟨n,s,l⟩:aL).err=0 then [.agg [.int .i64 (⟨n,s,l⟩:aL).order.length,.int .i64 0,.aq 0 (bD (mG Edge.lt (kept (⟨n,s,l⟩:aL).order l)))],.int .i64 0] else [.agg [.int .i64 0,.int .i64 0,.aq 0 []],.int .i64 (⟨n,s,l⟩:aL).err]):=r33 t ⟨n,s,l⟩ hl
def eo.from (d:eo) (s:Int):aL:=⟨1+d.n%4,s%(1+d.n%4),d.auto.aa⟩
structure Mv where
 send:Bool
 label:Int
 cls:Int
 deriving DecidableEq,Inhabited
def Mv.c (m:Mv):List PV:=[.bool m.send,.int .i64 m.label,.int .i64 m.cls]
def V5 (l:List Mv):List (List PV):=l.map Mv.c
@[go_sem] theorem TK:V5 []=[]:=rfl
@[go_sem] theorem Mv.EO (m:Mv):m.c=[.bool m.send,.int .i64 m.label,.int .i64 m.cls]:=rfl
def FQ (es:List Edge) (s:Int) (c:List Int):List Mv:=(es.filter fun e=>e.fr==s).map fun e=>⟨e.send,e.label,c.getD e.to.toNat 0⟩
def U9 (es:List Edge) (c:List Int) (k i:Nat):Bool:=decide (c.getD k 0=c.getD i 0)&&decide (FQ es (k:Int) c=FQ es (i:Int) c)
def M6 (es:List Edge) (c:List Int) (i:Nat):Nat:=((List.range i).find? fun k=>U9 es c k i).getD i
def Sj (n:Nat) (es:List Edge) (c:List Int):List Int:=(List.range n).map fun i=>(M6 es c i:Int)
def cls (n:Nat) (es:List Edge):Nat->List Int
 |0=>List.replicate n 0
 |j+1=>Sj n es (cls n es j)
def AC.one:AC->AC
 |.seq a _=>a
 |c=>c
def AC.two:AC->AC
 |.seq _ b=>b
 |c=>c
theorem tH (bx:List (Nat×List V)) (mp:List (List (PV×PV))) (pre post:List aN) (k d:Nat) (rows:List (List PV)):aY ⟨bx,pre++(cJ k rows++post),mp⟩ (d+1) (dc pre.length rows)=some (.aq 0 rows):=by
 cases rows with
 |nil=>rfl
 |cons x q=>
  have:=Ao bx mp pre post k x q
  simp[dc,dR,this,bM,aA]
def fX (c:UInt8) (k:Nat):ByteArray:=⟨#[c]⟩++Utf8.encode (97+(k:Int))
theorem vM {k:Nat} (h:k<3):(Utf8.encode (97+(k:Int))).size=1:=by
 have:∀k:Fin 3,(Utf8.encode (97+((k.val:Nat):Int))).size=1:=by decide
 exact this ⟨k,h⟩
theorem mf {c:UInt8} {k:Nat} (h:k<3):cA .add (.pv (.str ⟨#[c]⟩)) (.pv (.str (Utf8.encode (97+(k:Int)))))=some (.pv (.str (fX c k))):=by
 have h1:(⟨#[c]⟩:ByteArray).size=1:=rfl
 have h2:(1:Nat)+1<=1099511627776:=by omega
 simp only[cA,kO,h1,vM h,h2,if_true,Option.map_some]
 rfl
structure vN where
 a:eo
 x:Int
 y:Int
 z:Int
def vN.c (s:vN):List PV:=[.int .u8 s.a.n,.aq 0 (s.a.gJ.map vD.c),.int .u8 s.x,.int .u8 s.y,.int .u8 s.z]
def vN.ok (s:vN):Prop:=s.a.ok/\(0<=s.x/\s.x<=255)/\(0<=s.y/\s.y<=255)/\0<=s.z/\s.z<=255
def dB (T:List aI) (k:Nat):List Int:=((List.range k).filter fun(i:Nat)=>!decide ((eD T i).name=⟨#[]⟩)).map fun(i:Nat)=>(i:Int)
def fY (N:List Int) (x:Int):Int:=N.getD (x%N.length).toNat 0
def ep (N:List Int) (s:vN):List gF:=[⟨1,fX 77 0,fY N s.x⟩,⟨2,fX 77 1,fY N s.y⟩,⟨3,fX 77 2,fY N s.z⟩]
def uu (T:List aI) (nm:ByteArray) (s:vN):Option dW:=if (s.a.gJ.length:Int)<=12/\dB T T.length≠[] then some ⟨nm,ep (dB T T.length) s,s.a.auto.trim⟩ else none
theorem zi (T:List aI) (k:Nat):dB T (k+1)=if (eD T (k:Int)).name=⟨#[]⟩ then dB T k else dB T k++[(k:Int)]:=by
 unfold dB
 rw[XH,List.filter_append]
 by_cases h:(eD T (k:Int)).name=⟨#[]⟩
 .rw[if_pos h]
  simp[h]
 .rw[if_neg h]
  simp[h]
theorem tI (T:List aI) (k:Nat):(dB T k).length<=k:=by
 unfold dB
 rw[Wu]
 have:=Yd (fun(i:Nat)=>!decide ((eD T i).name=⟨#[]⟩)) (List.range k)
 rw[W3]at this
 exact this
theorem vO {N:List Int} (h:N≠[]) (x:Int):(0<=x%N.length/\x%N.length<N.length)/\N[(x%N.length).toNat]?=some (fY N x):=by
 have hl:0<N.length:=List.length_pos_iff.2 h
 have h0:0<=x%(N.length:Int):=X7 _ (by omega)
 have h1:x%(N.length:Int)<N.length:=Int.emod_lt_of_pos _ (by omega)
 refine⟨⟨h0,h1⟩,?_⟩
 unfold fY
 rw[WS]
 obtain⟨y,hy⟩:=get_some (l:=N) (k:=(x%(N.length:Int)).toNat) (by omega)
 rw[hy]
 rfl
set_option maxHeartbeats 4000000 in
theorem r453 (t u:Nat) (T:List aI) (nm:ByteArray) (s:vN) (hs:s.ok) (hT:T.length<=100):res A az 453 [.agg [.aq t (T.map aI.c)],.str nm,.agg [.int .u8 s.a.n,.aq u (s.a.gJ.map vD.c),.int .u8 s.x,.int .u8 s.y,.int .u8 s.z]]=some (match uu T nm s with|some w=>[.agg w.c,.bool true]|none=>[.agg [.str ⟨#[]⟩,.aq 0 [],.int .i64 0,.int .i64 0,.aq 0 []],.bool false]):=by
 obtain⟨hd,⟨x0,x1⟩,⟨y0,y1⟩,z0,z1⟩:=hs
 have h25:=fun t=>r25 t s.a hd
 refine aw a453 rfl rfl ?_
 simp only[F453,LS]
 simp(disch:=omega)only[go_sem]
 refine W.eG T.length (fun k=>⟨[(1,.pv (.str nm)),(3,.ptr 3 0),(5,.ptr 5 0),(6,.ptr 6 0),(8,dc 0 (ints (dB T k))),(9,.pv (.int .i64 k))],⟨[(3,[.pv (.aq t (T.map aI.c))]),(5,[.pv (.int .u8 s.a.n),.pv (.aq u (s.a.gJ.map vD.c)),.pv (.int .u8 s.x),.pv (.int .u8 s.y),.pv (.int .u8 s.z)]),(6,[.pv (.str ⟨#[]⟩),.tl [],.pv (.int .i64 0),.pv (.int .i64 0),.tl []])],cJ 1 (ints (dB T k)),[]⟩⟩) (fun _=>True) rfl trivial fun k hk _=>?_
 simp(disch:=omega)only[go_sem]
 refine Br.aJ (fun c=>?_) (fun c=>?_)
 .have hx:=vh (l:=T) (i:=k) (by omega) (by omega)
  rw[Xb]at hx
  have hsn:=zi T k
  have hnl:=tI T k
  have hg:=fun bx mp=>grow bx mp [] 1 (ints (dB T k)) [.int .i64 k] rfl (by rw[bt]; omega)
  simp only[List.nil_append,List.length_nil]at hg
  generalize eD T (k:Int)=y at *
  cases hy:decide (y.name=⟨#[]⟩)with
  |true=>
   rw[if_pos (of_decide_eq_true hy)]at hsn
   simp(disch:=omega)only[go_sem,hx,Option.map_some,aI.c,hy]
   refine .of (by omega) ?_ trivial
   rw[hsn]
   rfl
  |false=>
   rw[if_neg (of_decide_eq_false hy)]at hsn
   simp(disch:=omega)only[go_sem,hx,Option.map_some,aI.c,hy,hg]
   refine .of (by omega) ?_ trivial
   rw[hsn]
   simp only[ints,List.map_append,List.map_cons,List.map_nil]
   rfl
 obtain rfl:k=T.length:=by omega
 have hnl:=tI T T.length
 unfold uu
 generalize dB T T.length=N at *
 have hst:=s.a.st
 have hgood:=eo.ub hd (s:=0) ⟨X8 _,by omega⟩
 have hlen:=s.a.len hd
 have hlt:=hgood.trim.len
 have h33:=fun t=>r33e t (1+s.a.n%4) 0 s.a.auto.aa (by omega)
 have hs2:mG Edge.lt (kept (⟨1+s.a.n%4,0,s.a.auto.aa⟩:aL).order s.a.auto.aa)=s.a.auto.trim.aa:=yV Edge.Fz Edge.vB (tB hgood.mw)
 rw[if_pos (aL.iV.2 hgood),hs2]at h33
 have hstr:s.a.auto.trim.ai=(⟨1+s.a.n%4,0,s.a.auto.aa⟩:aL).order.length:=rfl
 have hstt:s.a.auto.trim.start=0:=rfl
 rw[<- hstr]at h33
 cases hb:decide ((s.a.gJ.length:Int)<=12)with
 |false=>
  rw[hb]at h25
  rw[if_neg (fun h=>of_decide_eq_false hb h.1)]
  simp(disch:=omega)only[go_sem,h25]
 |true=>
  rw[hb]at h25
  cases N with
  |nil=>
   rw[if_neg (fun h=>h.2 rfl)]
   have hz:decide (((0:Nat):Int)=0)=true:=rfl
   simp(disch:=omega)only[go_sem,h25,hz]
  |cons q0 N=>
   rw[if_pos ⟨of_decide_eq_true hb,by simp⟩]
   have hz:decide (((N.length+1:Nat):Int)=0)=false:=decide_eq_false (by omega)
   have e0:(IntKind.wrap .i32 (97+((0:Nat):Int)))=97+((0:Nat):Int):=rfl
   have e1:(IntKind.wrap .i32 (97+((1:Nat):Int)))=97+((1:Nat):Int):=rfl
   have e2:(IntKind.wrap .i32 (97+((2:Nat):Int)))=97+((2:Nat):Int):=rfl
   simp(disch:=omega)only[go_sem,h25,hz,h33]
   have hiN:=bt N
   refine W.eG 3 (fun k=>⟨[(5,.ptr 5 0),(6,.ptr 6 0),(8,.own 0 N.length 0 (N.length+1)),(12,.ptr 12 0),(13,.pv (.int .i64 k))],⟨[(5,[.pv (.int .u8 s.a.n),.pv (.aq u (s.a.gJ.map vD.c)),.pv (.int .u8 s.x),.pv (.int .u8 s.y),.pv (.int .u8 s.z)]),(6,[.pv (.str ⟨#[]⟩),.tl [],.pv (.int .i64 0),.pv (.int .i64 0),.tl []]),(12,[.pv (.str nm),dc 1 (msgs ((ep (q0::N) s).take k)),.pv (.int .i64 s.a.auto.trim.ai),.pv (.int .i64 0),.pv (.aq 0 (bD s.a.auto.trim.aa))])],⟨N.length,1,.inl (ints (q0::N))⟩::cJ 3 (msgs ((ep (q0::N) s).take k)),[]⟩⟩) (fun _=>True) (by rw[<- hiN]; rfl) trivial fun k hk _=>?_
   simp(disch:=omega)only[go_sem]
   have p:=fun x=>vO (N:=q0::N) (by simp) x
   rw[Yf]at p
   have hnl2:N.length<=100:=by rw[Yf]at hnl; omega
   have hA:∀X:List aN,(⟨N.length,1,.inl (ints (q0::N))⟩::X)[0]?=some ⟨N.length,1,.inl (ints (q0::N))⟩:=fun X=>rfl
   refine Br.aJ (fun c=>?_) (fun c=>?_)
   .rcases(show k=0\/k=1\/k=2 by omega)with rfl|rfl|rfl
    .obtain⟨⟨p0,p1⟩,p2⟩:=p s.x
     have hR:msgs ((ep (q0::N) s).take (0+1))=msgs ((ep (q0::N) s).take 0)++[[.int .i64 1,.str (fX 77 0),.int .i64 (fY (q0::N) s.x)]]:=rfl
     have hRl:(msgs ((ep (q0::N) s).take 0)).length=0:=rfl
     generalize msgs ((ep (q0::N) s).take 0)=rows at *
     have hg:∀bx mp,aM ⟨bx,⟨N.length,1,.inl (ints (q0::N))⟩::cJ 3 rows,mp⟩ 3 (dc 1 rows) (.tl [[.int .i64 (((0:Nat):Int)+1),.str (fX 77 0),.int .i64 (fY (q0::N) s.x)]])=some (dc 1 (rows++[[.int .i64 (((0:Nat):Int)+1),.str (fX 77 0),.int .i64 (fY (q0::N) s.x)]]),tZ 1 3 rows [.int .i64 (((0:Nat):Int)+1),.str (fX 77 0),.int .i64 (fY (q0::N) s.x)]):=fun bx mp=>grow bx mp [⟨N.length,1,.inl (ints (q0::N))⟩] 3 rows _ rfl (by omega)
     simp(disch:=omega)only[go_sem,e0,mf,hA,p2,hg]
     refine .of (by omega) ?_ trivial
     rw[hR]
     rfl
    .obtain⟨⟨p0,p1⟩,p2⟩:=p s.y
     have hR:msgs ((ep (q0::N) s).take (1+1))=msgs ((ep (q0::N) s).take 1)++[[.int .i64 2,.str (fX 77 1),.int .i64 (fY (q0::N) s.y)]]:=rfl
     have hRl:(msgs ((ep (q0::N) s).take 1)).length=1:=rfl
     generalize msgs ((ep (q0::N) s).take 1)=rows at *
     have hg:∀bx mp,aM ⟨bx,⟨N.length,1,.inl (ints (q0::N))⟩::cJ 3 rows,mp⟩ 3 (dc 1 rows) (.tl [[.int .i64 (((1:Nat):Int)+1),.str (fX 77 1),.int .i64 (fY (q0::N) s.y)]])=some (dc 1 (rows++[[.int .i64 (((1:Nat):Int)+1),.str (fX 77 1),.int .i64 (fY (q0::N) s.y)]]),tZ 1 3 rows [.int .i64 (((1:Nat):Int)+1),.str (fX 77 1),.int .i64 (fY (q0::N) s.y)]):=fun bx mp=>grow bx mp [⟨N.length,1,.inl (ints (q0::N))⟩] 3 rows _ rfl (by omega)
     simp(disch:=omega)only[go_sem,e1,mf,hA,p2,hg]
     refine .of (by omega) ?_ trivial
     rw[hR]
     rfl
    .obtain⟨⟨p0,p1⟩,p2⟩:=p s.z
     have hR:msgs ((ep (q0::N) s).take (2+1))=msgs ((ep (q0::N) s).take 2)++[[.int .i64 3,.str (fX 77 2),.int .i64 (fY (q0::N) s.z)]]:=rfl
     have hRl:(msgs ((ep (q0::N) s).take 2)).length=2:=rfl
     generalize msgs ((ep (q0::N) s).take 2)=rows at *
     have hg:∀bx mp,aM ⟨bx,⟨N.length,1,.inl (ints (q0::N))⟩::cJ 3 rows,mp⟩ 3 (dc 1 rows) (.tl [[.int .i64 (((2:Nat):Int)+1),.str (fX 77 2),.int .i64 (fY (q0::N) s.z)]])=some (dc 1 (rows++[[.int .i64 (((2:Nat):Int)+1),.str (fX 77 2),.int .i64 (fY (q0::N) s.z)]]),tZ 1 3 rows [.int .i64 (((2:Nat):Int)+1),.str (fX 77 2),.int .i64 (fY (q0::N) s.z)]):=fun bx mp=>grow bx mp [⟨N.length,1,.inl (ints (q0::N))⟩] 3 rows _ rfl (by omega)
     simp(disch:=omega)only[go_sem,e2,mf,hA,p2,hg]
     refine .of (by omega) ?_ trivial
     rw[hR]
     rfl
   .obtain rfl:k=3:=by omega
    simp(disch:=omega)only[go_sem]
    rfl
theorem FR {k:Nat} (h:k<3):IntKind.wrap .i32 (97+(k:Int))=97+(k:Int):=by
 rcases(show k=0\/k=1\/k=2 by omega)with rfl|rfl|rfl<;>rfl
structure Dq where
 s:List Node
 calls:List (Int×Int)
 aF:List vN
 aS:List Int
def PC (c:Int×Int):List PV:=[.int .u8 c.1,.int .u8 c.2]
def PD (c:Int):List PV:=[.int .u8 c]
def Dq.c (d:Dq):List PV:=[.aq 0 (d.s.map Node.cs),.aq 0 (d.calls.map PC),.aq 0 (d.aF.map vN.c),.aq 0 (d.aS.map PD)]
def M7 (x:Int):Prop:=0<=x/\x<=255
structure Dq.ok (d:Dq):Prop where
 s:∀y∈d.s,y.ok
 sl:bN d.s
 c:∀x∈d.calls,M7 x.1/\M7 x.2
 cl:bN d.calls
 w:∀x∈d.aF,x.ok
 wl:bN d.aF
 t:∀x∈d.aS,M7 x
 tl:bN d.aS
def er (n:Int) (l:List (Int×Int)) (k:Nat):List jG:=(List.range k).filterMap fun i=>l[i]?.map fun x=>⟨fX 67 i,x.1%n,x.2%n⟩
def gT (n:Int) (l:List Int) (k:Nat):List jH:=(List.range k).filterMap fun i=>l[i]?.map fun x=>⟨fX 84 i,x%n⟩
def fZ (T:List aI) (l:List vN) (k:Nat):List dW:=(List.range k).filterMap fun i=>l[i]?.bind fun s=>uu T (fX 83 i) s
theorem zj {n:Int} {l:List (Int×Int)} {k:Nat} {x:Int×Int} (h:l[k]?=some x):er n l (k+1)=er n l k++[⟨fX 67 k,x.1%n,x.2%n⟩]:=by
 unfold er
 rw[XH,XW]
 simp[h]
theorem A5 {n:Int} {l:List Int} {k:Nat} {x:Int} (h:l[k]?=some x):gT n l (k+1)=gT n l k++[⟨fX 84 k,x%n⟩]:=by
 unfold gT
 rw[XH,XW]
 simp[h]
theorem A6 {T:List aI} {l:List vN} {k:Nat} {x:vN} (h:l[k]?=some x):fZ T l (k+1)=fZ T l k++(uu T (fX 83 k) x).toList:=by
 unfold fZ
 rw[XH,XW]
 cases hs:uu T (fX 83 k) x<;>simp[h,hs]
theorem eL {α:Type} (f:Nat->Option α) (k:Nat):((List.range k).filterMap f).length<=k:=by
 have:=List.length_filterMap_le f (List.range k)
 rw[W3]at this
 exact this
def M8 (nm:ByteArray) (d:Dq):Option iY:=if (rf d.s).2=true/\d.calls.length<=3/\d.aF.length<=2/\d.aS.length<=3 then some ⟨nm,(rf d.s).1,er (rf d.s).1.length d.calls d.calls.length,fZ (rf d.s).1 d.aF d.aF.length,gT (rf d.s).1.length d.aS d.aS.length⟩ else none
set_option maxHeartbeats 8000000 in
theorem r419 (nm:ByteArray) (d:Dq) (hd:d.ok):res A az 419 [.agg d.c,.str nm]=some (match M8 nm d with|some v=>[.agg (lF 0 0 0 0 v),.bool true]|none=>[.agg [.str ⟨#[]⟩,.aq 0 [],.aq 0 [],.aq 0 [],.aq 0 []],.bool false]):=by
 have h279:=fun t=>r279 t d.s hd.s hd.sl
 refine aw a419 rfl rfl ?_
 simp only[F419,LD]
 unfold Dq.c M8
 have hTn:(rf d.s).2=true->1<=(rf d.s).1.length/\(rf d.s).1.length<=5:=by
  unfold rf
  split
  .simp
  .intro _
   simp only[List.length_map,List.length_range]
   omega
 generalize (rf d.s).1=T at *
 generalize (rf d.s).2=b at *
 cases b with
 |false=>
  rw[if_neg (by simp)]
  simp(disch:=omega)only[go_sem,h279]
 |true=>
 obtain⟨hT1,hT5⟩:=hTn rfl
 cases h1:decide ((3:Int)<d.calls.length)with
 |true=>
  have:=of_decide_eq_true h1
  rw[if_neg (by omega)]
  simp(disch:=omega)only[go_sem,h279,h1]
 |false=>
 cases h2:decide ((2:Int)<d.aF.length)with
 |true=>
  have:=of_decide_eq_true h2
  rw[if_neg (by omega)]
  simp(disch:=omega)only[go_sem,h279,h1,h2]
 |false=>
 cases h3:decide ((3:Int)<d.aS.length)with
 |true=>
  have:=of_decide_eq_true h3
  rw[if_neg (by omega)]
  simp(disch:=omega)only[go_sem,h279,h1,h2,h3]
 |false=>
 have g1:=of_decide_eq_false h1
 have g2:=of_decide_eq_false h2
 have g3:=of_decide_eq_false h3
 rw[if_pos (by refine⟨rfl,?_,?_,?_⟩<;>omega)]
 simp(disch:=omega)only[go_sem,h279,h1,h2,h3]
 refine W.eG d.calls.length (fun k=>⟨[(2,.ptr 2 0),(4,.ptr 4 0),(6,.ptr 6 0),(8,.ptr 8 0),(9,.pv (.int .i64 T.length)),(10,.pv (.int .i64 k))],⟨[(2,[.pv (.aq 0 (d.s.map Node.cs)),.pv (.aq 0 (d.calls.map PC)),.pv (.aq 0 (d.aF.map vN.c)),.pv (.aq 0 (d.aS.map PD))]),(4,[.pv (.str ⟨#[]⟩),.tl [],.tl [],.tl [],.tl []]),(6,[.pv (.aq 0 (T.map aI.c))]),(8,[.pv (.str nm),.pv (.aq 0 (T.map aI.c)),dc 0 (cg (er T.length d.calls k)),.tl [],.tl []])],cJ 3 (cg (er T.length d.calls k)),[]⟩⟩) (fun _=>True) rfl trivial fun k hk _=>?_
 simp(disch:=omega)only[go_sem]
 refine Br.aJ (fun c=>?_) (fun c=>?_)
 .obtain⟨x,hx⟩:=get_some (l:=d.calls) (k:=k) (by omega)
  obtain⟨⟨x1,x2⟩,x3,x4⟩:=hd.c x (Wr hx)
  have hR:cg (er T.length d.calls (k+1))=cg (er T.length d.calls k)++[[.str (fX 67 k),.int .i64 (x.1%T.length),.int .i64 (x.2%T.length)]]:=by
   rw[zj hx]
   simp[cg,jG.c]
  have hRl:(cg (er T.length d.calls k)).length<=3:=by
   rw[sT]
   have:=eL (fun i=>d.calls[i]?.map fun x=>(⟨fX 67 i,x.1%T.length,x.2%T.length⟩:jG)) k
   unfold er
   omega
  generalize cg (er T.length d.calls k)=rows at *
  have hg:∀bx mp,aM ⟨bx,cJ 3 rows,mp⟩ 3 (dc 0 rows) (.tl [[.str (fX 67 k),.int .i64 (x.1%T.length),.int .i64 (x.2%T.length)]])=some (dc 0 (rows++[[.str (fX 67 k),.int .i64 (x.1%T.length),.int .i64 (x.2%T.length)]]),tZ 0 3 rows [.str (fX 67 k),.int .i64 (x.1%T.length),.int .i64 (x.2%T.length)]):=fun bx mp=>grow bx mp [] 3 rows _ rfl (by omega)
  have hw:=FR (k:=k) (by omega)
  have hna:=mf (c:=67) (k:=k) (by omega)
  simp(disch:=omega)only[go_sem,hx,Option.map_some,PC,hw,hna,hg]
  refine .of (by omega) ?_ trivial
  rw[hR]
  rfl
 obtain rfl:k=d.calls.length:=by omega
 generalize hCe:er T.length d.calls d.calls.length=C at *
 have hCl:(cg C).length<=3:=by
  rw[sT,<- hCe]
  have:=eL (fun i=>d.calls[i]?.map fun x=>(⟨fX 67 i,x.1%T.length,x.2%T.length⟩:jG)) d.calls.length
  unfold er
  omega
 clear hk c hCe
 simp(disch:=omega)only[go_sem]
 refine W.eG d.aF.length (fun k=>⟨[(2,.ptr 2 0),(4,.ptr 4 0),(6,.ptr 6 0),(8,.ptr 8 0),(9,.pv (.int .i64 T.length)),(11,.pv (.int .i64 k))],⟨[(2,[.pv (.aq 0 (d.s.map Node.cs)),.pv (.aq 0 (d.calls.map PC)),.pv (.aq 0 (d.aF.map vN.c)),.pv (.aq 0 (d.aS.map PD))]),(4,[.pv (.str ⟨#[]⟩),.tl [],.tl [],.tl [],.tl []]),(6,[.pv (.aq 0 (T.map aI.c))]),(8,[.pv (.str nm),.pv (.aq 0 (T.map aI.c)),dc 0 (cg C),dc (cJ 3 (cg C)).length (aF (fZ T d.aF k)),.tl []])],cJ 3 (cg C)++cJ 5 (aF (fZ T d.aF k)),[]⟩⟩) (fun _=>True) (by show _=(⟨_,⟨_,cJ 3 (cg C)++[],[]⟩⟩:St); rw[Xv]; rfl) trivial fun k hk _=>?_
 simp(disch:=omega)only[go_sem]
 refine Br.aJ (fun c=>?_) (fun c=>?_)
 .obtain⟨x,hx⟩:=get_some (l:=d.aF) (k:=k) (by omega)
  have hxo:=hd.w x (Wr hx)
  have h453:=fun t u=>r453 t u T (fX 83 k) x hxo (by omega)
  have hR:aF (fZ T d.aF (k+1))=aF (fZ T d.aF k)++aF (uu T (fX 83 k) x).toList:=by
   rw[A6 hx]
   simp[aF]
  have hRl:(aF (fZ T d.aF k)).length<=3:=by
   unfold aF
   rw[Wu]
   have:=eL (fun i=>d.aF[i]?.bind fun s=>uu T (fX 83 i) s) k
   unfold fZ
   omega
  have hw:=FR (k:=k) (by omega)
  have hna:=mf (c:=83) (k:=k) (by omega)
  generalize aF (fZ T d.aF k)=rows at *
  cases hs:uu T (fX 83 k) x with
  |none=>
   rw[hs]at h453 hR
   simp only[Option.toList,aF,List.map_nil,List.append_nil]at hR
   simp(disch:=omega)only[go_sem,hx,Option.map_some,vN.c,hw,hna,h453]
   refine .of (by omega) ?_ trivial
   rw[<- hR]
   rfl
  |some w=>
   rw[hs]at h453 hR
   simp only[Option.toList,aF,List.map_cons,List.map_nil,dW.c]at hR
   simp only[dW.c]at h453
   have hg:=fun bx mp=>grow bx mp (cJ 3 (cg C)) 5 rows [.str w.name,.aq 0 (w.msgs.map gF.c),.int .i64 w.auto.ai,.int .i64 w.auto.start,.aq 0 (w.auto.aa.map Edge.c)] rfl (by omega)
   have hgt:=fun bx mp=>ij bx mp (cJ 3 (cg C)) 5 rows [.str w.name,.aq 0 (w.msgs.map gF.c),.int .i64 w.auto.ai,.int .i64 w.auto.start,.aq 0 (w.auto.aa.map Edge.c)]
   simp(disch:=omega)only[go_sem,hx,Option.map_some,vN.c,hw,hna,h453,hg,hgt]
   refine .of (by omega) ?_ trivial
   rw[show aF (fZ T d.aF (k+1))=_ from hR]
   rfl
 obtain rfl:k=d.aF.length:=by omega
 generalize hWe:fZ T d.aF d.aF.length=S at *
 clear hk c hWe
 simp(disch:=omega)only[go_sem]
 refine W.eG d.aS.length (fun k=>⟨[(2,.ptr 2 0),(4,.ptr 4 0),(8,.ptr 8 0),(9,.pv (.int .i64 T.length)),(14,.pv (.int .i64 k))],⟨[(2,[.pv (.aq 0 (d.s.map Node.cs)),.pv (.aq 0 (d.calls.map PC)),.pv (.aq 0 (d.aF.map vN.c)),.pv (.aq 0 (d.aS.map PD))]),(4,[.pv (.str ⟨#[]⟩),.tl [],.tl [],.tl [],.tl []]),(8,[.pv (.str nm),.pv (.aq 0 (T.map aI.c)),dc 0 (cg C),dc (cJ 3 (cg C)).length (aF S),dc (cJ 3 (cg C)++cJ 5 (aF S)).length (cQ (gT T.length d.aS k))])],cJ 3 (cg C)++cJ 5 (aF S)++cJ 2 (cQ (gT T.length d.aS k)),[]⟩⟩) (fun _=>True) (by show _=(⟨_,⟨_,cJ 3 (cg C)++cJ 5 (aF S)++[],[]⟩⟩:St); rw[Xv]; rfl) trivial fun k hk _=>?_
 simp(disch:=omega)only[go_sem]
 refine Br.aJ (fun c=>?_) (fun c=>?_)
 .obtain⟨x,hx⟩:=get_some (l:=d.aS) (k:=k) (by omega)
  obtain⟨x1,x2⟩:=hd.t x (Wr hx)
  have hR:cQ (gT T.length d.aS (k+1))=cQ (gT T.length d.aS k)++[[.str (fX 84 k),.int .i64 (x%T.length)]]:=by
   rw[A5 hx]
   simp[cQ,jH.c]
  have hRl:(cQ (gT T.length d.aS k)).length<=3:=by
   rw[yx]
   have:=eL (fun i=>d.aS[i]?.map fun x=>(⟨fX 84 i,x%T.length⟩:jH)) k
   unfold gT
   omega
  generalize cQ (gT T.length d.aS k)=rows at *
  have hg:=fun bx mp=>grow bx mp (cJ 3 (cg C)++cJ 5 (aF S)) 2 rows [.str (fX 84 k),.int .i64 (x%T.length)] rfl (by omega)
  have hgt:=fun bx mp=>ij bx mp (cJ 3 (cg C)++cJ 5 (aF S)) 2 rows [.str (fX 84 k),.int .i64 (x%T.length)]
  simp only[List.length_append]at hg hgt
  have hw:=FR (k:=k) (by omega)
  have hna:=mf (c:=84) (k:=k) (by omega)
  simp(disch:=omega)only[go_sem,hx,Option.map_some,PD,hw,hna,hg,hgt]
  refine .of (by omega) ?_ trivial
  rw[hR,WX]
  rfl
 obtain rfl:k=d.aS.length:=by omega
 generalize hPe:gT T.length d.aS d.aS.length=P at *
 have k1:∀bx,aY ⟨bx,cJ 3 (cg C)++cJ 5 (aF S)++cJ 2 (cQ P),[]⟩ 4 (dc 0 (cg C))=some (.aq 0 (cg C)):=fun bx=>by
  rw[W2]
  exact tH bx [] [] _ 3 3 _
 have k2:∀bx,aY ⟨bx,cJ 3 (cg C)++cJ 5 (aF S)++cJ 2 (cQ P),[]⟩ 4 (dc (cJ 3 (cg C)).length (aF S))=some (.aq 0 (aF S)):=fun bx=>by
  rw[W2]
  exact tH bx [] (cJ 3 (cg C)) _ 5 3 _
 have k3:∀bx,aY ⟨bx,cJ 3 (cg C)++cJ 5 (aF S)++cJ 2 (cQ P),[]⟩ 4 (dc (cJ 3 (cg C)++cJ 5 (aF S)).length (cQ P))=some (.aq 0 (cQ P)):=fun bx=>sV bx [] _ 2 3 _
 simp only[List.length_append]at k3
 simp(disch:=omega)only[go_sem,k1,k2,k3]
 rfl
theorem wU {c:UInt8} {k:Nat} (h:k<3):bu (fX c k):=by
 have:(fX c k).size=2:=by
  unfold fX
  rw[ByteArray.size_append,vM h]
  rfl
 unfold bu
 omega
theorem Dr {n:Int} {l:List (Int×Int)} {k:Nat} (hk:k<=3):∀c∈er n l k,bu c.name:=by
 intro c hc
 obtain⟨i,hi,he⟩:=Xh.1 hc
 have:=W4.1 hi
 obtain⟨x,_,rfl⟩:=WW.1 he
 exact wU (by omega)
theorem FT {n:Int} {l:List Int} {k:Nat} (hk:k<=3):∀c∈gT n l k,bu c.name:=by
 intro c hc
 obtain⟨i,hi,he⟩:=Xh.1 hc
 have:=W4.1 hi
 obtain⟨x,_,rfl⟩:=WW.1 he
 exact wU (by omega)
theorem zk {T:List aI} {l:List vN} {k:Nat} (hk:k<=2) (hl:∀s∈l,s.ok):∀w∈fZ T l k,∃i s,i<2/\s∈l/\dB T T.length≠[]/\w=⟨fX 83 i,ep (dB T T.length) s,s.a.auto.trim⟩/\s.a.auto.Good:=by
 intro w hw
 obtain⟨i,hi,he⟩:=Xh.1 hw
 have:=W4.1 hi
 obtain⟨s,hs,he⟩:=X6.1 he
 unfold uu at he
 split at he
 .rename_i hc
  cases he
  have hm:=Wr hs
  exact⟨i,s,by omega,hm,hc.2,rfl,eo.ub (hl s hm).1 (s:=0) ⟨X8 _,by have:=s.a.st; omega⟩⟩
 .cases he
theorem Ds {nm:ByteArray} {d:Dq} {v:iY} (hn:bu nm) (hd:d.ok) (h:M8 nm d=some v):nu v/\v.types.length<=5/\v.calls.length<=3/\v.aF.length<=2/\v.aS.length<=3/\∀w∈v.aF,w.msgs.length<=3/\w.auto.aa.length<=100:=by
 unfold M8 at h
 split at h
 rotate_left
 .cases h
 rename_i hc
 obtain⟨c1,c2,c3,c4⟩:=hc
 cases h
 have hD:¬(d.s.length<1\/5<d.s.length):=by
  intro hx
  unfold rf at c1
  rw[if_pos hx]at c1
  cases c1
 have hT:(rf d.s).1=(List.range d.s.length).map (aU d.s):=by
  unfold rf
  rw[if_neg hD]
 obtain⟨o1,o2⟩:=MS (d:=d.s) (by omega) (by omega)
 rw[<- hT]at o1 o2
 have hl:(rf d.s).1.length<=5:=by
  rw[hT,Wu,W3]
  omega
 have l1:(er (rf d.s).1.length d.calls d.calls.length).length<=3:=Xg (eL _ _) c2
 have l2:(fZ (rf d.s).1 d.aF d.aF.length).length<=2:=Xg (eL _ _) c3
 have l3:(gT (rf d.s).1.length d.aS d.aS.length).length<=3:=Xg (eL _ _) c4
 have hw:∀w∈fZ (rf d.s).1 d.aF d.aF.length,(bu w.name/\∀m∈w.msgs,bu m.name)/\w.msgs.length<=3/\w.auto.aa.length<=100:=fun w hw=>by
  obtain⟨i,s,hi,hs,_,rfl,hg⟩:=zk (by omega) hd.w w hw
  refine⟨⟨wU (by omega),fun m hm=>?_⟩,Wy 3,hg.trim.len⟩
  dsimp only[ep]at hm
  simp only[List.mem_cons,List.not_mem_nil,or_false]at hm
  rcases hm with rfl|rfl|rfl<;>exact wU (by omega)
 refine⟨⟨hn,by dsimp only; omega,o1,o2,by dsimp only; omega,Dr c2,by dsimp only; omega,fun w h=>?_,by dsimp only; omega,FT c4⟩,hl,l1,l2,l3,fun w h=>(hw w h).2⟩
 obtain⟨⟨q1,q2⟩,q3,q4⟩:=hw w h
 exact⟨q1,by omega,q2,by omega⟩
def iZ (u:Int×Int):List PV:=[.int .i64 u.1,.int .i64 u.2]
def oW (l:List Mem):List (Int×Int):=l.map fun m=>(m.id,m.type)
def oX (t:aI):List (Int×Int):=oW t.bc++(if t.kind=8 then [(0,t.key)] else [])++(if 7<=t.kind then [(-1,t.elem)] else [])
theorem Ih (k:Nat) (rows:List (List PV)) (r1 r2:List PV) (h1:r1.length=k) (h2:r2.length=k) (hm:rows.length+2<=2147483648):
  ∃V1 T ar',(∀bx,aM ⟨bx,cJ k rows,[]⟩ k (dc 0 rows) (.tl [r1,r2])=some (V1,T))/\(∀bx,T.apply ⟨bx,cJ k rows,[]⟩=⟨bx,ar',[]⟩)/\V1.cells=[V1]/\V1.calm=true/\(∀b,dM b V1=V1)/\∀bx,bW ⟨bx,ar',[]⟩ false V1=some (.aq 0 (rows++[r1,r2])):=by
 cases rows with
 |nil=>exact⟨.own 0 0 0 2,{ push:=[⟨0,k,.inl [r1,r2]⟩],base:=0 },[⟨0,k,.inl [r1,r2]⟩],fun bx=>by simp[aM,dc,cJ,aW,aP,aD,h1,h2,aV,aQ],fun bx=>by simp[Tn.apply,cJ],rfl,rfl,fun _=>rfl,fun bx=>by simp[bW,dR,aB,bM,aA]⟩
 |cons x q=>
  refine⟨.own 0 (q.length+1) 0 (q.length+3),{ ar:=some (0,⟨q.length+1,k,.inl (x::q++[r1,r2])⟩) },[⟨q.length+1,k,.inl (x::q++[r1,r2])⟩],fun bx=>?_,fun bx=>by simp[Tn.apply,cJ],rfl,rfl,fun _=>rfl,fun bx=>?_⟩
  .have e1:aB ⟨bx,cJ k (x::q),[]⟩ 0 q.length=some ⟨q.length,k,.inl (x::q)⟩:=by simp[aB,cJ]
   have e2:(⟨q.length,k,.inl (x::q)⟩:aN).size=q.length+1:=rfl
   simp only[List.length_cons]at hm
   simp[aM,dc,aW,aP,aD,h1,h2,e1,e2,aV,aA,aQ]
   omega
  .simp[bW,dR,aB,bM,aA]
   exact List.take_of_length_le (by simp)
set_option maxHeartbeats 4000000 in
theorem r490 (t:aI) (hs:t.short) (h9:t.kind<=9):res A az 490 [.agg t.c]=some [.aq 0 ((oX t).map iZ)]:=by
 have hl:=hs.bc
 obtain⟨k,a2,a3,a4,a5,a6,l,a8,a9,a10⟩:=t
 unfold oX aI.c
 dsimp only at *
 refine aw a490 rfl rfl ?_
 simp only[F490,Mf]
 simp(disch:=omega)only[go_sem]
 refine W.eG l.length (fun j=>⟨[(1,.ptr 1 0),(3,dc 0 ((oW (l.take j)).map iZ)),(7,.pv (.aq 0 (l.map Mem.c))),(8,.pv (.int .i64 l.length)),(9,.pv (.int .i64 j))],⟨[(1,[.pv (.int .i64 k),.pv (.str a2),.pv (.int .i64 a3),.pv (.int .i64 a4),.pv (.int .i64 a5),.pv (.aq 0 (a6.map Sym.c)),.pv (.aq 0 (l.map Mem.c)),.pv (.int .i64 a8),.pv (.int .i64 a9),.pv (.bool a10)])],cJ 2 ((oW (l.take j)).map iZ),[]⟩⟩) (fun _=>True) rfl trivial fun j hj _=>?_
 simp(disch:=omega)only[go_sem]
 refine Br.aJ (fun c=>?_) (fun c=>?_)
 .obtain⟨p,hp⟩:=get_some (l:=l) (k:=j) (by omega)
  have hR:(oW (l.take (j+1))).map iZ=(oW (l.take j)).map iZ++[[.int .i64 p.id,.int .i64 p.type]]:=by
   rw[W5,hp]
   simp[oW,iZ]
  have hRl:((oW (l.take j)).map iZ).length<=j:=by simp[oW]; omega
  generalize (oW (l.take j)).map iZ=rows at *
  have hg:∀bx mp,aM ⟨bx,cJ 2 rows,mp⟩ 2 (dc 0 rows) (.tl [[.int .i64 p.id,.int .i64 p.type]])=some (dc 0 (rows++[[.int .i64 p.id,.int .i64 p.type]]),tZ 0 2 rows [.int .i64 p.id,.int .i64 p.type]):=fun bx mp=>grow bx mp [] 2 rows _ rfl (by omega)
  simp(disch:=omega)only[go_sem,hp,Option.map_some,Mem.c,hg]
  refine .of (by omega) ?_ trivial
  rw[hR]
  rfl
 obtain rfl:j=l.length:=by omega
 rw[Xf]
 have hRl:((oW l).map iZ).length=l.length:=by simp[oW]
 rw[WZ,WZ]
 generalize (oW l).map iZ=rows at *
 simp(disch:=omega)only[go_sem]
 obtain⟨V1,T,ar',happ,hT,hc1,hc2,hsc,hk⟩:=Ih 2 rows [.int .i64 0,.int .i64 a8] [.int .i64 (-1),.int .i64 a9] rfl rfl (by omega)
 have hg:∀bx mp,aM ⟨bx,cJ 2 rows,mp⟩ 2 (dc 0 rows) (.tl [[.int .i64 (-1),.int .i64 a9]])=some (dc 0 (rows++[[.int .i64 (-1),.int .i64 a9]]),tZ 0 2 rows [.int .i64 (-1),.int .i64 a9]):=fun bx mp=>grow bx mp [] 2 rows _ rfl (by omega)
 refine Br.aJ (fun c8=>?_) (fun c8=>?_)
 .rw[if_pos c8,if_pos (by omega)]
  simp(disch:=omega)only[go_sem,happ,hT,hc1,hc2,hsc,hk]
  simp[iZ]
 .rw[if_neg c8]
  cases h7:decide (k=7)with
  |true=>
   have c7:=of_decide_eq_true h7
   rw[if_pos (by omega)]
   simp(disch:=omega)only[go_sem,h7,hg]
   simp[iZ]
  |false=>
   have c7:=of_decide_eq_false h7
   cases h9':decide (k=9)with
   |true=>
    have c9:=of_decide_eq_true h9'
    rw[if_pos (by omega)]
    simp(disch:=omega)only[go_sem,h7,h9',hg]
    simp[iZ]
   |false=>
    have c9:=of_decide_eq_false h9'
    rw[if_neg (by omega)]
    simp(disch:=omega)only[go_sem,h7,h9',List.append_nil]
set_option maxHeartbeats 4000000 in
theorem r499:∀(n k:Nat) (cs ds:List PV),mC n cs->mC k ds->res A az 499 [.agg cs,.agg ds]=some [.bool (eqv cs ds)]
 |0,_,_,_,h,_=>h.elim
 |_+1,0,_,_,_,h=>h.elim
 |n+1,k+1,cs,ds,h,h'=>by
  obtain⟨v,rfl,⟨h1,h2,h3,h4⟩,⟨h5,h6,h7⟩,h8,h9,h10⟩:=h
  obtain⟨w,rfl,⟨g1,g2,g3,g4⟩,⟨g5,g6,g7⟩,g8,g9,g10⟩:=h'
  have ih:=r499 n k
  unfold bN at h5 h6 h7 g5 g6 g7
  have hk:=fun t u=>r334g cw499 t u v.keys w.keys (by omega) (by omega) (fun r hr=>(h8 r hr).val) (fun r hr=>(g8 r hr).val) (fun r hr q hq=>ih r q (h8 r hr) (g8 q hq))
  have hi:=fun t u=>r334g cw499 t u v.items w.items (by omega) (by omega) (fun r hr=>(h9 r hr).val) (fun r hr=>(g9 r hr).val) (fun r hr q hq=>ih r q (h9 r hr) (g9 q hq))
  have hr:=fun t u=>r333 t u v.rest w.rest (by omega) (by omega)
  rw[oz]
  obtain⟨a1,a2,a3,a4,a5,a6,a7,a8⟩:=v
  obtain⟨b1,b2,b3,b4,b5,b6,b7,b8⟩:=w
  unfold dw.c
  dsimp only at *
  clear ih
  refine aw a499 rfl rfl ?_
  simp only[F499,Ml]
  simp(disch:=omega)only[go_sem]
  have no:∀{p q:dw},p≠q->(some [PV.bool false]:Option (List PV))=some [PV.bool (eqv p q)]:=fun h=>by rw[fJ h]
  refine Br.aJ (fun e=>?_) (fun e=>?_)<;>simp(disch:=omega)only[go_sem,e]
  rotate_left
  .exact no (fun q=>e (by cases q; rfl))
  subst e
  refine Br.aJ (fun e=>?_) (fun e=>?_)<;>simp(disch:=omega)only[go_sem,e]
  rotate_left
  .exact no (fun q=>e (by cases q; rfl))
  subst e
  refine Br.aJ (fun e=>?_) (fun e=>?_)<;>simp(disch:=omega)only[go_sem,e]
  rotate_left
  .exact no (fun q=>e (by cases q; rfl))
  subst e
  refine Br.aJ (fun e=>?_) (fun e=>?_)<;>simp(disch:=omega)only[go_sem,e]
  rotate_left
  .exact no (fun q=>e (by cases q; rfl))
  subst e
  refine Br.aJ (fun e=>?_) (fun e=>?_)<;>simp(disch:=omega)only[go_sem,e]
  rotate_left
  .exact no (fun q=>e (by cases q; rfl))
  subst e
  simp(disch:=omega)only[go_sem,hr]
  refine Br.of (fun e=>?_) (fun e=>?_)<;>simp(disch:=omega)only[go_sem,e]
  rotate_left
  .exact no (fun q=>nc.1 e (by cases q; rfl))
  have e:=bX.1 e
  subst e
  simp(disch:=omega)only[go_sem,hk]
  refine Br.of (fun e=>?_) (fun e=>?_)<;>simp(disch:=omega)only[go_sem,e]
  rotate_left
  .exact no (fun q=>nc.1 e (by cases q; rfl))
  have e:=bX.1 e
  subst e
  simp(disch:=omega)only[go_sem,hi]
  congr 3
  rw[Xo,bX,bX]
  exact⟨fun e=>by rw[e],fun q=>by cases q; rfl⟩
def uv {α β:Type} (g:α->β->Bool) (l:List α) (m:List β):Bool:=decide (l.length=m.length)&&(l.zip m).all fun q=>g q.1 q.2
theorem qf {α β:Type} {g:α->β->Bool} {l:List α} {m:List β} (h:¬l.length=m.length):uv g l m=false:=by
 unfold uv
 rw[decide_eq_false h]
 rfl
theorem wV {α β:Type} {g:α->β->Bool} {l:List α} {m:List β} (h:(l.zip m).any (fun q=>!g q.1 q.2)=true):uv g l m=false:=by
 unfold uv
 have:(l.zip m).all (fun q=>g q.1 q.2)=false:=by
  rw[XP]
  intro h2
  obtain⟨q,hq,hn⟩:=XB.1 h
  have:=WI.1 h2 q hq
  rw[this]at hn
  cases hn
 rw[this,Bool.and_false]
theorem rK {α β:Type} {g:α->β->Bool} {l:List α} {m:List β} (h:l.length=m.length) (h2:(l.zip m).any (fun q=>!g q.1 q.2)=false):uv g l m=true:=by
 unfold uv
 rw[decide_eq_true h,Xe,WI]
 intro q hq
 have:=Xc.1 h2 q hq
 simpa using this
theorem wW {α β:Type} (k:α->β) {g:α->α->Bool} (h:∀x y,g x y=eqv (k x) (k y)):∀l m:List α,uv g l m=eqv (l.map k) (m.map k)
 |[],[]=>by rw[eK]; rfl
 |[],y::m=>by rw[qf (by simp),fJ (by simp)]
 |x::l,[]=>by rw[qf (by simp),fJ (by simp)]
 |x::l,y::m=>by
  have ih:=wW k h l m
  unfold uv at ih |-
  rw[List.zip_cons_cons,List.all_cons]
  dsimp only
  rw[h x y]
  by_cases e:k x=k y
  .rw[e,eK,Xe,XX,XX,e]
   have e2:decide ((x::l).length=(y::m).length)=decide (l.length=m.length):=by simp
   rw[e2,ih,Xo,bX,bX]
   exact⟨fun h=>by rw[h],fun h=>List.tail_eq_of_cons_eq h⟩
  .rw[fJ e,XL,Bool.and_false,fJ]
   intro h2
   rw[XX,XX]at h2
   exact e (List.head_eq_of_cons_eq h2)
def tJ (s:Sym):Int:=s.id
def A7 (m:Mem):Int×Bool×Bool×dw:=(m.id,m.DV,m.has,m.ib)
def Ii (t:aI):(Int×Int×Int×Int×Bool)×List Int×List (Int×Bool×Bool×dw):=((t.kind,t.low,t.high,t.max,t.jR),t.syms.map tJ,t.bc.map A7)
noncomputable def dC (x y:aI):Bool:=eqv (Ii x) (Ii y)
theorem r497 (u:Nat) (x y:Sym):res A az 497 [.agg x.c,.agg y.c,.ro u [.bool false]]=some [.bool (eqv (tJ x) (tJ y))]:=by
 have e:eqv (tJ x) (tJ y)=decide (x.id=y.id):=by
  unfold tJ eqv
  simp
 rw[e]
 refine aw a497 rfl rfl ?_
 simp only[F497,Mj]
 unfold Sym.c
 simp(disch:=omega)only[go_sem]
 refine Br.aJ (fun c=>?_) (fun c=>?_)<;>simp(disch:=omega)only[go_sem,c,decide_true,decide_false]
noncomputable def Dt (x y:Sym):Bool:=eqv (tJ x) (tJ y)
noncomputable def A8 (x y:Mem):Bool:=eqv (A7 x) (A7 y)
theorem r496 (t u w:Nat) (l m:List Sym) (hl:l.length<=2^63 - 1) (_hm:m.length<=2^63 - 1):res A az 496 [.aq t (l.map Sym.c),.aq u (m.map Sym.c),.func 497 [.ro w [.bool false]]]=some [.bool (uv Dt l m)]:=by
 refine aw a496 rfl rfl ?_
 simp only[F496,Mi]
 simp(disch:=omega)only[go_sem]
 refine Br.aJ (fun h=>?_) (fun h=>?_)<;>simp(disch:=omega)only[go_sem]
 .refine W.find (l.zip m) (fun q=>!Dt q.1 q.2) (fun k=>⟨[(1,.pv (.aq u (m.map Sym.c))),(2,.pv (.func 497 [.ro w [.bool false]])),(15,.pv (.aq t (l.map Sym.c))),(16,.pv (.int .i64 l.length)),(17,.pv (.int .i64 k))],⟨[],[],[]⟩⟩) rfl (fun k q hq hk hfd=>?_) (fun hn=>?_)
  .obtain⟨h1,h2⟩:=jg hq
   rw[dx (by omega)]at hk
   have hc:=fun v=>r497 v q.1 q.2
   have hg:Dt q.1 q.2=eqv (tJ q.1) (tJ q.2):=rfl
   rw[<- hg]at hc
   unfold Sym.c at hc
   simp(disch:=omega)only[go_sem]
   refine Br.aJ (fun c=>?_) (fun c=>(c (by omega)).elim)
   simp(disch:=omega)only[go_sem,h1,h2,Sym.c,hc]
   refine Br.of (fun g=>?_) (fun g=>?_)<;>simp(disch:=omega)only[go_sem]
   .exact bA.of (by rw[g]; rfl) rfl
   .rw[wV (hfd (by rw[g]; rfl)).any]
  .have hz:(l.zip m).length=l.length:=dx (by omega)
   rw[hz]
   simp(disch:=omega)only[go_sem]
   rw[rK (by omega) hn.any]
 .rw[qf (fun e=>h (by rw[e]))]
set_option maxHeartbeats 4000000 in
theorem r498 (u:Nat) (x y:Mem) (hx:x.ok) (hy:y.ok):res A az 498 [.agg x.c,.agg y.c,.ro u [.bool false]]=some [.bool (A8 x y)]:=by
 obtain⟨n,vx⟩:=hx.2.2.2
 obtain⟨k,vy⟩:=hy.2.2.2
 have hv:=r499 n k _ _ vx vy
 rw[oz]at hv
 have hg:A8 x y=eqv (A7 x) (A7 y):=rfl
 rw[hg]
 obtain⟨a1,a2,a3,a4,a5,v⟩:=x
 obtain⟨b1,b2,b3,b4,b5,w⟩:=y
 unfold Mem.c A7
 unfold dw.c at hv
 dsimp only at *
 have no:∀{p q:Int×Bool×Bool×dw},p≠q->(some [PV.bool false]:Option (List PV))=some [PV.bool (eqv p q)]:=fun h=>by rw[fJ h]
 refine aw a498 rfl rfl ?_
 simp only[F498,Mk]
 simp(disch:=omega)only[go_sem]
 refine Br.aJ (fun e=>?_) (fun e=>?_)<;>simp(disch:=omega)only[go_sem,e]
 rotate_left
 .exact no (fun q=>e (by cases q; rfl))
 subst e
 refine Br.aJ (fun e=>?_) (fun e=>?_)<;>simp(disch:=omega)only[go_sem,e]
 rotate_left
 .exact no (fun q=>e (by cases q; rfl))
 subst e
 refine Br.aJ (fun e=>?_) (fun e=>?_)<;>simp(disch:=omega)only[go_sem,e]
 rotate_left
 .exact no (fun q=>e (by cases q; rfl))
 subst e
 simp(disch:=omega)only[go_sem,hv]
 refine Br.of (fun e=>?_) (fun e=>?_)<;>simp(disch:=omega)only[go_sem,e]
 rotate_left
 .exact no (fun q=>nc.1 e (by cases q; rfl))
 have e:=bX.1 e
 subst e
 rw[eK]
theorem r318k (t u w:Nat) (l m:List Mem) (hl:l.length<=2^63 - 1) (_hm:m.length<=2^63 - 1) (vl:∀r∈l,r.ok) (vm:∀r∈m,r.ok):res A az 318 [.aq t (l.map Mem.c),.aq u (m.map Mem.c),.func 498 [.ro w [.bool false]]]=some [.bool (uv A8 l m)]:=by
 refine aw a318 rfl rfl ?_
 simp only[F318,HI]
 simp(disch:=omega)only[go_sem]
 refine Br.aJ (fun h=>?_) (fun h=>?_)<;>simp(disch:=omega)only[go_sem]
 .refine W.find (l.zip m) (fun q=>!A8 q.1 q.2) (fun k=>⟨[(1,.pv (.aq u (m.map Mem.c))),(2,.pv (.func 498 [.ro w [.bool false]])),(15,.pv (.aq t (l.map Mem.c))),(16,.pv (.int .i64 l.length)),(17,.pv (.int .i64 k))],⟨[],[],[]⟩⟩) rfl (fun k q hq hk hfd=>?_) (fun hn=>?_)
  .obtain⟨h1,h2⟩:=jg hq
   rw[dx (by omega)]at hk
   have hc:=fun v=>r498 v q.1 q.2 (vl q.1 (Wr h1)) (vm q.2 (Wr h2))
   unfold Mem.c at hc
   simp(disch:=omega)only[go_sem]
   refine Br.aJ (fun c=>?_) (fun c=>(c (by omega)).elim)
   simp(disch:=omega)only[go_sem,h1,h2,Mem.c,hc]
   refine Br.of (fun g=>?_) (fun g=>?_)<;>simp(disch:=omega)only[go_sem]
   .exact bA.of (by rw[g]; rfl) rfl
   .rw[wV (hfd (by rw[g]; rfl)).any]
  .have hz:(l.zip m).length=l.length:=dx (by omega)
   rw[hz]
   simp(disch:=omega)only[go_sem]
   rw[rK (by omega) hn.any]
 .rw[qf (fun e=>h (by rw[e]))]
theorem zl (x y:aI) (h:(x.kind,x.low,x.high,x.max,x.jR)=(y.kind,y.low,y.high,y.max,y.jR)):dC x y=(uv Dt x.syms y.syms&&uv A8 x.bc y.bc):=by
 rw[wW tJ (g:=Dt) (fun _ _=>rfl),wW A7 (g:=A8) (fun _ _=>rfl)]
 unfold dC Ii
 rw[h,Xo,X5,bX,bX,bX]
 constructor
 .intro e
  injection e with _ e
  injection e with e1 e2
  exact⟨e1,e2⟩
 .rintro ⟨e1,e2⟩
  rw[e1,e2]
theorem FU {x y:aI} (h:(x.kind,x.low,x.high,x.max,x.jR)≠(y.kind,y.low,y.high,y.max,y.jR)):dC x y=false:=by
 unfold dC
 rw[fJ]
 unfold Ii
 intro e
 injection e with e _
 exact h e
set_option maxHeartbeats 8000000 in
theorem r488 (x y:aI) (hx:x.ok) (hy:y.ok):res A az 488 [.agg x.c,.agg y.c,.bool false]=some [.bool (dC x y)]:=by
 obtain⟨_,⟨lx1,lx2⟩,_,lx3⟩:=hx
 obtain⟨_,⟨ly1,ly2⟩,_,ly3⟩:=hy
 unfold bN at *
 have hs:=fun t u w=>r496 t u w x.syms y.syms (by omega) (by omega)
 have hm:=fun t u w=>r318k t u w x.bc y.bc (by omega) (by omega) lx3 ly3
 have yes:=zl x y
 have no:(x.kind,x.low,x.high,x.max,x.jR)≠(y.kind,y.low,y.high,y.max,y.jR)->(some [PV.bool false]:Option (List PV))=some [PV.bool (dC x y)]:=fun h=>by rw[FU h]
 generalize dC x y=G at *
 obtain⟨a1,a2,a3,a4,a5,a6,a7,a8,a9,a10⟩:=x
 obtain⟨b1,b2,b3,b4,b5,b6,b7,b8,b9,b10⟩:=y
 unfold aI.c
 dsimp only at *
 refine aw a488 rfl rfl ?_
 simp only[F488,Md]
 simp(disch:=omega)only[go_sem]
 refine Br.aJ (fun e=>?_) (fun e=>?_)<;>simp(disch:=omega)only[go_sem,e]
 rotate_left
 .exact no (fun q=>e (by cases q; rfl))
 subst e
 refine Br.aJ (fun e=>?_) (fun e=>?_)<;>simp(disch:=omega)only[go_sem,e]
 rotate_left
 .exact no (fun q=>e (by cases q; rfl))
 subst e
 refine Br.aJ (fun e=>?_) (fun e=>?_)<;>simp(disch:=omega)only[go_sem,e]
 rotate_left
 .exact no (fun q=>e (by cases q; rfl))
 subst e
 refine Br.aJ (fun e=>?_) (fun e=>?_)<;>simp(disch:=omega)only[go_sem,e]
 rotate_left
 .exact no (fun q=>e (by cases q; rfl))
 subst e
 refine Br.aJ (fun e=>?_) (fun e=>?_)<;>simp(disch:=omega)only[go_sem,e]
 rotate_left
 .exact no (fun q=>e (by cases q; rfl))
 subst e
 rw[yes rfl]
 generalize uv Dt a6 b6=e1 at *
 generalize uv A8 a7 b7=e2 at *
 simp(disch:=omega)only[go_sem,hs]
 cases e1 with
 |false=>simp(disch:=omega)only[go_sem,Bool.false_and]
 |true=>simp(disch:=omega)only[go_sem,hm,Bool.true_and]
def zm (g:List Bool->Nat) (M:List (List Bool)):List (List PV):=M.map fun l=>[.aq (g l) (bV l)]
@[go_sem] theorem Sk (g:List Bool->Nat) (M:List (List Bool)) (i:Nat):(zm g M)[i]?=M[i]?.map fun l=>[.aq (g l) (bV l)]:=by simp[zm]
structure mg (na nb:Nat) (M:List (List Bool)):Prop where
 len:M.length=na
 row:∀l∈M,l.length=nb
def fx (M:List (List Bool)) (p q:Int):Bool:=(M.getD p.toNat []).getD q.toNat false
theorem mg.get {na nb:Nat} {M:List (List Bool)} (h:mg na nb M) {p q:Int} (hp:0<=p/\p<na) (hq:0<=q/\q<nb):∃l,M[p.toNat]?=some l/\l.length=nb/\l[q.toNat]?=some (fx M p q):=by
 have hl:=h.len
 obtain⟨l,hl⟩:=get_some (l:=M) (k:=p.toNat) (by omega)
 have hr:=h.row l (Wr hl)
 refine⟨l,hl,hr,?_⟩
 have h4:q.toNat<l.length:=by omega
 unfold fx
 simp[hl,h4]
def TL (n:Nat) (l:List (Int×Int)):Prop:=∀u∈l,0<=u.2/\u.2<n
def FV (M:List (List Bool)) (x y:aI):Bool:=uv (fun u v=>fx M u.2 v.2) (oX x) (oX y)
theorem r491 (s v na nb:Nat) (g:List Bool->Nat) (a b:Int×Int) (M:List (List Bool)) (hM:mg na nb M) (hn:na<=1000000/\nb<=1000000) (ha:0<=a.2/\a.2<na) (hb:0<=b.2/\b.2<nb):res A az 491 [.agg (iZ a),.agg (iZ b),.ro s [.aq v (zm g M)]]=some [.bool (fx M a.2 b.2)]:=by
 obtain⟨l,h1,h2,h3⟩:=hM.get ha hb
 have h4:=hM.len
 obtain⟨a0,a1⟩:=ha
 obtain⟨b0,b1⟩:=hb
 refine aw a491 rfl rfl ?_
 simp only[F491,Mg]
 unfold iZ
 simp(disch:=omega)only[go_sem,gD,h1,h3,Option.map_some]
theorem r489 (t u s v na nb:Nat) (g:List Bool->Nat) (l m:List (Int×Int)) (M:List (List Bool)) (hM:mg na nb M) (hn:na<=1000000/\nb<=1000000) (ha:TL na l) (hb:TL nb m) (hl:l.length<=2000000) (hm:m.length<=2000000):res A az 489 [.aq t (l.map iZ),.aq u (m.map iZ),.func 491 [.ro s [.aq v (zm g M)]]]=some [.bool (uv (fun a b=>fx M a.2 b.2) l m)]:=by
 refine aw a489 rfl rfl ?_
 simp only[F489,Me]
 simp(disch:=omega)only[go_sem]
 refine Br.aJ (fun h=>?_) (fun h=>?_)<;>simp(disch:=omega)only[go_sem]
 .refine W.find (l.zip m) (fun q=>!fx M q.1.2 q.2.2) (fun k=>⟨[(1,.pv (.aq u (m.map iZ))),(2,.pv (.func 491 [.ro s [.aq v (zm g M)]])),(15,.pv (.aq t (l.map iZ))),(16,.pv (.int .i64 l.length)),(17,.pv (.int .i64 k))],⟨[],[],[]⟩⟩) rfl (fun k q hq hk hfd=>?_) (fun hn=>?_)
  .obtain⟨h1,h2⟩:=jg hq
   rw[dx (by omega)]at hk
   have hc:=fun s=>r491 s v na nb g q.1 q.2 M hM hn (ha _ (Wr h1)) (hb _ (Wr h2))
   unfold iZ at hc
   simp(disch:=omega)only[go_sem]
   refine Br.aJ (fun c=>?_) (fun c=>(c (by omega)).elim)
   simp(disch:=omega)only[go_sem,h1,h2,Option.map_some,iZ,hc]
   refine Br.of (fun g=>?_) (fun g=>?_)<;>simp(disch:=omega)only[go_sem]
   .exact bA.of (by rw[g]; rfl) rfl
   .rw[wV (g:=fun(a b:Int×Int)=>fx M a.2 b.2) (hfd (by rw[g]; rfl)).any]
  .have hz:(l.zip m).length=l.length:=dx (by omega)
   rw[hz]
   simp(disch:=omega)only[go_sem]
   rw[rK (g:=fun(a b:Int×Int)=>fx M a.2 b.2) (by omega) hn.any]
 .rw[qf (fun e=>h (by rw[e]))]
theorem zn (t:aI):(oX t).length<=t.bc.length+2:=by
 unfold oX oW
 rw[WX,WX,Wu]
 split<;>split<;>simp<;>omega
def ri (M:List (List Bool)) (p q:Nat):List (List Bool):=M.set p ((M.getD p []).set q false)
theorem wX {na nb p q:Nat} {M:List (List Bool)} (h:mg na nb M) (hp:p<na):mg na nb (ri M p q) where
 len:=by unfold ri; rw[XN]; exact h.len
 row l hl:=by
  rcases XZ hl with hl|rfl
  .exact h.row l hl
  .rw[XN]
   have:M[p]?=some (M.getD p []):=by
    have:p<M.length:=by rw[h.len]; exact hp
    simp[this]
   exact h.row _ (Wr this)
theorem zo {na nb p q p' q':Nat} {M:List (List Bool)} (h:mg na nb M) (hp:p<na) (hq:q<nb):fx (ri M p q) p' q'=if p=p'/\q=q' then false else fx M p' q':=by
 have hl:p<M.length:=by rw[h.len]; exact hp
 have hr:(M.getD p []).length=nb:=h.row _ (by
  have:M[p]?=some (M.getD p []):=by simp[hl]
  exact Wr this)
 unfold fx ri
 simp only[Int.toNat_natCast,List.getD_eq_getElem?_getD,List.getElem?_set]
 by_cases e:p=p'
 .subst e
  simp only[List.getD_eq_getElem?_getD]at hr
  by_cases e2:q=q'
  .subst e2
   simp only[hl,if_true,List.getElem?_eq_getElem,Option.getD_some,if_pos,and_self]
   rw[List.getElem?_set,if_pos rfl]
   split<;>rfl
  .simp[hl,e2]
 .simp[e]
abbrev Rel:=List (List Bool)->Nat->Nat->Bool
def FW (R:Rel) (p:Nat) (s:List (List Bool)×Bool) (q:Nat):List (List Bool)×Bool:=if (fx s.1 p q&&!R s.1 p q)=true then (ri s.1 p q,true) else s
def FX (R:Rel) (nb:Nat) (s:List (List Bool)×Bool) (p:Nat):List (List Bool)×Bool:=(List.range nb).foldl (FW R p) s
def G0 (R:Rel) (na nb:Nat) (s:List (List Bool)×Bool):List (List Bool)×Bool:=(List.range na).foldl (FX R nb) s
def wY (R:Rel) (na nb:Nat):Nat->List (List Bool)->List (List Bool)
 |0,M=>M
 |n+1,M=>if (G0 R na nb (M,false)).2=true then wY R na nb n (G0 R na nb (M,false)).1 else (G0 R na nb (M,false)).1
def wZ (M:List (List Bool)):Nat:=(M.map fun r=>r.countP id).sum
theorem Ij {r:List Bool} {q:Nat} (h:r.getD q false=true):(r.set q false).countP id+1=r.countP id:=by
 induction r generalizing q with
 |nil=>simp at h
 |cons b r ih=>
  cases q with
  |zero=>
   have hb:b=true:=by simpa using h
   subst hb
   simp
  |succ q=>
   have:=ih (q:=q) (by simpa using h)
   rw[List.set_cons_succ,List.countP_cons,List.countP_cons]
   omega
theorem Ik {M:List (List Bool)} {p q:Nat} (h:fx M p q=true):wZ (ri M p q)+1=wZ M:=by
 unfold fx at h
 simp only[Int.toNat_natCast]at h
 unfold wZ ri
 induction M generalizing p with
 |nil=>simp at h
 |cons r M ih=>
  cases p with
  |zero=>
   have h:r.getD q false=true:=by simpa using h
   have:=Ij h
   simp only[List.getD_cons_zero,List.set_cons_zero,List.map_cons,List.sum_cons]
   omega
  |succ p=>
   have:=ih (p:=p) (by simpa using h)
   simp only[List.getD_cons_succ,List.set_cons_succ,List.map_cons,List.sum_cons]
   omega
def Steps (s t:List (List Bool)×Bool):Prop:=t=s\/(t.2=true/\wZ t.1<wZ s.1)
theorem Steps.trans {s t u:List (List Bool)×Bool} (h:Steps s t) (g:Steps t u):Steps s u:=by
 rcases g with rfl|⟨g1,g2⟩
 .exact h
 .rcases h with rfl|⟨_,h2⟩
  .exact .inr ⟨g1,g2⟩
  .exact .inr ⟨g1,by omega⟩
theorem Du (R:Rel) (p:Nat) (s:List (List Bool)×Bool) (q:Nat):Steps s (FW R p s q):=by
 unfold FW
 split
 .rename_i h
  rw[X5]at h
  have:=Ik h.1
  exact .inr ⟨rfl,by dsimp only; omega⟩
 .exact .inl rfl
theorem FY {α:Type} {f:List (List Bool)×Bool->α->List (List Bool)×Bool} (h:∀s a,Steps s (f s a)):∀(l:List α) (s:List (List Bool)×Bool),Steps s (l.foldl f s)
 |[],_=>.inl rfl
 |a::l,s=>(h s a).trans (FY h l _)
theorem A9 (R:Rel) (nb:Nat) (s:List (List Bool)×Bool) (p:Nat):Steps s (FX R nb s p):=FY (Du R p) _ _
theorem vP (R:Rel) (na nb:Nat) (s:List (List Bool)×Bool):Steps s (G0 R na nb s):=FY (fun s p=>A9 R nb s p) _ _
theorem qP (R:Rel) (na nb:Nat):∀(n m:Nat) (M:List (List Bool)),wZ M<n->wZ M<m->wY R na nb n M=wY R na nb m M
 |0,_,_,h,_=>absurd h (XG _)
 |_+1,0,_,_,h=>absurd h (XG _)
 |n+1,m+1,M,h,g=>by
  unfold wY
  split
  .rename_i hf
   rcases vP R na nb (M,false)with e|⟨_,e⟩
   .rw[e]at hf
    cases hf
   .dsimp only at e
    exact qP R na nb n m _ (by omega) (by omega)
  .rfl
def zq (R:Rel) (na nb:Nat) (M:List (List Bool)):List (List Bool):=wY R na nb (wZ M+1) M
def M9 (G:List (List Bool)) (R:Rel) (na nb:Nat) (s:List (List Bool)×Bool):Prop:=mg na nb s.1/\if s.2=true then zq R na nb s.1=G else s.1=G
def FZ (s:List (List Bool)×Bool):Nat:=if s.2=true then wZ s.1+1 else 0
theorem F1 {G:List (List Bool)} {R:Rel} {na nb:Nat} {M:List (List Bool)} (h:M9 G R na nb (M,true)) (hk:mg na nb (G0 R na nb (M,false)).1):M9 G R na nb (G0 R na nb (M,false))/\FZ (G0 R na nb (M,false))<FZ (M,true):=by
 have h2:zq R na nb M=G:=h.2
 unfold zq wY at h2
 rcases vP R na nb (M,false)with e|⟨hf,e⟩
 .rw[e]at h2 |-
  rw[if_neg (by simp)]at h2
  exact⟨⟨h.1,by rw[if_neg (by simp)]; exact h2⟩,by unfold FZ; rw[if_neg (by simp),if_pos rfl]; omega⟩
 .dsimp only at e
  rw[if_pos hf]at h2
  refine⟨⟨hk,?_⟩,?_⟩
  .rw[if_pos hf]
   unfold zq
   rw[<- h2]
   exact qP R na nb _ _ _ (by omega) (by omega)
  .unfold FZ
   rw[if_pos hf,if_pos rfl]
   dsimp only
   omega
theorem F2 {R:Rel} {na nb p q:Nat} {s:List (List Bool)×Bool} (h:mg na nb s.1) (hp:p<na):mg na nb (FW R p s q).1:=by
 unfold FW
 split
 .exact wX h hp
 .exact h
theorem foldI {α β:Type} {f:β->α->β} {P:β->Prop}:∀(l:List α) (s:β),P s->(∀s a,a∈l->P s->P (f s a))->P (l.foldl f s)
 |[],_,h,_=>h
 |a::l,s,h,g=>foldI l _ (g s a W1 h) fun s b hb=>g s b (WK _ hb)
theorem Il {R:Rel} {na nb p:Nat} {s:List (List Bool)×Bool} (h:mg na nb s.1) (hp:p<na):mg na nb (FX R nb s p).1:=foldI (P:=fun s=>mg na nb s.1) _ s h fun _ _ _ h=>F2 h hp
theorem Na {R:Rel} {na nb:Nat} {s:List (List Bool)×Bool} (h:mg na nb s.1):mg na nb (G0 R na nb s).1:=foldI (P:=fun s=>mg na nb s.1) _ s h fun _ _ hp h=>Il h (W4.1 hp)
theorem qg {R:Rel} {na nb:Nat} {P:List (List Bool)->Prop} (h:∀M p q,p<na->q<nb->P M->fx M p q=true->R M p q=false->P (ri M p q)):∀(n:Nat) (M:List (List Bool)),P M->P (wY R na nb n M)
 |0,_,hM=>hM
 |n+1,M,hM=>by
  have hs:P (G0 R na nb (M,false)).1:=foldI (P:=fun(s:List (List Bool)×Bool)=>P s.1) _ _ hM fun s p hp hs=>foldI (P:=fun(s:List (List Bool)×Bool)=>P s.1) _ _ hs fun s q hq hs=>by
   unfold FW
   split
   .rename_i hc
    rw[X5]at hc
    exact h _ p q (List.mem_range.1 hp) (List.mem_range.1 hq) hs hc.1 (by simpa using hc.2)
   .exact hs
  unfold wY
  split
  .exact qg h n _ hs
  .exact hs
theorem Im {R:Rel} {na nb n:Nat} {M:List (List Bool)} (h:mg na nb M):mg na nb (wY R na nb n M):=qg (P:=mg na nb) (fun _ _ _ hp _ h _ _=>wX h hp) n M h
theorem Io {R:Rel} {na nb:Nat} {M:List (List Bool)} (h:mg na nb M):mg na nb (zq R na nb M):=Im h
theorem Ba {R:Rel} {na nb:Nat} {M:List (List Bool)} {S:Nat->Nat->Prop} (hM:mg na nb M) (h0:∀p q,S p q->fx M p q=true) (h:∀M p q,(∀p q,S p q->fx M p q=true)->S p q->R M p q=true):∀p q,S p q->fx (zq R na nb M) p q=true:=
 (qg (P:=fun M=>mg na nb M/\∀p q,S p q->fx M p q=true) (fun M p q hp hq hS _ hr=>⟨wX hS.1 hp,fun p' q' hs=>by
  rw[zo hS.1 hp hq]
  by_cases e:p=p'/\q=q'
  .obtain⟨rfl,rfl⟩:=e
   have:=h M p q hS.2 hs
   rw[hr]at this
   cases this
  .rw[if_neg e]
   exact hS.2 p' q' hs⟩) _ M ⟨hM,h0⟩).2
theorem Bb {α β:Type} {f:α->β} {y:β} {l:List α} {k i:Nat} {x:α} (hi:i<k) (hx:l[i]?=some x):(fM f y l k)[i]?=some (f x):=by
 unfold fM
 have hl:=(Wq.1 hx).1
 rw[List.getElem?_append_left (by simp; omega),List.getElem?_map,List.getElem?_take,if_pos hi,hx]
 rfl
def aG (es:List Edge) (s:Int):List Edge:=es.filter fun e=>e.fr==s
theorem lO (es:List Edge) (s:Int):(aG es s).length<=es.length:=Yd _ _
def Jx (a b:List Edge) (p q:Int):Option Edge:=(aG a p).find? fun e=>!(bh q e.send e.label b).isSome
def Va (M:List (List Int)) (p q:Int):Int:=(M.getD p.toNat []).getD q.toNat 0
def Sl (b:List Edge) (M:List (List Int)) (q k:Int) (e:Edge):Bool:=match bh q e.send e.label b with
 |some n=>decide (Va M e.to n=k)
 |none=>false
def Sm (a b:List Edge) (M:List (List Int)) (p q k:Int):Option Edge:=(aG a p).find? (Sl b M q k)
def V6 (a b:List Edge) (p q:Int):Bool:=(Jx a b p q).isSome||(Jx b a q p).isSome
def V7 (c:Bool):Int:=if c=true then 1 else 0
def V8 (a b:List Edge) (nb p q:Nat):List Int:=fM (fun(q:Nat)=>V7 (V6 a b p q)) 0 (List.range nb) q
def Sn (a b:List Edge) (nb m:Nat):List (List Int):=(List.range m).map fun p=>V8 a b nb p nb
def Vb (M:List (List Int)) (p q:Nat) (v:Int):List (List Int):=M.set p ((M.getD p []).set q v)
def Sp (a b:List Edge) (k:Int) (p:Nat) (M:List (List Int)) (q:Nat):List (List Int):=if (Sm a b M p q k).isSome=true/\Va M p q=0 then Vb M p q (k+1) else M
def Vc (a b:List Edge) (nb:Nat) (k:Int) (M:List (List Int)) (p:Nat):List (List Int):=(List.range nb).foldl (Sp a b k p) M
def Nb (a b:List Edge) (na nb:Nat) (k:Int) (M:List (List Int)):List (List Int):=(List.range na).foldl (Vc a b nb k) M
def Sq (a b:List Edge) (na nb:Nat):Nat->List (List Int)
 |0=>Sn a b nb na
 |j+1=>Nb a b na nb ((j+1:Nat):Int) (Sq a b na nb j)
def differ (a b:aL):List (List Int):=Sq a.aa b.aa a.ai.toNat b.ai.toNat (a.ai.toNat*b.ai.toNat)
end Go.Pv
