/-
 What the functions of the law give.
-/
import Derived.Test.YtpchfogcccagjaaGreatC5
set_option linter.unusedSimpArgs false
set_option linter.unusedVariables false
open List renaming getElem?_eq_some_iff → V9, mem_of_getElem? → Wa, mem_iff_getElem? → Wd, getElem?_map → Wf, length_map → Wg, mem_map → Wk, getD_eq_getElem?_getD → Ws, all_eq_true → Wu, length_append → Wz, map_append → WC, mem_cons_self → WH, length_range → WI, mem_range → WJ, append_assoc → WK, take_add_one → WL, take_length → WV, any_eq_false → WY, mem_cons_of_mem → W3, mem_filterMap → W4, length_take → W8, append_nil → Xh, any_eq_true → Xm, find?_eq_none → Xn, range_succ → Xq, length_set → Xx, find?_some → XH, filterMap_append → XI, mem_or_eq_of_mem_set → XK, map_cons → XQ, length_filter_le → XW
open Nat renaming le_refl → Wj, le_trans → WM, not_lt_zero → Xo
open Option renaming map_eq_some_iff → Wx, bind_eq_some_iff → XP
open Int renaming toNat_natCast → WX, emod_nonneg → XJ, emod_lt_of_pos → XR, le_refl → XS
open Bool renaming true_and → WZ, eq_iff_iff → Xb, false_and → Xu, eq_false_iff → Xz, and_eq_true → XX
namespace Go.Pv
noncomputable def ua (v:ij):Int:=
 if 8<v.calls.length\/8<v.aG.length\/8<v.aT.length then 3
 else if isName v.name=false then 1
 else if iW v.types≠0 then iW v.types
 else if dV (qS v.types.length v.calls) v.calls≠0 then dV (qS v.types.length v.calls) v.calls
 else if dV (pY v.types.length v.aG) v.aG≠0 then dV (pY v.types.length v.aG) v.aG
 else dV (pX v.types.length v.aT) v.aT
theorem qD {T:List aH} (h:iW T=0):cS T=0:=by
 unfold iW at h
 split at h
 .rename_i h1
  exact absurd h h1
 .rename_i h1
  exact(lD (by simpa using h1)).1
theorem r440 (t:Int) (u:Nat) (nm:PV) (tt:Nat) (T:List (List PV)) (c1 c2 c3:PV) (hl:T.length<=2^63 - 1):res A aA 440 [.int .i64 t,.ro u [nm,.aq tt T,c1,c2,c3]]=some [.bool (dP T.length t)]:=by
 refine aw a440 rfl rfl ?_
 simp only[F440,Lf]
 unfold dP
 simp(disch:=omega)only[go_sem]
 refine Br.aJ (fun c=>?_) (fun c=>?_)<;>simp(disch:=omega)only[go_sem,c,decide_true,decide_false,Bool.true_or,Bool.false_or]
theorem r443 (x y:eE) (u:Nat):res A aA 443 [.agg x.c,.ro u y.c]=some [.bool (decide (x.name=y.name))]:=by
 refine aw a443 rfl rfl ?_
 simp only[F443,Lh,eE.c]
 simp(disch:=omega)only[go_sem]
theorem r448b (t u:Nat) (l:List eE) (y:eE) (hl:l.length<=2^63 - 1):res A aA 448 [.aq t (aG l),.func 443 [.ro u y.c]]=some [.int .i64 (bj (fun w=>decide (w.name=y.name)) l)]:=by
 refine aw a448 rfl rfl ?_
 simp only[F448,Hp]
 simp(disch:=omega)only[go_sem]
 refine W.find l (fun w=>decide (w.name=y.name)) (fun k=>⟨[(0,.pv (.aq t (aG l))),(1,.pv (.func 443 [.ro u y.c])),(7,.pv (.int .i64 l.length)),(8,.pv (.int .i64 k))],⟨[],[],[]⟩⟩) rfl (fun k x hx hk hfd=>?_) (fun hn=>?_)
 .have h443:=r443 x y u
  simp only[eE.c]at h443 |-
  simp(disch:=omega)only[go_sem]
  refine Br.aJ (fun h=>?_) (fun h=>(h (by omega)).elim)
  simp(disch:=omega)only[go_sem,hx,Option.map_some,eE.c,h443]
  refine Br.of (fun h2=>?_) (fun h2=>?_)<;>simp(disch:=omega)only[go_sem]
  .rw[(hfd h2).bj]
  .exact bB.of h2 rfl
 .simp(disch:=omega)only[go_sem]
  rw[hn.bj]
theorem r442 (t u:Nat) (l:List eE) (y:eE) (hl:l.length<=2^63 - 1):res A aA 442 [.aq t (aG l),.func 443 [.ro u y.c]]=some [.bool (cY (l.map (·.name)) y.name)]:=by
 refine aw a442 rfl rfl ?_
 simp only[F442,Lg]
 have h448:=r448b t u l y hl
 have e:decide (0<=bj (fun w=>decide (w.name=y.name)) l)=cY (l.map (·.name)) y.name:=by
  unfold cY
  rw[List.any_map]
  rcases ko (fun w:eE=>decide (w.name=y.name)) l with⟨f1,f2⟩|⟨k,x,f1,f2,f3⟩
  .rw[f2]
   symm
   rw[show decide ((0:Int)<= -1)=false from rfl,WY]
   exact Xn.1 f1
  .rw[f3]
   symm
   rw[show decide ((0:Int)<=(k:Int))=true by simp,List.any_eq_true]
   exact⟨x,List.mem_of_find?_eq_some f1,XH f1⟩
 simp only[eE.c]at h448 |-
 simp(disch:=omega)only[go_sem,h448]
 rw[e]
theorem wJ (l:List eE):aO 5 (.inl (aG l))=true:=yD fun r hr=>by
 obtain⟨w,_,rfl⟩:=Wk.1 hr
 rfl
set_option maxHeartbeats 4000000 in
theorem r407 (t1 t2 t3 t4:Nat) (v:ij) (hv:iX v):res A aA 407 [.agg (lB t1 t2 t3 t4 v)]=some [.int .i64 (ua v)]:=by
 have h1:=hv.cl
 have h2:=hv.sl
 have h3:=hv.pl
 have htl:=hv.tl
 have hrf:=wJ v.aG
 have h306:=r306 v.name hv.nm
 have h439:=fun u=>r439 u v.types hv.tl hv.to hv.ts
 refine aw a407 rfl rfl ?_
 unfold ua
 simp only[F407,K8,lB]
 have hs0:=qD (T:=v.types)
 generalize iW v.types=e0 at *
 simp(disch:=omega)only[go_sem]
 refine Br.aJ (fun c1=>?_) (fun c1=>?_)<;>simp(disch:=omega)only[go_sem,c1]
 .rw[if_pos (by omega)]
 refine Br.aJ (fun c2=>?_) (fun c2=>?_)<;>simp(disch:=omega)only[go_sem,c2]
 .rw[if_pos (by omega)]
 refine Br.aJ (fun c3=>?_) (fun c3=>?_)<;>simp(disch:=omega)only[go_sem,c3,h306]
 .rw[if_pos (by omega)]
 rw[if_neg (by omega)]
 cases hi:isName v.name with
 |false=>simp(disch:=omega)only[go_sem,if_true]
 |true=>
  simp(disch:=omega)only[go_sem,h439]
  rw[if_neg (by decide)]
  refine Br.aJ (fun c=>?_) (fun c=>?_)<;>simp(disch:=omega)only[go_sem]
  rotate_left
  .rw[if_pos c]
  have hvalid:=hs0 c
  rw[if_neg (by simp[c])]
  obtain⟨G,hG⟩:∃G,(if dV (qS v.types.length v.calls) v.calls≠0 then dV (qS v.types.length v.calls) v.calls
   else if dV (pY v.types.length v.aG) v.aG≠0 then dV (pY v.types.length v.aG) v.aG
   else dV (pX v.types.length v.aT) v.aT)=G:=⟨_,rfl⟩
  rw[hG]
  refine W.find (List.range v.calls.length) (fun k=>decide (pW (qS v.types.length v.calls) v.calls k≠0)) (fun k=>⟨[(1,.ptr 1 0),(4,.func 440 [.ptr 1 0]),(5,.ptr 5 0),(6,.ptr 6 0),(46,.pv (.aq t2 (ch v.calls))),(47,.pv (.int .i64 v.calls.length)),(48,.pv (.int .i64 k))],⟨[(1,[.pv (.str v.name),.pv (.aq t1 (v.types.map aH.c)),.pv (.aq t2 (ch v.calls)),.pv (.aq t3 (aG v.aG)),.pv (.aq t4 (df v.aT))]),(5,[dh 0 (strs ((v.calls.map (·.name)).take k))]),(6,[.tl []])],cK 1 (strs ((v.calls.map (·.name)).take k)),[]⟩⟩) rfl (fun i k hx hk hfd=>?_) (fun hn=>?_)
  .obtain⟨rfl,hk⟩:=ey hx
   obtain⟨x,hx⟩:=get_some hk
   have done:∀e:Int,qS v.types.length v.calls k x=e->e≠0->(some [PV.int .i64 e]:Option (List PV))=some [.int .i64 G]:=fun e h1 h2=>by
    have h3:=kr hx (hfd (by rw[gp hx,h1]; exact decide_eq_true h2))
    rw[<- hG,h3,h1,if_pos h2]
   rw[gp hx]
   have hnx:(v.calls.map (·.name)).take (k+1)=(v.calls.map (·.name)).take k++[x.name]:=by
    rw[WL,Wf,hx]
    rfl
   have hsl:((v.calls.map (·.name)).take k).length<=8:=by rw[W8,Wg]; omega
   unfold qS at done |-
   generalize (v.calls.map (·.name)).take k=sn at *
   simp(disch:=omega)only[go_sem]
   refine Br.aJ (fun c=>?_) (fun c=>(c (by omega)).elim)
   simp(disch:=omega)only[go_sem,hx,mi.c]
   refine call5 (eL _ _) (B3 x.name sn (hv.cs x (Wa hx)) (by omega) _ fun env=>?_)
   cases hi:isName x.name with
   |false=>
    rw[if_pos rfl]
    refine hZ (eL _ _) ⟨_,rfl⟩ ?_
    simp(disch:=omega)only[go_sem]
    exact done 1 (by rw[if_pos hi]) (by decide)
   |true=>
    rw[if_neg (by decide)]
    cases hh:cY sn x.name with
    |true=>
     rw[if_pos rfl]
     refine hZ (eL _ _) ⟨_,rfl⟩ ?_
     simp(disch:=omega)only[go_sem]
     exact done 5 (by rw[if_neg (by simp[hi]),if_pos hh]) (by decide)
    |false=>
     rw[if_neg (by decide)]
     refine hZ (eL _ _) ⟨_,rfl⟩ ?_
     rw[if_neg (by simp[hi]),if_neg (by simp[hh])]at done |-
     have h440:=fun t u=>r440 t u (.str v.name) t1 (v.types.map aH.c) (.aq t2 (ch v.calls)) (.aq t3 (aG v.aG)) (.aq t4 (df v.aT)) (by rw[Wg]; omega)
     rw[Wg]at h440
     simp(disch:=omega)only[go_sem,h440]
     cases h1:dP v.types.length x.ud with
     |true=>
      simp(disch:=omega)only[go_sem]
      exact done 4 (by rw[h1]; rfl) (by decide)
     |false=>
      simp(disch:=omega)only[go_sem,h440]
      cases h2:dP v.types.length x.rep with
      |true=>
       simp(disch:=omega)only[go_sem]
       exact done 4 (by rw[h1,h2]; rfl) (by decide)
      |false=>
       simp(disch:=omega)only[go_sem]
       exact bB.of (by simp) (by rw[hnx]; rfl)
  .rw[WI]
   have hz:=ku hn
   rw[if_neg (by simp[hz])]at hG
   clear hn hz
   obtain⟨X,hXd⟩:∃X,cK 1 (strs ((v.calls.map (·.name)).take v.calls.length))=X:=⟨_,rfl⟩
   have hX:X=[]\/∃a,X=[a]:=by
    rw[<- hXd]
    cases strs ((v.calls.map (·.name)).take v.calls.length)with
    |nil=>exact .inl rfl
    |cons y r=>exact .inr ⟨_,rfl⟩
   rw[hXd]
   clear hXd
   simp(disch:=omega)only[go_sem]
   refine W.find (List.range v.aG.length) (fun k=>decide (pW (pY v.types.length v.aG) v.aG k≠0)) (fun k=>⟨[(1,.ptr 1 0),(4,.func 440 [.ptr 1 0]),(6,.ptr 6 0),(70,.pv (.aq t3 (aG v.aG))),(71,.pv (.int .i64 v.aG.length)),(72,.pv (.int .i64 k))],⟨[(1,[.pv (.str v.name),.pv (.aq t1 (v.types.map aH.c)),.pv (.aq t2 (ch v.calls)),.pv (.aq t3 (aG v.aG)),.pv (.aq t4 (df v.aT))]),(6,[.tl []])],X,[]⟩⟩) rfl (fun i k hx hk hfd=>?_) (fun hn=>?_)
   .obtain⟨rfl,hk⟩:=ey hx
    obtain⟨x,hx⟩:=get_some hk
    have done:∀e:Int,pY v.types.length v.aG k x=e->e≠0->(some [PV.int .i64 e]:Option (List PV))=some [.int .i64 G]:=fun e h1 h2=>by
     have h3:=kr hx (hfd (by rw[gp hx,h1]; exact decide_eq_true h2))
     rw[<- hG,h3,h1,if_pos h2]
    rw[gp hx]
    obtain⟨s1,s2,s3,s4⟩:=hv.ss x (Wa hx)
    have h444:=fun u=>r444 u v.types x hv.tl hv.to hv.ts s2 s1 s3 s4
    rw[if_neg (by simp[hvalid])]at h444
    have h442:=fun t u=>r442 t u (v.aG.take k) x (by rw[W8]; omega)
    have hst:(aG v.aG).take k=aG (v.aG.take k):=(List.map_take ..).symm
    rw[List.map_take]at h442
    unfold pY at done |-
    simp only[eE.c]at h444 h442
    simp(disch:=omega)only[go_sem]
    refine Br.aJ (fun c=>?_) (fun c=>(c (by omega)).elim)
    simp(disch:=omega)only[go_sem,hx,Option.map_some,eE.c,hrf,hst,h442]
    cases hh:cY ((v.aG.map (·.name)).take k) x.name with
    |true=>
     simp(disch:=omega)only[go_sem]
     exact done 5 (by rw[if_pos hh]) (by decide)
    |false=>
     rw[if_neg (by simp[hh])]at done |-
     generalize te v.types.length x=e at *
     simp(disch:=omega)only[go_sem,h444]
     refine Br.aJ (fun c=>?_) (fun c=>?_)<;>simp(disch:=omega)only[go_sem]
     .exact bB.of (by simp[c]) rfl
     .exact done e rfl c
   .rw[WI]
    have hz:=ku hn
    rw[if_neg (by simp[hz])]at hG
    clear hn hz
    simp(disch:=omega)only[go_sem]
    rcases hX with rfl|⟨a,rfl⟩
    .refine W.find (List.range v.aT.length) (fun k=>decide (pW (pX v.types.length v.aT) v.aT k≠0)) (fun k=>⟨[(4,.func 440 [.ptr 1 0]),(6,.ptr 6 0),(92,.pv (.aq t4 (df v.aT))),(93,.pv (.int .i64 v.aT.length)),(94,.pv (.int .i64 k))],⟨[(1,[.pv (.str v.name),.pv (.aq t1 (v.types.map aH.c)),.pv (.aq t2 (ch v.calls)),.pv (.aq t3 (aG v.aG)),.pv (.aq t4 (df v.aT))]),(6,[dh 0 (strs ((v.aT.map (·.name)).take k))])],cK 1 (strs ((v.aT.map (·.name)).take k)),[]⟩⟩) rfl (fun i k hx hk hfd=>?_) (fun hn=>?_)
     .obtain⟨rfl,hk⟩:=ey hx
      obtain⟨x,hx⟩:=get_some hk
      have done:∀e:Int,pX v.types.length v.aT k x=e->e≠0->(some [PV.int .i64 e]:Option (List PV))=some [.int .i64 G]:=fun e h1 h2=>by
       have h3:=kr hx (hfd (by rw[gp hx,h1]; exact decide_eq_true h2))
       rw[<- hG,h3,h1]
      rw[gp hx]
      have hnx:(v.aT.map (·.name)).take (k+1)=(v.aT.map (·.name)).take k++[x.name]:=by
       rw[WL,Wf,hx]
       rfl
      have hsl:((v.aT.map (·.name)).take k).length<=8:=by rw[W8,Wg]; omega
      unfold pX at done |-
      generalize (v.aT.map (·.name)).take k=sn at *
      simp(disch:=omega)only[go_sem]
      refine Br.aJ (fun c=>?_) (fun c=>(c (by omega)).elim)
      simp(disch:=omega)only[go_sem,hx,mj.c]
      refine call6 (eL _ _) (B3 x.name sn (hv.ps x (Wa hx)) (by omega) _ fun env=>?_)
      cases hi:isName x.name with
      |false=>
       rw[if_pos rfl]
       refine hZ (eL _ _) ⟨_,rfl⟩ ?_
       simp(disch:=omega)only[go_sem]
       exact done 1 (by rw[if_pos hi]) (by decide)
      |true=>
       rw[if_neg (by decide)]
       cases hh:cY sn x.name with
       |true=>
        rw[if_pos rfl]
        refine hZ (eL _ _) ⟨_,rfl⟩ ?_
        simp(disch:=omega)only[go_sem]
        exact done 5 (by rw[if_neg (by simp[hi]),if_pos hh]) (by decide)
       |false=>
        rw[if_neg (by decide)]
        refine hZ (eL _ _) ⟨_,rfl⟩ ?_
        rw[if_neg (by simp[hi]),if_neg (by simp[hh])]at done |-
        have h440:=fun t u=>r440 t u (.str v.name) t1 (v.types.map aH.c) (.aq t2 (ch v.calls)) (.aq t3 (aG v.aG)) (.aq t4 (df v.aT)) (by rw[Wg]; omega)
        rw[Wg]at h440
        simp(disch:=omega)only[go_sem,h440]
        cases h1:dP v.types.length x.ty with
        |true=>
         simp(disch:=omega)only[go_sem]
         exact done 4 (by rw[h1]; rfl) (by decide)
        |false=>
         simp(disch:=omega)only[go_sem]
         exact bB.of (by simp) (by rw[hnx]; rfl)
     .rw[WI]
      have hz:=ku hn
      rw[hz]at hG
      rw[<- hG]
      simp(disch:=omega)only[go_sem]
    .refine W.find (List.range v.aT.length) (fun k=>decide (pW (pX v.types.length v.aT) v.aT k≠0)) (fun k=>⟨[(4,.func 440 [.ptr 1 0]),(6,.ptr 6 0),(92,.pv (.aq t4 (df v.aT))),(93,.pv (.int .i64 v.aT.length)),(94,.pv (.int .i64 k))],⟨[(1,[.pv (.str v.name),.pv (.aq t1 (v.types.map aH.c)),.pv (.aq t2 (ch v.calls)),.pv (.aq t3 (aG v.aG)),.pv (.aq t4 (df v.aT))]),(6,[dh 1 (strs ((v.aT.map (·.name)).take k))])],a::cK 1 (strs ((v.aT.map (·.name)).take k)),[]⟩⟩) rfl (fun i k hx hk hfd=>?_) (fun hn=>?_)
     .obtain⟨rfl,hk⟩:=ey hx
      obtain⟨x,hx⟩:=get_some hk
      have done:∀e:Int,pX v.types.length v.aT k x=e->e≠0->(some [PV.int .i64 e]:Option (List PV))=some [.int .i64 G]:=fun e h1 h2=>by
       have h3:=kr hx (hfd (by rw[gp hx,h1]; exact decide_eq_true h2))
       rw[<- hG,h3,h1]
      rw[gp hx]
      have hnx:(v.aT.map (·.name)).take (k+1)=(v.aT.map (·.name)).take k++[x.name]:=by
       rw[WL,Wf,hx]
       rfl
      have hsl:((v.aT.map (·.name)).take k).length<=8:=by rw[W8,Wg]; omega
      unfold pX at done |-
      generalize (v.aT.map (·.name)).take k=sn at *
      simp(disch:=omega)only[go_sem]
      refine Br.aJ (fun c=>?_) (fun c=>(c (by omega)).elim)
      simp(disch:=omega)only[go_sem,hx,mj.c]
      refine call6 (eL _ _) (Fy a x.name sn (hv.ps x (Wa hx)) (by omega) _ fun env=>?_)
      cases hi:isName x.name with
      |false=>
       rw[if_pos rfl]
       refine hZ (eL _ _) ⟨_,rfl⟩ ?_
       simp(disch:=omega)only[go_sem]
       exact done 1 (by rw[if_pos hi]) (by decide)
      |true=>
       rw[if_neg (by decide)]
       cases hh:cY sn x.name with
       |true=>
        rw[if_pos rfl]
        refine hZ (eL _ _) ⟨_,rfl⟩ ?_
        simp(disch:=omega)only[go_sem]
        exact done 5 (by rw[if_neg (by simp[hi]),if_pos hh]) (by decide)
       |false=>
        rw[if_neg (by decide)]
        refine hZ (eL _ _) ⟨_,rfl⟩ ?_
        rw[if_neg (by simp[hi]),if_neg (by simp[hh])]at done |-
        have h440:=fun t u=>r440 t u (.str v.name) t1 (v.types.map aH.c) (.aq t2 (ch v.calls)) (.aq t3 (aG v.aG)) (.aq t4 (df v.aT)) (by rw[Wg]; omega)
        rw[Wg]at h440
        simp(disch:=omega)only[go_sem,h440]
        cases h1:dP v.types.length x.ty with
        |true=>
         simp(disch:=omega)only[go_sem]
         exact done 4 (by rw[h1]; rfl) (by decide)
        |false=>
         simp(disch:=omega)only[go_sem]
         exact bB.of (by simp) (by rw[hnx]; rfl)
     .rw[WI]
      have hz:=ku hn
      rw[hz]at hG
      rw[<- hG]
      simp(disch:=omega)only[go_sem]
theorem lI {α:Type} {f:Nat->α->Int} {l:List α} (h:dV f l=0):∀(k:Nat) (x:α),l[k]?=some x->f k x=0:=by
 intro k x hx
 unfold dV at h
 cases hf:(List.range l.length).find? (fun k=>decide (pW f l k≠0))with
 |none=>
  have:=Xn.1 hf k (WJ.2 (V9.1 hx).1)
  rw[gp hx]at this
  simpa using this
 |some j=>
  rw[hf]at h
  have:=XH hf
  simp[h]at this
theorem lJ {α:Type} {f:Nat->α->Int} {l:List α} (h:∀(k:Nat) (x:α),l[k]?=some x->f k x=0):dV f l=0:=by
 unfold dV
 have:(List.range l.length).find? (fun k=>decide (pW f l k≠0))=none:=by
  rw[Xn]
  intro k hk
  obtain⟨x,hx⟩:=get_some (WJ.1 hk)
  rw[gp hx,h k x hx]
  simp
 rw[this]
theorem rr {n:Nat} {u:Int} (h:dP n u=false):0<=u/\u<n:=by
 simp[dP]at h
 omega
structure Fz (n:Nat) (w:eE):Prop where
 zn:w.msgs.length<=16
 V7:lH w=true
 ty:∀m∈w.msgs,0<=m.ty/\m.ty<n
 au:w.auto.err=0
 V8:∀e∈w.auto.af,w.msgs.any (lG e.label)=true
 all:(w.auto.order.length:Int)=w.auto.aj
theorem Df {n:Nat} {w:eE} (h:te n w=0):Fz n w:=by
 unfold te at h
 split at h
 .cases h
 rename_i h1
 split at h
 .cases h
 rename_i h2
 split at h
 .cases h
 rename_i h3
 split at h
 .rename_i h4
  exact absurd h h4
 rename_i h4
 split at h
 .cases h
 rename_i h5
 split at h
 .cases h
 rename_i h6
 refine⟨by omega,by simpa using h2,fun m hm=>?_,by simpa using h4,fun e he=>?_,by simpa using h6⟩
 .have:=List.any_eq_false.1 (by simpa using h3) m hm
  exact rr (by simpa using this)
 .have:=List.any_eq_false.1 (by simpa using h5:w.auto.af.any (fun e=>!w.msgs.any (lG e.label))=false) e he
  simpa using this
structure cH (v:ij):Prop where
 zn:v.calls.length<=8/\v.aG.length<=8/\v.aT.length<=8
 nm:isName v.name=true
 sound:iW v.types=0
 TA:∀(k:Nat) c,v.calls[k]?=some c->qS v.types.length v.calls k c=0
 TB:∀(k:Nat) w,v.aG[k]?=some w->pY v.types.length v.aG k w=0
 top:∀(k:Nat) c,v.aT[k]?=some c->pX v.types.length v.aT k c=0
theorem vj {v:ij} (h:ua v=0):cH v:=by
 unfold ua at h
 split at h
 .cases h
 rename_i h1
 split at h
 .cases h
 rename_i h2
 split at h
 .rename_i h3
  exact absurd h h3
 rename_i h3
 split at h
 .rename_i h4
  exact absurd h h4
 rename_i h4
 split at h
 .rename_i h5
  exact absurd h h5
 rename_i h5
 exact⟨by omega,by simpa using h2,by simpa using h3,lI (by simpa using h4),lI (by simpa using h5),lI h⟩
theorem cH.err {v:ij} (h:cH v):ua v=0:=by
 unfold ua
 rw[if_neg (by have:=h.zn; omega),if_neg (by rw[h.nm]; decide),if_neg (by rw[h.sound]; decide),lJ h.TA,lJ h.TB,lJ h.top]
 simp
theorem pZ {n:Nat} {l:List mi} {k:Nat} {c:mi} (h:qS n l k c=0):isName c.name=true/\cY ((l.map (·.name)).take k) c.name=false/\(0<=c.ud/\c.ud<n)/\0<=c.rep/\c.rep<n:=by
 unfold qS at h
 split at h
 .cases h
 rename_i h1
 split at h
 .cases h
 rename_i h2
 split at h
 .cases h
 rename_i h3
 simp only[Bool.or_eq_true,not_or,Bool.not_eq_true]at h3
 exact⟨by simpa using h1,by simpa using h2,rr h3.1,rr h3.2⟩
theorem p4 {n:Nat} {l:List mj} {k:Nat} {c:mj} (h:pX n l k c=0):isName c.name=true/\cY ((l.map (·.name)).take k) c.name=false/\0<=c.ty/\c.ty<n:=by
 unfold pX at h
 split at h
 .cases h
 rename_i h1
 split at h
 .cases h
 rename_i h2
 split at h
 .cases h
 rename_i h3
 exact⟨by simpa using h1,by simpa using h2,rr (by simpa using h3)⟩
theorem vk {n:Nat} {l:List eE} {k:Nat} {w:eE} (h:pY n l k w=0):cY ((l.map (·.name)).take k) w.name=false/\Fz n w:=by
 unfold pY at h
 split at h
 .cases h
 rename_i h1
 exact⟨by simpa using h1,Df h⟩
theorem cH.call {v:ij} (h:cH v):∀c∈v.calls,(0<=c.ud/\c.ud<v.types.length)/\0<=c.rep/\c.rep<v.types.length:=fun c hc=>by
 obtain⟨k,hk⟩:=Wd.1 hc
 exact(pZ (h.TA k c hk)).2.2
theorem cH.I4 {v:ij} (h:cH v):∀c∈v.aT,0<=c.ty/\c.ty<v.types.length:=fun c hc=>by
 obtain⟨k,hk⟩:=Wd.1 hc
 exact(p4 (h.top k c hk)).2.2
theorem cH.wK {v:ij} (h:cH v):∀w∈v.aG,Fz v.types.length w:=fun c hc=>by
 obtain⟨k,hk⟩:=Wd.1 hc
 exact(vk (h.TB k c hk)).2
theorem cH.valid {v:ij} (h:cH v):cS v.types=0:=qD h.sound
def R2 (d:Int) (s:List Int×List Int) (x:Int):List Int×List Int:=if s.1.getD x.toNat (-1)<0 then (s.1.set x.toNat d,s.2++[x]) else s
def I5 (nx:Int->List Int):Nat->Nat->List Int×List Int->List Int×List Int
 |0,_,s=>s
 |n+1,i,s=>match s.2[i]? with
  |none=>s
  |some v=>I5 nx n (i+1) ((nx v).foldl (R2 (s.1.getD v.toNat (-1)+1)) s)
def levels (nx:Int->List Int) (n:Nat) (fr:List Int):List Int:=(I5 nx n 0 (fr.foldl (R2 0) (List.replicate n (-1),[]))).1
@[go_sem] theorem r33e (t:Nat) (n s:Int) (l:List Edge) (hl:l.length<=2000000000):res A aA 33 [.agg [.int .i64 n,.int .i64 s,.aq t (bF l)]]=some (if (⟨n,s,l⟩:aP).err=0 then [.agg [.int .i64 (⟨n,s,l⟩:aP).order.length,.int .i64 0,.aq 0 (bF (mA Edge.lt (kept (⟨n,s,l⟩:aP).order l)))],.int .i64 0] else [.agg [.int .i64 0,.int .i64 0,.aq 0 []],.int .i64 (⟨n,s,l⟩:aP).err]):=r33 t ⟨n,s,l⟩ hl
def ej.from (d:ej) (s:Int):aP:=⟨1+d.n%4,s%(1+d.n%4),d.auto.af⟩
structure Mv where
 send:Bool
 label:Int
 cls:Int
 deriving DecidableEq,Inhabited
def Mv.c (m:Mv):List PV:=[.bool m.send,.int .i64 m.label,.int .i64 m.cls]
def VL (l:List Mv):List (List PV):=l.map Mv.c
@[go_sem] theorem Tv:VL []=[]:=rfl
@[go_sem] theorem Mv.EB (m:Mv):m.c=[.bool m.send,.int .i64 m.label,.int .i64 m.cls]:=rfl
def FA (es:List Edge) (s:Int) (c:List Int):List Mv:=(es.filter fun e=>e.fr==s).map fun e=>⟨e.send,e.label,c.getD e.to.toNat 0⟩
def UT (es:List Edge) (c:List Int) (k i:Nat):Bool:=decide (c.getD k 0=c.getD i 0)&&decide (FA es (k:Int) c=FA es (i:Int) c)
def MF (es:List Edge) (c:List Int) (i:Nat):Nat:=((List.range i).find? fun k=>UT es c k i).getD i
def R3 (n:Nat) (es:List Edge) (c:List Int):List Int:=(List.range n).map fun i=>(MF es c i:Int)
def cls (n:Nat) (es:List Edge):Nat->List Int
 |0=>List.replicate n 0
 |j+1=>R3 n es (cls n es j)
def AC.one:AC->AC
 |.seq a _=>a
 |c=>c
def AC.two:AC->AC
 |.seq _ b=>b
 |c=>c
theorem tf (bx:List (Nat×List V)) (mp:List (List (PV×PV))) (pre post:List aL) (k d:Nat) (rows:List (List PV)):aY ⟨bx,pre++(cK k rows++post),mp⟩ (d+1) (dh pre.length rows)=some (.aq 0 rows):=by
 cases rows with
 |nil=>rfl
 |cons x q=>
  have:=Ag bx mp pre post k x q
  simp[dh,dS,this,bO,az]
def fX (c:UInt8) (k:Nat):ByteArray:=⟨#[c]⟩++Utf8.encode (97+(k:Int))
theorem vn {k:Nat} (h:k<3):(Utf8.encode (97+(k:Int))).size=1:=by
 have:∀k:Fin 3,(Utf8.encode (97+((k.val:Nat):Int))).size=1:=by decide
 exact this ⟨k,h⟩
theorem mb {c:UInt8} {k:Nat} (h:k<3):cB .add (.pv (.str ⟨#[c]⟩)) (.pv (.str (Utf8.encode (97+(k:Int)))))=some (.pv (.str (fX c k))):=by
 have h1:(⟨#[c]⟩:ByteArray).size=1:=rfl
 have h2:(1:Nat)+1<=1099511627776:=by omega
 simp only[cB,kI,h1,vn h,h2,if_true,Option.map_some]
 rfl
structure vo where
 a:ej
 x:Int
 y:Int
 z:Int
def vo.c (s:vo):List PV:=[.int .u8 s.a.n,.aq 0 (s.a.gH.map vb.c),.int .u8 s.x,.int .u8 s.y,.int .u8 s.z]
def vo.ok (s:vo):Prop:=s.a.ok/\(0<=s.x/\s.x<=255)/\(0<=s.y/\s.y<=255)/\0<=s.z/\s.z<=255
def dD (T:List aH) (k:Nat):List Int:=((List.range k).filter fun(i:Nat)=>!decide ((ji T i).name=⟨#[]⟩)).map fun(i:Nat)=>(i:Int)
def fY (N:List Int) (x:Int):Int:=N.getD (x%N.length).toNat 0
def ek (N:List Int) (s:vo):List gI:=[⟨1,fX 77 0,fY N s.x⟩,⟨2,fX 77 1,fY N s.y⟩,⟨3,fX 77 2,fY N s.z⟩]
def ub (T:List aH) (nm:ByteArray) (s:vo):Option eE:=if (s.a.gH.length:Int)<=12/\dD T T.length≠[] then some ⟨nm,ek (dD T T.length) s,s.a.auto.trim⟩ else none
theorem y7 (T:List aH) (k:Nat):dD T (k+1)=if (ji T (k:Int)).name=⟨#[]⟩ then dD T k else dD T k++[(k:Int)]:=by
 unfold dD
 rw[Xq,List.filter_append]
 by_cases h:(ji T (k:Int)).name=⟨#[]⟩
 .rw[if_pos h]
  simp[h]
 .rw[if_neg h]
  simp[h]
theorem th (T:List aH) (k:Nat):(dD T k).length<=k:=by
 unfold dD
 rw[Wg]
 have:=XW (fun(i:Nat)=>!decide ((ji T i).name=⟨#[]⟩)) (List.range k)
 rw[WI]at this
 exact this
theorem vp {N:List Int} (h:N≠[]) (x:Int):(0<=x%N.length/\x%N.length<N.length)/\N[(x%N.length).toNat]?=some (fY N x):=by
 have hl:0<N.length:=List.length_pos_iff.2 h
 have h0:0<=x%(N.length:Int):=XJ _ (by omega)
 have h1:x%(N.length:Int)<N.length:=XR _ (by omega)
 refine⟨⟨h0,h1⟩,?_⟩
 unfold fY
 rw[Ws]
 obtain⟨y,hy⟩:=get_some (l:=N) (k:=(x%(N.length:Int)).toNat) (by omega)
 rw[hy]
 rfl
set_option maxHeartbeats 4000000 in
theorem r453 (t u:Nat) (T:List aH) (nm:ByteArray) (s:vo) (hs:s.ok) (hT:T.length<=100):res A aA 453 [.agg [.aq t (T.map aH.c)],.str nm,.agg [.int .u8 s.a.n,.aq u (s.a.gH.map vb.c),.int .u8 s.x,.int .u8 s.y,.int .u8 s.z]]=some (match ub T nm s with|some w=>[.agg w.c,.bool true]|none=>[.agg [.str ⟨#[]⟩,.aq 0 [],.int .i64 0,.int .i64 0,.aq 0 []],.bool false]):=by
 obtain⟨hd,⟨x0,x1⟩,⟨y0,y1⟩,z0,z1⟩:=hs
 have h25:=fun t=>r25 t s.a hd
 refine aw a453 rfl rfl ?_
 simp only[F453,Lp]
 simp(disch:=omega)only[go_sem]
 refine W.fv T.length (fun k=>⟨[(1,.pv (.str nm)),(3,.ptr 3 0),(5,.ptr 5 0),(6,.ptr 6 0),(8,dh 0 (ints (dD T k))),(9,.pv (.int .i64 k))],⟨[(3,[.pv (.aq t (T.map aH.c))]),(5,[.pv (.int .u8 s.a.n),.pv (.aq u (s.a.gH.map vb.c)),.pv (.int .u8 s.x),.pv (.int .u8 s.y),.pv (.int .u8 s.z)]),(6,[.pv (.str ⟨#[]⟩),.tl [],.pv (.int .i64 0),.pv (.int .i64 0),.tl []])],cK 1 (ints (dD T k)),[]⟩⟩) (fun _=>True) rfl trivial fun k hk _=>?_
 simp(disch:=omega)only[go_sem]
 refine Br.aJ (fun c=>?_) (fun c=>?_)
 .have hx:=uT (l:=T) (i:=k) (by omega) (by omega)
  rw[WX]at hx
  have hsn:=y7 T k
  have hnl:=th T k
  have hg:=fun bx mp=>grow bx mp [] 1 (ints (dD T k)) [.int .i64 k] rfl (by rw[bt]; omega)
  simp only[List.nil_append,List.length_nil]at hg
  generalize ji T (k:Int)=y at *
  cases hy:decide (y.name=⟨#[]⟩)with
  |true=>
   rw[if_pos (of_decide_eq_true hy)]at hsn
   simp(disch:=omega)only[go_sem,hx,Option.map_some,aH.c,hy]
   refine .of (by omega) ?_ trivial
   rw[hsn]
   rfl
  |false=>
   rw[if_neg (of_decide_eq_false hy)]at hsn
   simp(disch:=omega)only[go_sem,hx,Option.map_some,aH.c,hy,hg]
   refine .of (by omega) ?_ trivial
   rw[hsn]
   simp only[ints,List.map_append,List.map_cons,List.map_nil]
   rfl
 obtain rfl:k=T.length:=by omega
 have hnl:=th T T.length
 unfold ub
 generalize dD T T.length=N at *
 have hst:=s.a.st
 have hgood:=ej.vW hd (s:=0) ⟨XS _,by omega⟩
 have hlen:=s.a.len hd
 have hlt:=hgood.trim.len
 have h33:=fun t=>r33e t (1+s.a.n%4) 0 s.a.auto.af (by omega)
 have hs2:mA Edge.lt (kept (⟨1+s.a.n%4,0,s.a.auto.af⟩:aP).order s.a.auto.af)=s.a.auto.trim.af:=yN Edge.Fj Edge.u9 (s9 hgood.oV)
 rw[if_pos (aP.iV.2 hgood),hs2]at h33
 have hstr:s.a.auto.trim.aj=(⟨1+s.a.n%4,0,s.a.auto.af⟩:aP).order.length:=rfl
 have hstt:s.a.auto.trim.start=0:=rfl
 rw[<- hstr]at h33
 cases hb:decide ((s.a.gH.length:Int)<=12)with
 |false=>
  rw[hb]at h25
  rw[if_neg (fun h=>of_decide_eq_false hb h.1)]
  simp(disch:=omega)only[go_sem,h25]
 |true=>
  rw[hb]at h25
  cases N with
  |nil=>
   rw[if_neg (fun h=>h.2 rfl)]
   have hz:decide (((0:Nat):Int)=0)=true:=rfl
   simp(disch:=omega)only[go_sem,h25,hz]
  |cons q0 N=>
   rw[if_pos ⟨of_decide_eq_true hb,by simp⟩]
   have hz:decide (((N.length+1:Nat):Int)=0)=false:=decide_eq_false (by omega)
   have e0:(IntKind.wrap .i32 (97+((0:Nat):Int)))=97+((0:Nat):Int):=rfl
   have e1:(IntKind.wrap .i32 (97+((1:Nat):Int)))=97+((1:Nat):Int):=rfl
   have e2:(IntKind.wrap .i32 (97+((2:Nat):Int)))=97+((2:Nat):Int):=rfl
   simp(disch:=omega)only[go_sem,h25,hz,h33]
   have hiN:=bt N
   refine W.fv 3 (fun k=>⟨[(5,.ptr 5 0),(6,.ptr 6 0),(8,.own 0 N.length 0 (N.length+1)),(12,.ptr 12 0),(13,.pv (.int .i64 k))],⟨[(5,[.pv (.int .u8 s.a.n),.pv (.aq u (s.a.gH.map vb.c)),.pv (.int .u8 s.x),.pv (.int .u8 s.y),.pv (.int .u8 s.z)]),(6,[.pv (.str ⟨#[]⟩),.tl [],.pv (.int .i64 0),.pv (.int .i64 0),.tl []]),(12,[.pv (.str nm),dh 1 (msgs ((ek (q0::N) s).take k)),.pv (.int .i64 s.a.auto.trim.aj),.pv (.int .i64 0),.pv (.aq 0 (bF s.a.auto.trim.af))])],⟨N.length,1,.inl (ints (q0::N))⟩::cK 3 (msgs ((ek (q0::N) s).take k)),[]⟩⟩) (fun _=>True) (by rw[<- hiN]; rfl) trivial fun k hk _=>?_
   simp(disch:=omega)only[go_sem]
   have p:=fun x=>vp (N:=q0::N) (by simp) x
   rw[List.length_cons]at p
   have hnl2:N.length<=100:=by rw[List.length_cons]at hnl; omega
   have hA:∀X:List aL,(⟨N.length,1,.inl (ints (q0::N))⟩::X)[0]?=some ⟨N.length,1,.inl (ints (q0::N))⟩:=fun X=>rfl
   refine Br.aJ (fun c=>?_) (fun c=>?_)
   .rcases(show k=0\/k=1\/k=2 by omega)with rfl|rfl|rfl
    .obtain⟨⟨p0,p1⟩,p2⟩:=p s.x
     have hR:msgs ((ek (q0::N) s).take (0+1))=msgs ((ek (q0::N) s).take 0)++[[.int .i64 1,.str (fX 77 0),.int .i64 (fY (q0::N) s.x)]]:=rfl
     have hRl:(msgs ((ek (q0::N) s).take 0)).length=0:=rfl
     generalize msgs ((ek (q0::N) s).take 0)=rows at *
     have hg:∀bx mp,aK ⟨bx,⟨N.length,1,.inl (ints (q0::N))⟩::cK 3 rows,mp⟩ 3 (dh 1 rows) (.tl [[.int .i64 (((0:Nat):Int)+1),.str (fX 77 0),.int .i64 (fY (q0::N) s.x)]])=some (dh 1 (rows++[[.int .i64 (((0:Nat):Int)+1),.str (fX 77 0),.int .i64 (fY (q0::N) s.x)]]),tM 1 3 rows [.int .i64 (((0:Nat):Int)+1),.str (fX 77 0),.int .i64 (fY (q0::N) s.x)]):=fun bx mp=>grow bx mp [⟨N.length,1,.inl (ints (q0::N))⟩] 3 rows _ rfl (by omega)
     simp(disch:=omega)only[go_sem,e0,mb,hA,p2,hg]
     refine .of (by omega) ?_ trivial
     rw[hR]
     rfl
    .obtain⟨⟨p0,p1⟩,p2⟩:=p s.y
     have hR:msgs ((ek (q0::N) s).take (1+1))=msgs ((ek (q0::N) s).take 1)++[[.int .i64 2,.str (fX 77 1),.int .i64 (fY (q0::N) s.y)]]:=rfl
     have hRl:(msgs ((ek (q0::N) s).take 1)).length=1:=rfl
     generalize msgs ((ek (q0::N) s).take 1)=rows at *
     have hg:∀bx mp,aK ⟨bx,⟨N.length,1,.inl (ints (q0::N))⟩::cK 3 rows,mp⟩ 3 (dh 1 rows) (.tl [[.int .i64 (((1:Nat):Int)+1),.str (fX 77 1),.int .i64 (fY (q0::N) s.y)]])=some (dh 1 (rows++[[.int .i64 (((1:Nat):Int)+1),.str (fX 77 1),.int .i64 (fY (q0::N) s.y)]]),tM 1 3 rows [.int .i64 (((1:Nat):Int)+1),.str (fX 77 1),.int .i64 (fY (q0::N) s.y)]):=fun bx mp=>grow bx mp [⟨N.length,1,.inl (ints (q0::N))⟩] 3 rows _ rfl (by omega)
     simp(disch:=omega)only[go_sem,e1,mb,hA,p2,hg]
     refine .of (by omega) ?_ trivial
     rw[hR]
     rfl
    .obtain⟨⟨p0,p1⟩,p2⟩:=p s.z
     have hR:msgs ((ek (q0::N) s).take (2+1))=msgs ((ek (q0::N) s).take 2)++[[.int .i64 3,.str (fX 77 2),.int .i64 (fY (q0::N) s.z)]]:=rfl
     have hRl:(msgs ((ek (q0::N) s).take 2)).length=2:=rfl
     generalize msgs ((ek (q0::N) s).take 2)=rows at *
     have hg:∀bx mp,aK ⟨bx,⟨N.length,1,.inl (ints (q0::N))⟩::cK 3 rows,mp⟩ 3 (dh 1 rows) (.tl [[.int .i64 (((2:Nat):Int)+1),.str (fX 77 2),.int .i64 (fY (q0::N) s.z)]])=some (dh 1 (rows++[[.int .i64 (((2:Nat):Int)+1),.str (fX 77 2),.int .i64 (fY (q0::N) s.z)]]),tM 1 3 rows [.int .i64 (((2:Nat):Int)+1),.str (fX 77 2),.int .i64 (fY (q0::N) s.z)]):=fun bx mp=>grow bx mp [⟨N.length,1,.inl (ints (q0::N))⟩] 3 rows _ rfl (by omega)
     simp(disch:=omega)only[go_sem,e2,mb,hA,p2,hg]
     refine .of (by omega) ?_ trivial
     rw[hR]
     rfl
   .obtain rfl:k=3:=by omega
    simp(disch:=omega)only[go_sem]
    rfl
theorem FB {k:Nat} (h:k<3):IntKind.wrap .i32 (97+(k:Int))=97+(k:Int):=by
 rcases(show k=0\/k=1\/k=2 by omega)with rfl|rfl|rfl<;>rfl
structure Dg where
 s:List Node
 calls:List (Int×Int)
 aG:List vo
 aT:List Int
def Pj (c:Int×Int):List PV:=[.int .u8 c.1,.int .u8 c.2]
def Pk (c:Int):List PV:=[.int .u8 c]
def Dg.c (d:Dg):List PV:=[.aq 0 (d.s.map Node.cs),.aq 0 (d.calls.map Pj),.aq 0 (d.aG.map vo.c),.aq 0 (d.aT.map Pk)]
def MG (x:Int):Prop:=0<=x/\x<=255
structure Dg.ok (d:Dg):Prop where
 s:∀y∈d.s,y.ok
 sl:bP d.s
 c:∀x∈d.calls,MG x.1/\MG x.2
 cl:bP d.calls
 w:∀x∈d.aG,x.ok
 wl:bP d.aG
 t:∀x∈d.aT,MG x
 tl:bP d.aT
def eo (n:Int) (l:List (Int×Int)) (k:Nat):List mi:=(List.range k).filterMap fun i=>l[i]?.map fun x=>⟨fX 67 i,x.1%n,x.2%n⟩
def gT (n:Int) (l:List Int) (k:Nat):List mj:=(List.range k).filterMap fun i=>l[i]?.map fun x=>⟨fX 84 i,x%n⟩
def fZ (T:List aH) (l:List vo) (k:Nat):List eE:=(List.range k).filterMap fun i=>l[i]?.bind fun s=>ub T (fX 83 i) s
theorem y8 {n:Int} {l:List (Int×Int)} {k:Nat} {x:Int×Int} (h:l[k]?=some x):eo n l (k+1)=eo n l k++[⟨fX 67 k,x.1%n,x.2%n⟩]:=by
 unfold eo
 rw[Xq,XI]
 simp[h]
theorem AV {n:Int} {l:List Int} {k:Nat} {x:Int} (h:l[k]?=some x):gT n l (k+1)=gT n l k++[⟨fX 84 k,x%n⟩]:=by
 unfold gT
 rw[Xq,XI]
 simp[h]
theorem AW {T:List aH} {l:List vo} {k:Nat} {x:vo} (h:l[k]?=some x):fZ T l (k+1)=fZ T l k++(ub T (fX 83 k) x).toList:=by
 unfold fZ
 rw[Xq,XI]
 cases hs:ub T (fX 83 k) x<;>simp[h,hs]
theorem eJ {α:Type} (f:Nat->Option α) (k:Nat):((List.range k).filterMap f).length<=k:=by
 have:=List.length_filterMap_le f (List.range k)
 rw[WI]at this
 exact this
def MH (nm:ByteArray) (d:Dg):Option ij:=if (qR d.s).2=true/\d.calls.length<=3/\d.aG.length<=2/\d.aT.length<=3 then some ⟨nm,(qR d.s).1,eo (qR d.s).1.length d.calls d.calls.length,fZ (qR d.s).1 d.aG d.aG.length,gT (qR d.s).1.length d.aT d.aT.length⟩ else none
set_option maxHeartbeats 8000000 in
theorem r419 (nm:ByteArray) (d:Dg) (hd:d.ok):res A aA 419 [.agg d.c,.str nm]=some (match MH nm d with|some v=>[.agg (lB 0 0 0 0 v),.bool true]|none=>[.agg [.str ⟨#[]⟩,.aq 0 [],.aq 0 [],.aq 0 [],.aq 0 []],.bool false]):=by
 have h279:=fun t=>r279 t d.s hd.s hd.sl
 refine aw a419 rfl rfl ?_
 simp only[F419,Lc]
 unfold Dg.c MH
 have hTn:(qR d.s).2=true->1<=(qR d.s).1.length/\(qR d.s).1.length<=5:=by
  unfold qR
  split
  .simp
  .intro _
   simp only[List.length_map,List.length_range]
   omega
 generalize (qR d.s).1=T at *
 generalize (qR d.s).2=b at *
 cases b with
 |false=>
  rw[if_neg (by simp)]
  simp(disch:=omega)only[go_sem,h279]
 |true=>
 obtain⟨hT1,hT5⟩:=hTn rfl
 cases h1:decide ((3:Int)<d.calls.length)with
 |true=>
  have:=of_decide_eq_true h1
  rw[if_neg (by omega)]
  simp(disch:=omega)only[go_sem,h279,h1]
 |false=>
 cases h2:decide ((2:Int)<d.aG.length)with
 |true=>
  have:=of_decide_eq_true h2
  rw[if_neg (by omega)]
  simp(disch:=omega)only[go_sem,h279,h1,h2]
 |false=>
 cases h3:decide ((3:Int)<d.aT.length)with
 |true=>
  have:=of_decide_eq_true h3
  rw[if_neg (by omega)]
  simp(disch:=omega)only[go_sem,h279,h1,h2,h3]
 |false=>
 have g1:=of_decide_eq_false h1
 have g2:=of_decide_eq_false h2
 have g3:=of_decide_eq_false h3
 rw[if_pos (by refine⟨rfl,?_,?_,?_⟩<;>omega)]
 simp(disch:=omega)only[go_sem,h279,h1,h2,h3]
 refine W.fv d.calls.length (fun k=>⟨[(2,.ptr 2 0),(4,.ptr 4 0),(6,.ptr 6 0),(8,.ptr 8 0),(9,.pv (.int .i64 T.length)),(10,.pv (.int .i64 k))],⟨[(2,[.pv (.aq 0 (d.s.map Node.cs)),.pv (.aq 0 (d.calls.map Pj)),.pv (.aq 0 (d.aG.map vo.c)),.pv (.aq 0 (d.aT.map Pk))]),(4,[.pv (.str ⟨#[]⟩),.tl [],.tl [],.tl [],.tl []]),(6,[.pv (.aq 0 (T.map aH.c))]),(8,[.pv (.str nm),.pv (.aq 0 (T.map aH.c)),dh 0 (ch (eo T.length d.calls k)),.tl [],.tl []])],cK 3 (ch (eo T.length d.calls k)),[]⟩⟩) (fun _=>True) rfl trivial fun k hk _=>?_
 simp(disch:=omega)only[go_sem]
 refine Br.aJ (fun c=>?_) (fun c=>?_)
 .obtain⟨x,hx⟩:=get_some (l:=d.calls) (k:=k) (by omega)
  obtain⟨⟨x1,x2⟩,x3,x4⟩:=hd.c x (Wa hx)
  have hR:ch (eo T.length d.calls (k+1))=ch (eo T.length d.calls k)++[[.str (fX 67 k),.int .i64 (x.1%T.length),.int .i64 (x.2%T.length)]]:=by
   rw[y8 hx]
   simp[ch,mi.c]
  have hRl:(ch (eo T.length d.calls k)).length<=3:=by
   rw[oj]
   have:=eJ (fun i=>d.calls[i]?.map fun x=>(⟨fX 67 i,x.1%T.length,x.2%T.length⟩:mi)) k
   unfold eo
   omega
  generalize ch (eo T.length d.calls k)=rows at *
  have hg:∀bx mp,aK ⟨bx,cK 3 rows,mp⟩ 3 (dh 0 rows) (.tl [[.str (fX 67 k),.int .i64 (x.1%T.length),.int .i64 (x.2%T.length)]])=some (dh 0 (rows++[[.str (fX 67 k),.int .i64 (x.1%T.length),.int .i64 (x.2%T.length)]]),tM 0 3 rows [.str (fX 67 k),.int .i64 (x.1%T.length),.int .i64 (x.2%T.length)]):=fun bx mp=>grow bx mp [] 3 rows _ rfl (by omega)
  have hw:=FB (k:=k) (by omega)
  have hna:=mb (c:=67) (k:=k) (by omega)
  simp(disch:=omega)only[go_sem,hx,Option.map_some,Pj,hw,hna,hg]
  refine .of (by omega) ?_ trivial
  rw[hR]
  rfl
 obtain rfl:k=d.calls.length:=by omega
 generalize hCe:eo T.length d.calls d.calls.length=C at *
 have hCl:(ch C).length<=3:=by
  rw[oj,<- hCe]
  have:=eJ (fun i=>d.calls[i]?.map fun x=>(⟨fX 67 i,x.1%T.length,x.2%T.length⟩:mi)) d.calls.length
  unfold eo
  omega
 clear hk c hCe
 simp(disch:=omega)only[go_sem]
 refine W.fv d.aG.length (fun k=>⟨[(2,.ptr 2 0),(4,.ptr 4 0),(6,.ptr 6 0),(8,.ptr 8 0),(9,.pv (.int .i64 T.length)),(11,.pv (.int .i64 k))],⟨[(2,[.pv (.aq 0 (d.s.map Node.cs)),.pv (.aq 0 (d.calls.map Pj)),.pv (.aq 0 (d.aG.map vo.c)),.pv (.aq 0 (d.aT.map Pk))]),(4,[.pv (.str ⟨#[]⟩),.tl [],.tl [],.tl [],.tl []]),(6,[.pv (.aq 0 (T.map aH.c))]),(8,[.pv (.str nm),.pv (.aq 0 (T.map aH.c)),dh 0 (ch C),dh (cK 3 (ch C)).length (aG (fZ T d.aG k)),.tl []])],cK 3 (ch C)++cK 5 (aG (fZ T d.aG k)),[]⟩⟩) (fun _=>True) (by show _=(⟨_,⟨_,cK 3 (ch C)++[],[]⟩⟩:St); rw[Xh]; rfl) trivial fun k hk _=>?_
 simp(disch:=omega)only[go_sem]
 refine Br.aJ (fun c=>?_) (fun c=>?_)
 .obtain⟨x,hx⟩:=get_some (l:=d.aG) (k:=k) (by omega)
  have hxo:=hd.w x (Wa hx)
  have h453:=fun t u=>r453 t u T (fX 83 k) x hxo (by omega)
  have hR:aG (fZ T d.aG (k+1))=aG (fZ T d.aG k)++aG (ub T (fX 83 k) x).toList:=by
   rw[AW hx]
   simp[aG]
  have hRl:(aG (fZ T d.aG k)).length<=3:=by
   unfold aG
   rw[Wg]
   have:=eJ (fun i=>d.aG[i]?.bind fun s=>ub T (fX 83 i) s) k
   unfold fZ
   omega
  have hw:=FB (k:=k) (by omega)
  have hna:=mb (c:=83) (k:=k) (by omega)
  generalize aG (fZ T d.aG k)=rows at *
  cases hs:ub T (fX 83 k) x with
  |none=>
   rw[hs]at h453 hR
   simp only[Option.toList,aG,List.map_nil,List.append_nil]at hR
   simp(disch:=omega)only[go_sem,hx,Option.map_some,vo.c,hw,hna,h453]
   refine .of (by omega) ?_ trivial
   rw[<- hR]
   rfl
  |some w=>
   rw[hs]at h453 hR
   simp only[Option.toList,aG,List.map_cons,List.map_nil,eE.c]at hR
   simp only[eE.c]at h453
   have hg:=fun bx mp=>grow bx mp (cK 3 (ch C)) 5 rows [.str w.name,.aq 0 (w.msgs.map gI.c),.int .i64 w.auto.aj,.int .i64 w.auto.start,.aq 0 (w.auto.af.map Edge.c)] rfl (by omega)
   have hgt:=fun bx mp=>ik bx mp (cK 3 (ch C)) 5 rows [.str w.name,.aq 0 (w.msgs.map gI.c),.int .i64 w.auto.aj,.int .i64 w.auto.start,.aq 0 (w.auto.af.map Edge.c)]
   simp(disch:=omega)only[go_sem,hx,Option.map_some,vo.c,hw,hna,h453,hg,hgt]
   refine .of (by omega) ?_ trivial
   rw[show aG (fZ T d.aG (k+1))=_ from hR]
   rfl
 obtain rfl:k=d.aG.length:=by omega
 generalize hWe:fZ T d.aG d.aG.length=S at *
 clear hk c hWe
 simp(disch:=omega)only[go_sem]
 refine W.fv d.aT.length (fun k=>⟨[(2,.ptr 2 0),(4,.ptr 4 0),(8,.ptr 8 0),(9,.pv (.int .i64 T.length)),(14,.pv (.int .i64 k))],⟨[(2,[.pv (.aq 0 (d.s.map Node.cs)),.pv (.aq 0 (d.calls.map Pj)),.pv (.aq 0 (d.aG.map vo.c)),.pv (.aq 0 (d.aT.map Pk))]),(4,[.pv (.str ⟨#[]⟩),.tl [],.tl [],.tl [],.tl []]),(8,[.pv (.str nm),.pv (.aq 0 (T.map aH.c)),dh 0 (ch C),dh (cK 3 (ch C)).length (aG S),dh (cK 3 (ch C)++cK 5 (aG S)).length (df (gT T.length d.aT k))])],cK 3 (ch C)++cK 5 (aG S)++cK 2 (df (gT T.length d.aT k)),[]⟩⟩) (fun _=>True) (by show _=(⟨_,⟨_,cK 3 (ch C)++cK 5 (aG S)++[],[]⟩⟩:St); rw[Xh]; rfl) trivial fun k hk _=>?_
 simp(disch:=omega)only[go_sem]
 refine Br.aJ (fun c=>?_) (fun c=>?_)
 .obtain⟨x,hx⟩:=get_some (l:=d.aT) (k:=k) (by omega)
  obtain⟨x1,x2⟩:=hd.t x (Wa hx)
  have hR:df (gT T.length d.aT (k+1))=df (gT T.length d.aT k)++[[.str (fX 84 k),.int .i64 (x%T.length)]]:=by
   rw[AV hx]
   simp[df,mj.c]
  have hRl:(df (gT T.length d.aT k)).length<=3:=by
   rw[sG]
   have:=eJ (fun i=>d.aT[i]?.map fun x=>(⟨fX 84 i,x%T.length⟩:mj)) k
   unfold gT
   omega
  generalize df (gT T.length d.aT k)=rows at *
  have hg:=fun bx mp=>grow bx mp (cK 3 (ch C)++cK 5 (aG S)) 2 rows [.str (fX 84 k),.int .i64 (x%T.length)] rfl (by omega)
  have hgt:=fun bx mp=>ik bx mp (cK 3 (ch C)++cK 5 (aG S)) 2 rows [.str (fX 84 k),.int .i64 (x%T.length)]
  simp only[List.length_append]at hg hgt
  have hw:=FB (k:=k) (by omega)
  have hna:=mb (c:=84) (k:=k) (by omega)
  simp(disch:=omega)only[go_sem,hx,Option.map_some,Pk,hw,hna,hg,hgt]
  refine .of (by omega) ?_ trivial
  rw[hR,Wz]
  rfl
 obtain rfl:k=d.aT.length:=by omega
 generalize hPe:gT T.length d.aT d.aT.length=P at *
 have k1:∀bx,aY ⟨bx,cK 3 (ch C)++cK 5 (aG S)++cK 2 (df P),[]⟩ 4 (dh 0 (ch C))=some (.aq 0 (ch C)):=fun bx=>by
  rw[WK]
  exact tf bx [] [] _ 3 3 _
 have k2:∀bx,aY ⟨bx,cK 3 (ch C)++cK 5 (aG S)++cK 2 (df P),[]⟩ 4 (dh (cK 3 (ch C)).length (aG S))=some (.aq 0 (aG S)):=fun bx=>by
  rw[WK]
  exact tf bx [] (cK 3 (ch C)) _ 5 3 _
 have k3:∀bx,aY ⟨bx,cK 3 (ch C)++cK 5 (aG S)++cK 2 (df P),[]⟩ 4 (dh (cK 3 (ch C)++cK 5 (aG S)).length (df P))=some (.aq 0 (df P)):=fun bx=>sI bx [] _ 2 3 _
 simp only[List.length_append]at k3
 simp(disch:=omega)only[go_sem,k1,k2,k3]
 rfl
theorem wL {c:UInt8} {k:Nat} (h:k<3):bC (fX c k):=by
 have:(fX c k).size=2:=by
  unfold fX
  rw[ByteArray.size_append,vn h]
  rfl
 unfold bC
 omega
theorem Dh {n:Int} {l:List (Int×Int)} {k:Nat} (hk:k<=3):∀c∈eo n l k,bC c.name:=by
 intro c hc
 obtain⟨i,hi,he⟩:=W4.1 hc
 have:=WJ.1 hi
 obtain⟨x,_,rfl⟩:=Wx.1 he
 exact wL (by omega)
theorem FC {n:Int} {l:List Int} {k:Nat} (hk:k<=3):∀c∈gT n l k,bC c.name:=by
 intro c hc
 obtain⟨i,hi,he⟩:=W4.1 hc
 have:=WJ.1 hi
 obtain⟨x,_,rfl⟩:=Wx.1 he
 exact wL (by omega)
theorem y9 {T:List aH} {l:List vo} {k:Nat} (hk:k<=2) (hl:∀s∈l,s.ok):∀w∈fZ T l k,∃i s,i<2/\s∈l/\dD T T.length≠[]/\w=⟨fX 83 i,ek (dD T T.length) s,s.a.auto.trim⟩/\s.a.auto.Good:=by
 intro w hw
 obtain⟨i,hi,he⟩:=W4.1 hw
 have:=WJ.1 hi
 obtain⟨s,hs,he⟩:=XP.1 he
 unfold ub at he
 split at he
 .rename_i hc
  cases he
  have hm:=Wa hs
  exact⟨i,s,by omega,hm,hc.2,rfl,ej.vW (hl s hm).1 (s:=0) ⟨XS _,by have:=s.a.st; omega⟩⟩
 .cases he
theorem Di {nm:ByteArray} {d:Dg} {v:ij} (hn:bC nm) (hd:d.ok) (h:MH nm d=some v):iX v/\v.types.length<=5/\v.calls.length<=3/\v.aG.length<=2/\v.aT.length<=3/\∀w∈v.aG,w.msgs.length<=3/\w.auto.af.length<=100:=by
 unfold MH at h
 split at h
 rotate_left
 .cases h
 rename_i hc
 obtain⟨c1,c2,c3,c4⟩:=hc
 cases h
 have hD:¬(d.s.length<1\/5<d.s.length):=by
  intro hx
  unfold qR at c1
  rw[if_pos hx]at c1
  cases c1
 have hT:(qR d.s).1=(List.range d.s.length).map (aS d.s):=by
  unfold qR
  rw[if_neg hD]
 obtain⟨o1,o2⟩:=Mr (d:=d.s) (by omega) (by omega)
 rw[<- hT]at o1 o2
 have hl:(qR d.s).1.length<=5:=by
  rw[hT,Wg,WI]
  omega
 have l1:(eo (qR d.s).1.length d.calls d.calls.length).length<=3:=WM (eJ _ _) c2
 have l2:(fZ (qR d.s).1 d.aG d.aG.length).length<=2:=WM (eJ _ _) c3
 have l3:(gT (qR d.s).1.length d.aT d.aT.length).length<=3:=WM (eJ _ _) c4
 have hw:∀w∈fZ (qR d.s).1 d.aG d.aG.length,(bC w.name/\∀m∈w.msgs,bC m.name)/\w.msgs.length<=3/\w.auto.af.length<=100:=fun w hw=>by
  obtain⟨i,s,hi,hs,_,rfl,hg⟩:=y9 (by omega) hd.w w hw
  refine⟨⟨wL (by omega),fun m hm=>?_⟩,Wj 3,hg.trim.len⟩
  dsimp only[ek]at hm
  simp only[List.mem_cons,List.not_mem_nil,or_false]at hm
  rcases hm with rfl|rfl|rfl<;>exact wL (by omega)
 refine⟨⟨hn,by dsimp only; omega,o1,o2,by dsimp only; omega,Dh c2,by dsimp only; omega,fun w h=>?_,by dsimp only; omega,FC c4⟩,hl,l1,l2,l3,fun w h=>(hw w h).2⟩
 obtain⟨⟨q1,q2⟩,q3,q4⟩:=hw w h
 exact⟨q1,by omega,q2,by omega⟩
def i6 (u:Int×Int):List PV:=[.int .i64 u.1,.int .i64 u.2]
def oP (l:List Mem):List (Int×Int):=l.map fun m=>(m.id,m.type)
def p5 (t:aH):List (Int×Int):=oP t.bc++(if t.kind=8 then [(0,t.key)] else [])++(if 7<=t.kind then [(-1,t.elem)] else [])
theorem HO (k:Nat) (rows:List (List PV)) (r1 r2:List PV) (h1:r1.length=k) (h2:r2.length=k) (hm:rows.length+2<=2147483648):
  ∃V1 T ar',(∀bx,aK ⟨bx,cK k rows,[]⟩ k (dh 0 rows) (.tl [r1,r2])=some (V1,T))/\(∀bx,T.apply ⟨bx,cK k rows,[]⟩=⟨bx,ar',[]⟩)/\V1.cells=[V1]/\V1.calm=true/\(∀b,dN b V1=V1)/\∀bx,keep ⟨bx,ar',[]⟩ false V1=some (.aq 0 (rows++[r1,r2])):=by
 cases rows with
 |nil=>exact⟨.own 0 0 0 2,{ push:=[⟨0,k,.inl [r1,r2]⟩],base:=0 },[⟨0,k,.inl [r1,r2]⟩],fun bx=>by simp[aK,dh,cK,aW,aO,aD,h1,h2,aU,aN],fun bx=>by simp[Tn.apply,cK],rfl,rfl,fun _=>rfl,fun bx=>by simp[keep,dS,aB,bO,az]⟩
 |cons x q=>
  refine⟨.own 0 (q.length+1) 0 (q.length+3),{ ar:=some (0,⟨q.length+1,k,.inl (x::q++[r1,r2])⟩) },[⟨q.length+1,k,.inl (x::q++[r1,r2])⟩],fun bx=>?_,fun bx=>by simp[Tn.apply,cK],rfl,rfl,fun _=>rfl,fun bx=>?_⟩
  .have e1:aB ⟨bx,cK k (x::q),[]⟩ 0 q.length=some ⟨q.length,k,.inl (x::q)⟩:=by simp[aB,cK]
   have e2:(⟨q.length,k,.inl (x::q)⟩:aL).size=q.length+1:=rfl
   simp only[List.length_cons]at hm
   simp[aK,dh,aW,aO,aD,h1,h2,e1,e2,aU,az,aN]
   omega
  .simp[keep,dS,aB,bO,az]
   exact List.take_of_length_le (by simp)
set_option maxHeartbeats 4000000 in
theorem r490 (t:aH) (hs:t.short) (h9:t.kind<=9):res A aA 490 [.agg t.c]=some [.aq 0 ((p5 t).map i6)]:=by
 have hl:=hs.bc
 obtain⟨k,a2,a3,a4,a5,a6,l,a8,a9,a10⟩:=t
 unfold p5 aH.c
 dsimp only at *
 refine aw a490 rfl rfl ?_
 simp only[F490,LK]
 simp(disch:=omega)only[go_sem]
 refine W.fv l.length (fun j=>⟨[(1,.ptr 1 0),(3,dh 0 ((oP (l.take j)).map i6)),(7,.pv (.aq 0 (l.map Mem.c))),(8,.pv (.int .i64 l.length)),(9,.pv (.int .i64 j))],⟨[(1,[.pv (.int .i64 k),.pv (.str a2),.pv (.int .i64 a3),.pv (.int .i64 a4),.pv (.int .i64 a5),.pv (.aq 0 (a6.map Sym.c)),.pv (.aq 0 (l.map Mem.c)),.pv (.int .i64 a8),.pv (.int .i64 a9),.pv (.bool a10)])],cK 2 ((oP (l.take j)).map i6),[]⟩⟩) (fun _=>True) rfl trivial fun j hj _=>?_
 simp(disch:=omega)only[go_sem]
 refine Br.aJ (fun c=>?_) (fun c=>?_)
 .obtain⟨p,hp⟩:=get_some (l:=l) (k:=j) (by omega)
  have hR:(oP (l.take (j+1))).map i6=(oP (l.take j)).map i6++[[.int .i64 p.id,.int .i64 p.type]]:=by
   rw[WL,hp]
   simp[oP,i6]
  have hRl:((oP (l.take j)).map i6).length<=j:=by simp[oP]; omega
  generalize (oP (l.take j)).map i6=rows at *
  have hg:∀bx mp,aK ⟨bx,cK 2 rows,mp⟩ 2 (dh 0 rows) (.tl [[.int .i64 p.id,.int .i64 p.type]])=some (dh 0 (rows++[[.int .i64 p.id,.int .i64 p.type]]),tM 0 2 rows [.int .i64 p.id,.int .i64 p.type]):=fun bx mp=>grow bx mp [] 2 rows _ rfl (by omega)
  simp(disch:=omega)only[go_sem,hp,Option.map_some,Mem.c,hg]
  refine .of (by omega) ?_ trivial
  rw[hR]
  rfl
 obtain rfl:j=l.length:=by omega
 rw[WV]
 have hRl:((oP l).map i6).length=l.length:=by simp[oP]
 rw[WC,WC]
 generalize (oP l).map i6=rows at *
 simp(disch:=omega)only[go_sem]
 obtain⟨V1,T,ar',happ,hT,hc1,hc2,hsc,hk⟩:=HO 2 rows [.int .i64 0,.int .i64 a8] [.int .i64 (-1),.int .i64 a9] rfl rfl (by omega)
 have hg:∀bx mp,aK ⟨bx,cK 2 rows,mp⟩ 2 (dh 0 rows) (.tl [[.int .i64 (-1),.int .i64 a9]])=some (dh 0 (rows++[[.int .i64 (-1),.int .i64 a9]]),tM 0 2 rows [.int .i64 (-1),.int .i64 a9]):=fun bx mp=>grow bx mp [] 2 rows _ rfl (by omega)
 refine Br.aJ (fun c8=>?_) (fun c8=>?_)
 .rw[if_pos c8,if_pos (by omega)]
  simp(disch:=omega)only[go_sem,happ,hT,hc1,hc2,hsc,hk]
  simp[i6]
 .rw[if_neg c8]
  cases h7:decide (k=7)with
  |true=>
   have c7:=of_decide_eq_true h7
   rw[if_pos (by omega)]
   simp(disch:=omega)only[go_sem,h7,hg]
   simp[i6]
  |false=>
   have c7:=of_decide_eq_false h7
   cases h9':decide (k=9)with
   |true=>
    have c9:=of_decide_eq_true h9'
    rw[if_pos (by omega)]
    simp(disch:=omega)only[go_sem,h7,h9',hg]
    simp[i6]
   |false=>
    have c9:=of_decide_eq_false h9'
    rw[if_neg (by omega)]
    simp(disch:=omega)only[go_sem,h7,h9',List.append_nil]
set_option maxHeartbeats 4000000 in
theorem r499:∀(n k:Nat) (cs ds:List PV),mu n cs->mu k ds->res A aA 499 [.agg cs,.agg ds]=some [.bool (eqv cs ds)]
 |0,_,_,_,h,_=>h.elim
 |_+1,0,_,_,_,h=>h.elim
 |n+1,k+1,cs,ds,h,h'=>by
  obtain⟨v,rfl,⟨h1,h2,h3,h4⟩,⟨h5,h6,h7⟩,h8,h9,h10⟩:=h
  obtain⟨w,rfl,⟨g1,g2,g3,g4⟩,⟨g5,g6,g7⟩,g8,g9,g10⟩:=h'
  have ih:=r499 n k
  unfold bP at h5 h6 h7 g5 g6 g7
  have hk:=fun t u=>r334g cw499 t u v.keys w.keys (by omega) (by omega) (fun r hr=>(h8 r hr).val) (fun r hr=>(g8 r hr).val) (fun r hr q hq=>ih r q (h8 r hr) (g8 q hq))
  have hi:=fun t u=>r334g cw499 t u v.items w.items (by omega) (by omega) (fun r hr=>(h9 r hr).val) (fun r hr=>(g9 r hr).val) (fun r hr q hq=>ih r q (h9 r hr) (g9 q hq))
  have hr:=fun t u=>r333 t u v.rest w.rest (by omega) (by omega)
  rw[oq]
  obtain⟨a1,a2,a3,a4,a5,a6,a7,a8⟩:=v
  obtain⟨b1,b2,b3,b4,b5,b6,b7,b8⟩:=w
  unfold dz.c
  dsimp only at *
  clear ih
  refine aw a499 rfl rfl ?_
  simp only[F499,LR]
  simp(disch:=omega)only[go_sem]
  have no:∀{p q:dz},p≠q->(some [PV.bool false]:Option (List PV))=some [PV.bool (eqv p q)]:=fun h=>by rw[fJ h]
  refine Br.aJ (fun e=>?_) (fun e=>?_)<;>simp(disch:=omega)only[go_sem,e]
  rotate_left
  .exact no (fun q=>e (by cases q; rfl))
  subst e
  refine Br.aJ (fun e=>?_) (fun e=>?_)<;>simp(disch:=omega)only[go_sem,e]
  rotate_left
  .exact no (fun q=>e (by cases q; rfl))
  subst e
  refine Br.aJ (fun e=>?_) (fun e=>?_)<;>simp(disch:=omega)only[go_sem,e]
  rotate_left
  .exact no (fun q=>e (by cases q; rfl))
  subst e
  refine Br.aJ (fun e=>?_) (fun e=>?_)<;>simp(disch:=omega)only[go_sem,e]
  rotate_left
  .exact no (fun q=>e (by cases q; rfl))
  subst e
  refine Br.aJ (fun e=>?_) (fun e=>?_)<;>simp(disch:=omega)only[go_sem,e]
  rotate_left
  .exact no (fun q=>e (by cases q; rfl))
  subst e
  simp(disch:=omega)only[go_sem,hr]
  refine Br.of (fun e=>?_) (fun e=>?_)<;>simp(disch:=omega)only[go_sem,e]
  rotate_left
  .exact no (fun q=>mW.1 e (by cases q; rfl))
  have e:=bY.1 e
  subst e
  simp(disch:=omega)only[go_sem,hk]
  refine Br.of (fun e=>?_) (fun e=>?_)<;>simp(disch:=omega)only[go_sem,e]
  rotate_left
  .exact no (fun q=>mW.1 e (by cases q; rfl))
  have e:=bY.1 e
  subst e
  simp(disch:=omega)only[go_sem,hi]
  congr 3
  rw[Xb,bY,bY]
  exact⟨fun e=>by rw[e],fun q=>by cases q; rfl⟩
def wM {α β:Type} (g:α->β->Bool) (l:List α) (m:List β):Bool:=decide (l.length=m.length)&&(l.zip m).all fun q=>g q.1 q.2
theorem p6 {α β:Type} {g:α->β->Bool} {l:List α} {m:List β} (h:¬l.length=m.length):wM g l m=false:=by
 unfold wM
 rw[decide_eq_false h]
 rfl
theorem wN {α β:Type} {g:α->β->Bool} {l:List α} {m:List β} (h:(l.zip m).any (fun q=>!g q.1 q.2)=true):wM g l m=false:=by
 unfold wM
 have:(l.zip m).all (fun q=>g q.1 q.2)=false:=by
  rw[Xz]
  intro h2
  obtain⟨q,hq,hn⟩:=Xm.1 h
  have:=Wu.1 h2 q hq
  rw[this]at hn
  cases hn
 rw[this,Bool.and_false]
theorem ru {α β:Type} {g:α->β->Bool} {l:List α} {m:List β} (h:l.length=m.length) (h2:(l.zip m).any (fun q=>!g q.1 q.2)=false):wM g l m=true:=by
 unfold wM
 rw[decide_eq_true h,WZ,Wu]
 intro q hq
 have:=WY.1 h2 q hq
 simpa using this
theorem wO {α β:Type} (k:α->β) {g:α->α->Bool} (h:∀x y,g x y=eqv (k x) (k y)):∀l m:List α,wM g l m=eqv (l.map k) (m.map k)
 |[],[]=>by rw[fI]; rfl
 |[],y::m=>by rw[p6 (by simp),fJ (by simp)]
 |x::l,[]=>by rw[p6 (by simp),fJ (by simp)]
 |x::l,y::m=>by
  have ih:=wO k h l m
  unfold wM at ih |-
  rw[List.zip_cons_cons,List.all_cons]
  dsimp only
  rw[h x y]
  by_cases e:k x=k y
  .rw[e,fI,WZ,XQ,XQ,e]
   have e2:decide ((x::l).length=(y::m).length)=decide (l.length=m.length):=by simp
   rw[e2,ih,Xb,bY,bY]
   exact⟨fun h=>by rw[h],fun h=>List.tail_eq_of_cons_eq h⟩
  .rw[fJ e,Xu,Bool.and_false,fJ]
   intro h2
   rw[XQ,XQ]at h2
   exact e (List.head_eq_of_cons_eq h2)
def tj (s:Sym):Int:=s.id
def AX (m:Mem):Int×Bool×Bool×dz:=(m.id,m.DJ,m.has,m.ib)
def HP (t:aH):(Int×Int×Int×Int×Bool)×List Int×List (Int×Bool×Bool×dz):=((t.kind,t.low,t.high,t.max,t.jO),t.syms.map tj,t.bc.map AX)
noncomputable def ep (x y:aH):Bool:=eqv (HP x) (HP y)
theorem r497 (u:Nat) (x y:Sym):res A aA 497 [.agg x.c,.agg y.c,.ro u [.bool false]]=some [.bool (eqv (tj x) (tj y))]:=by
 have e:eqv (tj x) (tj y)=decide (x.id=y.id):=by
  unfold tj eqv
  simp
 rw[e]
 refine aw a497 rfl rfl ?_
 simp only[F497,LP]
 unfold Sym.c
 simp(disch:=omega)only[go_sem]
 refine Br.aJ (fun c=>?_) (fun c=>?_)<;>simp(disch:=omega)only[go_sem,c,decide_true,decide_false]
noncomputable def Dj (x y:Sym):Bool:=eqv (tj x) (tj y)
noncomputable def AY (x y:Mem):Bool:=eqv (AX x) (AX y)
theorem r496 (t u w:Nat) (l m:List Sym) (hl:l.length<=2^63 - 1) (_hm:m.length<=2^63 - 1):res A aA 496 [.aq t (l.map Sym.c),.aq u (m.map Sym.c),.func 497 [.ro w [.bool false]]]=some [.bool (wM Dj l m)]:=by
 refine aw a496 rfl rfl ?_
 simp only[F496,LO]
 simp(disch:=omega)only[go_sem]
 refine Br.aJ (fun h=>?_) (fun h=>?_)<;>simp(disch:=omega)only[go_sem]
 .refine W.find (l.zip m) (fun q=>!Dj q.1 q.2) (fun k=>⟨[(1,.pv (.aq u (m.map Sym.c))),(2,.pv (.func 497 [.ro w [.bool false]])),(15,.pv (.aq t (l.map Sym.c))),(16,.pv (.int .i64 l.length)),(17,.pv (.int .i64 k))],⟨[],[],[]⟩⟩) rfl (fun k q hq hk hfd=>?_) (fun hn=>?_)
  .obtain⟨h1,h2⟩:=jh hq
   rw[dA (by omega)]at hk
   have hc:=fun v=>r497 v q.1 q.2
   have hg:Dj q.1 q.2=eqv (tj q.1) (tj q.2):=rfl
   rw[<- hg]at hc
   unfold Sym.c at hc
   simp(disch:=omega)only[go_sem]
   refine Br.aJ (fun c=>?_) (fun c=>(c (by omega)).elim)
   simp(disch:=omega)only[go_sem,h1,h2,Sym.c,hc]
   refine Br.of (fun g=>?_) (fun g=>?_)<;>simp(disch:=omega)only[go_sem]
   .exact bB.of (by rw[g]; rfl) rfl
   .rw[wN (hfd (by rw[g]; rfl)).any]
  .have hz:(l.zip m).length=l.length:=dA (by omega)
   rw[hz]
   simp(disch:=omega)only[go_sem]
   rw[ru (by omega) hn.any]
 .rw[p6 (fun e=>h (by rw[e]))]
set_option maxHeartbeats 4000000 in
theorem r498 (u:Nat) (x y:Mem) (hx:x.ok) (hy:y.ok):res A aA 498 [.agg x.c,.agg y.c,.ro u [.bool false]]=some [.bool (AY x y)]:=by
 obtain⟨n,vx⟩:=hx.2.2.2
 obtain⟨k,vy⟩:=hy.2.2.2
 have hv:=r499 n k _ _ vx vy
 rw[oq]at hv
 have hg:AY x y=eqv (AX x) (AX y):=rfl
 rw[hg]
 obtain⟨a1,a2,a3,a4,a5,v⟩:=x
 obtain⟨b1,b2,b3,b4,b5,w⟩:=y
 unfold Mem.c AX
 unfold dz.c at hv
 dsimp only at *
 have no:∀{p q:Int×Bool×Bool×dz},p≠q->(some [PV.bool false]:Option (List PV))=some [PV.bool (eqv p q)]:=fun h=>by rw[fJ h]
 refine aw a498 rfl rfl ?_
 simp only[F498,LQ]
 simp(disch:=omega)only[go_sem]
 refine Br.aJ (fun e=>?_) (fun e=>?_)<;>simp(disch:=omega)only[go_sem,e]
 rotate_left
 .exact no (fun q=>e (by cases q; rfl))
 subst e
 refine Br.aJ (fun e=>?_) (fun e=>?_)<;>simp(disch:=omega)only[go_sem,e]
 rotate_left
 .exact no (fun q=>e (by cases q; rfl))
 subst e
 refine Br.aJ (fun e=>?_) (fun e=>?_)<;>simp(disch:=omega)only[go_sem,e]
 rotate_left
 .exact no (fun q=>e (by cases q; rfl))
 subst e
 simp(disch:=omega)only[go_sem,hv]
 refine Br.of (fun e=>?_) (fun e=>?_)<;>simp(disch:=omega)only[go_sem,e]
 rotate_left
 .exact no (fun q=>mW.1 e (by cases q; rfl))
 have e:=bY.1 e
 subst e
 rw[fI]
theorem r318k (t u w:Nat) (l m:List Mem) (hl:l.length<=2^63 - 1) (_hm:m.length<=2^63 - 1) (vl:∀r∈l,r.ok) (vm:∀r∈m,r.ok):res A aA 318 [.aq t (l.map Mem.c),.aq u (m.map Mem.c),.func 498 [.ro w [.bool false]]]=some [.bool (wM AY l m)]:=by
 refine aw a318 rfl rfl ?_
 simp only[F318,Hn]
 simp(disch:=omega)only[go_sem]
 refine Br.aJ (fun h=>?_) (fun h=>?_)<;>simp(disch:=omega)only[go_sem]
 .refine W.find (l.zip m) (fun q=>!AY q.1 q.2) (fun k=>⟨[(1,.pv (.aq u (m.map Mem.c))),(2,.pv (.func 498 [.ro w [.bool false]])),(15,.pv (.aq t (l.map Mem.c))),(16,.pv (.int .i64 l.length)),(17,.pv (.int .i64 k))],⟨[],[],[]⟩⟩) rfl (fun k q hq hk hfd=>?_) (fun hn=>?_)
  .obtain⟨h1,h2⟩:=jh hq
   rw[dA (by omega)]at hk
   have hc:=fun v=>r498 v q.1 q.2 (vl q.1 (Wa h1)) (vm q.2 (Wa h2))
   unfold Mem.c at hc
   simp(disch:=omega)only[go_sem]
   refine Br.aJ (fun c=>?_) (fun c=>(c (by omega)).elim)
   simp(disch:=omega)only[go_sem,h1,h2,Mem.c,hc]
   refine Br.of (fun g=>?_) (fun g=>?_)<;>simp(disch:=omega)only[go_sem]
   .exact bB.of (by rw[g]; rfl) rfl
   .rw[wN (hfd (by rw[g]; rfl)).any]
  .have hz:(l.zip m).length=l.length:=dA (by omega)
   rw[hz]
   simp(disch:=omega)only[go_sem]
   rw[ru (by omega) hn.any]
 .rw[p6 (fun e=>h (by rw[e]))]
theorem za (x y:aH) (h:(x.kind,x.low,x.high,x.max,x.jO)=(y.kind,y.low,y.high,y.max,y.jO)):ep x y=(wM Dj x.syms y.syms&&wM AY x.bc y.bc):=by
 rw[wO tj (g:=Dj) (fun _ _=>rfl),wO AX (g:=AY) (fun _ _=>rfl)]
 unfold ep HP
 rw[h,Xb,XX,bY,bY,bY]
 constructor
 .intro e
  injection e with _ e
  injection e with e1 e2
  exact⟨e1,e2⟩
 .rintro ⟨e1,e2⟩
  rw[e1,e2]
theorem FD {x y:aH} (h:(x.kind,x.low,x.high,x.max,x.jO)≠(y.kind,y.low,y.high,y.max,y.jO)):ep x y=false:=by
 unfold ep
 rw[fJ]
 unfold HP
 intro e
 injection e with e _
 exact h e
set_option maxHeartbeats 8000000 in
theorem r488 (x y:aH) (hx:x.ok) (hy:y.ok):res A aA 488 [.agg x.c,.agg y.c,.bool false]=some [.bool (ep x y)]:=by
 obtain⟨_,⟨lx1,lx2⟩,_,lx3⟩:=hx
 obtain⟨_,⟨ly1,ly2⟩,_,ly3⟩:=hy
 unfold bP at *
 have hs:=fun t u w=>r496 t u w x.syms y.syms (by omega) (by omega)
 have hm:=fun t u w=>r318k t u w x.bc y.bc (by omega) (by omega) lx3 ly3
 have yes:=za x y
 have no:(x.kind,x.low,x.high,x.max,x.jO)≠(y.kind,y.low,y.high,y.max,y.jO)->(some [PV.bool false]:Option (List PV))=some [PV.bool (ep x y)]:=fun h=>by rw[FD h]
 generalize ep x y=G at *
 obtain⟨a1,a2,a3,a4,a5,a6,a7,a8,a9,a10⟩:=x
 obtain⟨b1,b2,b3,b4,b5,b6,b7,b8,b9,b10⟩:=y
 unfold aH.c
 dsimp only at *
 refine aw a488 rfl rfl ?_
 simp only[F488,LI]
 simp(disch:=omega)only[go_sem]
 refine Br.aJ (fun e=>?_) (fun e=>?_)<;>simp(disch:=omega)only[go_sem,e]
 rotate_left
 .exact no (fun q=>e (by cases q; rfl))
 subst e
 refine Br.aJ (fun e=>?_) (fun e=>?_)<;>simp(disch:=omega)only[go_sem,e]
 rotate_left
 .exact no (fun q=>e (by cases q; rfl))
 subst e
 refine Br.aJ (fun e=>?_) (fun e=>?_)<;>simp(disch:=omega)only[go_sem,e]
 rotate_left
 .exact no (fun q=>e (by cases q; rfl))
 subst e
 refine Br.aJ (fun e=>?_) (fun e=>?_)<;>simp(disch:=omega)only[go_sem,e]
 rotate_left
 .exact no (fun q=>e (by cases q; rfl))
 subst e
 refine Br.aJ (fun e=>?_) (fun e=>?_)<;>simp(disch:=omega)only[go_sem,e]
 rotate_left
 .exact no (fun q=>e (by cases q; rfl))
 subst e
 rw[yes rfl]
 generalize wM Dj a6 b6=e1 at *
 generalize wM AY a7 b7=e2 at *
 simp(disch:=omega)only[go_sem,hs]
 cases e1 with
 |false=>simp(disch:=omega)only[go_sem,Bool.false_and]
 |true=>simp(disch:=omega)only[go_sem,hm,Bool.true_and]
def zb (g:List Bool->Nat) (M:List (List Bool)):List (List PV):=M.map fun l=>[.aq (g l) (bX l)]
@[go_sem] theorem R4 (g:List Bool->Nat) (M:List (List Bool)) (i:Nat):(zb g M)[i]?=M[i]?.map fun l=>[.aq (g l) (bX l)]:=by simp[zb]
structure mB (na nb:Nat) (M:List (List Bool)):Prop where
 len:M.length=na
 row:∀l∈M,l.length=nb
def iY (M:List (List Bool)) (p q:Int):Bool:=(M.getD p.toNat []).getD q.toNat false
theorem mB.get {na nb:Nat} {M:List (List Bool)} (h:mB na nb M) {p q:Int} (hp:0<=p/\p<na) (hq:0<=q/\q<nb):∃l,M[p.toNat]?=some l/\l.length=nb/\l[q.toNat]?=some (iY M p q):=by
 have hl:=h.len
 obtain⟨l,hl⟩:=get_some (l:=M) (k:=p.toNat) (by omega)
 have hr:=h.row l (Wa hl)
 refine⟨l,hl,hr,?_⟩
 have h4:q.toNat<l.length:=by omega
 unfold iY
 simp[hl,h4]
def UU (n:Nat) (l:List (Int×Int)):Prop:=∀u∈l,0<=u.2/\u.2<n
def HQ (M:List (List Bool)) (x y:aH):Bool:=wM (fun u v=>iY M u.2 v.2) (p5 x) (p5 y)
theorem r491 (s v na nb:Nat) (g:List Bool->Nat) (a b:Int×Int) (M:List (List Bool)) (hM:mB na nb M) (hn:na<=1000000/\nb<=1000000) (ha:0<=a.2/\a.2<na) (hb:0<=b.2/\b.2<nb):res A aA 491 [.agg (i6 a),.agg (i6 b),.ro s [.aq v (zb g M)]]=some [.bool (iY M a.2 b.2)]:=by
 obtain⟨l,h1,h2,h3⟩:=hM.get ha hb
 have h4:=hM.len
 obtain⟨a0,a1⟩:=ha
 obtain⟨b0,b1⟩:=hb
 refine aw a491 rfl rfl ?_
 simp only[F491,LM]
 unfold i6
 simp(disch:=omega)only[go_sem,gB,h1,h3,Option.map_some]
theorem r489 (t u s v na nb:Nat) (g:List Bool->Nat) (l m:List (Int×Int)) (M:List (List Bool)) (hM:mB na nb M) (hn:na<=1000000/\nb<=1000000) (ha:UU na l) (hb:UU nb m) (hl:l.length<=2000000) (hm:m.length<=2000000):res A aA 489 [.aq t (l.map i6),.aq u (m.map i6),.func 491 [.ro s [.aq v (zb g M)]]]=some [.bool (wM (fun a b=>iY M a.2 b.2) l m)]:=by
 refine aw a489 rfl rfl ?_
 simp only[F489,LJ]
 simp(disch:=omega)only[go_sem]
 refine Br.aJ (fun h=>?_) (fun h=>?_)<;>simp(disch:=omega)only[go_sem]
 .refine W.find (l.zip m) (fun q=>!iY M q.1.2 q.2.2) (fun k=>⟨[(1,.pv (.aq u (m.map i6))),(2,.pv (.func 491 [.ro s [.aq v (zb g M)]])),(15,.pv (.aq t (l.map i6))),(16,.pv (.int .i64 l.length)),(17,.pv (.int .i64 k))],⟨[],[],[]⟩⟩) rfl (fun k q hq hk hfd=>?_) (fun hn=>?_)
  .obtain⟨h1,h2⟩:=jh hq
   rw[dA (by omega)]at hk
   have hc:=fun s=>r491 s v na nb g q.1 q.2 M hM hn (ha _ (Wa h1)) (hb _ (Wa h2))
   unfold i6 at hc
   simp(disch:=omega)only[go_sem]
   refine Br.aJ (fun c=>?_) (fun c=>(c (by omega)).elim)
   simp(disch:=omega)only[go_sem,h1,h2,Option.map_some,i6,hc]
   refine Br.of (fun g=>?_) (fun g=>?_)<;>simp(disch:=omega)only[go_sem]
   .exact bB.of (by rw[g]; rfl) rfl
   .rw[wN (g:=fun(a b:Int×Int)=>iY M a.2 b.2) (hfd (by rw[g]; rfl)).any]
  .have hz:(l.zip m).length=l.length:=dA (by omega)
   rw[hz]
   simp(disch:=omega)only[go_sem]
   rw[ru (g:=fun(a b:Int×Int)=>iY M a.2 b.2) (by omega) hn.any]
 .rw[p6 (fun e=>h (by rw[e]))]
theorem zd (t:aH):(p5 t).length<=t.bc.length+2:=by
 unfold p5 oP
 rw[Wz,Wz,Wg]
 split<;>split<;>simp<;>omega
def qT (M:List (List Bool)) (p q:Nat):List (List Bool):=M.set p ((M.getD p []).set q false)
theorem B5 {na nb p q:Nat} {M:List (List Bool)} (h:mB na nb M) (hp:p<na):mB na nb (qT M p q) where
 len:=by unfold qT; rw[Xx]; exact h.len
 row l hl:=by
  rcases XK hl with hl|rfl
  .exact h.row l hl
  .rw[Xx]
   have:M[p]?=some (M.getD p []):=by
    have:p<M.length:=by rw[h.len]; exact hp
    simp[this]
   exact h.row _ (Wa this)
theorem FE {na nb p q p' q':Nat} {M:List (List Bool)} (h:mB na nb M) (hp:p<na) (hq:q<nb):iY (qT M p q) p' q'=if p=p'/\q=q' then false else iY M p' q':=by
 have hl:p<M.length:=by rw[h.len]; exact hp
 have hr:(M.getD p []).length=nb:=h.row _ (by
  have:M[p]?=some (M.getD p []):=by simp[hl]
  exact Wa this)
 unfold iY qT
 simp only[Int.toNat_natCast,List.getD_eq_getElem?_getD,List.getElem?_set]
 by_cases e:p=p'
 .subst e
  simp only[List.getD_eq_getElem?_getD]at hr
  by_cases e2:q=q'
  .subst e2
   simp only[hl,if_true,List.getElem?_eq_getElem,Option.getD_some,if_pos,and_self]
   rw[List.getElem?_set,if_pos rfl]
   split<;>rfl
  .simp[hl,e2]
 .simp[e]
abbrev Rel:=List (List Bool)->Nat->Nat->Bool
def FF (R:Rel) (p:Nat) (s:List (List Bool)×Bool) (q:Nat):List (List Bool)×Bool:=if (iY s.1 p q&&!R s.1 p q)=true then (qT s.1 p q,true) else s
def FH (R:Rel) (nb:Nat) (s:List (List Bool)×Bool) (p:Nat):List (List Bool)×Bool:=(List.range nb).foldl (FF R p) s
def GD (R:Rel) (na nb:Nat) (s:List (List Bool)×Bool):List (List Bool)×Bool:=(List.range na).foldl (FH R nb) s
def wP (R:Rel) (na nb:Nat):Nat->List (List Bool)->List (List Bool)
 |0,M=>M
 |n+1,M=>if (GD R na nb (M,false)).2=true then wP R na nb n (GD R na nb (M,false)).1 else (GD R na nb (M,false)).1
def wQ (M:List (List Bool)):Nat:=(M.map fun r=>r.countP id).sum
theorem HS {r:List Bool} {q:Nat} (h:r.getD q false=true):(r.set q false).countP id+1=r.countP id:=by
 induction r generalizing q with
 |nil=>simp at h
 |cons b r ih=>
  cases q with
  |zero=>
   have hb:b=true:=by simpa using h
   subst hb
   simp
  |succ q=>
   have:=ih (q:=q) (by simpa using h)
   rw[List.set_cons_succ,List.countP_cons,List.countP_cons]
   omega
theorem HT {M:List (List Bool)} {p q:Nat} (h:iY M p q=true):wQ (qT M p q)+1=wQ M:=by
 unfold iY at h
 simp only[Int.toNat_natCast]at h
 unfold wQ qT
 induction M generalizing p with
 |nil=>simp at h
 |cons r M ih=>
  cases p with
  |zero=>
   have h:r.getD q false=true:=by simpa using h
   have:=HS h
   simp only[List.getD_cons_zero,List.set_cons_zero,List.map_cons,List.sum_cons]
   omega
  |succ p=>
   have:=ih (p:=p) (by simpa using h)
   simp only[List.getD_cons_succ,List.set_cons_succ,List.map_cons,List.sum_cons]
   omega
def Steps (s t:List (List Bool)×Bool):Prop:=t=s\/(t.2=true/\wQ t.1<wQ s.1)
theorem Steps.trans {s t u:List (List Bool)×Bool} (h:Steps s t) (g:Steps t u):Steps s u:=by
 rcases g with rfl|⟨g1,g2⟩
 .exact h
 .rcases h with rfl|⟨_,h2⟩
  .exact .inr ⟨g1,g2⟩
  .exact .inr ⟨g1,by omega⟩
theorem Dk (R:Rel) (p:Nat) (s:List (List Bool)×Bool) (q:Nat):Steps s (FF R p s q):=by
 unfold FF
 split
 .rename_i h
  rw[XX]at h
  have:=HT h.1
  exact .inr ⟨rfl,by dsimp only; omega⟩
 .exact .inl rfl
theorem FI {α:Type} {f:List (List Bool)×Bool->α->List (List Bool)×Bool} (h:∀s a,Steps s (f s a)):∀(l:List α) (s:List (List Bool)×Bool),Steps s (l.foldl f s)
 |[],_=>.inl rfl
 |a::l,s=>(h s a).trans (FI h l _)
theorem AZ (R:Rel) (nb:Nat) (s:List (List Bool)×Bool) (p:Nat):Steps s (FH R nb s p):=FI (Dk R p) _ _
theorem vu (R:Rel) (na nb:Nat) (s:List (List Bool)×Bool):Steps s (GD R na nb s):=FI (fun s p=>AZ R nb s p) _ _
theorem qE (R:Rel) (na nb:Nat):∀(n m:Nat) (M:List (List Bool)),wQ M<n->wQ M<m->wP R na nb n M=wP R na nb m M
 |0,_,_,h,_=>absurd h (Xo _)
 |_+1,0,_,_,h=>absurd h (Xo _)
 |n+1,m+1,M,h,g=>by
  unfold wP
  split
  .rename_i hf
   rcases vu R na nb (M,false)with e|⟨_,e⟩
   .rw[e]at hf
    cases hf
   .dsimp only at e
    exact qE R na nb n m _ (by omega) (by omega)
  .rfl
def A1 (R:Rel) (na nb:Nat) (M:List (List Bool)):List (List Bool):=wP R na nb (wQ M+1) M
def MI (G:List (List Bool)) (R:Rel) (na nb:Nat) (s:List (List Bool)×Bool):Prop:=mB na nb s.1/\if s.2=true then A1 R na nb s.1=G else s.1=G
def FJ (s:List (List Bool)×Bool):Nat:=if s.2=true then wQ s.1+1 else 0
theorem FK {G:List (List Bool)} {R:Rel} {na nb:Nat} {M:List (List Bool)} (h:MI G R na nb (M,true)) (hk:mB na nb (GD R na nb (M,false)).1):MI G R na nb (GD R na nb (M,false))/\FJ (GD R na nb (M,false))<FJ (M,true):=by
 have h2:A1 R na nb M=G:=h.2
 unfold A1 wP at h2
 rcases vu R na nb (M,false)with e|⟨hf,e⟩
 .rw[e]at h2 |-
  rw[if_neg (by simp)]at h2
  exact⟨⟨h.1,by rw[if_neg (by simp)]; exact h2⟩,by unfold FJ; rw[if_neg (by simp),if_pos rfl]; omega⟩
 .dsimp only at e
  rw[if_pos hf]at h2
  refine⟨⟨hk,?_⟩,?_⟩
  .rw[if_pos hf]
   unfold A1
   rw[<- h2]
   exact qE R na nb _ _ _ (by omega) (by omega)
  .unfold FJ
   rw[if_pos hf,if_pos rfl]
   dsimp only
   omega
theorem FL {R:Rel} {na nb p q:Nat} {s:List (List Bool)×Bool} (h:mB na nb s.1) (hp:p<na):mB na nb (FF R p s q).1:=by
 unfold FF
 split
 .exact B5 h hp
 .exact h
theorem foldI {α β:Type} {f:β->α->β} {P:β->Prop}:∀(l:List α) (s:β),P s->(∀s a,a∈l->P s->P (f s a))->P (l.foldl f s)
 |[],_,h,_=>h
 |a::l,s,h,g=>foldI l _ (g s a WH h) fun s b hb=>g s b (W3 _ hb)
theorem HU {R:Rel} {na nb p:Nat} {s:List (List Bool)×Bool} (h:mB na nb s.1) (hp:p<na):mB na nb (FH R nb s p).1:=foldI (P:=fun s=>mB na nb s.1) _ s h fun _ _ _ h=>FL h hp
theorem MJ {R:Rel} {na nb:Nat} {s:List (List Bool)×Bool} (h:mB na nb s.1):mB na nb (GD R na nb s).1:=foldI (P:=fun s=>mB na nb s.1) _ s h fun _ _ hp h=>HU h (WJ.1 hp)
theorem vw {R:Rel} {na nb:Nat} {P:List (List Bool)->Prop} (h:∀M p q,p<na->q<nb->P M->iY M p q=true->R M p q=false->P (qT M p q)):∀(n:Nat) (M:List (List Bool)),P M->P (wP R na nb n M)
 |0,_,hM=>hM
 |n+1,M,hM=>by
  have hs:P (GD R na nb (M,false)).1:=foldI (P:=fun(s:List (List Bool)×Bool)=>P s.1) _ _ hM fun s p hp hs=>foldI (P:=fun(s:List (List Bool)×Bool)=>P s.1) _ _ hs fun s q hq hs=>by
   unfold FF
   split
   .rename_i hc
    rw[XX]at hc
    exact h _ p q (List.mem_range.1 hp) (List.mem_range.1 hq) hs hc.1 (by simpa using hc.2)
   .exact hs
  unfold wP
  split
  .exact vw h n _ hs
  .exact hs
theorem HV {R:Rel} {na nb n:Nat} {M:List (List Bool)} (h:mB na nb M):mB na nb (wP R na nb n M):=vw (P:=mB na nb) (fun _ _ _ hp _ h _ _=>B5 h hp) n M h
theorem HW {R:Rel} {na nb:Nat} {M:List (List Bool)} (h:mB na nb M):mB na nb (A1 R na nb M):=HV h
theorem A2 {α β:Type} {f:α->β} {y:β} {l:List α} {k i:Nat} {x:α} (hi:i<k) (hx:l[i]?=some x):(fM f y l k)[i]?=some (f x):=by
 unfold fM
 have hl:=(V9.1 hx).1
 rw[List.getElem?_append_left (by simp; omega),List.getElem?_map,List.getElem?_take,if_pos hi,hx]
 rfl
def aV (es:List Edge) (s:Int):List Edge:=es.filter fun e=>e.fr==s
theorem lK (es:List Edge) (s:Int):(aV es s).length<=es.length:=XW _ _
def I6 (a b:List Edge) (p q:Int):Option Edge:=(aV a p).find? fun e=>!(cO q e.send e.label b).isSome
def UW (M:List (List Int)) (p q:Int):Int:=(M.getD p.toNat []).getD q.toNat 0
def R5 (b:List Edge) (M:List (List Int)) (q k:Int) (e:Edge):Bool:=match cO q e.send e.label b with
 |some n=>decide (UW M e.to n=k)
 |none=>false
def R6 (a b:List Edge) (M:List (List Int)) (p q k:Int):Option Edge:=(aV a p).find? (R5 b M q k)
def VM (a b:List Edge) (p q:Int):Bool:=(I6 a b p q).isSome||(I6 b a q p).isSome
def VN (c:Bool):Int:=if c=true then 1 else 0
def VO (a b:List Edge) (nb p q:Nat):List Int:=fM (fun(q:Nat)=>VN (VM a b p q)) 0 (List.range nb) q
def R7 (a b:List Edge) (nb m:Nat):List (List Int):=(List.range m).map fun p=>VO a b nb p nb
def UX (M:List (List Int)) (p q:Nat) (v:Int):List (List Int):=M.set p ((M.getD p []).set q v)
def R8 (a b:List Edge) (k:Int) (p:Nat) (M:List (List Int)) (q:Nat):List (List Int):=if (R6 a b M p q k).isSome=true/\UW M p q=0 then UX M p q (k+1) else M
def UY (a b:List Edge) (nb:Nat) (k:Int) (M:List (List Int)) (p:Nat):List (List Int):=(List.range nb).foldl (R8 a b k p) M
def MK (a b:List Edge) (na nb:Nat) (k:Int) (M:List (List Int)):List (List Int):=(List.range na).foldl (UY a b nb k) M
def R9 (a b:List Edge) (na nb:Nat):Nat->List (List Int)
 |0=>R7 a b nb na
 |j+1=>MK a b na nb ((j+1:Nat):Int) (R9 a b na nb j)
def differ (a b:aP):List (List Int):=R9 a.af b.af a.aj.toNat b.aj.toNat (a.aj.toNat*b.aj.toNat)
end Go.Pv
