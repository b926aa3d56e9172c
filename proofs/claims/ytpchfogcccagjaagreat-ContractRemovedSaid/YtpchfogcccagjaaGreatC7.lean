/-
 What the functions of the law give.
-/
import Derived.Test.YtpchfogcccagjaaGreatC6
set_option linter.unusedSimpArgs false
set_option linter.unusedVariables false
open List renaming getElem?_eq_some_iff → V9, mem_of_getElem? → Wa, getElem?_eq_getElem → Wb, getElem?_append_left → We, getElem?_map → Wf, length_map → Wg, mem_map → Wk, getElem?_append_right → Wn, eq_nil_of_length_eq_zero → Wp, take_of_length_le → Wq, getD_eq_getElem?_getD → Ws, all_eq_true → Wu, findIdx?_eq_some_iff_getElem → Ww, length_append → Wz, map_append → WC, mem_cons → WG, mem_cons_self → WH, length_range → WI, append_assoc → WK, take_add_one → WL, getElem?_drop → WQ, mem_append → WT, getElem?_set_self → WU, take_length → WV, ext_getElem? → WW, any_eq_false → WY, length_take → W8, pairwise_iff_getElem → Xd, findIdx?_eq_none_iff → Xe, getElem_of_mem → Xg, mem_singleton → Xj, getElem?_set_ne → Xk, any_eq_true → Xm, foldl_cons → Xp, range_succ → Xq, getElem?_range → Xr, length_set → Xx, nodup_append → Xy, drop_of_length_le → XE, take_append_drop → XG, take_append_of_le_length → XT
open Nat renaming lt_or_ge → Wh, le_refl → Wj, zero_le → WA, zero_add → XN
open Int renaming toNat_natCast → WX
open Bool renaming true_and → WZ, false_and → Xu, eq_false_iff → Xz
namespace Go.Pv
def lL (w nb p:Nat):V:=.own (p+1) w 0 nb
def vz (w na nb m:Nat):List V:=fM (lL w nb) (.tl []) (List.range na) m
theorem mc {w na nb m:Nat} (h:m<=na):(vz w na nb m).length=na:=by
 have:=AM (lL w nb) (.tl []) (List.range na) (k:=m) (by simpa using h)
 rw[WI]at this
 exact this
theorem FM (w na nb:Nat):vz w na nb 0=List.replicate na (.tl []):=by
 unfold vz
 rw[y5,WI]
theorem HX {w na nb m:Nat} (h:m<na):(vz w na nb m).set m (.own (m+1) w 0 nb)=vz w na nb (m+1):=AO (f:=lL w nb) (Xr h)
theorem HY {w na nb m i:Nat} (h:i<m) (hm:m<=na):(vz w na nb m)[i]?=some (.own (i+1) w 0 nb):=A2 (f:=lL w nb) h (Xr (by omega))
theorem HZ (w na nb:Nat):vz w na nb na=(List.range na).map (lL w nb):=by
 have:=AN (lL w nb) (.tl []) (List.range na)
 rw[WI]at this
 exact this
def qU (w:Nat) (M:List (List Bool)):List aL:=M.map fun r=>⟨w,1,.inl (bX r)⟩
@[go_sem] theorem H0 (w:Nat) (M:List (List Bool)):(qU w M).length=M.length:=by simp[qU]
@[go_sem] theorem B6 (w:Nat) (M:List (List Bool)) (i:Nat):(qU w M)[i]?=M[i]?.map fun r=>⟨w,1,.inl (bX r)⟩:=by
 unfold qU
 rw[Wf]
@[go_sem] theorem Tw (w:Nat) (M:List (List Bool)) (i:Nat) (r:List Bool):(qU w M).set i ⟨w,1,.inl (bX r)⟩=qU w (M.set i r):=by simp[qU,List.map_set]
@[go_sem] theorem FN (w:Nat) (M:List (List Bool)) (r:List Bool):qU w M++[⟨w,1,.inl (bX r)⟩]=qU w (M++[r]):=by simp[qU]
theorem vA {α:Type} {w na nb:Nat} {M:List (List Bool)} (hM:mB na nb M) (f:V->Option α) (g:List Bool->α) (hf:∀p r,M[p]?=some r->f (.own (p+1) w 0 nb)=some (g r)):ay (ay f) (cQ (vz w na nb na))=some (M.map fun r=>[g r]):=by
 rw[HZ]
 have key:∀(k:Nat) (N:List (List Bool)),N.length=k->(∀p r,N[p]?=some r->f (.own (p+1) w 0 nb)=some (g r))->ay (ay f) (cQ ((List.range k).map (lL w nb)))=some (N.map fun r=>[g r]):=by
  intro k
  induction k with
  |zero=>
   intro N hN _
   have:N=[]:=Wp hN
   subst this
   rfl
  |succ k ih=>
   intro N hN hf
   obtain⟨N',r,rfl⟩:∃N' r,N=N'++[r]:=⟨N.dropLast,N.getLast (by intro e; rw[e]at hN; simp at hN),(List.dropLast_concat_getLast _).symm⟩
   have hl:N'.length=k:=by simpa using hN
   have h1:=ih N' hl fun p r hr=>hf p r (by rw[We (V9.1 hr).1]; exact hr)
   have h2:=hf k r (by rw[List.getElem?_append_right (by omega),hl]; simp)
   have happ:∀(a b:List (List V)) (ra rb:List (List α)),ay (ay f) a=some ra->ay (ay f) b=some rb->ay (ay f) (a++b)=some (ra++rb):=by
    intro a
    induction a with
    |nil=>intro b ra rb h1 h2; cases h1; exact h2
    |cons x a ih=>
     intro b ra rb h1 h2
     simp only[ay]at h1
     split at h1
     .rename_i y l' e1 e2
      cases h1
      simp only[List.cons_append,ay,e1,ih b l' rb e2 h2]
     .cases h1
   have h3:ay (ay f) (cQ [lL w nb k])=some [[g r]]:=by
    simp[cQ,ay,lL,h2]
   have h4:=happ _ _ _ _ h1 h3
   rw[WC,Xq,WC]
   show ay (ay f) (cQ ((List.range k).map (lL w nb)++[lL w nb k]))=_
   unfold cQ at h4 |-
   rw[WC]
   exact h4
 exact key na M hM.len hf
theorem Dl {w na nb:Nat} {M:List (List Bool)} (hM:mB na nb M) (bx:List (Nat×List V)) (a0:aL) (d:Nat):ay (ay (aR ⟨bx,a0::qU w M,[]⟩ (d+1))) (cQ (vz w na nb na))=some (zb (fun _=>1) M):=
 vA hM (aR ⟨bx,a0::qU w M,[]⟩ (d+1)) (fun r=>PV.aq 1 (bX r)) fun p r hr=>by
  have h1:=hM.row r (Wa hr)
  have h2:(bX r).take nb=bX r:=Wq (by rw[hV]; omega)
  simp[aR,aB,B6,hr,az,h2]
theorem Dm {w na nb:Nat} {M:List (List Bool)} (hM:mB na nb M) (bx:List (Nat×List V)) (a0:aL) (d:Nat):ay (ay (aY ⟨bx,a0::qU w M,[]⟩ (d+1))) (cQ (vz w na nb na))=some (zb (fun _=>0) M):=
 vA hM (aY ⟨bx,a0::qU w M,[]⟩ (d+1)) (fun r=>PV.aq 0 (bX r)) fun p r hr=>by
  have h1:=hM.row r (Wa hr)
  have h2:(bX r).take nb=bX r:=Wq (by rw[hV]; omega)
  simp[dS,aB,B6,hr,az,h2,bO]
noncomputable def lM (A B:List aH) (m:Nat):List (List Bool):=(A.take m).map fun x=>B.map (ep x)
noncomputable def tp (A B:List aH):Rel:=fun M p q=>HQ M (ji A p) (ji B q)
noncomputable def Dn (A B:List aH):List (List Bool):=A1 (tp A B) A.length B.length (lM A B A.length)
theorem wR (A B:List aH) {m:Nat} (h:m<=A.length):mB m B.length (lM A B m):=⟨by simp[lM]; omega,fun l hl=>by
 obtain⟨x,_,rfl⟩:=Wk.1 hl
 exact Wg _⟩
theorem Dp (A B:List aH) {m:Nat} {x:aH} (h:A[m]?=some x):lM A B (m+1)=lM A B m++[B.map (ep x)]:=by
 unfold lM
 rw[WL,h,WC]
 rfl
theorem oQ {A:List aH} {p:Nat} {x:aH} (h:A[p]?=some x):ji A p=x:=by
 have:=(V9.1 h).1
 have h2:=uT (l:=A) (i:=p) (by omega) (by omega)
 rw[WX,h]at h2
 exact(Option.some.inj h2).symm
def Below (A B:List aH) (M:List (List Bool)):Prop:=∀p q:Nat,iY M p q=true->ep (ji A p) (ji B q)=true
theorem A3 {A B:List aH} {p q:Nat} (h:iY (lM A B A.length) p q=true):ep (ji A p) (ji B q)=true:=by
 unfold iY lM at h
 simp only[Int.toNat_natCast,List.take_length,List.getD_eq_getElem?_getD,List.getElem?_map]at h
 cases hx:A[p]? with
 |none=>simp[hx]at h
 |some x=>
  rw[hx]at h
  simp only[Option.map_some,Option.getD_some,List.getElem?_map]at h
  cases hy:B[q]? with
  |none=>simp[hy]at h
  |some y=>
   rw[hy]at h
   rw[oQ hx,oQ hy]
   exact h
theorem Below.set {A B:List aH} {na nb p q:Nat} {M:List (List Bool)} (h:Below A B M) (hM:mB na nb M) (hp:p<na) (hq:q<nb):Below A B (qT M p q):=fun p' q' he=>by
 rw[FE hM hp hq]at he
 split at he
 .cases he
 .exact h p' q' he
structure FO (A:List aH):Prop where
 ok:∀t∈A,t.ok
 short:∀t∈A,t.short
 len:A.length<=32
 kind:∀t∈A,t.kind<=9
 use:∀t∈A,UU A.length (p5 t)
theorem Dq {t:aH} {u:Int×Int} (h:u∈p5 t) (h9:1<=t.kind/\t.kind<=9):u.2∈cT t:=by
 unfold p5 oP at h
 rcases WT.1 h with h|h
 .rcases WT.1 h with h|h
  .obtain⟨m,hm,rfl⟩:=Wk.1 h
   exact yT hm
  .split at h
   .rename_i hk
    simp only[List.mem_singleton]at h
    subst h
    unfold cT jF
    simp[hk]
   .simp at h
 .split at h
  .rename_i hk
   simp only[List.mem_singleton]at h
   subst h
   exact u7 (by omega)
  .simp at h
def Dr (w na nb m:Nat) (r:List Bool):List V:=(vz w na nb m).set m (dh (m+1) (bX r))
theorem FP {w na nb m:Nat} (h:m<na):Dr w na nb m []=vz w na nb m:=by
 unfold Dr
 apply WW
 intro i
 by_cases e:m=i
 .subst e
  rw[WU (by rw[mc (by omega)]; exact h)]
  unfold vz fM
  rw[List.getElem?_append_right (by simp; omega),List.getElem?_replicate,if_pos (by simp; omega)]
  rfl
 .rw[Xk e]
theorem FQ {na nb m:Nat} {r:List Bool} (h:m<na) (hr:r.length=nb+1):Dr nb na (nb+1) m r=vz nb na (nb+1) (m+1):=by
 rw[<- HX h]
 unfold Dr
 cases r with
 |nil=>simp at hr
 |cons b r=>
  obtain rfl:r.length=nb:=by simpa using hr
  simp[bX,dh]
theorem FR {w:Nat} {M:List (List Bool)} {r:List Bool} (h:r.length=w+1):qU w M++cK 1 (bX r)=qU w (M++[r]):=by
 cases r with
 |nil=>simp at h
 |cons b r=>
  obtain rfl:r.length=w:=by simpa using h
  rw[<- FN]
  simp[bX,cK]
theorem H2 {w na nb m:Nat} {r:List Bool} (h:m<na):(Dr w na nb m r)[m]?=some (dh (m+1) (bX r)):=by
 unfold Dr
 rw[WU (by rw[mc (by omega)]; exact h)]
theorem H3 {w na nb m:Nat} {r r':List Bool}:(Dr w na nb m r).set m (dh (m+1) (bX r'))=Dr w na nb m r':=by
 unfold Dr
 rw[List.set_set]
theorem H4 {w na nb m:Nat} {r:List Bool} (h:m<na):(Dr w na nb m r).length=na:=by
 unfold Dr
 rw[Xx,mc (by omega)]
theorem H5 (n k:Nat) (rows:List (List PV)) (r:List PV):(tM n k rows r).all=none:=by cases rows<;>rfl
theorem ML (n k:Nat) (rows:List (List PV)) (r:List PV):(tM n k rows r).bx=none:=by cases rows<;>rfl
theorem MM (n k:Nat) (rows:List (List PV)) (r:List PV):(tM n k rows r).mp=none:=by cases rows<;>rfl
theorem Ds (n k:Nat) (rows:List (List PV)) (r:List PV):(tM n k rows r).mD=false:=by cases rows<;>rfl
theorem H6 {α:Type} (o:Option α) (eq:α->α->Bool):jk o none eq=true:=by cases o<;>rfl
set_option maxHeartbeats 16000000 in
theorem r478 (t u:Nat) (A0 B0:List aH) (hA:FO A0) (hB:FO B0) (hb0:1<=B0.length):res A aA 478 [.agg [.aq t (A0.map aH.c)],.agg [.aq u (B0.map aH.c)],.bool false]=some [.aq 0 (zb (fun _=>0) (Dn A0 B0))]:=by
 have la:=hA.len
 have lb:=hB.len
 obtain⟨G,hG⟩:∃G,Dn A0 B0=G:=⟨_,rfl⟩
 obtain⟨w,hw⟩:∃w,B0.length=w+1:=⟨B0.length - 1,by omega⟩
 rw[hG]
 refine aw a478 rfl rfl ?_
 simp only[F478,LC]
 simp(disch:=omega)only[go_sem]
 refine W.fv A0.length (fun m=>⟨[(2,.pv (.bool false)),(3,.ptr 3 0),(4,.ptr 4 0),(7,.ptr 7 0),(22,.pv (.aq t (A0.map aH.c))),(23,.pv (.int .i64 A0.length)),(24,.pv (.int .i64 m))],⟨[(3,[.pv (.aq t (A0.map aH.c))]),(4,[.pv (.aq u (B0.map aH.c))]),(7,[.own 0 0 0 A0.length])],⟨0,1,.inr (cQ (vz w A0.length B0.length m))⟩::qU w (lM A0 B0 m),[]⟩⟩) (fun _=>True) (by rw[FM]; rfl) trivial fun m hm _=>?_
 have hxl:=mc (w:=w) (nb:=B0.length) hm
 have hbl:=(wR A0 B0 hm).len
 simp(disch:=omega)only[go_sem]
 refine Br.aJ (fun h=>?_) (fun h=>?_)
 .obtain⟨x,hx⟩:=get_some (l:=A0) (k:=m) (by omega)
  simp(disch:=omega)only[go_sem,hx,Option.map_some,aH.c]
  refine W.fv B0.length (fun q=>⟨[(2,.pv (.bool false)),(3,.ptr 3 0),(4,.ptr 4 0),(7,.ptr 7 0),(8,.pv (.int .i64 m)),(9,.ptr 9 0),(22,.pv (.aq t (A0.map aH.c))),(23,.pv (.int .i64 A0.length)),(24,.pv (.int .i64 m)),(30,.pv (.aq u (B0.map aH.c))),(31,.pv (.int .i64 B0.length)),(32,.pv (.int .i64 q))],⟨[(3,[.pv (.aq t (A0.map aH.c))]),(4,[.pv (.aq u (B0.map aH.c))]),(7,[.own 0 0 0 A0.length]),(9,x.c.map .pv)],⟨0,1,.inr (cQ (Dr w A0.length B0.length m ((B0.take q).map (ep x))))⟩::(qU w (lM A0 B0 m)++cK 1 (bX ((B0.take q).map (ep x)))),[]⟩⟩) (fun _=>True) ?_ trivial fun q hq _=>?_
  .rw[List.take_zero,List.map_nil,FP (by omega)]
   simp[bX,cK,aH.c]
  obtain⟨row,hrow⟩:∃row,(B0.take q).map (ep x)=row:=⟨_,rfl⟩
  have hrl:row.length=q:=by rw[<- hrow,Wg,W8]; omega
  rw[hrow]
  simp(disch:=omega)only[go_sem]
  refine Br.aJ (fun h=>?_) (fun h=>?_)
  .obtain⟨y,hy⟩:=get_some (l:=B0) (k:=q) (by omega)
   have h488:=r488 x y (hA.ok x (Wa hx)) (hB.ok y (Wa hy))
   have hnx:(B0.take (q+1)).map (ep x)=row++[ep x y]:=by
    rw[WL,hy,WC,hrow]
    rfl
   generalize ep x y=e at h488 hnx
   have hxg:=H2 (w:=w) (na:=A0.length) (nb:=B0.length) (m:=m) (r:=row) (by omega)
   have hxl':=H4 (w:=w) (na:=A0.length) (nb:=B0.length) (m:=m) (r:=row) (by omega)
   have hxs:=H3 (w:=w) (na:=A0.length) (nb:=B0.length) (m:=m) (r:=row) (r':=row++[e])
   have hg:=fun bx mp (a:aL)=>grow bx mp (a::qU w (lM A0 B0 m)) 1 (bX row) [.bool e] rfl (by rw[hV]; omega)
   have hga:=fun bx mp (a:aL)=>ik bx mp (a::qU w (lM A0 B0 m)) 1 (bX row) [.bool e]
   simp only[List.length_cons,H0,hbl,List.cons_append]at hg hga
   have hsn:bX row++[[PV.bool e]]=bX (row++[e]):=by simp[bX]
   rw[hsn]at hg hga
   have hst:=y6 (id:=0) (row:=m) (ax:=0) (xs:=Dr w A0.length B0.length m row) (y:=dh (m+1) (bX (row++[e]))) (by omega) (Hq _ _)
   rw[hxs]at hst
   unfold aH.c at h488
   simp(disch:=omega)only[go_sem,hst,hy,Option.map_some,aH.c,h488,hxg,List.map_cons,List.map_nil,hg,hga,H5,ML,MM,Ds,H6,Option.isNone_none,Option.map_none,Bool.not_false,Bool.and_true]
   refine .of (by omega) ?_ trivial
   show _=St.mk _ _
   rw[hnx]
   rfl
  .obtain rfl:q=B0.length:=by omega
   rw[WV]at hrow
   have hf:=FQ (na:=A0.length) (nb:=w) (m:=m) (r:=row) (by omega) (by omega)
   rw[<- hw]at hf
   have hba:=FR (w:=w) (M:=lM A0 B0 m) (r:=row) (by omega)
   simp(disch:=omega)only[go_sem]
   refine .of (by omega) ?_ trivial
   show _=St.mk _ _
   rw[Dp _ _ hx,hrow,hba,hf]
   rfl
 .obtain rfl:m=A0.length:=by omega
  clear h hxl hbl
  simp(disch:=omega)only[go_sem]
  generalize hna:A0.length=na at *
  generalize hnb:B0.length=nb at *
  have hM0:mB na nb (lM A0 B0 na):=by
   have:=wR A0 B0 (Wj _)
   rw[hna,hnb]at this
   exact this
  have hB0:Below A0 B0 (lM A0 B0 na):=fun p q he=>by
   rw[<- hna]at he
   exact A3 he
  have hG':A1 (tp A0 B0) na nb (lM A0 B0 na)=G:=by
   rw[<- hG,<- hna,<- hnb]
   rfl
  have hrt:(cQ (vz w na nb na)).take na=cQ (vz w na nb na):=Wq (by rw[C8,mc (Wj _)]; exact Wj _)
  have hxl:=mc (w:=w) (na:=na) (nb:=nb) (Wj _)
  refine W.BZ (fun(s:List (List Bool)×Bool)=>⟨[(3,.ptr 3 0),(4,.ptr 4 0),(7,.ptr 7 0),(12,.pv (.bool s.2))],⟨[(3,[.pv (.aq t (A0.map aH.c))]),(4,[.pv (.aq u (B0.map aH.c))]),(7,[.own 0 0 0 na])],⟨0,1,.inr (cQ (vz w na nb na))⟩::qU w s.1,[]⟩⟩) (fun s=>MI G (tp A0 B0) na nb s/\Below A0 B0 s.1) FJ (lM A0 B0 na,true) rfl ⟨⟨hM0,hG'⟩,hB0⟩ fun s hs=>?_
  obtain⟨M,f⟩:=s
  obtain⟨hs,hb⟩:=hs
  dsimp only at hb
  cases f with
  |false=>
   have hkp:=Dm (w:=w) hs.1
   have hMG:M=G:=hs.2
   subst hMG
   simp(disch:=omega)only[go_sem,hrt,hkp]
  |true=>
   have hM:=hs.1
   dsimp only at hM
   simp(disch:=omega)only[go_sem]
   refine W.IY na (FH (tp A0 B0) nb) (M,false) (fun p s=>⟨[(3,.ptr 3 0),(4,.ptr 4 0),(7,.ptr 7 0),(12,.pv (.bool s.2)),(53,.pv (.aq t (A0.map aH.c))),(54,.pv (.int .i64 na)),(55,.pv (.int .i64 p))],⟨[(3,[.pv (.aq t (A0.map aH.c))]),(4,[.pv (.aq u (B0.map aH.c))]),(7,[.own 0 0 0 na])],⟨0,1,.inr (cQ (vz w na nb na))⟩::qU w s.1,[]⟩⟩) (fun _ s=>mB na nb s.1/\Below A0 B0 s.1) (by simp only[hna]; rfl) ⟨hM,hb⟩ (fun p s hp _ hi=>?_) (fun s hse hi=>?_)
   .obtain⟨x,hx⟩:=get_some (l:=A0) (k:=p) (by omega)
    have hxm:=Wa hx
    have h490:=r490 x (hA.short x hxm) (hA.kind x hxm)
    unfold aH.c at h490
    simp(disch:=omega)only[go_sem]
    refine Br.aJ (fun h=>?_) (fun h=>(h (by omega)).elim)
    simp(disch:=omega)only[go_sem,hx,Option.map_some,aH.c]
    refine W.IY nb (FF (tp A0 B0) p) s (fun q s=>⟨[(3,.ptr 3 0),(4,.ptr 4 0),(7,.ptr 7 0),(12,.pv (.bool s.2)),(13,.pv (.int .i64 p)),(14,.ptr 14 0),(53,.pv (.aq t (A0.map aH.c))),(54,.pv (.int .i64 na)),(55,.pv (.int .i64 p)),(61,.pv (.aq u (B0.map aH.c))),(62,.pv (.int .i64 nb)),(63,.pv (.int .i64 q))],⟨[(3,[.pv (.aq t (A0.map aH.c))]),(4,[.pv (.aq u (B0.map aH.c))]),(7,[.own 0 0 0 na]),(14,x.c.map .pv)],⟨0,1,.inr (cQ (vz w na nb na))⟩::qU w s.1,[]⟩⟩) (fun _ s=>mB na nb s.1/\Below A0 B0 s.1) (by simp only[hnb]; rfl) hi (fun q s hq _ hi=>?_) (fun s hse hi=>?_)
    .obtain⟨N,f⟩:=s
     obtain⟨hN,hNb⟩:=hi
     dsimp only at hN hNb
     obtain⟨l,e1,e2,e3⟩:=hN.get (p:=(p:Int)) (q:=(q:Int)) (by omega) (by omega)
     rw[WX]at e1 e3
     obtain⟨y,hy⟩:=get_some (l:=B0) (k:=q) (by omega)
     have hym:=Wa hy
     have h490':=r490 y (hB.short y hym) (hB.kind y hym)
     unfold aH.c at h490'
     have hld:=Dl (w:=w) hN
     have hxg:=HY (w:=w) (na:=na) (nb:=nb) (m:=na) (i:=p) (by omega) (by omega)
     have hset:qU w (N.set p (l.set q false))=qU w (qT N p q):=by
      unfold qT
      rw[Ws,e1]
      rfl
     have hst:FF (tp A0 B0) p (N,f) q=if (iY N p q&&!HQ N x y)=true then (qT N p q,true) else (N,f):=by
      unfold FF tp
      rw[oQ hx,oQ hy]
     have hin:mB na nb (FF (tp A0 B0) p (N,f) q).1/\Below A0 B0 (FF (tp A0 B0) p (N,f) q).1:=by
      refine⟨FL hN hp,?_⟩
      rw[hst]
      split
      .exact hNb.set hN hp hq
      .exact hNb
     have hul:=zd x
     have hxs:=(hA.short x hxm).bc
     have hul':=zd y
     have hys:=(hB.short y hym).bc
     have h489:=fun t u s v=>r489 t u s v na nb (fun _=>1) (p5 x) (p5 y) N hN (by omega) (hna ▸ hA.use x hxm) (hnb ▸ hB.use y hym) (by omega) (by omega)
     have hrel:HQ N x y=wM (fun u v=>iY N u.2 v.2) (p5 x) (p5 y):=rfl
     rw[<- hrel]at h489
     generalize HQ N x y=r at h489 hst
     simp(disch:=omega)only[go_sem,hxg,e1]
     refine Br.aJ (fun h=>?_) (fun h=>(h (by omega)).elim)
     simp(disch:=omega)only[go_sem,hy,Option.map_some,aH.c]
     cases he:iY N p q with
     |false=>
      rw[he]at e3 hst
      rw[if_neg (by simp)]at hst
      simp(disch:=omega)only[go_sem,hxg,e1,e3]
      rw[hst]at hin |-
      exact cW.of rfl hin
     |true=>
      rw[he]at e3 hst
      rw[WZ]at hst
      simp(disch:=omega)only[go_sem,hxg,e1,e3,hrt,hld,h490,h490',h489]
      cases r with
      |true=>
       rw[if_neg (by simp)]at hst
       simp(disch:=omega)only[go_sem]
       rw[hst]at hin |-
       exact cW.of rfl hin
      |false=>
       rw[if_pos (by simp)]at hst
       simp(disch:=omega)only[go_sem,hxg,e1,hset]
       rw[hst]at hin |-
       exact cW.of rfl hin
    .have hr:FH (tp A0 B0) nb _ p=s:=hse.symm
     simp(disch:=omega)only[go_sem]
     rw[hr]
     exact cW.of rfl hi
   .have hr:GD (tp A0 B0) na nb (M,false)=s:=hse.symm
    have hk:=FK hs (MJ hs.1)
    rw[hr]at hk
    simp(disch:=omega)only[go_sem]
    exact⟨s,⟨hk.1,hi.2⟩,hk.2,rfl⟩
theorem H7 {p:aH} (h:dO p=true):1<=p.kind:=by
 unfold dO at h
 simp only[Bool.and_eq_true,decide_eq_true_eq]at h
 exact h.1.1
structure VT (A:List aH):Prop where
 l:A.length<=2147483648
 o:∀t∈A,t.ok
 s:∀t∈A,t.short
 v:cS A=0
theorem VT.vW {A:List aH} (h:VT A):FO A:=by
 have hs:=eZ h.v
 exact⟨h.o,h.s,hs.len,fun t ht=>yx (hs.own t ht),fun t ht u hu=>hs.Np t ht _ (Dq hu ⟨H7 (hs.own t ht),yx (hs.own t ht)⟩)⟩
theorem r477 (t:Nat) (A0:List aH) (x:Int) (h:VT A0) (hx:0<=x/\x<A0.length):res A aA 477 [.agg [.aq t (A0.map aH.c),.int .i64 x]]=some [.int .i64 0]:=by
 have h267:=fun v=>r267 v A0 h.l h.o h.s
 rw[h.v]at h267
 have hl:=h.l
 obtain⟨x0,x1⟩:=hx
 have e1:decide (x<0)=false:=decide_eq_false (by omega)
 have e2:decide ((A0.length:Int)<=x)=false:=decide_eq_false (by omega)
 refine aw a477 rfl rfl ?_
 simp only[F477,LB]
 simp(disch:=omega)only[go_sem,h267,e1,e2]
noncomputable def gG (A B:List aH) (x y:Int):Bool:=iY (Dn A B) x y
theorem B7 (A B:List aH):mB A.length B.length (Dn A B):=HW (wR A B (Wj _))
theorem r468 (t u:Nat) (A0 B0:List aH) (x y:Int) (hA:VT A0) (hB:VT B0) (hx:0<=x/\x<A0.length) (hy:0<=y/\y<B0.length):res A aA 468 [.agg [.aq t (A0.map aH.c),.int .i64 x],.agg [.aq u (B0.map aH.c),.int .i64 y],.bool false]=some [.bool (gG A0 B0 x y)]:=by
 have h1:=fun t=>r477 t A0 x hA hx
 have h2:=fun t=>r477 t B0 y hB hy
 have h3:=fun t u=>r478 t u A0 B0 hA.vW hB.vW (by omega)
 obtain⟨l,g1,g2,g3⟩:=(B7 A0 B0).get hx hy
 have g4:=(B7 A0 B0).len
 have hw:iY (Dn A0 B0) x y=gG A0 B0 x y:=rfl
 rw[hw]at g3
 generalize gG A0 B0 x y=G at *
 generalize Dn A0 B0=M at *
 have hal:=hA.vW.len
 have hbl:=hB.vW.len
 obtain⟨x0,x1⟩:=hx
 obtain⟨y0,y1⟩:=hy
 refine aw a468 rfl rfl ?_
 simp only[F468,Lv]
 simp(disch:=omega)only[go_sem,h1,h2,h3,gB,g1,g3]
theorem r456 (t u:Nat) (A0 B0:List aH) (x y:Int) (hA:VT A0) (hB:VT B0) (hx:0<=x/\x<A0.length) (hy:0<=y/\y<B0.length):res A aA 456 [.agg [.aq t (A0.map aH.c),.int .i64 x],.agg [.aq u (B0.map aH.c),.int .i64 y]]=some [.bool (gG A0 B0 x y)]:=by
 have h1:=fun t u=>r468 t u A0 B0 x y hA hB hx hy
 refine aw a456 rfl rfl ?_
 simp only[F456,Lr]
 simp(disch:=omega)only[go_sem,h1]
def UZ (R:Int->Int->Prop):Option Int->Option Int->Prop
 |none,none=>True
 |some x,some y=>R x y
 |_,_=>False
def Ev (a b:List Edge):Nat->Int->Int->Prop
 |0,_,_=>True
 |j+1,p,q=>∀d x,UZ (Ev a b j) (cO p d x a) (cO q d x b)
open Classical in
noncomputable def aq (a b:List Edge):Nat->Int->Int->Nat
 |0,_,_=>0
 |k+1,p,q=>if aq a b k p q≠0 then aq a b k p q else if Ev a b (k+1) p q then 0 else k+1
theorem zf {es:List Edge} {p:Int} {e:Edge}:e∈aV es p↔e∈es/\e.fr=p:=by simp[aV]
def Mv.lt (a b:Mv):Bool:=if a.send≠b.send then b.send else decide (a.label<b.label)
def MN (D:List (List Int)) (n:Nat) (p:Nat):Nat:=((List.range n).find? fun(q:Nat)=>decide (UW D p q=0)).getD 0
def aP.H8 (a:aP):List Int:=(List.range a.aj.toNat).map fun p=>(MN (differ a a) a.aj.toNat p:Int)
def aP.cl (a:aP) (v:Int):Int:=a.H8.getD v.toNat 0
@[go_sem] theorem r65 (e:Edge) (u:Nat) (s:Int) (cs:List PV):res A aA 65 [.agg [.int .i64 e.fr,.bool e.send,.int .i64 e.label,.int .i64 e.to],.ro u (.int .i64 s::cs)]=some [.bool (!decide (e.fr=s))]:=by
 refine aw a65 rfl rfl ?_
 simp only[F65,Uv]
 simp(disch:=omega)only[go_sem]
theorem r77 (g t u:Nat) (cs:List PV) (l:List Edge) (p:Edge->Bool) (hl:l.length<=2^63 - 1) (hi:pB A g=false) (hp:aA g=none) (ht:dx A g=false) (hf:∀x∈l,res A aA g [.agg [.int .i64 x.fr,.bool x.send,.int .i64 x.label,.int .i64 x.to],.ro u cs]=some [.bool (p x)]):res A aA 77 [.aq t (bF l),.func g [.ro u cs]]=some [.int .i64 (oN p l)]:=by
 refine aw a77 rfl rfl ?_
 simp only[F77,Ux]
 simp(disch:=omega)only[go_sem]
 refine W.find l p (fun k=>⟨[(0,.pv (.aq t (bF l))),(1,.pv (.func g [.ro u cs])),(7,.pv (.int .i64 l.length)),(8,.pv (.int .i64 k))],⟨[],[],[]⟩⟩) rfl (fun k x hx hk hfd=>?_) (fun hn=>?_)
 .have hfx:=hf x (Wa hx)
  simp(disch:=omega)only[go_sem]
  refine Br.aJ (fun h=>?_) (fun h=>(h (by omega)).elim)
  simp(disch:=omega)only[go_sem,hx,Bx hi hp ht,hfx]
  refine Br.of (fun h2=>?_) (fun h2=>?_)<;>simp(disch:=omega)only[go_sem]
  .rw[(hfd h2).oN]
  .exact bB.of h2 rfl
 .simp(disch:=omega)only[go_sem]
  rw[hn.oN]
theorem qF {α:Type} {p:α->Bool} {l:List α} {k:Nat} {x:α} (h:l[k]?=some x):(l.take (k+1)).filter p=if p x=true then (l.take k).filter p++[x] else (l.take k).filter p:=by
 rw[WL,h,List.filter_append]
 by_cases hp:p x=true<;>simp[hp]
theorem FT (c l:List Edge) (v:Edge) (h:c.length<l.length):(c++l.drop c.length).set c.length v=(c++[v])++l.drop (c++[v]).length:=by
 rw[List.set_append_right _ _ (Wj _),Nat.sub_self,WK]
 have:(c++[v]).length=c.length+1:=by simp
 rw[this,List.drop_eq_getElem_cons h]
 rfl
@[go_sem] theorem MO (bx:List (Nat×List V)) (mp:List (List (PV×PV))) (ar:List aL) (v n:Nat) (l:List Edge):keep ⟨bx,⟨v,4,.inl (bF l)⟩::ar,mp⟩ true (.own 0 v 0 n)=some (.fr 4 (bF (l.take n))):=by
 simp[keep,eM,aB,bF]
theorem FU (bx:List (Nat×List V)) (mp:List (List (PV×PV))) (ar:List aL) (v off len:Nat) (l:List Edge) (h:off+len<=l.length):JZ ⟨bx,⟨v,4,.inl (bF l)⟩::ar,mp⟩ 4 [.pv (.int .i64 0),.pv (.bool false),.pv (.int .i64 0),.pv (.int .i64 0)] (.own 0 v off len)=
  some (.dy [],{ ar:=some (0,⟨v,4,.inl (bF (l.take off++List.replicate len ⟨0,false,0,0⟩++l.drop (off+len)))⟩) }):=by
 simp[JZ,aB,ay,V.bS,PV.perm,bF,h,Edge.c]
@[go_sem] theorem MP {id ax v len:Nat} {l:List Edge} (hn:len=l.length):BS id ax len ⟨v,4,.inl (bF l)⟩=some ([.fr 4 (bF l)],some (id,⟨ax+1,0,.inl []⟩)):=by
 subst hn
 simp[BS,aL.size,bN]
@[go_sem] theorem Pl (l:List Edge) (n:Nat):(bF l).take n=bF (l.take n):=by simp[bF]
set_option maxHeartbeats 4000000 in
@[go_sem] theorem r63 (l:List Edge) (s:Int) (hl:l.length<=2000000000):res A aA 63 [.fr 4 (bF l),.func 65 [.ro 2 [.int .i64 s]]]=some [.fr 4 (bF (aV l s))]:=by
 refine aw a63 rfl rfl ?_
 simp only[F63,Tc]
 have h77:=fun t:Nat=>r77 65 t 2 [.int .i64 s] l (fun e=>!decide (e.fr=s)) (by omega) (by kernel_rfl) (by kernel_rfl) (by kernel_rfl) (fun x _=>r65 x 2 s [])
 have hlt:l.take l.length=l:=WV
 cases hfi:l.findIdx? (fun e=>!decide (e.fr=s))with
 |none=>
  have hix:oN (fun e=>!decide (e.fr=s)) l= -1:=by unfold oN; rw[hfi]
  rw[Xe]at hfi
  have hall:aV l s=l:=by
   unfold aV
   rw[List.filter_eq_self]
   intro e he
   have:=hfi e he
   simpa using this
  simp(disch:=omega)only[go_sem,h77,hlt,hix,hall]
 |some k=>
  have hix:oN (fun e=>!decide (e.fr=s)) l=(k:Int):=by unfold oN; rw[hfi]
  rw[Ww]at hfi
  obtain⟨hk,hp,hbefore⟩:=hfi
  have hne:¬(k:Int)= -1:=by omega
  have hpre:aV (l.take (k+1)) s=l.take k:=by
   unfold aV
   rw[qF (List.getElem?_eq_getElem hk),if_neg (by simpa using hp),List.filter_eq_self]
   intro e he
   obtain⟨j,hj,rfl⟩:=Xg he
   rw[W8]at hj
   have:=hbefore j (by omega)
   simpa using this
  simp(disch:=omega)only[go_sem,h77,hlt,hix,hne]
  refine W.fv (l.length - (k+1)) (fun j=>⟨[(0,.own 0 0 0 l.length),(1,.pv (.func 65 [.ro 2 [.int .i64 s]])),(5,.pv (.int .i64 (aV (l.take (k+1+j)) s).length)),(6,.pv (.int .i64 (k+1+j:Nat)))],⟨[],[⟨0,4,.inl (bF (aV (l.take (k+1+j)) s++l.drop (aV (l.take (k+1+j)) s).length))⟩],[]⟩⟩) (fun j=>(aV (l.take (k+1+j)) s).length<=k+j) ?_ ?_ fun j hj hw=>?_
  .simp only[Nat.add_zero,hpre,List.length_take,Nat.min_eq_left (Nat.le_of_lt hk)]
   rw[XG]
   rfl
  .simp only[Nat.add_zero,hpre,List.length_take]
   omega
  have hkeep:∀q,(aV (l.take (k+1+j)) s).length<=q->(aV (l.take (k+1+j)) s++l.drop (aV (l.take (k+1+j)) s).length)[q]?=l[q]?:=fun q hq=>by
   rw[Wn hq,WQ]
   congr 1
   omega
  have hln:(aV (l.take (k+1+j)) s++l.drop (aV (l.take (k+1+j)) s).length).length=l.length:=by simp; omega
  simp(disch:=omega)only[go_sem]
  refine Br.aJ (fun h=>?_) (fun h=>?_)
  .obtain⟨x,hx⟩:=get_at (l:=l) (k:=k+1+j) (by omega)
   have h65:=r65 x 2 s []
   have hst:aV (l.take (k+1+(j+1))) s=if (x.fr==s)=true then aV (l.take (k+1+j)) s++[x] else aV (l.take (k+1+j)) s:=qF hx
   simp(disch:=omega)only[go_sem,hkeep,hx,h65]
   refine Br.aJ (fun g=>?_) (fun g=>?_)<;>simp(disch:=omega)only[go_sem,g]
   .rw[if_pos (by simp[g])]at hst
    have hxe:(⟨s,x.send,x.label,x.to⟩:Edge)=x:=by rw[<- g]
    refine .of (by omega) ?_ ?_
    .show _=St.mk _ _
     rw[hst,hxe,FT _ _ _ (by omega),Wz]
     rfl
    .show (aV _ s).length<=_
     rw[hst,Wz]
     simp
     omega
   .rw[if_neg (by simp[g])]at hst
    refine .of (by omega) ?_ ?_
    .show _=St.mk _ _
     rw[hst]
     rfl
    .show (aV _ s).length<=_
     rw[hst]
     omega
  .have hall:l.take (k+1+j)=l:=Wq (by omega)
   rw[hall]at hln hw |-
   simp(disch:=omega)only[go_sem]
   rw[FU _ _ _ _ _ _ _ (by omega)]
   have hl3:(aV l s++List.replicate (l.length - (aV l s).length) (⟨0,false,0,0⟩:Edge)).length=l.length:=by simp; omega
   have e1:List.take (aV l s).length (aV l s++List.drop (aV l s).length l)=aV l s:=by
    rw[XT (Wj _),WV]
   have e2:List.drop ((aV l s).length+(l.length - (aV l s).length)) (aV l s++List.drop (aV l s).length l)=[]:=List.drop_eq_nil_of_le (by rw[hln]; omega)
   rw[e1,e2]
   simp(disch:=omega)only[go_sem]
   have e3:List.take (aV l s).length (aV l s++List.replicate (l.length - (aV l s).length) (⟨0,false,0,0⟩:Edge))=aV l s:=by
    rw[XT (Wj _),WV]
   rw[e3]
@[go_sem] theorem r63n (s:Int):res A aA 63 [.aq 0 [],.func 65 [.ro 2 [.int .i64 s]]]=some [.aq 0 []]:=by
 refine aw a63 rfl rfl ?_
 simp only[F63,Tc]
 have h77:=r77 65 0 2 [.int .i64 s] [] (fun e=>!decide (e.fr=s)) (by simp) (by kernel_rfl) (by kernel_rfl) (by kernel_rfl) (fun x hx=>by cases hx)
 have hix:oN (fun e:Edge=>!decide (e.fr=s)) []= -1:=rfl
 rw[hix]at h77
 have h77':res A aA 77 [.aq 0 [],.func 65 [.ro 2 [.int .i64 s]]]=some [.int .i64 (-1)]:=h77
 simp(disch:=omega)only[go_sem,h77']
 rfl
@[go_sem] theorem I7 (h:aa) (v:V):ca h true [.tl [],v]=(cq h v).bind fun q=>some ([.aq 0 [],q],none):=by
 simp only[ca,cb,if_true,ay]
 cases cq h v<;>rfl
def FV (h:aa) (v:V):List PV×Option (Nat×aL)->Option (List PV×Option (Nat×aL))
 |([p],some (i,a))=>(cq { h with ar:=h.ar.set i a } v).bind fun q=>some ([p,q],some (i,a))
 |_=>none
@[go_sem] theorem Sa (bx:List (Nat×List V)) (ar:List aL) (mp:List (List (PV×PV))) (v:V) (p:PV) (i:Nat) (a:aL):FV ⟨bx,ar,mp⟩ v ([p],some (i,a))=(cq ⟨bx,ar.set i a,mp⟩ v).bind fun q=>some ([p,q],some (i,a)):=rfl
@[go_sem] theorem H9 (h:aa) (id ax len:Nat) (v:V):ca h true [.own id ax 0 len,v]=(aB h id ax).bind fun a=>(BS id ax len a).bind (FV h v):=by
 simp only[ca,cb]
 cases aB h id ax with
 |none=>rfl
 |some a=>
  simp only[Option.bind_some,if_true,BS]
  by_cases hc:a.size=len/\a.k≠0
  .cases hb:a.body with
   |inl rows=>
    simp only[hc,ne_eq,not_false_eq_true,and_self,if_true,Option.bind_some,FV,ay]
    cases cq { h with ar:=h.ar.set id ⟨ax+1,0,.inl []⟩ } v<;>rfl
   |inr rows=>simp[hc]
  .simp[hc]
@[go_sem] theorem r54 (t:Nat) (n s0 s:Int) (es:List Edge) (ht:t<=1) (hl:es.length<=2000000000):res A aA 54 [.agg [.int .i64 n,.int .i64 s0,.aq t (es.map Edge.c)],.int .i64 s]=some [.aq 0 (bF (aV es s))]:=by
 refine aw a54 rfl rfl ?_
 simp only[F54,Up]
 by_cases h0:es.length=0
 .have he:es=[]:=Wp h0
  simp(disch:=omega)only[go_sem,qA,h0]
  rw[he]
  rfl
 .have hel:=lK es s
  simp(disch:=omega)only[go_sem,qA,h0,List.take_length]
def vB (a b:Edge):Bool:=if a.send=b.send then decide (a.label<b.label) else b.send
@[go_sem] theorem r55 (a b:Edge):res A aA 55 [.agg [.int .i64 a.fr,.bool a.send,.int .i64 a.label,.int .i64 a.to],.agg [.int .i64 b.fr,.bool b.send,.int .i64 b.label,.int .i64 b.to]]=some [.bool (vB a b)]:=by
 refine aw a55 rfl rfl ?_
 simp only[F55,Uq]
 simp(disch:=omega)only[go_sem]
 unfold vB
 refine Br.aJ (fun h=>?_) (fun h=>?_)<;>simp(disch:=omega)only[go_sem,h]
@[go_sem] theorem r56 (a:Edge):res A aA 56 [.agg [.int .i64 a.fr,.bool a.send,.int .i64 a.label,.int .i64 a.to]]=some [.agg [.bool a.send,.int .i64 a.label]]:=by
 refine aw a56 rfl rfl ?_
 simp only[F56,Ur]
 simp(disch:=omega)only[go_sem]
def w4 (only:Bool):List Edge->List Edge->Option (Edge×Int)
 |[],[]=>none
 |x::_,[]=>some (x,0)
 |[],y::m=>if only then w4 only [] m else some (y,1)
 |x::l,y::m=>if vB x y=true then some (x,0) else if vB y x=true then (if only then w4 only (x::l) m else some (y,1)) else w4 only l m
termination_by l m=>l.length+m.length
structure zo where
 x:Int
 y:Int
 path:List (Bool×Int)
 deriving DecidableEq,Inhabited
def Edge.act (e:Edge):Bool×Int:=(e.send,e.label)
def kB (b:List Edge) (n:zo) (s:List (Int×Int)×List zo) (e:Edge):List (Int×Int)×List zo:=
 match cO n.y e.send e.label b with
 |some y=>if (e.to,y)∈s.1 then s else (s.1++[(e.to,y)],s.2++[⟨e.to,y,n.path++[e.act]⟩])
 |none=>s
def B8 (a b:List Edge) (only:Bool):Nat->List (Int×Int)×List zo->Option (List (Bool×Int)×Int)
 |0,_=>none
 |k+1,(seen,q)=>match q with
  |[]=>none
  |n::q=>match w4 only (aV a n.x) (aV b n.y)with
   |some (e,w)=>some (n.path++[e.act],w)
   |none=>B8 a b only k ((aV a n.x).foldl (kB b n) (seen,q))
def FW (p:Int×Int):PV:=.agg [.int .i64 p.1,.int .i64 p.2]
def gU (s:List (Int×Int)):List (PV×PV):=s.map fun p=>(FW p,.bool true)
theorem tu (p q:Int×Int):iw true [1,1] (FW p) (FW q)=some (decide (p=q)):=by
 obtain⟨a,b⟩:=p
 obtain⟨c,d⟩:=q
 simp only[iw,FW,if_true]
 simp only[go_sem]
 by_cases h1:a=c<;>by_cases h2:b=d<;>simp[h1,h2]
theorem B9 {p:Int×Int}:∀{s:List (Int×Int)} {i:Nat},p∉s->findKey true [1,1] (FW p) (gU s) i=some none
 |[],i,_=>by simp[gU,findKey,tu]
 |q::s,i,h=>by
  simp only[List.mem_cons,not_or]at h
  show findKey true [1,1] (FW p) ((FW q,.bool true)::gU s) i=_
  simp only[findKey,tu,h.1,decide_false]
  exact B9 h.2
theorem Ca {p:Int×Int}:∀{s:List (Int×Int)} {i:Nat},p∈s->∃j,findKey true [1,1] (FW p) (gU s) i=some (some (j,.bool true))
 |[],i,h=>by cases h
 |q::s,i,h=>by
  show ∃j,findKey true [1,1] (FW p) ((FW q,.bool true)::gU s) i=_
  simp only[findKey,tu]
  by_cases e:p=q
  .exact⟨i,by simp[e]⟩
  .simp only[e,decide_false]
   exact Ca ((WG.1 h).resolve_left e)
@[go_sem] theorem I8 (z:V) (j:Nat) (p:PV):pD z false (some (j,p))=.pv p:=rfl
@[go_sem] theorem I9 (z:V):pD z false none=z:=rfl
theorem FX {ag:Bool} {ks:List Nat} {q p:PV} {id:Nat} {l:List (PV×PV)} (h:findKey ag ks q l 0=some none):wm ag ks q p id l=some { mp:=some (id,l++[(q,p)]) }:=by
 simp only[wm,h]
theorem A4 (s:List (Int×Int)) (p:Int×Int):gU s++[(FW p,.bool true)]=gU (s++[p]):=by simp[gU]
def oR (ars:List aL) (v:V) (l:List (Bool×Int)):Prop:=(v=.tl []/\l=[])\/∃id ax,v=.own (id+1) ax 0 l.length/\l≠[]/\ars[id]?=some ⟨ax,2,.inl (fQ l)⟩
theorem oR.more {ars:List aL} {v:V} {l:List (Bool×Int)} (h:oR ars v l) (x:List aL):oR (ars++x) v l:=by
 rcases h with h|⟨id,ax,h1,h2,h3⟩
 .exact .inl h
 .exact .inr ⟨id,ax,h1,h2,by rw[We (V9.1 h3).1]; exact h3⟩
theorem oR.calm {ars:List aL} {v:V} {l:List (Bool×Int)} (h:oR ars v l):v.calm=true/\v.sized=true/\v.bS=none/\v.cells=[v]:=by
 rcases h with⟨rfl,_⟩|⟨id,ax,rfl,_,_⟩<;>exact⟨rfl,rfl,rfl,rfl⟩
structure tz (off:Nat) (q:List zo) (rows:List (List V)) (ars:List aL):Prop where
 len:rows.length=off+q.length
 row:∀(i:Nat) (n:zo),q[i]?=some n->∃v,rows[off+i]?=some [.pv (.int .i64 n.x),.pv (.int .i64 n.y),v]/\oR ars v n.path
theorem tz.pop {off:Nat} {n:zo} {q:List zo} {rows:List (List V)} {ars:List aL} (h:tz off (n::q) rows ars):tz (off+1) q rows ars where
 len:=by rw[h.len]; simp; omega
 row i m hi:=by
  obtain⟨v,h1,h2⟩:=h.row (i+1) m (by simpa using hi)
  exact⟨v,by rw[show off+1+i=off+(i+1) by omega]; exact h1,h2⟩
theorem tz.more {off:Nat} {q:List zo} {rows:List (List V)} {ars:List aL} (h:tz off q rows ars) (x:List aL):tz off q rows (ars++x) where
 len:=h.len
 row i n hi:=by
  obtain⟨v,h1,h2⟩:=h.row i n hi
  exact⟨v,h1,h2.more x⟩
theorem tz.push {off:Nat} {q:List zo} {rows:List (List V)} {ars:List aL} (h:tz off q rows ars) {n:zo} {v:V} (hv:oR ars v n.path):tz 0 (q++[n]) ((rows.drop off).take q.length++[[.pv (.int .i64 n.x),.pv (.int .i64 n.y),v]]) ars where
 len:=by
  have:=h.len
  simp
  omega
 row i m hi:=by
  have hl:=h.len
  rw[XN]
  rcases Wh i q.length with hlt|hge
  .rw[We hlt]at hi
   obtain⟨u,h1,h2⟩:=h.row i m hi
   refine⟨u,?_,h2⟩
   rw[List.getElem?_append_left (by simp; omega),List.getElem?_take,if_pos hlt,List.getElem?_drop]
   exact h1
  .rw[Wn hge]at hi
   have h0:i - q.length=0:=by
    have:=(V9.1 hi).1
    simp at this
    omega
   rw[h0]at hi
   simp only[List.getElem?_cons_zero,Option.some.injEq]at hi
   subst hi
   refine⟨v,?_,hv⟩
   rw[List.getElem?_append_right (by simp; omega)]
   have:i - ((rows.drop off).take q.length).length=0:=by simp; omega
   rw[this]
   rfl
theorem qG {l:List (Int×Int)} {n m:Nat} (hn:l.Nodup) (h:∀p∈l,(0<=p.1/\p.1<n)/\(0<=p.2/\p.2<m)):l.length<=n*m:=by
 have h1:=List.Nodup.length_le_of_subset (l₂:=(iota n).flatMap fun p=>(iota m).map fun q=>(p,q)) hn (fun p hp=>by
  have:=h p hp
  rw[List.mem_flatMap]
  exact⟨p.1,yV.2 this.1,Wk.2 ⟨p.2,yV.2 this.2,rfl⟩⟩)
 have h2:∀l:List Int,(l.flatMap fun p=>(iota m).map fun q=>(p,q)).length=l.length*m:=by
  intro l
  induction l with
  |nil=>simp
  |cons x l ih=>rw[List.flatMap_cons,List.length_append,ih]; simp[iota]; rw[Nat.add_mul]; omega
 rw[h2,show (iota n).length=n by simp[iota]]at h1
 exact h1
@[go_sem] theorem Dt (l:List (Bool×Int)) (d:Bool) (x:Int):fQ l++[[.bool d,.int .i64 x]]=fQ (l++[(d,x)]):=by simp[fQ,HN]
@[go_sem] theorem Ja (h:aa) (d:Bool) (x:Int):aK h 2 (.tl []) (.tl [[.bool d,.int .i64 x]])=some (.own h.ar.length 0 0 1,{ push:=[⟨0,2,.inl (fQ [(d,x)])⟩],base:=h.ar.length }):=by
 have:=wy h 2 [] [.bool d,.int .i64 x] rfl (fun x hx=>by cases hx) (by simp)
 exact this
@[go_sem] theorem Ia (h:aa) (id ax off len:Nat) (d:Bool) (x:Int):aK h 2 (.own id ax off len) (.tl [[.bool d,.int .i64 x]])=(aB h id ax).bind (I0 id ax off len 2 [.bool d,.int .i64 x]):=yr h id ax off len 2 _ rfl
@[go_sem] theorem Sb {id ax len:Nat} {d:Bool} {x:Int} {l:List (Bool×Int)} (h1:len=l.length) (h2:l.length+1<=2147483648):I0 id ax 0 len 2 [.bool d,.int .i64 x] ⟨ax,2,.inl (fQ l)⟩=some (.own id (ax+1) 0 (len+1),{ ar:=some (id,⟨ax+1,2,.inl (fQ (l++[(d,x)]))⟩) }):=by
 rw[EH (by rw[jj]; exact h1) (by rw[jj]; exact h2),Dt]
@[go_sem] theorem Pm (h:aa) (k:Nat):aZ k [.tl []] h=some (.tl [],{}):=by simp[aZ,aW,aO]
def Ib (h:aa) (id n:Nat) (a:aL):Option (V×Tn):=match a.body with
 |.inl rows=>if (rows.take n).all (·.length==2)=true/\(rows.take n).length<=aN then (if (rows.take n).length=0 then some (.tl [],{ ra:=some id }) else some (.own h.ar.length 0 0 (rows.take n).length,{ push:=[⟨0,2,.inl (rows.take n)⟩],ra:=some id,base:=h.ar.length })) else none
 |.inr _=>none
@[go_sem] theorem MQ (h:aa) (id ax n:Nat):aZ 2 [.own id ax 0 n] h=(aB h id ax).bind (Ib h id n):=by
 simp only[aZ,aW]
 cases aB h id ax with
 |none=>rfl
 |some a=>
  cases hb:a.body<;>simp[az,Ib,hb,aO]
@[go_sem] theorem Pn {h:aa} {id n ax:Nat} {l:List (Bool×Int)} (hn:n=l.length) (h0:l.length≠0) (hm:l.length<=2147483648):Ib h id n ⟨ax,2,.inl (fQ l)⟩=some (.own h.ar.length 0 0 l.length,{ push:=[⟨0,2,.inl (fQ l)⟩],ra:=some id,base:=h.ar.length }):=by
 subst hn
 have e1:(fQ l).take l.length=fQ l:=Wq (by rw[jj]; exact Wj _)
 have e2:((fQ l).all fun x=>x.length==2)=true:=by simp[fQ,HN]
 simp[Ib,e1,e2,jj,aN,hm,h0]
def uc:Option (List (Bool×Int)×Int)->List PV
 |none=>[.aq 0 [],.int .i64 0,.bool false]
 |some (p,w)=>[.aq 0 (fQ p),.int .i64 w,.bool true]
theorem MR (o:Bool):w4 o [] []=none:=by rw[w4]
theorem MS (o:Bool) (x:Edge) (l:List Edge):w4 o (x::l) []=some (x,0):=by rw[w4]
theorem MT (o:Bool) (y:Edge) (m:List Edge):w4 o [] (y::m)=if o then w4 o [] m else some (y,1):=by rw[w4]
theorem MU (o:Bool) (x y:Edge) (l m:List Edge):w4 o (x::l) (y::m)=if vB x y=true then some (x,0) else if vB y x=true then (if o then w4 o (x::l) m else some (y,1)) else w4 o l m:=by rw[w4]
theorem Jb {bx:List (Nat×List V)} {mp:List (List (PV×PV))} {ax off len m:Nat} {rows:List (List V)} {r:List V} {ar:List aL} (h1:ar[m]?=some ⟨0,3,.inr [r]⟩) (h2:r.length=3) (h3:rows.length=off+len) (h4:len+1<=2147483648):
  aK ⟨bx,⟨ax,3,.inr rows⟩::ar,mp⟩ 3 (.own 0 ax off len) (.own (m+1) 0 0 1)=some (.own 0 (ax+1) 0 (len+1),{ ar:=some (0,⟨ax+1,3,.inr ((rows.drop off).take len++[r])⟩),ra:=some (m+1) }):=by
 simp[aK,aW,aB,h1,az,aO,aD,h2,aL.size,h3,aN,h4,aU]
structure zg (a b:aP) (k:Nat) (seen:List (Int×Int)) (q:List zo):Prop where
 nodup:seen.Nodup
 mem:∀p∈seen,(0<=p.1/\p.1<a.aj)/\(0<=p.2/\p.2<b.aj)
 count:k+seen.length=a.aj.toNat*b.aj.toNat+1+q.length
 node:∀n∈q,(0<=n.x/\n.x<a.aj)/\(0<=n.y/\n.y<b.aj)/\n.path.length<seen.length
 le:k<=145
theorem zg.push {a b:aP} {k:Nat} {seen:List (Int×Int)} {q:List zo} (h:zg a b k seen q) {x y:Int} {p:List (Bool×Int)} (hn:(x,y)∉seen) (hr:(0<=x/\x<a.aj)/\(0<=y/\y<b.aj)) (hp:p.length<=seen.length):zg a b k (seen++[(x,y)]) (q++[⟨x,y,p⟩]) where
 nodup:=by
  rw[Xy]
  exact⟨h.nodup,by simp,fun u hu v hv e=>hn (by rw[List.mem_singleton]at hv; subst hv; subst e; exact hu)⟩
 mem u hu:=by
  rw[WT,Xj]at hu
  rcases hu with hu|rfl
  .exact h.mem u hu
  .exact hr
 count:=by
  have:=h.count
  simp
  omega
 node n hm:=by
  rw[WT,Xj]at hm
  rcases hm with hm|rfl
  .obtain⟨h1,h2,h3⟩:=h.node n hm
   exact⟨h1,h2,by simp; omega⟩
  .exact⟨hr.1,hr.2,by simp; omega⟩
 le:=h.le
def Sc (t u:Nat) (a b:aP) (only:Bool) (ax off:Nat) (q:List zo) (rows:List (List V)) (ars:List aL) (seen:List (Int×Int)):St:=
 ⟨[(2,.pv (.bool only)),(3,.ptr 3 0),(4,.ptr 4 0),(9,.own 0 ax off q.length),(10,.map 0)],⟨[(3,[.pv (.int .i64 a.aj),.pv (.int .i64 a.start),.pv (.aq t (a.af.map Edge.c))]),(4,[.pv (.int .i64 b.aj),.pv (.int .i64 b.start),.pv (.aq u (b.af.map Edge.c))])],⟨ax,3,.inr rows⟩::ars,[gU seen]⟩⟩
set_option maxHeartbeats 4000000 in
@[go_sem] theorem r35 (t u:Nat) (a b:aP) (only:Bool) (ht:t<=1) (hu:u<=1) (ha:a.Good) (hb:b.Good):res A aA 35 [.agg [.int .i64 a.aj,.int .i64 a.start,.aq t (a.af.map Edge.c)],.agg [.int .i64 b.aj,.int .i64 b.start,.aq u (b.af.map Edge.c)],.bool only]=some (uc (B8 a.af b.af only (a.aj.toNat*b.aj.toNat+1) ([(a.start,b.start)],[⟨a.start,b.start,[]⟩]))):=by
 refine aw a35 rfl rfl ?_
 simp only[F35,Uf]
 have hal:=ha.len
 have hbl:=hb.len
 have hst:=ha.st
 have hst':=hb.st
 have hmx:=ha.mx
 have hmx':=hb.mx
 have hu0:wm true [1,1] (PV.agg [PV.int IntKind.i64 a.start,PV.int IntKind.i64 b.start]) (PV.bool true) 0 []=some { mp:=some (0,gU [(a.start,b.start)]) }:=rfl
 simp(disch:=omega)only[go_sem,hu0]
 generalize hN:a.aj.toNat*b.aj.toNat+1=N
 have hNb:N<=145:=by
  have:=Nat.mul_le_mul (show a.aj.toNat<=12 by omega) (show b.aj.toNat<=12 by omega)
  omega
 refine W.BZ (α:=Nat×Nat×Nat×List zo×List (List V)×List aL×List (Int×Int)) (fun x=>Sc t u a b only x.2.1 x.2.2.1 x.2.2.2.1 x.2.2.2.2.1 x.2.2.2.2.2.1 x.2.2.2.2.2.2)
  (fun x=>zg a b x.1 x.2.2.2.2.2.2 x.2.2.2.1/\tz x.2.2.1 x.2.2.2.1 x.2.2.2.2.1 x.2.2.2.2.2.1/\B8 a.af b.af only x.1 (x.2.2.2.2.2.2,x.2.2.2.1)=B8 a.af b.af only N ([(a.start,b.start)],[⟨a.start,b.start,[]⟩])) (fun x=>x.1) (N,0,0,[⟨a.start,b.start,[]⟩],[[.pv (.int .i64 a.start),.pv (.int .i64 b.start),.tl []]],[],[(a.start,b.start)]) rfl ⟨⟨by simp,by simp; omega,by simp; omega,by simp; omega,hNb⟩,⟨rfl,fun i n hi=>?_⟩,rfl⟩ fun x hx=>?_
 .cases i with
  |zero=>
   cases hi
   exact⟨.tl [],rfl,.inl ⟨rfl,rfl⟩⟩
  |succ i=>simp at hi
 obtain⟨k,ax,off,q,rows,ars,seen⟩:=x
 obtain⟨hD,hQ,hres⟩:=hx
 dsimp only at hD hQ hres
 unfold Sc
 dsimp only
 rw[<- hres]
 have hsb:=qG hD.nodup (n:=a.aj.toNat) (m:=b.aj.toNat) (fun p hp=>by
  have:=hD.mem p hp
  omega)
 have hcnt:=hD.count
 rw[hN]at hcnt
 cases q with
 |nil=>
  simp(disch:=omega)only[go_sem]
  refine Br.aJ (fun h=>absurd h (by omega)) (fun h=>?_)
  simp(disch:=omega)only[go_sem]
  cases k<;>rfl
 |cons n q=>
  obtain⟨k,rfl⟩:∃k',k=k'+1:=⟨k - 1,by simp at hcnt; omega⟩
  obtain⟨v,hv,hpv⟩:=hQ.row 0 n rfl
  have hrl:=hQ.len
  obtain⟨⟨x0,x1⟩,⟨y0,y1⟩,hpl⟩:=hD.node n (WH ..)
  obtain⟨c1,c2,c3,c4⟩:=hpv.calm
  have hoff:off<rows.length:=by simp at hrl; omega
  rw[Nat.add_zero]at hv
  simp(disch:=omega)only[go_sem]
  refine Br.aJ (fun h=>?_) (fun h=>(h (by omega)).elim)
  simp(disch:=omega)only[go_sem,hv,c1]
  rw[Nat.add_sub_cancel]
  have hla:=lK a.af n.x
  have hlb:=lK b.af n.y
  generalize hA:aV a.af n.x=la at hla |-
  generalize hB:aV b.af n.y=lb at hlb |-
  have hdif:B8 a.af b.af only (k+1) (seen,n::q)=match w4 only la lb with
   |some (e,w)=>some (n.path++[e.act],w)
   |none=>B8 a.af b.af only k (la.foldl (kB b.af n) (seen,q)):=by rw[<- hA,<- hB]; rfl
  rw[hdif]
  refine W.loop (α:=Nat×Nat) (fun x=>⟨[(2,.pv (.bool only)),(3,.ptr 3 0),(4,.ptr 4 0),(9,.own 0 ax (off+1) q.length),(10,.map 0),(11,.ptr 11 0),(12,.pv (.aq 0 (bF la))),(13,.pv (.aq 0 (bF lb))),(14,.pv (.int .i64 x.1)),(15,.pv (.int .i64 x.2))],⟨[(3,[.pv (.int .i64 a.aj),.pv (.int .i64 a.start),.pv (.aq t (a.af.map Edge.c))]),(4,[.pv (.int .i64 b.aj),.pv (.int .i64 b.start),.pv (.aq u (b.af.map Edge.c))]),(11,[.pv (.int .i64 n.x),.pv (.int .i64 n.y),v])],⟨ax,3,.inr rows⟩::ars,[gU seen]⟩⟩)
   (fun x=>x.1<=la.length/\x.2<=lb.length/\w4 only (la.drop x.1) (lb.drop x.2)=w4 only la lb) (fun x=>(la.length - x.1)+(lb.length - x.2)) (0,0) rfl ⟨WA _,WA _,rfl⟩ fun x hx=>?_
  obtain⟨i,j⟩:=x
  obtain⟨hi,hj,hm⟩:=hx
  dsimp only at hi hj hm
  rw[<- hm]
  dsimp only
  rcases Wh i la.length with hi'|hi'
  .obtain⟨x,hx⟩:=get_at hi'
   rw[fL hx]
   rcases Wh j lb.length with hj'|hj'
   .obtain⟨y,hy⟩:=get_at hj'
    rw[fL hy,MU]
    simp(disch:=omega)only[go_sem]
    refine Br.aJ (fun h=>?_) (fun h=>(h (by omega)).elim)
    simp(disch:=omega)only[go_sem,h]
    refine Br.aJ (fun h=>absurd h (by omega)) (fun h=>?_)
    simp(disch:=omega)only[go_sem,h]
    refine Br.aJ (fun h=>?_) (fun h=>(h (by omega)).elim)
    simp(disch:=omega)only[go_sem,h,hx,hy]
    refine Br.of (fun l1=>?_) (fun l1=>?_)<;>simp(disch:=omega)only[go_sem,l1,hx]
    .rw[if_pos l1]
     rcases hpv with⟨rfl,hp⟩|⟨id,pv,rfl,hne,hid⟩
     .simp(disch:=omega)only[go_sem]
      simp[bO,az,uc,Edge.act,hp,fQ]
     .simp(disch:=omega)only[go_sem,hid]
      have hlt:=(V9.1 hid).1
      rw[WU hlt]
      simp[bO,az,uc,Edge.act,fQ,List.take_of_length_le]
    rw[if_neg (by simp[l1])]
    refine Br.aJ (fun h=>absurd h (by omega)) (fun h=>?_)
    simp(disch:=omega)only[go_sem,h,hx,hy]
    refine Br.of (fun l2=>?_) (fun l2=>?_)<;>simp(disch:=omega)only[go_sem,l2]
    .rw[if_pos l2]
     cases only with
     |true=>
      simp(disch:=omega)only[go_sem]
      refine⟨(i,j+1),⟨hi,by dsimp only; omega,?_⟩,by dsimp only; omega,rfl⟩
      dsimp only
      rw[if_pos rfl,fL hx]
     |false=>
      simp(disch:=omega)only[go_sem,hy]
      rcases hpv with⟨rfl,hp⟩|⟨id,pv,rfl,hne,hid⟩
      .simp(disch:=omega)only[go_sem]
       simp[bO,az,uc,Edge.act,hp,fQ]
      .simp(disch:=omega)only[go_sem,hid]
       have hlt:=(V9.1 hid).1
       rw[WU hlt]
       simp[bO,az,uc,Edge.act,fQ,List.take_of_length_le]
    .rw[if_neg (by simp[l2])]
     exact⟨(i+1,j+1),⟨by dsimp only; omega,by dsimp only; omega,rfl⟩,by dsimp only; omega,rfl⟩
   .obtain rfl:j=lb.length:=by omega
    rw[XE hj',MS]
    simp(disch:=omega)only[go_sem]
    refine Br.aJ (fun h=>?_) (fun h=>(h (by omega)).elim)
    simp(disch:=omega)only[go_sem,h,hx]
    rcases hpv with⟨rfl,hp⟩|⟨id,pv,rfl,hne,hid⟩
    .simp(disch:=omega)only[go_sem]
     simp[bO,az,uc,Edge.act,hp,fQ]
    .simp(disch:=omega)only[go_sem,hid]
     have hlt:=(V9.1 hid).1
     rw[WU hlt]
     simp[bO,az,uc,Edge.act,fQ,List.take_of_length_le]
  .obtain rfl:i=la.length:=by omega
   rw[XE hi']
   rcases Wh j lb.length with hj'|hj'
   .obtain⟨y,hy⟩:=get_at hj'
    rw[fL hy,MT]
    simp(disch:=omega)only[go_sem]
    refine Br.aJ (fun h=>?_) (fun h=>(h (by omega)).elim)
    simp(disch:=omega)only[go_sem,h]
    refine Br.aJ (fun h=>absurd h (by omega)) (fun h=>?_)
    simp(disch:=omega)only[go_sem,h]
    cases only with
    |true=>
     simp(disch:=omega)only[go_sem]
     refine⟨(la.length,j+1),⟨hi,by dsimp only; omega,?_⟩,by dsimp only; omega,rfl⟩
     dsimp only
     rw[if_pos rfl,XE hi']
    |false=>
     simp(disch:=omega)only[go_sem,hy]
     rcases hpv with⟨rfl,hp⟩|⟨id,pv,rfl,hne,hid⟩
     .simp(disch:=omega)only[go_sem]
      simp[bO,az,uc,Edge.act,hp,fQ]
     .simp(disch:=omega)only[go_sem,hid]
      have hlt:=(V9.1 hid).1
      rw[WU hlt]
      simp[bO,az,uc,Edge.act,fQ,List.take_of_length_le]
   .obtain rfl:j=lb.length:=by omega
    rw[XE hj',MR]
    simp(disch:=omega)only[go_sem]
    refine W.BZ (α:=Nat×Nat×Nat×List zo×List (List V)×List aL×List (Int×Int)) (fun x=>⟨[(2,.pv (.bool only)),(3,.ptr 3 0),(4,.ptr 4 0),(9,.own 0 x.2.1 x.2.2.1 x.2.2.2.1.length),(10,.map 0),(11,.ptr 11 0),(124,.pv (.aq 0 (bF la))),(125,.pv (.int .i64 la.length)),(126,.pv (.int .i64 x.1))],⟨[(3,[.pv (.int .i64 a.aj),.pv (.int .i64 a.start),.pv (.aq t (a.af.map Edge.c))]),(4,[.pv (.int .i64 b.aj),.pv (.int .i64 b.start),.pv (.aq u (b.af.map Edge.c))]),(11,[.pv (.int .i64 n.x),.pv (.int .i64 n.y),v])],⟨x.2.1,3,.inr x.2.2.2.2.1⟩::x.2.2.2.2.2.1,[gU x.2.2.2.2.2.2]⟩⟩)
     (fun x=>x.1<=la.length/\zg a b k x.2.2.2.2.2.2 x.2.2.2.1/\tz x.2.2.1 x.2.2.2.1 x.2.2.2.2.1 x.2.2.2.2.2.1/\oR x.2.2.2.2.2.1 v n.path/\n.path.length<x.2.2.2.2.2.2.length/\(la.drop x.1).foldl (kB b.af n) (x.2.2.2.2.2.2,x.2.2.2.1)=la.foldl (kB b.af n) (seen,q)) (fun x=>la.length - x.1) (0,ax,off+1,q,rows,ars,seen) rfl
     ⟨Nat.zero_le _,⟨hD.nodup,hD.mem,by have:=hD.count; rw[List.length_cons]at this; dsimp only; omega,fun m hm=>hD.node m (List.mem_cons_of_mem _ hm),by have:=hD.le; omega⟩,hQ.pop,hpv,hpl,rfl⟩ fun x hx=>?_
    obtain⟨m,ver',off',q',rows',ars',seen'⟩:=x
    obtain⟨hm',hD',hQ',hpv',hpl',hf⟩:=hx
    dsimp only at hm' hD' hQ' hpv' hpl' hf
    dsimp only
    rw[<- hf]
    have hsb':=qG hD'.nodup (n:=a.aj.toNat) (m:=b.aj.toNat) (fun p hp=>by
     have:=hD'.mem p hp
     omega)
    have hcnt':=hD'.count
    rw[hN]at hcnt'
    have hrl':=hQ'.len
    rcases Wh m la.length with hlt|hlt
    .obtain⟨e,he⟩:=get_at hlt
     rw[fL he,Xp]
     have hea:=Wa he
     rw[<- hA,zf]at hea
     have hef:=fG.1 (ha.fit e hea.1)
     simp(disch:=omega)only[go_sem]
     refine Br.aJ (fun h=>?_) (fun h=>(h (by omega)).elim)
     simp(disch:=omega)only[go_sem,he]
     cases hn:cO n.y e.send e.label b.af with
     |none=>
      simp(disch:=omega)only[go_sem,Option.isSome_none]
      have hadd:kB b.af n (seen',q') e=(seen',q'):=by simp[kB,hn]
      exact⟨(m+1,ver',off',q',rows',ars',seen'),⟨by dsimp only; omega,hD',hQ',hpv',hpl',by rw[hadd]⟩,by dsimp only; omega,rfl⟩
     |some y=>
      simp only[Option.isSome_some,Option.getD_some]
      have hyr:0<=y/\y<b.aj:=by
       have hmem:=(sZ hb.oV).1 hn
       have hf2:=fG.1 (hb.fit _ hmem)
       exact⟨hf2.2.2.1,hf2.2.2.2.1⟩
      have hkb:=hD'.le
      simp(disch:=omega)only[go_sem]
      by_cases hin:(e.to,y)∈seen'
      .obtain⟨j,hj⟩:=Ca (i:=0) hin
       have hj:findKey true [1,1] (.agg [.int .i64 e.to,.int .i64 y]) (gU seen') 0=some (some (j,.bool true)):=hj
       simp(disch:=omega)only[go_sem,hj]
       have hadd:kB b.af n (seen',q') e=(seen',q'):=by simp[kB,hn,hin]
       exact⟨(m+1,ver',off',q',rows',ars',seen'),⟨by dsimp only; omega,hD',hQ',hpv',hpl',by rw[hadd]⟩,by dsimp only; omega,rfl⟩
      .have hj:findKey true [1,1] (.agg [.int .i64 e.to,.int .i64 y]) (gU seen') 0=some none:=B9 hin
       have hup:wm true [1,1] (.agg [.int .i64 e.to,.int .i64 y]) (.bool true) 0 (gU seen')=some { mp:=some (0,gU (seen'++[(e.to,y)])) }:=by
        rw[<- A4]
        exact FX hj
       simp(disch:=omega)only[go_sem,hj,hup]
       rcases hpv' with⟨rfl,hp⟩|⟨id,pv,rfl,hne,hid⟩
       .simp(disch:=omega)only[go_sem]
        rw[Jb (r:=[.pv (.int .i64 e.to),.pv (.int .i64 y),.own (ars'.length+1) 0 0 1]) (by simp) rfl hrl' (by omega)]
        simp(disch:=omega)only[go_sem]
        have hadd:kB b.af n (seen',q') e=(seen'++[(e.to,y)],q'++[⟨e.to,y,n.path++[e.act]⟩]):=by simp[kB,hn,hin]
        refine⟨(m+1,ver'+1,0,q'++[⟨e.to,y,n.path++[e.act]⟩],(rows'.drop off').take q'.length++[[.pv (.int .i64 e.to),.pv (.int .i64 y),.own (ars'.length+1) 0 0 1]],ars'++[⟨0,2,.inl (fQ [(e.send,e.label)])⟩]++[⟨0,3,.inr [[.pv (.int .i64 e.to),.pv (.int .i64 y),.own (ars'.length+1) 0 0 1]]⟩],seen'++[(e.to,y)]),⟨by dsimp only; omega,hD'.push hin ⟨⟨by omega,by omega⟩,hyr⟩ (by simp; omega),?_,.inl ⟨rfl,hp⟩,by simp; omega,by rw[hadd]⟩,by dsimp only; omega,?_⟩
        .rw[WK]
         refine(hQ'.more _).push (n:=⟨e.to,y,n.path++[e.act]⟩) (.inr ⟨ars'.length,0,?_,by simp,?_⟩)
         .simp[hp]
         .simp[hp,Edge.act]
        .dsimp only
         rw[Wz]
         rfl
       .have hne':n.path.length≠0:=fun h=>hne (Wp h)
        simp(disch:=omega)only[go_sem,hid,List.getElem?_concat_length,List.set_append_right,Nat.sub_self,List.set_cons_zero,Nat.le_refl]
        rw[Jb (r:=[.pv (.int .i64 e.to),.pv (.int .i64 y),.own (ars'.length+1) 1 0 (n.path.length+1)]) (by simp) rfl hrl' (by omega)]
        simp(disch:=omega)only[go_sem]
        have hadd:kB b.af n (seen',q') e=(seen'++[(e.to,y)],q'++[⟨e.to,y,n.path++[e.act]⟩]):=by simp[kB,hn,hin]
        refine⟨(m+1,ver'+1,0,q'++[⟨e.to,y,n.path++[e.act]⟩],(rows'.drop off').take q'.length++[[.pv (.int .i64 e.to),.pv (.int .i64 y),.own (ars'.length+1) 1 0 (n.path.length+1)]],ars'++[⟨1,2,.inl (fQ (n.path++[(e.send,e.label)]))⟩]++[⟨0,3,.inr [[.pv (.int .i64 e.to),.pv (.int .i64 y),.own (ars'.length+1) 1 0 (n.path.length+1)]]⟩],seen'++[(e.to,y)]),⟨by dsimp only; omega,hD'.push hin ⟨⟨by omega,by omega⟩,hyr⟩ (by simp; omega),?_,?_,by simp; omega,by rw[hadd]⟩,by dsimp only; omega,?_⟩
        .rw[WK]
         refine(hQ'.more _).push (n:=⟨e.to,y,n.path++[e.act]⟩) (.inr ⟨ars'.length,1,?_,by simp,?_⟩)
         .simp
         .simp[Edge.act]
        .dsimp only
         rw[WK]
         exact oR.more (.inr ⟨id,pv,rfl,hne,hid⟩) _
        .dsimp only
         rw[Wz]
         rfl
    .obtain rfl:m=la.length:=by omega
     simp(disch:=omega)only[go_sem]
     refine⟨(k,ver',off',q',rows',ars',seen'),⟨hD',hQ',?_⟩,by dsimp only; omega,rfl⟩
     dsimp only
     rw[XE hlt]
     rfl
def aP.B8 (a b:aP) (o:Bool):Option (List (Bool×Int)×Int):=Pv.B8 a.af b.af o (a.aj.toNat*b.aj.toNat+1) ([(a.start,b.start)],[⟨a.start,b.start,[]⟩])
def mC (a b:aP):Int:=if a.err=0 then b.err else a.err
set_option maxHeartbeats 1000000 in
@[go_sem] theorem r34 (t u:Nat) (a b:aP) (ha:a.af.length<=2000000000) (hb:b.af.length<=2000000000):res A aA 34 [.agg [.int .i64 a.aj,.int .i64 a.start,.aq t (a.af.map Edge.c)],.agg [.int .i64 b.aj,.int .i64 b.start,.aq u (b.af.map Edge.c)]]=some [.int .i64 (mC a b)]:=by
 refine aw a34 rfl rfl ?_
 simp only[F34,Ue]
 simp(disch:=omega)only[go_sem]
 refine Br.aJ (fun h=>?_) (fun h=>?_)<;>simp(disch:=omega)only[go_sem,h]
 .unfold mC
  rw[if_pos h]
 .unfold mC
  rw[if_neg h]
theorem vD {a b:aP} (h:mC a b=0):a.Good/\b.Good:=by
 unfold mC at h
 by_cases h1:a.err=0
 .rw[if_pos h1]at h
  exact⟨aP.iV.1 h1,aP.iV.1 h⟩
 .rw[if_neg h1]at h
  exact(h1 h).elim
theorem FY (r:Option (List (Bool×Int)×Int)):uc r=[.aq 0 (fQ (r.getD ([],0)).1),.int .i64 (r.getD ([],0)).2,.bool r.isSome]:=by
 cases r with
 |none=>rfl
 |some r=>rfl
@[go_sem] theorem r35a (t u:Nat) (a b:aP) (only:Bool) (ht:t<=1) (hu:u<=1) (h:mC a b=0):res A aA 35 [.agg [.int .i64 a.aj,.int .i64 a.start,.aq t (a.af.map Edge.c)],.agg [.int .i64 b.aj,.int .i64 b.start,.aq u (b.af.map Edge.c)],.bool only]=some [.aq 0 (fQ ((a.B8 b only).getD ([],0)).1),.int .i64 ((a.B8 b only).getD ([],0)).2,.bool (a.B8 b only).isSome]:=by
 rw[r35 t u a b only ht hu (vD h).1 (vD h).2,FY]
 rfl
set_option maxHeartbeats 1000000 in
@[go_sem] theorem r16 (t u:Nat) (a b:aP) (ht:t<=1) (hu:u<=1) (ha:a.af.length<=2000000000) (hb:b.af.length<=2000000000):res A aA 16 [.agg [.int .i64 a.aj,.int .i64 a.start,.aq t (a.af.map Edge.c)],.agg [.int .i64 b.aj,.int .i64 b.start,.aq u (b.af.map Edge.c)]]=some [.bool (decide (mC a b=0)&&!(a.B8 b false).isSome),.int .i64 (mC a b)]:=by
 refine aw a16 rfl rfl ?_
 simp only[F16,T8]
 simp(disch:=omega)only[go_sem]
 refine Br.aJ (fun h=>?_) (fun h=>?_)
 .have h0:=h
  simp(disch:=omega)only[go_sem,h0,r35a t u a b false ht hu h0]
 .simp(disch:=omega)only[go_sem,h]
noncomputable def tA (v w:ij) (c:mi):Bool:=match jf (fun d=>decide (d.name=c.name)) w.calls with
 |some d=>gG v.types w.types c.ud d.ud&&gG v.types w.types c.rep d.rep
 |none=>false
noncomputable def zh (v w:ij) (c:mj):Bool:=match jf (fun d=>decide (d.name=c.name)) w.aT with
 |some d=>gG v.types w.types c.ty d.ty
 |none=>false
noncomputable def Du (v w:ij) (m n:gI):Bool:=decide (m.id=n.id)&&gG v.types w.types m.ty n.ty
def Ic (a b:aP):Bool:=decide (mC a b=0)&&!(a.B8 b false).isSome
noncomputable def Sd (v w:ij) (x y:eE):Bool:=wM (Du v w) x.msgs y.msgs&&Ic x.auto y.auto
noncomputable def tB (v w:ij) (x:eE):Bool:=match jf (fun d=>decide (d.name=x.name)) w.aG with
 |some y=>Sd v w x y
 |none=>false
noncomputable def FZ (v w:ij):Bool:=(decide (v.calls.length=w.calls.length)&&decide (v.aG.length=w.aG.length)&&decide (v.aT.length=w.aT.length))&&(v.calls.all (tA v w)&&v.aT.all (zh v w)&&v.aG.all (tB v w))
noncomputable def vE (v w:ij):Bool×Int:=if ua v≠0 then (false,ua v) else if ua w≠0 then (false,ua w) else (FZ v w,0)
theorem A5 {α:Type} {f:α->Bool} {l:List α} (h:l.any (fun x=>!f x)=true):l.all f=false:=by
 obtain⟨x,hx,hn⟩:=Xm.1 h
 rw[Xz]
 intro h2
 have:=Wu.1 h2 x hx
 rw[this]at hn
 cases hn
theorem wS {α:Type} {f:α->Bool} {l:List α} (h:l.any (fun x=>!f x)=false):l.all f=true:=by
 rw[Wu]
 intro x hx
 have:=WY.1 h x hx
 simpa using this
theorem cH.vt {v:ij} (h:cH v) (hv:iX v):VT v.types:=⟨hv.tl,hv.to,hv.ts,h.valid⟩
theorem tC {α:Type} {p:α->Bool} {l:List α} {x:α} (h:jf p l=some x):x∈l:=by
 unfold jf at h
 cases hf:l.findIdx? p with
 |none=>rw[hf]at h; cases h
 |some j=>rw[hf]at h; exact Wa h
theorem r455 (s s' t1 t2 t3 t4 u1 u2 u3 u4:Nat) (v w:ij) (x y:Int) (hA:VT v.types) (hB:VT w.types) (hx:0<=x/\x<v.types.length) (hy:0<=y/\y<w.types.length):res A aA 455 [.int .i64 x,.int .i64 y,.ro s (lB t1 t2 t3 t4 v),.ro s' (lB u1 u2 u3 u4 w)]=some [.bool (gG v.types w.types x y)]:=by
 have h1:=fun t u=>r456 t u v.types w.types x y hA hB hx hy
 refine aw a455 rfl rfl ?_
 simp only[F455,Lq,lB]
 simp(disch:=omega)only[go_sem,h1]
set_option maxHeartbeats 16000000 in
theorem r421 (t1 t2 t3 t4 u1 u2 u3 u4:Nat) (v w:ij) (hv:iX v) (hw:iX w):res A aA 421 [.agg (lB t1 t2 t3 t4 v),.agg (lB u1 u2 u3 u4 w)]=some [.bool (vE v w).1,.int .i64 (vE v w).2]:=by
 have h407:=r407 t1 t2 t3 t4 v hv
 have h407':=r407 u1 u2 u3 u4 w hw
 have l1:=hv.cl
 have l2:=hv.sl
 have l3:=hv.pl
 have m1:=hw.cl
 have m2:=hw.sl
 have m3:=hw.pl
 have h410:=fun nm=>r410 u1 u2 u3 u4 w nm hw.cl
 have h414:=fun nm=>r414 u1 u2 u3 u4 w nm hw.pl
 have h455:=fun s s' x y=>r455 s s' t1 t2 t3 t4 u1 u2 u3 u4 v w x y
 unfold vE
 refine aw a421 rfl rfl ?_
 simp only[F421,Ld,lB]at *
 simp(disch:=omega)only[go_sem,h407]
 refine Br.aJ (fun c=>?_) (fun c=>?_)<;>simp(disch:=omega)only[go_sem]
 rotate_left
 .rw[if_pos c]
 rw[if_neg (by simp[c])]
 simp(disch:=omega)only[go_sem,h407']
 refine Br.aJ (fun c'=>?_) (fun c'=>?_)<;>simp(disch:=omega)only[go_sem]
 rotate_left
 .rw[if_pos c']
 rw[if_neg (by simp[c'])]
 have gv:=vj c
 have gw:=vj c'
 have tv:=gv.vt hv
 have tw:=gw.vt hw
 have hm:∀z∈w.aG,z.msgs.length<=2147483648/\z.auto.af.length<=2147483648:=fun z hz=>by
  have h1:=(gw.wK z hz).zn
  have h2:=(hw.ss z hz).2.2.2
  omega
 have h412:=fun nm=>r412 u1 u2 u3 u4 w nm hw.sl hm
 simp only[lB]at h412
 unfold FZ
 cases d1:decide ((v.calls.length:Int)=w.calls.length)with
 |false=>
  have:=of_decide_eq_false d1
  rw[decide_eq_false (show ¬v.calls.length=w.calls.length by omega)]
  simp(disch:=omega)only[go_sem,d1]
 |true=>
 have d1':=of_decide_eq_true d1
 cases d2:decide ((v.aG.length:Int)=w.aG.length)with
 |false=>
  have:=of_decide_eq_false d2
  rw[decide_eq_false (show ¬v.aG.length=w.aG.length by omega),Bool.and_false]
  simp(disch:=omega)only[go_sem,d1,d2]
 |true=>
 have d2':=of_decide_eq_true d2
 cases d3:decide ((v.aT.length:Int)=w.aT.length)with
 |false=>
  have:=of_decide_eq_false d3
  rw[decide_eq_false (show ¬v.aT.length=w.aT.length by omega),Bool.and_false]
  simp(disch:=omega)only[go_sem,d1,d2,d3]
 |true=>
 have d3':=of_decide_eq_true d3
 simp(disch:=omega)only[go_sem,d1,d2,d3]
 rw[decide_eq_true (show v.calls.length=w.calls.length by omega),decide_eq_true (show v.aG.length=w.aG.length by omega),decide_eq_true (show v.aT.length=w.aT.length by omega),WZ,WZ,WZ]
 refine W.find v.calls (fun c=>!tA v w c) (fun k=>⟨[(2,.ptr 2 0),(3,.ptr 3 0),(8,.func 455 [.ptr 2 0,.ptr 3 0]),(62,.pv (.aq t2 (ch v.calls))),(63,.pv (.int .i64 v.calls.length)),(64,.pv (.int .i64 k))],⟨[(2,[.pv (.str v.name),.pv (.aq t1 (v.types.map aH.c)),.pv (.aq t2 (ch v.calls)),.pv (.aq t3 (aG v.aG)),.pv (.aq t4 (df v.aT))]),(3,[.pv (.str w.name),.pv (.aq u1 (w.types.map aH.c)),.pv (.aq u2 (ch w.calls)),.pv (.aq u3 (aG w.aG)),.pv (.aq u4 (df w.aT))])],[],[]⟩⟩) rfl (fun k x hx hk hfd=>?_) (fun hn=>?_)
 .have done:tA v w x=false->(some [PV.bool false,PV.int .i64 0]:Option (List PV))=some [.bool (v.calls.all (tA v w)&&v.aT.all (zh v w)&&v.aG.all (tB v w)),.int .i64 0]:=fun h=>by
   rw[A5 (hfd (by rw[h]; rfl)).any]
   rfl
  have hcl:=gv.call x (Wa hx)
  simp(disch:=omega)only[go_sem]
  refine Br.aJ (fun c=>?_) (fun c=>(c (by omega)).elim)
  simp(disch:=omega)only[go_sem,hx,Option.map_some,mi.c,h410]
  unfold tA at done
  cases hp:jf (fun d=>decide (d.name=x.name)) w.calls with
  |none=>
   rw[hp]at done
   simp(disch:=omega)only[go_sem,Mt]
   exact done rfl
  |some d=>
   rw[hp]at done
   dsimp only at done
   have hd:=gw.call d (tC hp)
   have e1:=fun s s'=>h455 s s' x.ud d.ud tv tw hcl.1 hd.1
   have e2:=fun s s'=>h455 s s' x.rep d.rep tv tw hcl.2 hd.2
   have hcs:tA v w x=(gG v.types w.types x.ud d.ud&&gG v.types w.types x.rep d.rep):=by
    unfold tA
    rw[hp]
   generalize gG v.types w.types x.ud d.ud=b1 at *
   generalize gG v.types w.types x.rep d.rep=b2 at *
   simp(disch:=omega)only[go_sem,Mt,mi.c,e1]
   cases b1 with
   |false=>
    simp(disch:=omega)only[go_sem]
    exact done rfl
   |true=>
    simp(disch:=omega)only[go_sem,e2]
    cases b2 with
    |false=>
     simp(disch:=omega)only[go_sem]
     exact done rfl
    |true=>
     simp(disch:=omega)only[go_sem]
     exact bB.of (by rw[hcs]; rfl) rfl
 rw[wS hn.any,WZ]
 clear hn
 simp(disch:=omega)only[go_sem]
 refine W.find v.aT (fun c=>!zh v w c) (fun k=>⟨[(2,.ptr 2 0),(3,.ptr 3 0),(8,.func 455 [.ptr 2 0,.ptr 3 0]),(97,.pv (.aq t4 (df v.aT))),(98,.pv (.int .i64 v.aT.length)),(99,.pv (.int .i64 k))],⟨[(2,[.pv (.str v.name),.pv (.aq t1 (v.types.map aH.c)),.pv (.aq t2 (ch v.calls)),.pv (.aq t3 (aG v.aG)),.pv (.aq t4 (df v.aT))]),(3,[.pv (.str w.name),.pv (.aq u1 (w.types.map aH.c)),.pv (.aq u2 (ch w.calls)),.pv (.aq u3 (aG w.aG)),.pv (.aq u4 (df w.aT))])],[],[]⟩⟩) rfl (fun k x hx hk hfd=>?_) (fun hn=>?_)
 .have done:zh v w x=false->(some [PV.bool false,PV.int .i64 0]:Option (List PV))=some [.bool (v.aT.all (zh v w)&&v.aG.all (tB v w)),.int .i64 0]:=fun h=>by
   rw[A5 (hfd (by rw[h]; rfl)).any]
   rfl
  have hcl:=gv.I4 x (Wa hx)
  simp(disch:=omega)only[go_sem]
  refine Br.aJ (fun c=>?_) (fun c=>(c (by omega)).elim)
  simp(disch:=omega)only[go_sem,hx,Option.map_some,mj.c,h414]
  unfold zh at done
  cases hp:jf (fun d=>decide (d.name=x.name)) w.aT with
  |none=>
   rw[hp]at done
   simp(disch:=omega)only[go_sem,Mw]
   exact done rfl
  |some d=>
   rw[hp]at done
   dsimp only at done
   have hd:=gw.I4 d (tC hp)
   have e1:=fun s s'=>h455 s s' x.ty d.ty tv tw hcl hd
   have hcs:zh v w x=gG v.types w.types x.ty d.ty:=by
    unfold zh
    rw[hp]
   generalize gG v.types w.types x.ty d.ty=b1 at *
   simp(disch:=omega)only[go_sem,Mw,mj.c,e1]
   cases b1 with
   |false=>
    simp(disch:=omega)only[go_sem]
    exact done rfl
   |true=>
    simp(disch:=omega)only[go_sem]
    exact bB.of (by rw[hcs]; rfl) rfl
 rw[wS hn.any,WZ]
 clear hn
 simp(disch:=omega)only[go_sem]
 refine W.find v.aG (fun c=>!tB v w c) (fun k=>⟨[(3,.ptr 3 0),(8,.func 455 [.ptr 2 0,.ptr 3 0]),(123,.pv (.aq t3 (aG v.aG))),(124,.pv (.int .i64 v.aG.length)),(125,.pv (.int .i64 k))],⟨[(2,[.pv (.str v.name),.pv (.aq t1 (v.types.map aH.c)),.pv (.aq t2 (ch v.calls)),.pv (.aq t3 (aG v.aG)),.pv (.aq t4 (df v.aT))]),(3,[.pv (.str w.name),.pv (.aq u1 (w.types.map aH.c)),.pv (.aq u2 (ch w.calls)),.pv (.aq u3 (aG w.aG)),.pv (.aq u4 (df w.aT))])],[],[]⟩⟩) rfl (fun k x hx hk hfd=>?_) (fun hn=>?_)
 .have done:tB v w x=false->(some [PV.bool false,PV.int .i64 0]:Option (List PV))=some [.bool (v.aG.all (tB v w)),.int .i64 0]:=fun h=>by
   rw[A5 (hfd (by rw[h]; rfl)).any]
  have hxm:=Wa hx
  have hcl:=gv.wK x hxm
  have hce:=(hv.ss x hxm).2.2.2
  have hfe:=hcl.zn
  simp(disch:=omega)only[go_sem]
  refine Br.aJ (fun c=>?_) (fun c=>(c (by omega)).elim)
  simp(disch:=omega)only[go_sem,hx,Option.map_some,eE.c,h412]
  cases hp:jf (fun d=>decide (d.name=x.name)) w.aG with
  |none=>
   have hcs:tB v w x=false:=by
    unfold tB
    rw[hp]
   simp(disch:=omega)only[go_sem,AD]
   exact done hcs
  |some y=>
   have hym:=tC hp
   have hd:=gw.wK y hym
   have hde:=(hw.ss y hym).2.2.2
   have hfd':=hd.zn
   have hcs:tB v w x=(wM (Du v w) x.msgs y.msgs&&Ic x.auto y.auto):=by
    unfold tB
    rw[hp]
    rfl
   simp(disch:=omega)only[go_sem,AD,eE.c]
   cases d4:decide ((x.msgs.length:Int)=y.msgs.length)with
   |false=>
    have:=of_decide_eq_false d4
    rw[p6 (fun e=>this (by rw[e])),Xu]at hcs
    simp(disch:=omega)only[go_sem]
    exact done hcs
   |true=>
   have d4':=of_decide_eq_true d4
   simp(disch:=omega)only[go_sem]
   refine W.find (x.msgs.zip y.msgs) (fun q=>!Du v w q.1 q.2) (fun j=>⟨[(3,.ptr 3 0),(8,.func 455 [.ptr 2 0,.ptr 3 0]),(18,.ptr 18 0),(19,.ptr 19 0),(123,.pv (.aq t3 (aG v.aG))),(124,.pv (.int .i64 v.aG.length)),(125,.pv (.int .i64 k)),(148,.pv (.aq 0 (x.msgs.map gI.c))),(149,.pv (.int .i64 x.msgs.length)),(150,.pv (.int .i64 j))],⟨[(2,[.pv (.str v.name),.pv (.aq t1 (v.types.map aH.c)),.pv (.aq t2 (ch v.calls)),.pv (.aq t3 (aG v.aG)),.pv (.aq t4 (df v.aT))]),(3,[.pv (.str w.name),.pv (.aq u1 (w.types.map aH.c)),.pv (.aq u2 (ch w.calls)),.pv (.aq u3 (aG w.aG)),.pv (.aq u4 (df w.aT))]),(18,x.c.map .pv),(19,y.c.map .pv)],[],[]⟩⟩) rfl (fun j q hq hj hfq=>?_) (fun hn=>?_)
   .obtain⟨h1,h2⟩:=jh hq
    rw[dA (by omega)]at hj
    have ha:=hcl.ty q.1 (Wa h1)
    have hb:=hd.ty q.2 (Wa h2)
    have e1:=fun s s'=>h455 s s' q.1.ty q.2.ty tv tw ha hb
    have hg:Du v w q.1 q.2=(decide (q.1.id=q.2.id)&&gG v.types w.types q.1.ty q.2.ty):=rfl
    have done2:Du v w q.1 q.2=false->tB v w x=false:=fun h=>by
     rw[hcs,wN (hfq (by rw[h]; rfl)).any]
     rfl
    generalize gG v.types w.types q.1.ty q.2.ty=b1 at *
    simp(disch:=omega)only[go_sem]
    refine Br.aJ (fun c=>?_) (fun c=>(c (by omega)).elim)
    simp(disch:=omega)only[go_sem,h1,h2,Option.map_some,gI.c,eE.c]
    cases d5:decide (q.1.id=q.2.id)with
    |false=>
     simp(disch:=omega)only[go_sem]
     exact done (done2 (by rw[hg,d5]; rfl))
    |true=>
     simp(disch:=omega)only[go_sem,h1,h2,Option.map_some,gI.c,eE.c,e1]
     cases b1 with
     |false=>
      simp(disch:=omega)only[go_sem]
      exact done (done2 (by rw[hg,d5]; rfl))
     |true=>
      simp(disch:=omega)only[go_sem]
      exact bB.of (by rw[hg,d5]; rfl) rfl
   .have hz:(x.msgs.zip y.msgs).length=x.msgs.length:=dA (by omega)
    rw[ru (g:=Du v w) (by omega) hn.any,WZ]at hcs
    rw[hz]
    have ha:(decide (mC x.auto y.auto=0)&&!(x.auto.B8 y.auto false).isSome)=Ic x.auto y.auto:=rfl
    simp(disch:=omega)only[go_sem,eE.c,ha]
    cases d6:Ic x.auto y.auto with
    |false=>
     rw[d6]at hcs
     simp(disch:=omega)only[go_sem]
     exact done hcs
    |true=>
     rw[d6]at hcs
     simp(disch:=omega)only[go_sem]
     exact bB.of (by rw[hcs]; rfl) rfl
 .rw[wS hn.any]
  simp(disch:=omega)only[go_sem]
structure V5 (v:ij):Prop where
 o:∀t∈v.types,t.ok
 s:∀t∈v.types,t.short
 tl:v.types.length<=2147483648
 sl:v.aG.length<=2^63 - 1
 n:bC v.name
 c:∀c∈v.calls,bC c.name
 w:∀w∈v.aG,bC w.name/\∀m∈w.msgs,bC m.name
 p:∀c∈v.aT,bC c.name
theorem Ie {l:List ByteArray} {s:ByteArray} (h:cY l s=false):s∉l:=fun hm=>by
 unfold cY at h
 have:=WY.1 h s hm
 simp at this
theorem p7 {α:Type} {f:α->ByteArray} {l:List α} (h:∀(k:Nat) c,l[k]?=some c->cY ((l.map f).take k) (f c)=false):(l.map f).Nodup:=by
 rw[List.nodup_iff_pairwise_ne,Xd]
 intro i j hi hj hij e
 rw[Wg]at hi hj
 have:=Ie (h j l[j] (Wb hj))
 apply this
 rw[List.mem_take_iff_getElem]
 refine⟨i,by rw[Wg]; omega,?_⟩
 rw[e,List.getElem_map]
theorem cH.BT {v:ij} (h:cH v):(v.calls.map mi.name).Nodup:=p7 fun k c hc=>(pZ (h.TA k c hc)).2.1
theorem cH.HC {v:ij} (h:cH v):(v.aT.map mj.name).Nodup:=p7 fun k c hc=>(p4 (h.top k c hc)).2.1
theorem cH.HB {v:ij} (h:cH v):(v.aG.map eE.name).Nodup:=p7 fun k c hc=>(vk (h.TB k c hc)).1
end Go.Pv
