/-
 What the functions of the law give.
-/
import Derived.Test.YtpchfogcccagjaaGreatC8
set_option linter.unusedSimpArgs false
set_option linter.unusedVariables false
open List renaming mem_of_getElem? → Wa, getElem?_eq_some_iff → V9, length_map → Wg, getElem?_map → Wf, getElem?_append_left → We, mem_map → Wk, mem_cons → WG, eq_nil_of_length_eq_zero → Wp, length_range → WI, getElem?_append_right → Wn, getD_eq_getElem?_getD → Ws, take_of_length_le → Wq, length_append → Wz, getElem?_set_self → WU, findIdx?_eq_some_iff_getElem → Ww, map_append → WC, length_take → W8, append_assoc → WK, take_add_one → WL, take_length → WV, getElem?_set_ne → Xk, mem_append → WT, ext_getElem? → WW, getElem?_drop → WQ, length_set → Xx, findIdx?_eq_none_iff → Xe, getElem?_range → Xr, range_succ → Xq, getElem_of_mem → Xg, length_filter_le → XW, take_append_of_le_length → XT, take_append_drop → XG, drop_eq_getElem_cons → aft, mem_flatMap → afw, set_append_right → afB
open Nat renaming le_refl → Wj, lt_or_ge → Wh, zero_add → XN, sub_self → afA
open Bool renaming true_and → WZ, eq_iff_iff → Xb
open Int renaming toNat_natCast → WX
namespace Go.Pv
def lL (w nb p:Nat):V:=.own (p+1) w 0 nb
def vz (w na nb m:Nat):List V:=fM (lL w nb) (.tl []) (List.range na) m
theorem mc {w na nb m:Nat}(h:m<=na):(vz w na nb m).length=na:=by
 have:=AM (lL w nb) (.tl []) (List.range na) (k:=m) (by simpa using h);rw[WI]at this;exact this
theorem FM (w na nb:Nat):vz w na nb 0=List.replicate na (.tl []):=by
 unfold vz;rw[y5,WI]
theorem HX {w na nb m:Nat}(h:m<na):(vz w na nb m).set m (.own (m+1) w 0 nb)=vz w na nb (m+1):=AO (f:=lL w nb) (Xr h)
theorem HY {w na nb m i:Nat}(h:i<m)(hm:m<=na):(vz w na nb m)[i]?=some (.own (i+1) w 0 nb):=A2 (f:=lL w nb) h (Xr (by omega))
theorem HZ (w na nb:Nat):vz w na nb na=(List.range na).map (lL w nb):=by
 have:=AN (lL w nb) (.tl []) (List.range na);rw[WI]at this;exact this
def qU (w:Nat)(M:List (List Bool)):List aL:=M.map λr=>⟨w,1,.inl (bX r)⟩
@[go_sem] theorem H0 (w:Nat)(M:List (List Bool)):(qU w M).length=M.length:=by simp[qU]
@[go_sem] theorem B6 (w:Nat)(M:List (List Bool))(i:Nat):(qU w M)[i]?=M[i]?.map λr=>⟨w,1,.inl (bX r)⟩:=by
 unfold qU;rw[Wf]
@[go_sem] theorem Tw (w:Nat)(M:List (List Bool))(i:Nat)(r:List Bool):(qU w M).set i ⟨w,1,.inl (bX r)⟩=qU w (M.set i r):=by simp[qU,List.map_set]
@[go_sem] theorem FN (w:Nat)(M:List (List Bool))(r:List Bool):qU w M++[⟨w,1,.inl (bX r)⟩]=qU w (M++[r]):=by simp[qU]
theorem vA {α:Type}{w na nb:Nat}{M:List (List Bool)}(hM:mB na nb M)(f:V->Option α)(g:List Bool->α)(hf:∀p r,M[p]?=some r->f (.own (p+1) w 0 nb)=some (g r)):ay (ay f) (cQ (vz w na nb na))=some (M.map λr=>[g r]):=by
 rw[HZ];have key:∀(k:Nat)(N:List (List Bool)),N.length=k->(∀p r,N[p]?=some r->f (.own (p+1) w 0 nb)=some (g r))->ay (ay f) (cQ ((List.range k).map (lL w nb)))=some (N.map λr=>[g r]):=by
  intro k
  induction k with
  |zero=>
   intro N hN _;have:N=[]:=Wp hN;subst this;rfl
  |succ k ih=>
   intro N hN hf;obtain⟨N',r,rfl⟩:∃N' r,N=N'++[r]:=⟨N.dropLast,N.getLast (by intro e;rw[e]at hN;simp at hN),(List.dropLast_concat_getLast _).symm⟩;have hl:N'.length=k:=by simpa using hN
   have h1:=ih N' hl λp r hr=>hf p r (by rw[We (V9.1 hr).1];exact hr);have h2:=hf k r (by rw[List.getElem?_append_right (by omega),hl];simp);have happ:∀(a b:List (List V))(ra rb:List (List α)),ay (ay f) a=some ra->ay (ay f) b=some rb->ay (ay f) (a++b)=some (ra++rb):=by
    intro a
    induction a with
    |nil=>intro b ra rb h1 h2;cases h1;exact h2
    |cons x a ih=>
     intro b ra rb h1 h2;simp only[ay]at h1;split at h1
     .rename_i y l' e1 e2;cases h1;simp only[List.cons_append,ay,e1,ih b l' rb e2 h2]
     .cases h1
   have h3:ay (ay f) (cQ [lL w nb k])=some [[g r]]:=by
    simp[cQ,ay,lL,h2]
   have h4:=happ _ _ _ _ h1 h3;rw[WC,Xq,WC];show ay (ay f) (cQ ((List.range k).map (lL w nb)++[lL w nb k]))=_;unfold cQ at h4 |-;rw[WC];exact h4
 exact key na M hM.len hf
theorem Dl {w na nb:Nat}{M:List (List Bool)}(hM:mB na nb M)(bx:List (Nat×List V))(a0:aL)(d:Nat):ay (ay (aR ⟨bx,a0::qU w M,[]⟩ (d+1))) (cQ (vz w na nb na))=some (Yx (λ_=>1) M):=
 vA hM (aR ⟨bx,a0::qU w M,[]⟩ (d+1)) (λr=>PV.aq 1 (bX r)) λp r hr=>by
  have h1:=hM.row r (Wa hr);have h2:(bX r).take nb=bX r:=Wq (by rw[hV];omega);simp[aR,aB,B6,hr,az,h2]
theorem Dm {w na nb:Nat}{M:List (List Bool)}(hM:mB na nb M)(bx:List (Nat×List V))(a0:aL)(d:Nat):ay (ay (aY ⟨bx,a0::qU w M,[]⟩ (d+1))) (cQ (vz w na nb na))=some (Yx (λ_=>0) M):=
 vA hM (aY ⟨bx,a0::qU w M,[]⟩ (d+1)) (λr=>PV.aq 0 (bX r)) λp r hr=>by
  have h1:=hM.row r (Wa hr);have h2:(bX r).take nb=bX r:=Wq (by rw[hV];omega);simp[dS,aB,B6,hr,az,h2,bO]
noncomputable def lM (A B:List aH)(m:Nat):List (List Bool):=(A.take m).map λx=>B.map (ep x)
noncomputable def gS (A B:List aH):Rel:=λM p q=>HQ M (ji A p) (ji B q)
noncomputable def Dn (A B:List aH):List (List Bool):=Ys (gS A B) A.length B.length (lM A B A.length)
theorem wR (A B:List aH){m:Nat}(h:m<=A.length):mB m B.length (lM A B m):=⟨by simp[lM];omega,λl hl=>by
 obtain⟨x,_,rfl⟩:=Wk.1 hl;exact Wg _⟩
theorem Dp (A B:List aH){m:Nat}{x:aH}(h:A[m]?=some x):lM A B (m+1)=lM A B m++[B.map (ep x)]:=by
 unfold lM;rw[WL,h,WC];rfl
theorem oQ {A:List aH}{p:Nat}{x:aH}(h:A[p]?=some x):ji A p=x:=by
 have:=(V9.1 h).1;have h2:=uT (l:=A) (i:=p) (by omega) (by omega);rw[WX,h]at h2;exact(Option.some.inj h2).symm
theorem ZZ {A B:List aH}{p q:Nat}(hp:p<A.length)(hq:q<B.length):iY (lM A B A.length) p q=ep (ji A p) (ji B q):=by
 obtain⟨x,hx⟩:=get_some hp;obtain⟨y,hy⟩:=get_some hq;rw[oQ hx,oQ hy];unfold iY lM;simp[hx,hy]
def Below (A B:List aH)(M:List (List Bool)):Prop:=∀p q:Nat,iY M p q=true->ep (ji A p) (ji B q)=true
theorem A3 {A B:List aH}{p q:Nat}(h:iY (lM A B A.length) p q=true):ep (ji A p) (ji B q)=true:=by
 unfold iY lM at h;simp only[Int.toNat_natCast,List.take_length,List.getD_eq_getElem?_getD,List.getElem?_map]at h;cases hx:A[p]? with
 |none=>simp[hx]at h
 |some x=>
  rw[hx]at h;simp only[Option.map_some,Option.getD_some,List.getElem?_map]at h;cases hy:B[q]? with
  |none=>simp[hy]at h
  |some y=>
   rw[hy]at h;rw[oQ hx,oQ hy];exact h
theorem Below.set {A B:List aH}{na nb p q:Nat}{M:List (List Bool)}(h:Below A B M)(hM:mB na nb M)(hp:p<na)(hq:q<nb):Below A B (qT M p q):=λp' q' he=>by
 rw[FE hM hp hq]at he;split at he
 .cases he
 .exact h p' q' he
structure FO (A:List aH):Prop where
 ok:∀t∈A,t.ok
 short:∀t∈A,t.short
 len:A.length<=32
 kind:∀t∈A,t.kind<=9
 use:∀t∈A,UU A.length (p5 t)
theorem Dq {t:aH}{u:Int×Int}(h:u∈p5 t)(h9:1<=t.kind/\t.kind<=9):u.2∈cT t:=by
 unfold p5 oP at h;rcases WT.1 h with h|h
 .rcases WT.1 h with h|h
  .obtain⟨m,hm,rfl⟩:=Wk.1 h;exact yT hm
  .split at h
   .rename_i hk;simp only[List.mem_singleton]at h;subst h;unfold cT jF;simp[hk]
   .simp at h
 .split at h
  .rename_i hk;simp only[List.mem_singleton]at h;subst h;exact u7 (by omega)
  .simp at h
set_option maxHeartbeats 16000000 in
theorem r493 (t u:Nat)(A0 B0:List aH)(hA:FO A0)(hB:FO B0):res A aA 493 [.agg [.aq t (A0.map aH.c)],.agg [.aq u (B0.map aH.c)],.bool false]=some [.aq 0 (Yx (λ_=>0) (Dn A0 B0))]:=by
 have la:=hA.len;have lb:=hB.len;obtain⟨G,hG⟩:∃G,Dn A0 B0=G:=⟨_,rfl⟩;rw[hG];refine aw a493 rfl rfl ?_;simp only[F493,aaW];simp(disch:=omega)only[go_sem];refine W.fv A0.length (λm=>⟨[(2,.pv (.bool false)),(3,.ptr 3 0),(4,.ptr 4 0),(7,.own 0 0 0 A0.length),(8,.pv (.int .i64 m))],⟨[(3,[.pv (.aq t (A0.map aH.c))]),(4,[.pv (.aq u (B0.map aH.c))])],⟨0,1,.inr (cQ (vz 0 A0.length B0.length m))⟩::qU 0 (lM A0 B0 m),[]⟩⟩) (λ_=>True) (by rw[FM];rfl) trivial λm hm _=>?_;have hxl:=mc (w:=0) (nb:=B0.length) hm;have hbl:=(wR A0 B0 hm).len;simp(disch:=omega)only[go_sem];refine Br.aJ (λh=>?_) (λh=>?_)
 .obtain⟨x,hx⟩:=get_some (l:=A0) (k:=m) (by omega);have hxs:=HX (w:=0) (na:=A0.length) (nb:=B0.length) (m:=m) (by omega);have hg1:∀w:List Bool,(lM A0 B0 m++[w])[m]?=some w:=λw=>by rw[List.getElem?_append_right (by omega),hbl];simp
  have hg2:∀w w':List Bool,(lM A0 B0 m++[w]).set m w'=lM A0 B0 m++[w']:=λw w'=>by rw[List.set_append_right _ _ (by omega),hbl];simp
  have hxg:=HY (w:=0) (na:=A0.length) (nb:=B0.length) (m:=m+1) (i:=m) (by omega) (by omega);have hxl':=mc (w:=0) (na:=A0.length) (nb:=B0.length) (m:=m+1) (by omega);simp(disch:=omega)only[go_sem,hbl,hxs];refine W.fv B0.length (λq=>⟨[(2,.pv (.bool false)),(3,.ptr 3 0),(4,.ptr 4 0),(7,.own 0 0 0 A0.length),(8,.pv (.int .i64 m)),(9,.pv (.int .i64 q))],⟨[(3,[.pv (.aq t (A0.map aH.c))]),(4,[.pv (.aq u (B0.map aH.c))])],⟨0,1,.inr (cQ (vz 0 A0.length B0.length (m+1)))⟩::qU 0 (lM A0 B0 m++[fM (ep x) false B0 q]),[]⟩⟩) (λ_=>True) ?_ trivial λq hq _=>?_
  .rw[y5];rfl
  have hbt:=AM (ep x) false B0 hq;simp(disch:=omega)only[go_sem,hxg,hg1];refine Br.aJ (λh=>?_) (λh=>?_)
  .obtain⟨y,hy⟩:=get_some (l:=B0) (k:=q) (by omega);have h500:=r500 x y (hA.ok x (Wa hx)) (hB.ok y (Wa hy));have hset:=AO (f:=ep x) (y:=false) hy;generalize ep x y=e at h500 hset;unfold aH.c at h500;simp(disch:=omega)only[go_sem,hx,hy,Option.map_some,aH.c,h500,hxg,hg1,hg2];refine .of (by omega) ?_ trivial;show _=St.mk _ _;rw[hset];rfl
  .obtain rfl:q=B0.length:=by omega
   simp(disch:=omega)only[go_sem];refine .of (by omega) ?_ trivial;show _=St.mk _ _;rw[Dp _ _ hx,AN];rfl
 .obtain rfl:m=A0.length:=by omega
  clear h hxl hbl;simp(disch:=omega)only[go_sem];generalize hna:A0.length=na at *;generalize hnb:B0.length=nb at *;have hM0:mB na nb (lM A0 B0 na):=by
   have:=wR A0 B0 (Wj _);rw[hna,hnb]at this;exact this
  have hB0:Below A0 B0 (lM A0 B0 na):=λp q he=>by
   rw[<- hna]at he;exact A3 he
  have hG':Ys (gS A0 B0) na nb (lM A0 B0 na)=G:=by
   rw[<- hG,<- hna,<- hnb];rfl
  refine W.BZ (λ(s:List (List Bool)×Bool)=>⟨[(3,.ptr 3 0),(4,.ptr 4 0),(7,.own 0 0 0 na),(10,.pv (.bool s.2))],⟨[(3,[.pv (.aq t (A0.map aH.c))]),(4,[.pv (.aq u (B0.map aH.c))])],⟨0,1,.inr (cQ (vz 0 na nb na))⟩::qU 0 s.1,[]⟩⟩) (λs=>MI G (gS A0 B0) na nb s/\Below A0 B0 s.1) FJ (lM A0 B0 na,true) rfl ⟨⟨hM0,hG'⟩,hB0⟩ λs hs=>?_;obtain⟨M,f⟩:=s;obtain⟨hs,hb⟩:=hs;dsimp only at hb;cases f with
  |false=>
   have hrt:(cQ (vz 0 na nb na)).take na=cQ (vz 0 na nb na):=Wq (by rw[C8,mc (Wj _)];exact Wj _);have hkp:=Dm (w:=0) hs.1;have hMG:M=G:=hs.2;subst hMG;simp(disch:=omega)only[go_sem,hrt,hkp]
  |true=>
   have hM:=hs.1;dsimp only at hM;simp(disch:=omega)only[go_sem];refine W.IY na (FH (gS A0 B0) nb) (M,false) (λp s=>⟨[(3,.ptr 3 0),(4,.ptr 4 0),(7,.own 0 0 0 na),(10,.pv (.bool s.2)),(11,.pv (.int .i64 p))],⟨[(3,[.pv (.aq t (A0.map aH.c))]),(4,[.pv (.aq u (B0.map aH.c))])],⟨0,1,.inr (cQ (vz 0 na nb na))⟩::qU 0 s.1,[]⟩⟩) (λ_ s=>mB na nb s.1/\Below A0 B0 s.1) rfl ⟨hM,hb⟩ (λp s hp _ hi=>?_) (λs hse hi=>?_)
   .have hxl:=mc (w:=0) (na:=na) (nb:=nb) (Wj _);simp(disch:=omega)only[go_sem];refine Br.aJ (λh=>?_) (λh=>(h (by omega)).elim);simp(disch:=omega)only[go_sem];refine W.IY nb (FF (gS A0 B0) p) s (λq s=>⟨[(3,.ptr 3 0),(4,.ptr 4 0),(7,.own 0 0 0 na),(10,.pv (.bool s.2)),(11,.pv (.int .i64 p)),(12,.pv (.int .i64 q))],⟨[(3,[.pv (.aq t (A0.map aH.c))]),(4,[.pv (.aq u (B0.map aH.c))])],⟨0,1,.inr (cQ (vz 0 na nb na))⟩::qU 0 s.1,[]⟩⟩) (λ_ s=>mB na nb s.1/\Below A0 B0 s.1) rfl hi (λq s hq _ hi=>?_) (λs hse hi=>?_)
    .obtain⟨N,f⟩:=s;obtain⟨hN,hNb⟩:=hi;dsimp only at hN hNb;obtain⟨l,e1,e2,e3⟩:=hN.get (p:=(p:Int)) (q:=(q:Int)) (by omega) (by omega);rw[WX]at e1 e3;obtain⟨x,hx⟩:=get_some (l:=A0) (k:=p) (by omega);obtain⟨y,hy⟩:=get_some (l:=B0) (k:=q) (by omega);have hxm:=Wa hx;have hym:=Wa hy;have hrt:(cQ (vz 0 na nb na)).take na=cQ (vz 0 na nb na):=Wq (by rw[C8,mc (Wj _)];exact Wj _);have hld:=Dl (w:=0) hN;have hxg:=HY (w:=0) (na:=na) (nb:=nb) (m:=na) (i:=p) (by omega) (by omega);have hset:qU 0 (N.set p (l.set q false))=qU 0 (qT N p q):=by
      unfold qT;rw[Ws,e1];rfl
     have hst:FF (gS A0 B0) p (N,f) q=if (iY N p q&&!HQ N x y)=true then (qT N p q,true) else (N,f):=by
      unfold FF gS;rw[oQ hx,oQ hy]
     have hbel:=hNb p q;have hin:mB na nb (FF (gS A0 B0) p (N,f) q).1/\Below A0 B0 (FF (gS A0 B0) p (N,f) q).1:=by
      refine⟨FL hN hp,?_⟩;rw[hst];split
      .exact hNb.set hN hp hq
      .exact hNb
     simp(disch:=omega)only[go_sem,hxg,e1];refine Br.aJ (λh=>?_) (λh=>(h (by omega)).elim);cases he:iY N p q with
     |false=>
      rw[he]at e3 hst;rw[if_neg (by simp)]at hst;simp(disch:=omega)only[go_sem,hxg,e1,e3];rw[hst]at hin |-;exact cW.of rfl hin
     |true=>
      rw[he]at e3 hst;rw[WZ]at hst;have hal:=hbel he;rw[oQ hx,oQ hy]at hal;have h501:=r501 2 na nb (λ_=>1) x y N hN (by omega) ⟨hA.short x hxm,hA.kind x hxm⟩ ⟨hB.short y hym,hB.kind y hym⟩ (hna ▸ hA.use x hxm) (hnb ▸ hB.use y hym) (Zx hal);generalize HQ N x y=r at h501 hst;unfold aH.c at h501;simp(disch:=omega)only[go_sem,hxg,e1,e3,hx,hy,Option.map_some,aH.c,hrt,hld,h501];cases r with
      |true=>
       rw[if_neg (by simp)]at hst;simp(disch:=omega)only[go_sem];rw[hst]at hin |-;exact cW.of rfl hin
      |false=>
       rw[if_pos (by simp)]at hst;simp(disch:=omega)only[go_sem,hxg,e1,hset];rw[hst]at hin |-;exact cW.of rfl hin
    .obtain⟨l,e1⟩:=get_some (l:=s.1) (k:=p) (by have:=hi.1.len;omega);have e2:=hi.1.row l (Wa e1);have hxg:=HY (w:=0) (na:=na) (nb:=nb) (m:=na) (i:=p) (by omega) (by omega);have hr:FH (gS A0 B0) nb _ p=s:=hse.symm;simp(disch:=omega)only[go_sem,hxg,e1];rw[hr];exact cW.of rfl hi
   .have hr:GD (gS A0 B0) na nb (M,false)=s:=hse.symm;have hk:=FK hs (MJ hs.1);rw[hr]at hk;have hxl:=mc (w:=0) (na:=na) (nb:=nb) (Wj _);simp(disch:=omega)only[go_sem];exact⟨s,⟨hk.1,hi.2⟩,hk.2,rfl⟩
def Dr (w na nb m:Nat)(r:List Bool):List V:=(vz w na nb m).set m (dh (m+1) (bX r))
theorem FP {w na nb m:Nat}(h:m<na):Dr w na nb m []=vz w na nb m:=by
 unfold Dr;apply WW;intro i;by_cases e:m=i
 .subst e;rw[WU (by rw[mc (by omega)];exact h)];unfold vz fM;rw[List.getElem?_append_right (by simp;omega),List.getElem?_replicate,if_pos (by simp;omega)];rfl
 .rw[Xk e]
theorem FQ {na nb m:Nat}{r:List Bool}(h:m<na)(hr:r.length=nb+1):Dr nb na (nb+1) m r=vz nb na (nb+1) (m+1):=by
 rw[<- HX h];unfold Dr;cases r with
 |nil=>simp at hr
 |cons b r=>
  obtain rfl:r.length=nb:=by simpa using hr
  simp[bX,dh]
theorem FR {w:Nat}{M:List (List Bool)}{r:List Bool}(h:r.length=w+1):qU w M++cK 1 (bX r)=qU w (M++[r]):=by
 cases r with
 |nil=>simp at h
 |cons b r=>
  obtain rfl:r.length=w:=by simpa using h
  rw[<- FN];simp[bX,cK]
theorem H2 {w na nb m:Nat}{r:List Bool}(h:m<na):(Dr w na nb m r)[m]?=some (dh (m+1) (bX r)):=by
 unfold Dr;rw[WU (by rw[mc (by omega)];exact h)]
theorem H3 {w na nb m:Nat}{r r':List Bool}:(Dr w na nb m r).set m (dh (m+1) (bX r'))=Dr w na nb m r':=by
 unfold Dr;rw[List.set_set]
theorem H4 {w na nb m:Nat}{r:List Bool}(h:m<na):(Dr w na nb m r).length=na:=by
 unfold Dr;rw[Xx,mc (by omega)]
theorem H5 (n k:Nat)(rows:List (List PV))(r:List PV):(tM n k rows r).all=none:=by cases rows<;>rfl
theorem ML (n k:Nat)(rows:List (List PV))(r:List PV):(tM n k rows r).bx=none:=by cases rows<;>rfl
theorem MM (n k:Nat)(rows:List (List PV))(r:List PV):(tM n k rows r).mp=none:=by cases rows<;>rfl
theorem Ds (n k:Nat)(rows:List (List PV))(r:List PV):(tM n k rows r).mD=false:=by cases rows<;>rfl
theorem H6 {α:Type}(o:Option α)(eq:α->α->Bool):jk o none eq=true:=by cases o<;>rfl
set_option maxHeartbeats 16000000 in
theorem r478 (t u:Nat)(A0 B0:List aH)(hA:FO A0)(hB:FO B0)(hb0:1<=B0.length):res A aA 478 [.agg [.aq t (A0.map aH.c)],.agg [.aq u (B0.map aH.c)],.bool false]=some [.aq 0 (Yx (λ_=>0) (Dn A0 B0))]:=by
 have la:=hA.len;have lb:=hB.len;obtain⟨G,hG⟩:∃G,Dn A0 B0=G:=⟨_,rfl⟩;obtain⟨w,hw⟩:∃w,B0.length=w+1:=⟨B0.length - 1,by omega⟩;rw[hG];refine aw a478 rfl rfl ?_;simp only[F478,LC];simp(disch:=omega)only[go_sem];refine W.fv A0.length (λm=>⟨[(2,.pv (.bool false)),(3,.ptr 3 0),(4,.ptr 4 0),(7,.ptr 7 0),(22,.pv (.aq t (A0.map aH.c))),(23,.pv (.int .i64 A0.length)),(24,.pv (.int .i64 m))],⟨[(3,[.pv (.aq t (A0.map aH.c))]),(4,[.pv (.aq u (B0.map aH.c))]),(7,[.own 0 0 0 A0.length])],⟨0,1,.inr (cQ (vz w A0.length B0.length m))⟩::qU w (lM A0 B0 m),[]⟩⟩) (λ_=>True) (by rw[FM];rfl) trivial λm hm _=>?_;have hxl:=mc (w:=w) (nb:=B0.length) hm;have hbl:=(wR A0 B0 hm).len;simp(disch:=omega)only[go_sem];refine Br.aJ (λh=>?_) (λh=>?_)
 .obtain⟨x,hx⟩:=get_some (l:=A0) (k:=m) (by omega);simp(disch:=omega)only[go_sem,hx,Option.map_some,aH.c];refine W.fv B0.length (λq=>⟨[(2,.pv (.bool false)),(3,.ptr 3 0),(4,.ptr 4 0),(7,.ptr 7 0),(8,.pv (.int .i64 m)),(9,.ptr 9 0),(22,.pv (.aq t (A0.map aH.c))),(23,.pv (.int .i64 A0.length)),(24,.pv (.int .i64 m)),(30,.pv (.aq u (B0.map aH.c))),(31,.pv (.int .i64 B0.length)),(32,.pv (.int .i64 q))],⟨[(3,[.pv (.aq t (A0.map aH.c))]),(4,[.pv (.aq u (B0.map aH.c))]),(7,[.own 0 0 0 A0.length]),(9,x.c.map .pv)],⟨0,1,.inr (cQ (Dr w A0.length B0.length m ((B0.take q).map (ep x))))⟩::(qU w (lM A0 B0 m)++cK 1 (bX ((B0.take q).map (ep x)))),[]⟩⟩) (λ_=>True) ?_ trivial λq hq _=>?_
  .rw[List.take_zero,List.map_nil,FP (by omega)];simp[bX,cK,aH.c]
  obtain⟨row,hrow⟩:∃row,(B0.take q).map (ep x)=row:=⟨_,rfl⟩;have hrl:row.length=q:=by rw[<- hrow,Wg,W8];omega
  rw[hrow];simp(disch:=omega)only[go_sem];refine Br.aJ (λh=>?_) (λh=>?_)
  .obtain⟨y,hy⟩:=get_some (l:=B0) (k:=q) (by omega);have h488:=r488 x y (hA.ok x (Wa hx)) (hB.ok y (Wa hy));have hnx:(B0.take (q+1)).map (ep x)=row++[ep x y]:=by
    rw[WL,hy,WC,hrow];rfl
   generalize ep x y=e at h488 hnx;have hxg:=H2 (w:=w) (na:=A0.length) (nb:=B0.length) (m:=m) (r:=row) (by omega);have hxl':=H4 (w:=w) (na:=A0.length) (nb:=B0.length) (m:=m) (r:=row) (by omega);have hxs:=H3 (w:=w) (na:=A0.length) (nb:=B0.length) (m:=m) (r:=row) (r':=row++[e]);have hg:=λbx mp (a:aL)=>grow bx mp (a::qU w (lM A0 B0 m)) 1 (bX row) [.bool e] rfl (by rw[hV];omega);have hga:=λbx mp (a:aL)=>ik bx mp (a::qU w (lM A0 B0 m)) 1 (bX row) [.bool e];simp only[List.length_cons,H0,hbl,List.cons_append]at hg hga;have hsn:bX row++[[PV.bool e]]=bX (row++[e]):=by simp[bX]
   rw[hsn]at hg hga;have hst:=y6 (id:=0) (row:=m) (ax:=0) (xs:=Dr w A0.length B0.length m row) (y:=dh (m+1) (bX (row++[e]))) (by omega) (Hq _ _);rw[hxs]at hst;unfold aH.c at h488;simp(disch:=omega)only[go_sem,hst,hy,Option.map_some,aH.c,h488,hxg,List.map_cons,List.map_nil,hg,hga,H5,ML,MM,Ds,H6,Option.isNone_none,Option.map_none,Bool.not_false,Bool.and_true];refine .of (by omega) ?_ trivial;show _=St.mk _ _;rw[hnx];rfl
  .obtain rfl:q=B0.length:=by omega
   rw[WV]at hrow;have hf:=FQ (na:=A0.length) (nb:=w) (m:=m) (r:=row) (by omega) (by omega);rw[<- hw]at hf;have hba:=FR (w:=w) (M:=lM A0 B0 m) (r:=row) (by omega);simp(disch:=omega)only[go_sem];refine .of (by omega) ?_ trivial;show _=St.mk _ _;rw[Dp _ _ hx,hrow,hba,hf];rfl
 .obtain rfl:m=A0.length:=by omega
  clear h hxl hbl;simp(disch:=omega)only[go_sem];generalize hna:A0.length=na at *;generalize hnb:B0.length=nb at *;have hM0:mB na nb (lM A0 B0 na):=by
   have:=wR A0 B0 (Wj _);rw[hna,hnb]at this;exact this
  have hB0:Below A0 B0 (lM A0 B0 na):=λp q he=>by
   rw[<- hna]at he;exact A3 he
  have hG':Ys (gS A0 B0) na nb (lM A0 B0 na)=G:=by
   rw[<- hG,<- hna,<- hnb];rfl
  have hrt:(cQ (vz w na nb na)).take na=cQ (vz w na nb na):=Wq (by rw[C8,mc (Wj _)];exact Wj _);have hxl:=mc (w:=w) (na:=na) (nb:=nb) (Wj _);refine W.BZ (λ(s:List (List Bool)×Bool)=>⟨[(3,.ptr 3 0),(4,.ptr 4 0),(7,.ptr 7 0),(12,.pv (.bool s.2))],⟨[(3,[.pv (.aq t (A0.map aH.c))]),(4,[.pv (.aq u (B0.map aH.c))]),(7,[.own 0 0 0 na])],⟨0,1,.inr (cQ (vz w na nb na))⟩::qU w s.1,[]⟩⟩) (λs=>MI G (gS A0 B0) na nb s/\Below A0 B0 s.1) FJ (lM A0 B0 na,true) rfl ⟨⟨hM0,hG'⟩,hB0⟩ λs hs=>?_;obtain⟨M,f⟩:=s;obtain⟨hs,hb⟩:=hs;dsimp only at hb;cases f with
  |false=>
   have hkp:=Dm (w:=w) hs.1;have hMG:M=G:=hs.2;subst hMG;simp(disch:=omega)only[go_sem,hrt,hkp]
  |true=>
   have hM:=hs.1;dsimp only at hM;simp(disch:=omega)only[go_sem];refine W.IY na (FH (gS A0 B0) nb) (M,false) (λp s=>⟨[(3,.ptr 3 0),(4,.ptr 4 0),(7,.ptr 7 0),(12,.pv (.bool s.2)),(53,.pv (.aq t (A0.map aH.c))),(54,.pv (.int .i64 na)),(55,.pv (.int .i64 p))],⟨[(3,[.pv (.aq t (A0.map aH.c))]),(4,[.pv (.aq u (B0.map aH.c))]),(7,[.own 0 0 0 na])],⟨0,1,.inr (cQ (vz w na nb na))⟩::qU w s.1,[]⟩⟩) (λ_ s=>mB na nb s.1/\Below A0 B0 s.1) (by simp only[hna];rfl) ⟨hM,hb⟩ (λp s hp _ hi=>?_) (λs hse hi=>?_)
   .obtain⟨x,hx⟩:=get_some (l:=A0) (k:=p) (by omega);have hxm:=Wa hx;have h490:=r490 x (hA.short x hxm) (hA.kind x hxm);unfold aH.c at h490;simp(disch:=omega)only[go_sem];refine Br.aJ (λh=>?_) (λh=>(h (by omega)).elim);simp(disch:=omega)only[go_sem,hx,Option.map_some,aH.c];refine W.IY nb (FF (gS A0 B0) p) s (λq s=>⟨[(3,.ptr 3 0),(4,.ptr 4 0),(7,.ptr 7 0),(12,.pv (.bool s.2)),(13,.pv (.int .i64 p)),(14,.ptr 14 0),(53,.pv (.aq t (A0.map aH.c))),(54,.pv (.int .i64 na)),(55,.pv (.int .i64 p)),(61,.pv (.aq u (B0.map aH.c))),(62,.pv (.int .i64 nb)),(63,.pv (.int .i64 q))],⟨[(3,[.pv (.aq t (A0.map aH.c))]),(4,[.pv (.aq u (B0.map aH.c))]),(7,[.own 0 0 0 na]),(14,x.c.map .pv)],⟨0,1,.inr (cQ (vz w na nb na))⟩::qU w s.1,[]⟩⟩) (λ_ s=>mB na nb s.1/\Below A0 B0 s.1) (by simp only[hnb];rfl) hi (λq s hq _ hi=>?_) (λs hse hi=>?_)
    .obtain⟨N,f⟩:=s;obtain⟨hN,hNb⟩:=hi;dsimp only at hN hNb;obtain⟨l,e1,e2,e3⟩:=hN.get (p:=(p:Int)) (q:=(q:Int)) (by omega) (by omega);rw[WX]at e1 e3;obtain⟨y,hy⟩:=get_some (l:=B0) (k:=q) (by omega);have hym:=Wa hy;have h490':=r490 y (hB.short y hym) (hB.kind y hym);unfold aH.c at h490';have hld:=Dl (w:=w) hN;have hxg:=HY (w:=w) (na:=na) (nb:=nb) (m:=na) (i:=p) (by omega) (by omega);have hset:qU w (N.set p (l.set q false))=qU w (qT N p q):=by
      unfold qT;rw[Ws,e1];rfl
     have hst:FF (gS A0 B0) p (N,f) q=if (iY N p q&&!HQ N x y)=true then (qT N p q,true) else (N,f):=by
      unfold FF gS;rw[oQ hx,oQ hy]
     have hin:mB na nb (FF (gS A0 B0) p (N,f) q).1/\Below A0 B0 (FF (gS A0 B0) p (N,f) q).1:=by
      refine⟨FL hN hp,?_⟩;rw[hst];split
      .exact hNb.set hN hp hq
      .exact hNb
     have hul:=zd x;have hxs:=(hA.short x hxm).bc;have hul':=zd y;have hys:=(hB.short y hym).bc;have h489:=λt u s v=>r489 t u s v na nb (λ_=>1) (p5 x) (p5 y) N hN (by omega) (hna ▸ hA.use x hxm) (hnb ▸ hB.use y hym) (by omega) (by omega);have hrel:HQ N x y=wM (λu v=>iY N u.2 v.2) (p5 x) (p5 y):=rfl;rw[<- hrel]at h489;generalize HQ N x y=r at h489 hst;simp(disch:=omega)only[go_sem,hxg,e1];refine Br.aJ (λh=>?_) (λh=>(h (by omega)).elim);simp(disch:=omega)only[go_sem,hy,Option.map_some,aH.c];cases he:iY N p q with
     |false=>
      rw[he]at e3 hst;rw[if_neg (by simp)]at hst;simp(disch:=omega)only[go_sem,hxg,e1,e3];rw[hst]at hin |-;exact cW.of rfl hin
     |true=>
      rw[he]at e3 hst;rw[WZ]at hst;simp(disch:=omega)only[go_sem,hxg,e1,e3,hrt,hld,h490,h490',h489];cases r with
      |true=>
       rw[if_neg (by simp)]at hst;simp(disch:=omega)only[go_sem];rw[hst]at hin |-;exact cW.of rfl hin
      |false=>
       rw[if_pos (by simp)]at hst;simp(disch:=omega)only[go_sem,hxg,e1,hset];rw[hst]at hin |-;exact cW.of rfl hin
    .have hr:FH (gS A0 B0) nb _ p=s:=hse.symm;simp(disch:=omega)only[go_sem];rw[hr];exact cW.of rfl hi
   .have hr:GD (gS A0 B0) na nb (M,false)=s:=hse.symm;have hk:=FK hs (MJ hs.1);rw[hr]at hk;simp(disch:=omega)only[go_sem];exact⟨s,⟨hk.1,hi.2⟩,hk.2,rfl⟩
theorem H7 {p:aH}(h:dO p=true):1<=p.kind:=by
 unfold dO at h;simp only[Bool.and_eq_true,decide_eq_true_eq]at h;exact h.1.1
structure VT (A:List aH):Prop where
 l:A.length<=2147483648
 o:∀t∈A,t.ok
 s:∀t∈A,t.short
 v:cS A=0
theorem VT.vW {A:List aH}(h:VT A):FO A:=by
 have hs:=eZ h.v;exact⟨h.o,h.s,hs.len,λt ht=>yx (hs.own t ht),λt ht u hu=>hs.Np t ht _ (Dq hu ⟨H7 (hs.own t ht),yx (hs.own t ht)⟩)⟩
theorem r477 (t:Nat)(A0:List aH)(x:Int)(h:VT A0)(hx:0<=x/\x<A0.length):res A aA 477 [.agg [.aq t (A0.map aH.c),.int .i64 x]]=some [.int .i64 0]:=by
 have h267:=λv=>r267 v A0 h.l h.o λt ht=>(h.s t ht).held;rw[h.v]at h267;have hl:=h.l;obtain⟨x0,x1⟩:=hx;have e1:decide (x<0)=false:=decide_eq_false (by omega);have e2:decide ((A0.length:Int)<=x)=false:=decide_eq_false (by omega);refine aw a477 rfl rfl ?_;simp only[F477,LB];simp(disch:=omega)only[go_sem,h267,e1,e2]
theorem r492 (t:Nat)(A0:List aH)(x:Int)(h:VT A0)(hx:0<=x/\x<A0.length):res A aA 492 [.agg [.aq t (A0.map aH.c),.int .i64 x]]=some [.int .i64 0]:=by
 have h268:=λv=>r268 v A0 h.l h.o λt ht=>(h.s t ht).held;rw[h.v]at h268;have hl:=h.l;obtain⟨x0,x1⟩:=hx;have e1:decide (x<0)=false:=decide_eq_false (by omega);have e2:decide ((A0.length:Int)<=x)=false:=decide_eq_false (by omega);refine aw a492 rfl rfl ?_;simp only[F492,aaV];simp(disch:=omega)only[go_sem,h268,e1,e2]
noncomputable def gG (A B:List aH)(x y:Int):Bool:=iY (Dn A B) x y
theorem B7 (A B:List aH):mB A.length B.length (Dn A B):=HW (wR A B (Wj _))
theorem r468 (t u:Nat)(A0 B0:List aH)(x y:Int)(hA:VT A0)(hB:VT B0)(hx:0<=x/\x<A0.length)(hy:0<=y/\y<B0.length):res A aA 468 [.agg [.aq t (A0.map aH.c),.int .i64 x],.agg [.aq u (B0.map aH.c),.int .i64 y],.bool false]=some [.bool (gG A0 B0 x y)]:=by
 have h1:=λt=>r477 t A0 x hA hx;have h2:=λt=>r477 t B0 y hB hy;have h3:=λt u=>r478 t u A0 B0 hA.vW hB.vW (by omega);obtain⟨l,g1,g2,g3⟩:=(B7 A0 B0).get hx hy;have g4:=(B7 A0 B0).len;have hw:iY (Dn A0 B0) x y=gG A0 B0 x y:=rfl;rw[hw]at g3;generalize gG A0 B0 x y=G at *;generalize Dn A0 B0=M at *;have hal:=hA.vW.len;have hbl:=hB.vW.len;obtain⟨x0,x1⟩:=hx;obtain⟨y0,y1⟩:=hy;refine aw a468 rfl rfl ?_;simp only[F468,Lv];simp(disch:=omega)only[go_sem,h1,h2,h3,gB,g1,g3]
theorem r479 (t u:Nat)(A0 B0:List aH)(x y:Int)(hA:VT A0)(hB:VT B0)(hx:0<=x/\x<A0.length)(hy:0<=y/\y<B0.length):res A aA 479 [.agg [.aq t (A0.map aH.c),.int .i64 x],.agg [.aq u (B0.map aH.c),.int .i64 y],.bool false]=some [.bool (gG A0 B0 x y)]:=by
 have h1:=λt=>r492 t A0 x hA hx;have h2:=λt=>r492 t B0 y hB hy;have h3:=λt u=>r493 t u A0 B0 hA.vW hB.vW;obtain⟨l,g1,g2,g3⟩:=(B7 A0 B0).get hx hy;have g4:=(B7 A0 B0).len;have hw:iY (Dn A0 B0) x y=gG A0 B0 x y:=rfl;rw[hw]at g3;generalize gG A0 B0 x y=G at *;generalize Dn A0 B0=M at *;have hal:=hA.vW.len;have hbl:=hB.vW.len;obtain⟨x0,x1⟩:=hx;obtain⟨y0,y1⟩:=hy;refine aw a479 rfl rfl ?_;simp only[F479,aaQ];simp(disch:=omega)only[go_sem,h1,h2,h3,gB,g1,g3]
theorem r456 (t u:Nat)(A0 B0:List aH)(x y:Int)(hA:VT A0)(hB:VT B0)(hx:0<=x/\x<A0.length)(hy:0<=y/\y<B0.length):res A aA 456 [.agg [.aq t (A0.map aH.c),.int .i64 x],.agg [.aq u (B0.map aH.c),.int .i64 y]]=some [.bool (gG A0 B0 x y)]:=by
 have h1:=λt u=>r468 t u A0 B0 x y hA hB hx hy;refine aw a456 rfl rfl ?_;simp only[F456,Lr];simp(disch:=omega)only[go_sem,h1]
theorem r469 (t u:Nat)(A0 B0:List aH)(x y:Int)(hA:VT A0)(hB:VT B0)(hx:0<=x/\x<A0.length)(hy:0<=y/\y<B0.length):res A aA 469 [.agg [.aq t (A0.map aH.c),.int .i64 x],.agg [.aq u (B0.map aH.c),.int .i64 y]]=some [.bool (gG A0 B0 x y)]:=by
 have h1:=λt u=>r479 t u A0 B0 x y hA hB hx hy;refine aw a469 rfl rfl ?_;simp only[F469,aaM];simp(disch:=omega)only[go_sem,h1]
theorem r458 (t1 t2 t3 t4 u1 u2 u3 u4:Nat)(v w:ij)(x y:Int)(hA:VT v.types)(hB:VT w.types)(hx:0<=x/\x<v.types.length)(hy:0<=y/\y<w.types.length):res A aA 458 [.agg (lB t1 t2 t3 t4 v),.int .i64 x,.agg (lB u1 u2 u3 u4 w),.int .i64 y]=some [.bool (gG v.types w.types x y)]:=by
 have h1:=λt u=>r469 t u v.types w.types x y hA hB hx hy;refine aw a458 rfl rfl ?_;simp only[F458,aaH,lB];simp(disch:=omega)only[go_sem,h1]
def UZ (R:Int->Int->Prop):Option Int->Option Int->Prop
 |none,none=>True
 |some x,some y=>R x y
 |_,_=>False
theorem UZ.mono {R S:Int->Int->Prop}{x y:Option Int}(h:∀a b,x=some a->y=some b->R a b->S a b)(hr:UZ R x y):UZ S x y:=by
 cases x<;>cases y<;>simp_all [UZ]
def Ev (a b:List Edge):Nat->Int->Int->Prop
 |0,_,_=>True
 |j+1,p,q=>∀d x,UZ (Ev a b j) (cO p d x a) (cO q d x b)
theorem Ev.down {a b:List Edge}:∀{j:Nat}{p q:Int},Ev a b (j+1) p q->Ev a b j p q
 |0,_,_,_=>trivial
 |_j+1,_p,_q,h=>λd x=>(h d x).mono λ_ _ _ _ hr=>Ev.down hr
theorem Ev.le {a b:List Edge}{j k:Nat}{p q:Int}(hk:k<=j)(h:Ev a b j p q):Ev a b k p q:=by
 induction j with
 |zero=>
  obtain rfl:k=0:=by omega
  exact h
 |succ j ih=>
  rcases Wh j k with h1|h1
  .obtain rfl:k=j+1:=by omega
   exact h
  .exact ih h1 h.down
theorem Ev.symm {a b:List Edge}:∀{j:Nat}{p q:Int},Ev a b j p q->Ev b a j q p
 |0,_,_,_=>trivial
 |j+1,p,q,h=>λd x=>by
  have:=h d x;cases hp:cO p d x a<;>cases hq:cO q d x b<;>simp only[hp,hq,UZ]at this |-;exact Ev.symm this
theorem aP.Good.hJ {a:aP}(h:a.Good){p t:Int}{d:Bool}{x:Int}(hn:cO p d x a.af=some t):a.inr t:=by
 have:=fG.1 (h.fit _ ((sZ h.oV).1 hn));exact⟨this.2.2.1,this.2.2.2.1⟩
theorem Yy {α:Type}{p q:α->Bool}:∀{l:List α},(∀x∈l,q x=true->p x=true)->(l.filter q).length<=(l.filter p).length/\((l.filter q).length=(l.filter p).length->∀x∈l,p x=true->q x=true)
 |[],_=>⟨Wj _,λ_ x hx=>by cases hx⟩
 |y::l,h=>by
  obtain⟨h1,h2⟩:=Yy (l:=l) λx hx=>h x (by simp[hx]);have hy:=h y (by simp);cases hq:q y<;>cases hp:p y<;>simp only[List.filter_cons,hq,hp,if_true,if_false,Bool.false_eq_true,List.length_cons]
  .refine⟨h1,λhe x hx hpx=>?_⟩;rcases WG.1 hx with rfl|hx
   .rw[hp]at hpx;cases hpx
   .exact h2 he x hx hpx
  .exact⟨by omega,λhe=>by omega⟩
  .rw[hq,hp]at hy;cases hy rfl
  .refine⟨by omega,λhe x hx hpx=>?_⟩;rcases WG.1 hx with rfl|hx
   .exact hq
   .exact h2 (by omega) x hx hpx
open Classical in
theorem Ev.aa2 {a b:aP}(ha:a.Good)(hb:b.Good){p q:Int}(hp:a.inr p)(hq:b.inr q)(h:Ev a.af b.af (a.aj.toNat*b.aj.toNat) p q):∀j,Ev a.af b.af j p q:=by
 let prsL:List (Int×Int):=(iota a.aj.toNat).flatMap λp=>(iota b.aj.toNat).map λq=>(p,q)
 have hlen:prsL.length=a.aj.toNat*b.aj.toNat:=by
  have:∀l:List Int,(l.flatMap λp=>(iota b.aj.toNat).map λq=>(p,q)).length=l.length*b.aj.toNat:=by
   intro l
   induction l with
   |nil=>simp
   |cons x l ih=>rw[List.flatMap_cons,List.length_append,ih];simp[iota];rw[Nat.add_mul];omega
  have h2:=this (iota a.aj.toNat);rw[show (iota a.aj.toNat).length=a.aj.toNat by simp[iota]]at h2;exact h2
 have hmem:∀{p q:Int},a.inr p->b.inr q->(p,q)∈prsL:=λ{p q} hp hq=>by
  rw[afw];unfold aP.inr at hp hq;exact⟨p,yV.2 (by omega),Wk.2 ⟨q,yV.2 (by omega),rfl⟩⟩
 let S:Nat->List (Int×Int):=λj=>prsL.filter λx=>decide (Ev a.af b.af j x.1 x.2)
 have hS:∀j,(S (j+1)).length<=(S j).length/\((S (j+1)).length=(S j).length->∀x∈prsL,Ev a.af b.af j x.1 x.2->Ev a.af b.af (j+1) x.1 x.2):=λj=>by
  obtain⟨h1,h2⟩:=Yy (l:=prsL) (p:=λx=>decide (Ev a.af b.af j x.1 x.2)) (q:=λx=>decide (Ev a.af b.af (j+1) x.1 x.2)) (λx _ hx=>by
   simp only[decide_eq_true_eq]at hx |-;exact hx.down)
  refine⟨h1,λhe x hx hv=>?_⟩;have:=h2 he x hx (by simpa using hv);simpa using this
 have h0:(S 0).length<=a.aj.toNat*b.aj.toNat:=by
  rw[<- hlen];exact XW _ _
 obtain⟨j,hj,hje⟩:∃j,j<=a.aj.toNat*b.aj.toNat/\(S (j+1)).length=(S j).length:=by
  apply Classical.byContradiction;intro hno;have hall:∀j,j<=a.aj.toNat*b.aj.toNat+1->(S j).length+j<=a.aj.toNat*b.aj.toNat:=by
   intro j
   induction j with
   |zero=>intro _;simpa using h0
   |succ j ih=>
    intro hj;have h1:=ih (by omega);have h2:=(hS j).1;have h3:(S (j+1)).length≠(S j).length:=λe=>hno ⟨j,by omega,e⟩;omega
  have:=hall (a.aj.toNat*b.aj.toNat+1) (Wj _);omega
 have hst:∀k,∀{p q:Int},a.inr p->b.inr q->Ev a.af b.af j p q->Ev a.af b.af (j+k) p q:=by
  intro k
  induction k with
  |zero=>intro p q _ _ h;exact h
  |succ k ih=>
   intro p q hp hq h;have h1:=(hS j).2 hje (p,q) (hmem hp hq) h;intro d x;exact(h1 d x).mono λs t hs ht hr=>ih (ha.hJ hs) (hb.hJ ht) hr
 intro k;rcases Wh k j with hk|hk
 .exact h.le (by omega)
 .have:=hst (k - j) hp hq (h.le hj)
  rwa [show j+(k - j)=k by omega]at this
open Classical in
noncomputable def aq (a b:List Edge):Nat->Int->Int->Nat
 |0,_,_=>0
 |k+1,p,q=>if aq a b k p q≠0 then aq a b k p q else if Ev a b (k+1) p q then 0 else k+1
theorem W1 {a b:List Edge}:∀{k:Nat}{p q:Int},aq a b k p q=0↔Ev a b k p q
 |0,_,_=>by simp[aq,Ev]
 |k+1,p,q=>by
  have ih:=W1 (a:=a) (b:=b) (k:=k) (p:=p) (q:=q);unfold aq;by_cases h:aq a b k p q=0
  .rw[if_neg (by simp[h])];by_cases h2:Ev a b (k+1) p q
   .simp[h2]
   .simp[h2]
  .rw[if_pos h];exact⟨λh'=>(h h').elim,λh'=>(h (ih.2 h'.down)).elim⟩
theorem XY {a b:List Edge}{m:Nat}{p q:Int}:∀{k:Nat},aq a b k p q=m+1↔m+1<=k/\Ev a b m p q/\¬Ev a b (m+1) p q
 |0=>by simp[aq]
 |k+1=>by
  have ih:=XY (a:=a) (b:=b) (m:=m) (p:=p) (q:=q) (k:=k);have hz:=W1 (a:=a) (b:=b) (k:=k) (p:=p) (q:=q);unfold aq;by_cases h:aq a b k p q=0
  .rw[if_neg (by simp[h])];have hk:=hz.1 h;by_cases h2:Ev a b (k+1) p q
   .rw[if_pos h2];constructor
    .intro h';cases h'
    .rintro ⟨h3,h4,h5⟩
     exact(h5 (h2.le h3)).elim
   .rw[if_neg h2];constructor
    .intro h';obtain rfl:k=m:=by omega
     exact⟨Wj _,hk,h2⟩
    .rintro ⟨h3,h4,h5⟩
     rcases Wh m k with h6|h6
     .exact(h5 (hk.le h6)).elim
     .omega
  .rw[if_pos h,ih];constructor
   .rintro ⟨h3,h4,h5⟩
    exact⟨by omega,h4,h5⟩
   .rintro ⟨h3,h4,h5⟩
    refine⟨?_,h4,h5⟩;rcases Wh m k with h6|h6
    .exact h6
    .obtain rfl:m=k:=by omega
     exact(h (hz.2 h4)).elim
theorem zf {es:List Edge}{p:Int}{e:Edge}:e∈aV es p↔e∈es/\e.fr=p:=by simp[aV]
theorem YJ {a b:List Edge}(ha:a.Pairwise (oV Edge.lt)){p q:Int}:(I6 a b p q).isSome=true↔∃d x t,cO p d x a=some t/\cO q d x b=none:=by
 unfold I6;rw[List.find?_isSome];constructor
 .rintro ⟨e,he,hn⟩
  obtain⟨h1,rfl⟩:=zf.1 he;exact⟨e.send,e.label,e.to,(sZ ha).2 h1,by simpa using hn⟩
 .rintro ⟨d,x,t,h1,h2⟩
  exact⟨⟨p,d,x,t⟩,zf.2 ⟨(sZ ha).1 h1,rfl⟩,by simp[h2]⟩
theorem Zs {a b:List Edge}(ha:a.Pairwise (oV Edge.lt))(hb:b.Pairwise (oV Edge.lt)){p q:Int}:VM a b p q=true↔¬Ev a b 1 p q:=by
 unfold VM;rw[Bool.or_eq_true,YJ ha,YJ hb];constructor
 .rintro (⟨d,x,t,h1,h2⟩|⟨d,x,t,h1,h2⟩) h
  .have:=h d x
   rw[h1,h2]at this;exact this
  .have:=h d x
   rw[h1,h2]at this;exact this
 .intro h;apply Classical.byContradiction;intro hno;apply h;intro d x;cases h1:cO p d x a with
  |none=>
   cases h2:cO q d x b with
   |none=>trivial
   |some t=>exact(hno (.inr ⟨d,x,t,h2,h1⟩)).elim
  |some t=>
   cases h2:cO q d x b with
   |none=>exact(hno (.inl ⟨d,x,t,h1,h2⟩)).elim
   |some u=>trivial
theorem Yi {a b:List Edge}(ha:a.Pairwise (oV Edge.lt)){M:List (List Int)}{p q k:Int}:(R6 a b M p q k).isSome=true↔∃d x t u,cO p d x a=some t/\cO q d x b=some u/\UW M t u=k:=by
 unfold R6;rw[List.find?_isSome];constructor
 .rintro ⟨e,he,hn⟩
  obtain⟨h1,rfl⟩:=zf.1 he;unfold R5 at hn;split at hn
  .rename_i u hu;exact⟨e.send,e.label,e.to,u,(sZ ha).2 h1,hu,by simpa using hn⟩
  .cases hn
 .rintro ⟨d,x,t,u,h1,h2,h3⟩
  exact⟨⟨p,d,x,t⟩,zf.2 ⟨(sZ ha).1 h1,rfl⟩,by simp[R5,h2,h3]⟩
theorem aad {na nb p q p' q':Nat}{M:List (List Int)}{v:Int}(h:vC na nb M)(hp:p<na)(hq:q<nb)(hp':p'<na):UW (UX M p q v) p' q'=if p=p'/\q=q' then v else UW M p' q':=by
 have hl:p<M.length:=by rw[h.len];exact hp
 have hr:(M.getD p []).length=nb:=h.row _ (by
  have:M[p]?=some (M.getD p []):=by simp[hl]
  exact Wa this)
 have hgs:∀r:List Int,(M.set p r).getD p' []=if p=p' then r else M.getD p' []:=λr=>by
  simp only[List.getD_eq_getElem?_getD,List.getElem?_set];by_cases e:p=p'
  .subst e;simp[hl]
  .simp[e]
 unfold UW UX;simp only[Int.toNat_natCast];rw[hgs];by_cases e:p=p'
 .subst e;rw[if_pos rfl,Zw (by rw[hr];exact hq)];simp
 .simp[e]
noncomputable def Zf (a b:List Edge)(M:List (List Int))(k:Int)(p q:Nat):Int:=if (R6 a b M p q k).isSome=true/\UW M p q=0 then k+1 else UW M p q
theorem Zz {a b:aP}(ha:a.Good)(hb:b.Good){M M':List (List Int)}{k p q:Int}(h:∀s t:Int,a.inr s->b.inr t->(UW M' s t=k↔UW M s t=k)):(R6 a.af b.af M' p q k).isSome=(R6 a.af b.af M p q k).isSome:=by
 rw[Xb,Yi ha.oV,Yi ha.oV];constructor
 .rintro ⟨d,x,t,u,h1,h2,h3⟩
  exact⟨d,x,t,u,h1,h2,(h t u (ha.hJ h1) (hb.hJ h2)).1 h3⟩
 .rintro ⟨d,x,t,u,h1,h2,h3⟩
  exact⟨d,x,t,u,h1,h2,(h t u (ha.hJ h1) (hb.hJ h2)).2 h3⟩
theorem ZA {a b:List Edge}{M:List (List Int)}{k:Int}(hk:1<=k){p q:Nat}:Zf a b M k p q=k↔UW M p q=k:=by
 unfold Zf;split
 .rename_i h;rw[h.2];omega
 .rfl
theorem ZB {a b:aP}(ha:a.Good)(hb:b.Good){M:List (List Int)}{k:Int}(hk:1<=k)(hM:vC a.aj.toNat b.aj.toNat M):vC a.aj.toNat b.aj.toNat (MK a.af b.af a.aj.toNat b.aj.toNat k M)/\
  ∀p q:Nat,p<a.aj.toNat->q<b.aj.toNat->UW (MK a.af b.af a.aj.toNat b.aj.toNat k M) p q=Zf a.af b.af M k p q:=by
 let Inv:Nat->Nat->List (List Int)->Prop:=λP Q M'=>vC a.aj.toNat b.aj.toNat M'/\∀p q:Nat,p<a.aj.toNat->q<b.aj.toNat->UW M' p q=if p<P\/(p=P/\q<Q) then Zf a.af b.af M k p q else UW M p q
 have hin:∀P,P<a.aj.toNat->∀Q,Q<=b.aj.toNat->∀M',Inv P 0 M'->Inv P Q ((List.range Q).foldl (R8 a.af b.af k P) M'):=by
  intro P hP Q
  induction Q with
  |zero=>intro _ M' h;exact h
  |succ Q ih=>
   intro hQ M' h;rw[Xq,List.foldl_append];obtain⟨h1,h2⟩:=ih (by omega) M' h;generalize (List.range Q).foldl (R8 a.af b.af k P) M'=N at h1 h2;have hsame:(R6 a.af b.af N P Q k).isSome=(R6 a.af b.af M P Q k).isSome:=Zz ha hb λs t hs ht=>by
    unfold aP.inr at hs ht;have:=h2 s.toNat t.toNat (by omega) (by omega);rw[show ((s.toNat:Nat):Int)=s by omega,show ((t.toNat:Nat):Int)=t by omega]at this;rw[this];split
    .have h3:=ZA (a:=a.af) (b:=b.af) (M:=M) hk (p:=s.toNat) (q:=t.toNat);rw[show ((s.toNat:Nat):Int)=s by omega,show ((t.toNat:Nat):Int)=t by omega]at h3;exact h3
    .rfl
   have hent:UW N P Q=UW M P Q:=by
    rw[h2 P Q hP (by omega),if_neg (by omega)]
   show Inv P (Q+1) (R8 a.af b.af k P N Q);have hnew:Zf a.af b.af M k P Q=if (R6 a.af b.af N P Q k).isSome=true/\UW N P Q=0 then k+1 else UW M P Q:=by
    unfold Zf;rw[hsame,hent]
   unfold R8;split
   .rename_i hc;rw[if_pos hc]at hnew;refine⟨Zr h1 hP,λp q hp hq=>?_⟩;rw[aad h1 hP (by omega) hp];by_cases e:P=p/\Q=q
    .obtain⟨rfl,rfl⟩:=e;rw[if_pos ⟨rfl,rfl⟩,if_pos (by omega),hnew]
    .rw[if_neg e,h2 p q hp hq];by_cases h3:p<P\/(p=P/\q<Q)
     .rw[if_pos h3,if_pos (by omega)]
     .rw[if_neg h3,if_neg (by omega)]
   .rename_i hc;rw[if_neg hc]at hnew;refine⟨h1,λp q hp hq=>?_⟩;rw[h2 p q hp hq];by_cases e:P=p/\Q=q
    .obtain⟨rfl,rfl⟩:=e;rw[if_neg (by omega),if_pos (by omega),hnew]
    .by_cases h3:p<P\/(p=P/\q<Q)
     .rw[if_pos h3,if_pos (by omega)]
     .rw[if_neg h3,if_neg (by omega)]
 have hout:∀P,P<=a.aj.toNat->Inv P 0 ((List.range P).foldl (UY a.af b.af b.aj.toNat k) M):=by
  intro P
  induction P with
  |zero=>exact λ_=>⟨hM,λp q _ _=>by rw[if_neg (by omega)];rfl⟩
  |succ P ih=>
   intro hP;rw[Xq,List.foldl_append];obtain⟨h1,h2⟩:=hin P (by omega) b.aj.toNat (Wj _) _ (ih (by omega));refine⟨h1,λp q hp hq=>?_⟩;have:=h2 p q hp hq;refine this.trans ?_;by_cases h3:p<P\/(p=P/\q<b.aj.toNat)
   .rw[if_pos h3,if_pos (by omega)]
   .rw[if_neg h3,if_neg (by omega)]
 obtain⟨h1,h2⟩:=hout a.aj.toNat (Wj _);refine⟨h1,λp q hp hq=>?_⟩;exact(h2 p q hp hq).trans (by rw[if_pos (by omega)])
theorem Yz {a b:aP}(ha:a.Good)(hb:b.Good):∀j,vC a.aj.toNat b.aj.toNat (R9 a.af b.af a.aj.toNat b.aj.toNat j)/\
  ∀p q:Nat,p<a.aj.toNat->q<b.aj.toNat->UW (R9 a.af b.af a.aj.toNat b.aj.toNat j) p q=(aq a.af b.af (j+1) p q:Int)
 |0=>by
  refine⟨Y0 _ _ _ _,λp q hp hq=>?_⟩;have hbl:VO a.af b.af b.aj.toNat p b.aj.toNat=(List.range b.aj.toNat).map λ(q:Nat)=>VN (VM a.af b.af p q):=by
   have:=AN (λ(q:Nat)=>VN (VM a.af b.af p q)) 0 (List.range b.aj.toNat);rw[WI]at this;exact this
  have he:UW (R9 a.af b.af a.aj.toNat b.aj.toNat 0) p q=VN (VM a.af b.af p q):=by
   unfold UW R9 R7;simp only[Int.toNat_natCast,List.getD_eq_getElem?_getD,List.getElem?_map,List.getElem?_range hp,Option.map_some,Option.getD_some,hbl,List.getElem?_range hq]
  rw[he];have h1:=W1 (a:=a.af) (b:=b.af) (k:=1) (p:=p) (q:=q);have h2:=XY (a:=a.af) (b:=b.af) (m:=0) (k:=1) (p:=p) (q:=q);by_cases hl:VM a.af b.af p q=true
  .have:=h2.2 ⟨Wj _,trivial,(Zs ha.oV hb.oV).1 hl⟩
   rw[this,hl];rfl
  .have hz:=h1.2 (Classical.byContradiction λhn=>hl ((Zs ha.oV hb.oV).2 hn));rw[hz];simp[VN,hl]
 |j+1=>by
  obtain⟨h1,h2⟩:=Yz ha hb j;obtain⟨g1,g2⟩:=ZB ha hb (k:=((j+1:Nat):Int)) (by omega) h1;refine⟨g1,λp q hp hq=>?_⟩;have hg:=g2 p q hp hq;have hd:R9 a.af b.af a.aj.toNat b.aj.toNat (j+1)=MK a.af b.af a.aj.toNat b.aj.toNat ((j+1:Nat):Int) (R9 a.af b.af a.aj.toNat b.aj.toNat j):=rfl;rw[hd,hg];unfold Zf;rw[h2 p q hp hq];by_cases h0:aq a.af b.af (j+1) p q=0
  .have hev:=W1.1 h0;have hn:(R6 a.af b.af (R9 a.af b.af a.aj.toNat b.aj.toNat j) p q ((j+1:Nat):Int)).isSome=true↔¬Ev a.af b.af (j+2) p q:=by
    rw[Yi ha.oV];constructor
    .rintro ⟨d,x,t,u,e1,e2,e3⟩ hc
     have ht:=ha.hJ e1;have hu:=hb.hJ e2;unfold aP.inr at ht hu;have h3:=h2 t.toNat u.toNat (by omega) (by omega);rw[show ((t.toNat:Nat):Int)=t by omega,show ((u.toNat:Nat):Int)=u by omega]at h3;rw[h3]at e3;have h4:=(XY (m:=j)).1 (show aq a.af b.af (j+1) t u=j+1 by omega);have h5:=hc d x;rw[e1,e2]at h5;exact h4.2.2 h5
    .intro hc;apply Classical.byContradiction;intro hno;apply hc;intro d x;have h6:=hev d x;cases e1:cO p d x a.af with
     |none=>
      cases e2:cO q d x b.af with
      |none=>trivial
      |some u=>rw[e1,e2]at h6;exact h6
     |some t=>
      cases e2:cO q d x b.af with
      |none=>rw[e1,e2]at h6;exact h6
      |some u=>
       rw[e1,e2]at h6;show Ev a.af b.af (j+1) t u;apply Classical.byContradiction;intro h7;apply hno;have ht:=ha.hJ e1;have hu:=hb.hJ e2;unfold aP.inr at ht hu;have h3:=h2 t.toNat u.toNat (by omega) (by omega);rw[show ((t.toNat:Nat):Int)=t by omega,show ((u.toNat:Nat):Int)=u by omega]at h3;exact⟨d,x,t,u,e1,e2,by rw[h3,(XY (m:=j)).2 ⟨Wj _,h6,h7⟩]⟩
   by_cases hE:Ev a.af b.af (j+2) p q
   .rw[if_neg (λhc=>(hn.1 hc.1) hE),h0,W1.2 hE]
   .rw[if_pos ⟨hn.2 hE,by rw[h0];rfl⟩,(XY (m:=j+1)).2 ⟨Wj _,hev,hE⟩];omega
  .have hne:¬((aq a.af b.af (j+1) p q:Int)=0):=by omega
   rw[if_neg (λhc=>hne hc.2)];congr 1;obtain⟨m,hm⟩:∃m,aq a.af b.af (j+1) p q=m+1:=⟨aq a.af b.af (j+1) p q - 1,by omega⟩;obtain⟨k1,k2,k3⟩:=XY.1 hm;rw[hm];exact(XY.2 ⟨by omega,k2,k3⟩).symm
theorem Y1 {a b:aP}(ha:a.Good)(hb:b.Good){p q:Int}(hp:a.inr p)(hq:b.inr q):UW (differ a b) p q=0↔∀j,Ev a.af b.af j p q:=by
 have hp':=hp;have hq':=hq;unfold aP.inr at hp' hq';have h:=(Yz ha hb (a.aj.toNat*b.aj.toNat)).2 p.toNat q.toNat (by omega) (by omega);rw[show ((p.toNat:Nat):Int)=p by omega,show ((q.toNat:Nat):Int)=q by omega]at h;unfold differ;rw[h];constructor
 .intro h0;exact Ev.aa2 ha hb hp hq ((W1.1 (show aq a.af b.af _ p q=0 by omega)).down)
 .intro hall;rw[W1.2 (hall _)];rfl
def Mv.lt (a b:Mv):Bool:=if a.send≠b.send then b.send else decide (a.label<b.label)
def MN (D:List (List Int))(n:Nat)(p:Nat):Nat:=((List.range n).find? λ(q:Nat)=>decide (UW D p q=0)).getD 0
def aP.H8 (a:aP):List Int:=(List.range a.aj.toNat).map λp=>(MN (differ a a) a.aj.toNat p:Int)
def aP.cl (a:aP)(v:Int):Int:=a.H8.getD v.toNat 0
@[go_sem] theorem r65 (e:Edge)(u:Nat)(s:Int)(cs:List PV):res A aA 65 [.agg [.int .i64 e.fr,.bool e.send,.int .i64 e.label,.int .i64 e.to],.ro u (.int .i64 s::cs)]=some [.bool (!decide (e.fr=s))]:=by
 refine aw a65 rfl rfl ?_;simp only[F65,Uv];simp(disch:=omega)only[go_sem]
theorem r77 (g t u:Nat)(cs:List PV)(l:List Edge)(p:Edge->Bool)(hl:l.length<=2^63 - 1)(hi:pB A g=false)(hp:aA g=none)(ht:dx A g=false)(hf:∀x∈l,res A aA g [.agg [.int .i64 x.fr,.bool x.send,.int .i64 x.label,.int .i64 x.to],.ro u cs]=some [.bool (p x)]):res A aA 77 [.aq t (bF l),.func g [.ro u cs]]=some [.int .i64 (oN p l)]:=by
 refine aw a77 rfl rfl ?_;simp only[F77,Ux];simp(disch:=omega)only[go_sem];refine W.find l p (λk=>⟨[(0,.pv (.aq t (bF l))),(1,.pv (.func g [.ro u cs])),(7,.pv (.int .i64 l.length)),(8,.pv (.int .i64 k))],⟨[],[],[]⟩⟩) rfl (λk x hx hk hfd=>?_) (λhn=>?_)
 .have hfx:=hf x (Wa hx);simp(disch:=omega)only[go_sem];refine Br.aJ (λh=>?_) (λh=>(h (by omega)).elim);simp(disch:=omega)only[go_sem,hx,Bx hi hp ht,hfx];refine Br.of (λh2=>?_) (λh2=>?_)<;>simp(disch:=omega)only[go_sem]
  .rw[(hfd h2).oN]
  .exact bB.of h2 rfl
 .simp(disch:=omega)only[go_sem];rw[hn.oN]
theorem qF {α:Type}{p:α->Bool}{l:List α}{k:Nat}{x:α}(h:l[k]?=some x):(l.take (k+1)).filter p=if p x=true then (l.take k).filter p++[x] else (l.take k).filter p:=by
 rw[WL,h,List.filter_append];by_cases hp:p x=true<;>simp[hp]
theorem FT (c l:List Edge)(v:Edge)(h:c.length<l.length):(c++l.drop c.length).set c.length v=(c++[v])++l.drop (c++[v]).length:=by
 rw[afB _ _ (Wj _),afA,WK];have:(c++[v]).length=c.length+1:=by simp
 rw[this,aft h];rfl
@[go_sem] theorem MO (bx:List (Nat×List V))(mp:List (List (PV×PV)))(ar:List aL)(v n:Nat)(l:List Edge):keep ⟨bx,⟨v,4,.inl (bF l)⟩::ar,mp⟩ true (.own 0 v 0 n)=some (.fr 4 (bF (l.take n))):=by
 simp[keep,eM,aB,bF]
theorem FU (bx:List (Nat×List V))(mp:List (List (PV×PV)))(ar:List aL)(v off len:Nat)(l:List Edge)(h:off+len<=l.length):JZ ⟨bx,⟨v,4,.inl (bF l)⟩::ar,mp⟩ 4 [.pv (.int .i64 0),.pv (.bool false),.pv (.int .i64 0),.pv (.int .i64 0)] (.own 0 v off len)=
  some (.dy [],{ar:=some (0,⟨v,4,.inl (bF (l.take off++List.replicate len ⟨0,false,0,0⟩++l.drop (off+len)))⟩)}):=by
 simp[JZ,aB,ay,V.bS,PV.perm,bF,h,Edge.c]
@[go_sem] theorem MP {id ax v len:Nat}{l:List Edge}(hn:len=l.length):BS id ax len ⟨v,4,.inl (bF l)⟩=some ([.fr 4 (bF l)],some (id,⟨ax+1,0,.inl []⟩)):=by
 subst hn;simp[BS,aL.size,bN]
@[go_sem] theorem Pl (l:List Edge)(n:Nat):(bF l).take n=bF (l.take n):=by simp[bF]
set_option maxHeartbeats 4000000 in
@[go_sem] theorem r63 (l:List Edge)(s:Int)(hl:l.length<=2000000000):res A aA 63 [.fr 4 (bF l),.func 65 [.ro 2 [.int .i64 s]]]=some [.fr 4 (bF (aV l s))]:=by
 refine aw a63 rfl rfl ?_;simp only[F63,Tc];have h77:=λt:Nat=>r77 65 t 2 [.int .i64 s] l (λe=>!decide (e.fr=s)) (by omega) (by kernel_rfl) (by kernel_rfl) (by kernel_rfl) (λx _=>r65 x 2 s []);have hlt:l.take l.length=l:=WV;cases hfi:l.findIdx? (λe=>!decide (e.fr=s))with
 |none=>
  have hix:oN (λe=>!decide (e.fr=s)) l= -1:=by unfold oN;rw[hfi]
  rw[Xe]at hfi;have hall:aV l s=l:=by
   unfold aV;rw[List.filter_eq_self];intro e he;have:=hfi e he;simpa using this
  simp(disch:=omega)only[go_sem,h77,hlt,hix,hall]
 |some k=>
  have hix:oN (λe=>!decide (e.fr=s)) l=(k:Int):=by unfold oN;rw[hfi]
  rw[Ww]at hfi;obtain⟨hk,hp,hbefore⟩:=hfi;have hne:¬(k:Int)= -1:=by omega
  have hpre:aV (l.take (k+1)) s=l.take k:=by
   unfold aV;rw[qF (List.getElem?_eq_getElem hk),if_neg (by simpa using hp),List.filter_eq_self];intro e he;obtain⟨j,hj,rfl⟩:=Xg he;rw[W8]at hj;have:=hbefore j (by omega);simpa using this
  simp(disch:=omega)only[go_sem,h77,hlt,hix,hne];refine W.fv (l.length - (k+1)) (λj=>⟨[(0,.own 0 0 0 l.length),(1,.pv (.func 65 [.ro 2 [.int .i64 s]])),(5,.pv (.int .i64 (aV (l.take (k+1+j)) s).length)),(6,.pv (.int .i64 (k+1+j:Nat)))],⟨[],[⟨0,4,.inl (bF (aV (l.take (k+1+j)) s++l.drop (aV (l.take (k+1+j)) s).length))⟩],[]⟩⟩) (λj=>(aV (l.take (k+1+j)) s).length<=k+j) ?_ ?_ λj hj hw=>?_
  .simp only[Nat.add_zero,hpre,List.length_take,Nat.min_eq_left (Nat.le_of_lt hk)];rw[XG];rfl
  .simp only[Nat.add_zero,hpre,List.length_take];omega
  have hkeep:∀q,(aV (l.take (k+1+j)) s).length<=q->(aV (l.take (k+1+j)) s++l.drop (aV (l.take (k+1+j)) s).length)[q]?=l[q]?:=λq hq=>by
   rw[Wn hq,WQ];congr 1;omega
  have hln:(aV (l.take (k+1+j)) s++l.drop (aV (l.take (k+1+j)) s).length).length=l.length:=by simp;omega
  simp(disch:=omega)only[go_sem];refine Br.aJ (λh=>?_) (λh=>?_)
  .obtain⟨x,hx⟩:=get_at (l:=l) (k:=k+1+j) (by omega);have h65:=r65 x 2 s [];have hst:aV (l.take (k+1+(j+1))) s=if (x.fr==s)=true then aV (l.take (k+1+j)) s++[x] else aV (l.take (k+1+j)) s:=qF hx
   simp(disch:=omega)only[go_sem,hkeep,hx,h65];refine Br.aJ (λg=>?_) (λg=>?_)<;>simp(disch:=omega)only[go_sem,g]
   .rw[if_pos (by simp[g])]at hst;have hxe:(⟨s,x.send,x.label,x.to⟩:Edge)=x:=by rw[<- g]
    refine .of (by omega) ?_ ?_
    .show _=St.mk _ _;rw[hst,hxe,FT _ _ _ (by omega),Wz];rfl
    .show (aV _ s).length<=_;rw[hst,Wz];simp;omega
   .rw[if_neg (by simp[g])]at hst;refine .of (by omega) ?_ ?_
    .show _=St.mk _ _;rw[hst];rfl
    .show (aV _ s).length<=_;rw[hst];omega
  .have hall:l.take (k+1+j)=l:=Wq (by omega);rw[hall]at hln hw |-;simp(disch:=omega)only[go_sem];rw[FU _ _ _ _ _ _ _ (by omega)];have hl3:(aV l s++List.replicate (l.length - (aV l s).length) (⟨0,false,0,0⟩:Edge)).length=l.length:=by simp;omega
   have e1:List.take (aV l s).length (aV l s++List.drop (aV l s).length l)=aV l s:=by
    rw[XT (Wj _),WV]
   have e2:List.drop ((aV l s).length+(l.length - (aV l s).length)) (aV l s++List.drop (aV l s).length l)=[]:=List.drop_eq_nil_of_le (by rw[hln];omega);rw[e1,e2];simp(disch:=omega)only[go_sem];have e3:List.take (aV l s).length (aV l s++List.replicate (l.length - (aV l s).length) (⟨0,false,0,0⟩:Edge))=aV l s:=by
    rw[XT (Wj _),WV]
   rw[e3]
@[go_sem] theorem r63n (s:Int):res A aA 63 [.aq 0 [],.func 65 [.ro 2 [.int .i64 s]]]=some [.aq 0 []]:=by
 refine aw a63 rfl rfl ?_;simp only[F63,Tc];have h77:=r77 65 0 2 [.int .i64 s] [] (λe=>!decide (e.fr=s)) (by simp) (by kernel_rfl) (by kernel_rfl) (by kernel_rfl) (λx hx=>by cases hx);have hix:oN (λe:Edge=>!decide (e.fr=s)) []= -1:=rfl;rw[hix]at h77;have h77':res A aA 77 [.aq 0 [],.func 65 [.ro 2 [.int .i64 s]]]=some [.int .i64 (-1)]:=h77;simp(disch:=omega)only[go_sem,h77'];rfl
@[go_sem] theorem I7 (h:aa)(v:V):ca h true [.tl [],v]=(cq h v).bind λq=>some ([.aq 0 [],q],none):=by
 simp only[ca,cb,if_true,ay];cases cq h v<;>rfl
def FV (h:aa)(v:V):List PV×Option (Nat×aL)->Option (List PV×Option (Nat×aL))
 |([p],some (i,a))=>(cq {h with ar:=h.ar.set i a} v).bind λq=>some ([p,q],some (i,a))
 |_=>none
@[go_sem] theorem Sa (bx:List (Nat×List V))(ar:List aL)(mp:List (List (PV×PV)))(v:V)(p:PV)(i:Nat)(a:aL):FV ⟨bx,ar,mp⟩ v ([p],some (i,a))=(cq ⟨bx,ar.set i a,mp⟩ v).bind λq=>some ([p,q],some (i,a)):=rfl
@[go_sem] theorem H9 (h:aa)(id ax len:Nat)(v:V):ca h true [.own id ax 0 len,v]=(aB h id ax).bind λa=>(BS id ax len a).bind (FV h v):=by
 simp only[ca,cb];cases aB h id ax with
 |none=>rfl
 |some a=>
  simp only[Option.bind_some,if_true,BS];by_cases hc:a.size=len/\a.k≠0
  .cases hb:a.body with
   |inl rows=>
    simp only[hc,ne_eq,not_false_eq_true,and_self,if_true,Option.bind_some,FV,ay];cases cq {h with ar:=h.ar.set id ⟨ax+1,0,.inl []⟩} v<;>rfl
   |inr rows=>simp[hc]
  .simp[hc]
@[go_sem] theorem r54 (t:Nat)(n s0 s:Int)(es:List Edge)(ht:t<=1)(hl:es.length<=2000000000):res A aA 54 [.agg [.int .i64 n,.int .i64 s0,.aq t (es.map Edge.c)],.int .i64 s]=some [.aq 0 (bF (aV es s))]:=by
 refine aw a54 rfl rfl ?_;simp only[F54,Up];by_cases h0:es.length=0
 .have he:es=[]:=Wp h0;simp(disch:=omega)only[go_sem,qA,h0];rw[he];rfl
 .have hel:=lK es s;simp(disch:=omega)only[go_sem,qA,h0,List.take_length]
def vB (a b:Edge):Bool:=if a.send=b.send then decide (a.label<b.label) else b.send
@[go_sem] theorem r55 (a b:Edge):res A aA 55 [.agg [.int .i64 a.fr,.bool a.send,.int .i64 a.label,.int .i64 a.to],.agg [.int .i64 b.fr,.bool b.send,.int .i64 b.label,.int .i64 b.to]]=some [.bool (vB a b)]:=by
 refine aw a55 rfl rfl ?_;simp only[F55,Uq];simp(disch:=omega)only[go_sem];unfold vB;refine Br.aJ (λh=>?_) (λh=>?_)<;>simp(disch:=omega)only[go_sem,h]
@[go_sem] theorem r56 (a:Edge):res A aA 56 [.agg [.int .i64 a.fr,.bool a.send,.int .i64 a.label,.int .i64 a.to]]=some [.agg [.bool a.send,.int .i64 a.label]]:=by
 refine aw a56 rfl rfl ?_;simp only[F56,Ur];simp(disch:=omega)only[go_sem]
def w4 (only:Bool):List Edge->List Edge->Option (Edge×Int)
 |[],[]=>none
 |x::_,[]=>some (x,0)
 |[],y::m=>if only then w4 only [] m else some (y,1)
 |x::l,y::m=>if vB x y=true then some (x,0) else if vB y x=true then (if only then w4 only (x::l) m else some (y,1)) else w4 only l m
termination_by l m=>l.length+m.length
structure zo where
 x:Int
 y:Int
 path:List (Bool×Int)
 deriving DecidableEq,Inhabited
def Edge.act (e:Edge):Bool×Int:=(e.send,e.label)
def kB (b:List Edge)(n:zo)(s:List (Int×Int)×List zo)(e:Edge):List (Int×Int)×List zo:=
 match cO n.y e.send e.label b with
 |some y=>if (e.to,y)∈s.1 then s else (s.1++[(e.to,y)],s.2++[⟨e.to,y,n.path++[e.act]⟩])
 |none=>s
def B8 (a b:List Edge)(only:Bool):Nat->List (Int×Int)×List zo->Option (List (Bool×Int)×Int)
 |0,_=>none
 |k+1,(seen,q)=>match q with
  |[]=>none
  |n::q=>match w4 only (aV a n.x) (aV b n.y)with
   |some (e,w)=>some (n.path++[e.act],w)
   |none=>B8 a b only k ((aV a n.x).foldl (kB b n) (seen,q))
def FW (p:Int×Int):PV:=.agg [.int .i64 p.1,.int .i64 p.2]
def gU (s:List (Int×Int)):List (PV×PV):=s.map λp=>(FW p,.bool true)
theorem tu (p q:Int×Int):iw true [1,1] (FW p) (FW q)=some (decide (p=q)):=by
 obtain⟨a,b⟩:=p;obtain⟨c,d⟩:=q;simp only[iw,FW,if_true];simp only[go_sem];by_cases h1:a=c<;>by_cases h2:b=d<;>simp[h1,h2]
theorem B9 {p:Int×Int}:∀{s:List (Int×Int)}{i:Nat},p∉s->findKey true [1,1] (FW p) (gU s) i=some none
 |[],i,_=>by simp[gU,findKey,tu]
 |q::s,i,h=>by
  simp only[List.mem_cons,not_or]at h;show findKey true [1,1] (FW p) ((FW q,.bool true)::gU s) i=_;simp only[findKey,tu,h.1,decide_false];exact B9 h.2
theorem Ca {p:Int×Int}:∀{s:List (Int×Int)}{i:Nat},p∈s->∃j,findKey true [1,1] (FW p) (gU s) i=some (some (j,.bool true))
 |[],i,h=>by cases h
 |q::s,i,h=>by
  show ∃j,findKey true [1,1] (FW p) ((FW q,.bool true)::gU s) i=_;simp only[findKey,tu];by_cases e:p=q
  .exact⟨i,by simp[e]⟩
  .simp only[e,decide_false];exact Ca ((WG.1 h).resolve_left e)
@[go_sem] theorem I8 (z:V)(j:Nat)(p:PV):pD z false (some (j,p))=.pv p:=rfl
@[go_sem] theorem I9 (z:V):pD z false none=z:=rfl
theorem FX {ag:Bool}{ks:List Nat}{q p:PV}{id:Nat}{l:List (PV×PV)}(h:findKey ag ks q l 0=some none):wm ag ks q p id l=some {mp:=some (id,l++[(q,p)])}:=by
 simp only[wm,h]
theorem A4 (s:List (Int×Int))(p:Int×Int):gU s++[(FW p,.bool true)]=gU (s++[p]):=by simp[gU]
def oR (ars:List aL)(v:V)(l:List (Bool×Int)):Prop:=(v=.tl []/\l=[])\/∃id ax,v=.own (id+1) ax 0 l.length/\l≠[]/\ars[id]?=some ⟨ax,2,.inl (fQ l)⟩
theorem oR.more {ars:List aL}{v:V}{l:List (Bool×Int)}(h:oR ars v l)(x:List aL):oR (ars++x) v l:=by
 rcases h with h|⟨id,ax,h1,h2,h3⟩
 .exact .inl h
 .exact .inr ⟨id,ax,h1,h2,by rw[We (V9.1 h3).1];exact h3⟩
theorem oR.calm {ars:List aL}{v:V}{l:List (Bool×Int)}(h:oR ars v l):v.calm=true/\v.sized=true/\v.bS=none/\v.cells=[v]:=by
 rcases h with⟨rfl,_⟩|⟨id,ax,rfl,_,_⟩<;>exact⟨rfl,rfl,rfl,rfl⟩
structure tz (off:Nat)(q:List zo)(rows:List (List V))(ars:List aL):Prop where
 len:rows.length=off+q.length
 row:∀(i:Nat)(n:zo),q[i]?=some n->∃v,rows[off+i]?=some [.pv (.int .i64 n.x),.pv (.int .i64 n.y),v]/\oR ars v n.path
theorem tz.pop {off:Nat}{n:zo}{q:List zo}{rows:List (List V)}{ars:List aL}(h:tz off (n::q) rows ars):tz (off+1) q rows ars where
 len:=by rw[h.len];simp;omega
 row i m hi:=by
  obtain⟨v,h1,h2⟩:=h.row (i+1) m (by simpa using hi);exact⟨v,by rw[show off+1+i=off+(i+1) by omega];exact h1,h2⟩
theorem tz.more {off:Nat}{q:List zo}{rows:List (List V)}{ars:List aL}(h:tz off q rows ars)(x:List aL):tz off q rows (ars++x) where
 len:=h.len
 row i n hi:=by
  obtain⟨v,h1,h2⟩:=h.row i n hi;exact⟨v,h1,h2.more x⟩
theorem tz.push {off:Nat}{q:List zo}{rows:List (List V)}{ars:List aL}(h:tz off q rows ars){n:zo}{v:V}(hv:oR ars v n.path):tz 0 (q++[n]) ((rows.drop off).take q.length++[[.pv (.int .i64 n.x),.pv (.int .i64 n.y),v]]) ars where
 len:=by
  have:=h.len;simp;omega
 row i m hi:=by
  have hl:=h.len;rw[XN];rcases Wh i q.length with hlt|hge
  .rw[We hlt]at hi;obtain⟨u,h1,h2⟩:=h.row i m hi;refine⟨u,?_,h2⟩;rw[List.getElem?_append_left (by simp;omega),List.getElem?_take,if_pos hlt,List.getElem?_drop];exact h1
  .rw[Wn hge]at hi;have h0:i - q.length=0:=by
    have:=(V9.1 hi).1;simp at this;omega
   rw[h0]at hi;simp only[List.getElem?_cons_zero,Option.some.injEq]at hi;subst hi;refine⟨v,?_,hv⟩;rw[List.getElem?_append_right (by simp;omega)];have:i - ((rows.drop off).take q.length).length=0:=by simp;omega
   rw[this];rfl
theorem qG {l:List (Int×Int)}{n m:Nat}(hn:l.Nodup)(h:∀p∈l,(0<=p.1/\p.1<n)/\(0<=p.2/\p.2<m)):l.length<=n*m:=by
 have h1:=List.Nodup.length_le_of_subset (l₂:=(iota n).flatMap λp=>(iota m).map λq=>(p,q)) hn (λp hp=>by
  have:=h p hp;rw[afw];exact⟨p.1,yV.2 this.1,Wk.2 ⟨p.2,yV.2 this.2,rfl⟩⟩)
 have h2:∀l:List Int,(l.flatMap λp=>(iota m).map λq=>(p,q)).length=l.length*m:=by
  intro l
  induction l with
  |nil=>simp
  |cons x l ih=>rw[List.flatMap_cons,List.length_append,ih];simp[iota];rw[Nat.add_mul];omega
 rw[h2,show (iota n).length=n by simp[iota]]at h1;exact h1
@[go_sem] theorem Dt (l:List (Bool×Int))(d:Bool)(x:Int):fQ l++[[.bool d,.int .i64 x]]=fQ (l++[(d,x)]):=by simp[fQ,HN]
@[go_sem] theorem Ja (h:aa)(d:Bool)(x:Int):aK h 2 (.tl []) (.tl [[.bool d,.int .i64 x]])=some (.own h.ar.length 0 0 1,{push:=[⟨0,2,.inl (fQ [(d,x)])⟩],base:=h.ar.length}):=by
 have:=wy h 2 [] [.bool d,.int .i64 x] rfl (λx hx=>by cases hx) (by simp);exact this
@[go_sem] theorem Ia (h:aa)(id ax off len:Nat)(d:Bool)(x:Int):aK h 2 (.own id ax off len) (.tl [[.bool d,.int .i64 x]])=(aB h id ax).bind (I0 id ax off len 2 [.bool d,.int .i64 x]):=yr h id ax off len 2 _ rfl
@[go_sem] theorem Sb {id ax len:Nat}{d:Bool}{x:Int}{l:List (Bool×Int)}(h1:len=l.length)(h2:l.length+1<=2147483648):I0 id ax 0 len 2 [.bool d,.int .i64 x] ⟨ax,2,.inl (fQ l)⟩=some (.own id (ax+1) 0 (len+1),{ar:=some (id,⟨ax+1,2,.inl (fQ (l++[(d,x)]))⟩)}):=by
 rw[EH (by rw[jj];exact h1) (by rw[jj];exact h2),Dt]
@[go_sem] theorem Pm (h:aa)(k:Nat):aZ k [.tl []] h=some (.tl [],{}):=by simp[aZ,aW,aO]
def Ib (h:aa)(id n:Nat)(a:aL):Option (V×Tn):=match a.body with
 |.inl rows=>if (rows.take n).all (·.length==2)=true/\(rows.take n).length<=aN then (if (rows.take n).length=0 then some (.tl [],{ra:=some id}) else some (.own h.ar.length 0 0 (rows.take n).length,{push:=[⟨0,2,.inl (rows.take n)⟩],ra:=some id,base:=h.ar.length})) else none
 |.inr _=>none
@[go_sem] theorem MQ (h:aa)(id ax n:Nat):aZ 2 [.own id ax 0 n] h=(aB h id ax).bind (Ib h id n):=by
 simp only[aZ,aW];cases aB h id ax with
 |none=>rfl
 |some a=>
  cases hb:a.body<;>simp[az,Ib,hb,aO]
@[go_sem] theorem Pn {h:aa}{id n ax:Nat}{l:List (Bool×Int)}(hn:n=l.length)(h0:l.length≠0)(hm:l.length<=2147483648):Ib h id n ⟨ax,2,.inl (fQ l)⟩=some (.own h.ar.length 0 0 l.length,{push:=[⟨0,2,.inl (fQ l)⟩],ra:=some id,base:=h.ar.length}):=by
 subst hn;have e1:(fQ l).take l.length=fQ l:=Wq (by rw[jj];exact Wj _);have e2:((fQ l).all λx=>x.length==2)=true:=by simp[fQ,HN]
 simp[Ib,e1,e2,jj,aN,hm,h0]
end Go.Pv
