/-
 What the functions of the law give.
-/
import Derived.Test.YtpchfogcccagjaaGreatC6
set_option linter.unusedSimpArgs false
set_option linter.unusedVariables false
open List renaming getElem?_eq_some_iff → Wq, mem_of_getElem? → Wr, length_map → Wu, getElem?_map → Wv, getElem?_append_left → Ww, mem_map → Wz, mem_cons → WC, getElem?_append_right → WG, pairwise_cons → WH, mem_cons_of_mem → WK, eq_nil_of_length_eq_zero → WL, findIdx?_eq_some_iff_getElem → WM, getD_eq_getElem?_getD → WS, take_of_length_le → WU, length_append → WX, map_append → WZ, mem_cons_self → W1, append_assoc → W2, length_range → W3, take_add_one → W5, mem_append → W7, getElem?_set_self → W8, ext_getElem? → Xa, getElem?_drop → Xd, take_length → Xf, mem_singleton → Xi, mem_append_left → Xj, findIdx?_eq_none_iff → Xk, length_take → Xm, getElem_of_mem → Xt, getElem?_set_ne → Xw, foldl_cons → Xy, mem_append_right → Xz, range_succ → XH, getElem?_range → XI, length_set → XN, nodup_append → XO, drop_of_length_le → XT, take_append_of_le_length → X9, take_append_drop → Yb, length_cons → Yf, not_mem_nil → Yg
open Nat renaming lt_or_ge → Wx, le_refl → Wy, zero_le → WY, zero_add → X3
open Int renaming toNat_natCast → Xb
open Bool renaming true_and → Xe
namespace Go.Pv
def lP (w nb p:Nat):V:=.own (p+1) w 0 nb
def vQ (w na nb m:Nat):List V:=fM (lP w nb) (.tl []) (List.range na) m
theorem mh {w na nb m:Nat} (h:m<=na):(vQ w na nb m).length=na:=by
 have:=AV (lP w nb) (.tl []) (List.range na) (k:=m) (by simpa using h)
 rw[W3]at this
 exact this
theorem F3 (w na nb:Nat):vQ w na nb 0=List.replicate na (.tl []):=by
 unfold vQ
 rw[zf,W3]
theorem Ip {w na nb m:Nat} (h:m<na):(vQ w na nb m).set m (.own (m+1) w 0 nb)=vQ w na nb (m+1):=AX (f:=lP w nb) (XI h)
theorem Iq {w na nb m i:Nat} (h:i<m) (hm:m<=na):(vQ w na nb m)[i]?=some (.own (i+1) w 0 nb):=Bb (f:=lP w nb) h (XI (by omega))
theorem Ir (w na nb:Nat):vQ w na nb na=(List.range na).map (lP w nb):=by
 have:=AW (lP w nb) (.tl []) (List.range na)
 rw[W3]at this
 exact this
def rj (w:Nat) (M:List (List Bool)):List aN:=M.map fun r=>⟨w,1,.inl (bV r)⟩
@[go_sem] theorem Is (w:Nat) (M:List (List Bool)):(rj w M).length=M.length:=by simp[rj]
@[go_sem] theorem Cg (w:Nat) (M:List (List Bool)) (i:Nat):(rj w M)[i]?=M[i]?.map fun r=>⟨w,1,.inl (bV r)⟩:=by
 unfold rj
 rw[Wv]
@[go_sem] theorem TM (w:Nat) (M:List (List Bool)) (i:Nat) (r:List Bool):(rj w M).set i ⟨w,1,.inl (bV r)⟩=rj w (M.set i r):=by simp[rj,List.map_set]
@[go_sem] theorem F4 (w:Nat) (M:List (List Bool)) (r:List Bool):rj w M++[⟨w,1,.inl (bV r)⟩]=rj w (M++[r]):=by simp[rj]
theorem vR {α:Type} {w na nb:Nat} {M:List (List Bool)} (hM:mg na nb M) (f:V->Option α) (g:List Bool->α) (hf:∀p r,M[p]?=some r->f (.own (p+1) w 0 nb)=some (g r)):ay (ay f) (cO (vQ w na nb na))=some (M.map fun r=>[g r]):=by
 rw[Ir]
 have key:∀(k:Nat) (N:List (List Bool)),N.length=k->(∀p r,N[p]?=some r->f (.own (p+1) w 0 nb)=some (g r))->ay (ay f) (cO ((List.range k).map (lP w nb)))=some (N.map fun r=>[g r]):=by
  intro k
  induction k with
  |zero=>
   intro N hN _
   have:N=[]:=WL hN
   subst this
   rfl
  |succ k ih=>
   intro N hN hf
   obtain⟨N',r,rfl⟩:∃N' r,N=N'++[r]:=⟨N.dropLast,N.getLast (by intro e; rw[e]at hN; simp at hN),(List.dropLast_concat_getLast _).symm⟩
   have hl:N'.length=k:=by simpa using hN
   have h1:=ih N' hl fun p r hr=>hf p r (by rw[Ww (Wq.1 hr).1]; exact hr)
   have h2:=hf k r (by rw[List.getElem?_append_right (by omega),hl]; simp)
   have happ:∀(a b:List (List V)) (ra rb:List (List α)),ay (ay f) a=some ra->ay (ay f) b=some rb->ay (ay f) (a++b)=some (ra++rb):=by
    intro a
    induction a with
    |nil=>intro b ra rb h1 h2; cases h1; exact h2
    |cons x a ih=>
     intro b ra rb h1 h2
     simp only[ay]at h1
     split at h1
     .rename_i y l' e1 e2
      cases h1
      simp only[List.cons_append,ay,e1,ih b l' rb e2 h2]
     .cases h1
   have h3:ay (ay f) (cO [lP w nb k])=some [[g r]]:=by
    simp[cO,ay,lP,h2]
   have h4:=happ _ _ _ _ h1 h3
   rw[WZ,XH,WZ]
   show ay (ay f) (cO ((List.range k).map (lP w nb)++[lP w nb k]))=_
   unfold cO at h4 |-
   rw[WZ]
   exact h4
 exact key na M hM.len hf
theorem Dv {w na nb:Nat} {M:List (List Bool)} (hM:mg na nb M) (bx:List (Nat×List V)) (a0:aN) (d:Nat):ay (ay (aT ⟨bx,a0::rj w M,[]⟩ (d+1))) (cO (vQ w na nb na))=some (zm (fun _=>1) M):=
 vR hM (aT ⟨bx,a0::rj w M,[]⟩ (d+1)) (fun r=>PV.aq 1 (bV r)) fun p r hr=>by
  have h1:=hM.row r (Wr hr)
  have h2:(bV r).take nb=bV r:=WU (by rw[hJ]; omega)
  simp[aT,aB,Cg,hr,aA,h2]
theorem Dw {w na nb:Nat} {M:List (List Bool)} (hM:mg na nb M) (bx:List (Nat×List V)) (a0:aN) (d:Nat):ay (ay (aY ⟨bx,a0::rj w M,[]⟩ (d+1))) (cO (vQ w na nb na))=some (zm (fun _=>0) M):=
 vR hM (aY ⟨bx,a0::rj w M,[]⟩ (d+1)) (fun r=>PV.aq 0 (bV r)) fun p r hr=>by
  have h1:=hM.row r (Wr hr)
  have h2:(bV r).take nb=bV r:=WU (by rw[hJ]; omega)
  simp[dR,aB,Cg,hr,aA,h2,bM]
noncomputable def kB (A B:List aI) (m:Nat):List (List Bool):=(A.take m).map fun x=>B.map (dC x)
noncomputable def tK (A B:List aI):Rel:=fun M p q=>FV M (eD A p) (eD B q)
noncomputable def Dx (A B:List aI):List (List Bool):=zq (tK A B) A.length B.length (kB A B A.length)
theorem rL (A B:List aI) {m:Nat} (h:m<=A.length):mg m B.length (kB A B m):=⟨by simp[kB]; omega,fun l hl=>by
 obtain⟨x,_,rfl⟩:=Wz.1 hl
 exact Wu _⟩
theorem Dy (A B:List aI) {m:Nat} {x:aI} (h:A[m]?=some x):kB A B (m+1)=kB A B m++[B.map (dC x)]:=by
 unfold kB
 rw[W5,h,WZ]
 rfl
theorem iX {A:List aI} {p:Nat} {x:aI} (h:A[p]?=some x):eD A p=x:=by
 have:=(Wq.1 h).1
 have h2:=vh (l:=A) (i:=p) (by omega) (by omega)
 rw[Xb,h]at h2
 exact(Option.some.inj h2).symm
theorem F5 {A B:List aI} {p q:Nat} (hp:p<A.length) (hq:q<B.length):fx (kB A B A.length) p q=dC (eD A p) (eD B q):=by
 obtain⟨x,hx⟩:=get_some hp
 obtain⟨y,hy⟩:=get_some hq
 rw[iX hx,iX hy]
 unfold fx kB
 simp[hx,hy]
def Below (A B:List aI) (M:List (List Bool)):Prop:=∀p q:Nat,fx M p q=true->dC (eD A p) (eD B q)=true
theorem Bc {A B:List aI} {p q:Nat} (h:fx (kB A B A.length) p q=true):dC (eD A p) (eD B q)=true:=by
 unfold fx kB at h
 simp only[Int.toNat_natCast,List.take_length,List.getD_eq_getElem?_getD,List.getElem?_map]at h
 cases hx:A[p]? with
 |none=>simp[hx]at h
 |some x=>
  rw[hx]at h
  simp only[Option.map_some,Option.getD_some,List.getElem?_map]at h
  cases hy:B[q]? with
  |none=>simp[hy]at h
  |some y=>
   rw[hy]at h
   rw[iX hx,iX hy]
   exact h
theorem Below.set {A B:List aI} {na nb p q:Nat} {M:List (List Bool)} (h:Below A B M) (hM:mg na nb M) (hp:p<na) (hq:q<nb):Below A B (ri M p q):=fun p' q' he=>by
 rw[zo hM hp hq]at he
 split at he
 .cases he
 .exact h p' q' he
structure tL (A:List aI):Prop where
 ok:∀t∈A,t.ok
 short:∀t∈A,t.short
 len:A.length<=32
 kind:∀t∈A,t.kind<=9
 use:∀t∈A,TL A.length (oX t)
theorem Dz {t:aI} {u:Int×Int} (h:u∈oX t) (h9:1<=t.kind/\t.kind<=9):u.2∈cR t:=by
 unfold oX oW at h
 rcases W7.1 h with h|h
 .rcases W7.1 h with h|h
  .obtain⟨m,hm,rfl⟩:=Wz.1 h
   exact y4 hm
  .split at h
   .rename_i hk
    simp only[List.mem_singleton]at h
    subst h
    unfold cR jI
    simp[hk]
   .simp at h
 .split at h
  .rename_i hk
   simp only[List.mem_singleton]at h
   subst h
   exact vA (by omega)
  .simp at h
def DA (w na nb m:Nat) (r:List Bool):List V:=(vQ w na nb m).set m (dc (m+1) (bV r))
theorem F6 {w na nb m:Nat} (h:m<na):DA w na nb m []=vQ w na nb m:=by
 unfold DA
 apply Xa
 intro i
 by_cases e:m=i
 .subst e
  rw[W8 (by rw[mh (by omega)]; exact h)]
  unfold vQ fM
  rw[List.getElem?_append_right (by simp; omega),List.getElem?_replicate,if_pos (by simp; omega)]
  rfl
 .rw[Xw e]
theorem F7 {na nb m:Nat} {r:List Bool} (h:m<na) (hr:r.length=nb+1):DA nb na (nb+1) m r=vQ nb na (nb+1) (m+1):=by
 rw[<- Ip h]
 unfold DA
 cases r with
 |nil=>simp at hr
 |cons b r=>
  obtain rfl:r.length=nb:=by simpa using hr
  simp[bV,dc]
theorem F8 {w:Nat} {M:List (List Bool)} {r:List Bool} (h:r.length=w+1):rj w M++cJ 1 (bV r)=rj w (M++[r]):=by
 cases r with
 |nil=>simp at h
 |cons b r=>
  obtain rfl:r.length=w:=by simpa using h
  rw[<- F4]
  simp[bV,cJ]
theorem It {w na nb m:Nat} {r:List Bool} (h:m<na):(DA w na nb m r)[m]?=some (dc (m+1) (bV r)):=by
 unfold DA
 rw[W8 (by rw[mh (by omega)]; exact h)]
theorem Iu {w na nb m:Nat} {r r':List Bool}:(DA w na nb m r).set m (dc (m+1) (bV r'))=DA w na nb m r':=by
 unfold DA
 rw[List.set_set]
theorem Iv {w na nb m:Nat} {r:List Bool} (h:m<na):(DA w na nb m r).length=na:=by
 unfold DA
 rw[XN,mh (by omega)]
theorem Iw (n k:Nat) (rows:List (List PV)) (r:List PV):(tZ n k rows r).all=none:=by cases rows<;>rfl
theorem Nc (n k:Nat) (rows:List (List PV)) (r:List PV):(tZ n k rows r).bx=none:=by cases rows<;>rfl
theorem Nd (n k:Nat) (rows:List (List PV)) (r:List PV):(tZ n k rows r).mp=none:=by cases rows<;>rfl
theorem DB (n k:Nat) (rows:List (List PV)) (r:List PV):(tZ n k rows r).mI=false:=by cases rows<;>rfl
theorem Ix {α:Type} (o:Option α) (eq:α->α->Bool):jj o none eq=true:=by cases o<;>rfl
set_option maxHeartbeats 16000000 in
theorem r478 (t u:Nat) (A0 B0:List aI) (hA:tL A0) (hB:tL B0) (hb0:1<=B0.length):res A az 478 [.agg [.aq t (A0.map aI.c)],.agg [.aq u (B0.map aI.c)],.bool false]=some [.aq 0 (zm (fun _=>0) (Dx A0 B0))]:=by
 have la:=hA.len
 have lb:=hB.len
 obtain⟨G,hG⟩:∃G,Dx A0 B0=G:=⟨_,rfl⟩
 obtain⟨w,hw⟩:∃w,B0.length=w+1:=⟨B0.length - 1,by omega⟩
 rw[hG]
 refine aw a478 rfl rfl ?_
 simp only[F478,L8]
 simp(disch:=omega)only[go_sem]
 refine W.eG A0.length (fun m=>⟨[(2,.pv (.bool false)),(3,.ptr 3 0),(4,.ptr 4 0),(7,.ptr 7 0),(22,.pv (.aq t (A0.map aI.c))),(23,.pv (.int .i64 A0.length)),(24,.pv (.int .i64 m))],⟨[(3,[.pv (.aq t (A0.map aI.c))]),(4,[.pv (.aq u (B0.map aI.c))]),(7,[.own 0 0 0 A0.length])],⟨0,1,.inr (cO (vQ w A0.length B0.length m))⟩::rj w (kB A0 B0 m),[]⟩⟩) (fun _=>True) (by rw[F3]; rfl) trivial fun m hm _=>?_
 have hxl:=mh (w:=w) (nb:=B0.length) hm
 have hbl:=(rL A0 B0 hm).len
 simp(disch:=omega)only[go_sem]
 refine Br.aJ (fun h=>?_) (fun h=>?_)
 .obtain⟨x,hx⟩:=get_some (l:=A0) (k:=m) (by omega)
  simp(disch:=omega)only[go_sem,hx,Option.map_some,aI.c]
  refine W.eG B0.length (fun q=>⟨[(2,.pv (.bool false)),(3,.ptr 3 0),(4,.ptr 4 0),(7,.ptr 7 0),(8,.pv (.int .i64 m)),(9,.ptr 9 0),(22,.pv (.aq t (A0.map aI.c))),(23,.pv (.int .i64 A0.length)),(24,.pv (.int .i64 m)),(30,.pv (.aq u (B0.map aI.c))),(31,.pv (.int .i64 B0.length)),(32,.pv (.int .i64 q))],⟨[(3,[.pv (.aq t (A0.map aI.c))]),(4,[.pv (.aq u (B0.map aI.c))]),(7,[.own 0 0 0 A0.length]),(9,x.c.map .pv)],⟨0,1,.inr (cO (DA w A0.length B0.length m ((B0.take q).map (dC x))))⟩::(rj w (kB A0 B0 m)++cJ 1 (bV ((B0.take q).map (dC x)))),[]⟩⟩) (fun _=>True) ?_ trivial fun q hq _=>?_
  .rw[List.take_zero,List.map_nil,F6 (by omega)]
   simp[bV,cJ,aI.c]
  obtain⟨row,hrow⟩:∃row,(B0.take q).map (dC x)=row:=⟨_,rfl⟩
  have hrl:row.length=q:=by rw[<- hrow,Wu,Xm]; omega
  rw[hrow]
  simp(disch:=omega)only[go_sem]
  refine Br.aJ (fun h=>?_) (fun h=>?_)
  .obtain⟨y,hy⟩:=get_some (l:=B0) (k:=q) (by omega)
   have h488:=r488 x y (hA.ok x (Wr hx)) (hB.ok y (Wr hy))
   have hnx:(B0.take (q+1)).map (dC x)=row++[dC x y]:=by
    rw[W5,hy,WZ,hrow]
    rfl
   generalize dC x y=e at h488 hnx
   have hxg:=It (w:=w) (na:=A0.length) (nb:=B0.length) (m:=m) (r:=row) (by omega)
   have hxl':=Iv (w:=w) (na:=A0.length) (nb:=B0.length) (m:=m) (r:=row) (by omega)
   have hxs:=Iu (w:=w) (na:=A0.length) (nb:=B0.length) (m:=m) (r:=row) (r':=row++[e])
   have hg:=fun bx mp (a:aN)=>grow bx mp (a::rj w (kB A0 B0 m)) 1 (bV row) [.bool e] rfl (by rw[hJ]; omega)
   have hga:=fun bx mp (a:aN)=>ij bx mp (a::rj w (kB A0 B0 m)) 1 (bV row) [.bool e]
   simp only[List.length_cons,Is,hbl,List.cons_append]at hg hga
   have hsn:bV row++[[PV.bool e]]=bV (row++[e]):=by simp[bV]
   rw[hsn]at hg hga
   have hst:=zg (id:=0) (row:=m) (ax:=0) (xs:=DA w A0.length B0.length m row) (y:=dc (m+1) (bV (row++[e]))) (by omega) (HO _ _)
   rw[hxs]at hst
   unfold aI.c at h488
   simp(disch:=omega)only[go_sem,hst,hy,Option.map_some,aI.c,h488,hxg,List.map_cons,List.map_nil,hg,hga,Iw,Nc,Nd,DB,Ix,Option.isNone_none,Option.map_none,Bool.not_false,Bool.and_true]
   refine .of (by omega) ?_ trivial
   show _=St.mk _ _
   rw[hnx]
   rfl
  .obtain rfl:q=B0.length:=by omega
   rw[Xf]at hrow
   have hf:=F7 (na:=A0.length) (nb:=w) (m:=m) (r:=row) (by omega) (by omega)
   rw[<- hw]at hf
   have hba:=F8 (w:=w) (M:=kB A0 B0 m) (r:=row) (by omega)
   simp(disch:=omega)only[go_sem]
   refine .of (by omega) ?_ trivial
   show _=St.mk _ _
   rw[Dy _ _ hx,hrow,hba,hf]
   rfl
 .obtain rfl:m=A0.length:=by omega
  clear h hxl hbl
  simp(disch:=omega)only[go_sem]
  generalize hna:A0.length=na at *
  generalize hnb:B0.length=nb at *
  have hM0:mg na nb (kB A0 B0 na):=by
   have:=rL A0 B0 (Wy _)
   rw[hna,hnb]at this
   exact this
  have hB0:Below A0 B0 (kB A0 B0 na):=fun p q he=>by
   rw[<- hna]at he
   exact Bc he
  have hG':zq (tK A0 B0) na nb (kB A0 B0 na)=G:=by
   rw[<- hG,<- hna,<- hnb]
   rfl
  have hrt:(cO (vQ w na nb na)).take na=cO (vQ w na nb na):=WU (by rw[Dh,mh (Wy _)]; exact Wy _)
  have hxl:=mh (w:=w) (na:=na) (nb:=nb) (Wy _)
  refine W.Cc (fun(s:List (List Bool)×Bool)=>⟨[(3,.ptr 3 0),(4,.ptr 4 0),(7,.ptr 7 0),(12,.pv (.bool s.2))],⟨[(3,[.pv (.aq t (A0.map aI.c))]),(4,[.pv (.aq u (B0.map aI.c))]),(7,[.own 0 0 0 na])],⟨0,1,.inr (cO (vQ w na nb na))⟩::rj w s.1,[]⟩⟩) (fun s=>M9 G (tK A0 B0) na nb s/\Below A0 B0 s.1) FZ (kB A0 B0 na,true) rfl ⟨⟨hM0,hG'⟩,hB0⟩ fun s hs=>?_
  obtain⟨M,f⟩:=s
  obtain⟨hs,hb⟩:=hs
  dsimp only at hb
  cases f with
  |false=>
   have hkp:=Dw (w:=w) hs.1
   have hMG:M=G:=hs.2
   subst hMG
   simp(disch:=omega)only[go_sem,hrt,hkp]
  |true=>
   have hM:=hs.1
   dsimp only at hM
   simp(disch:=omega)only[go_sem]
   refine W.Jq na (FX (tK A0 B0) nb) (M,false) (fun p s=>⟨[(3,.ptr 3 0),(4,.ptr 4 0),(7,.ptr 7 0),(12,.pv (.bool s.2)),(53,.pv (.aq t (A0.map aI.c))),(54,.pv (.int .i64 na)),(55,.pv (.int .i64 p))],⟨[(3,[.pv (.aq t (A0.map aI.c))]),(4,[.pv (.aq u (B0.map aI.c))]),(7,[.own 0 0 0 na])],⟨0,1,.inr (cO (vQ w na nb na))⟩::rj w s.1,[]⟩⟩) (fun _ s=>mg na nb s.1/\Below A0 B0 s.1) (by simp only[hna]; rfl) ⟨hM,hb⟩ (fun p s hp _ hi=>?_) (fun s hse hi=>?_)
   .obtain⟨x,hx⟩:=get_some (l:=A0) (k:=p) (by omega)
    have hxm:=Wr hx
    have h490:=r490 x (hA.short x hxm) (hA.kind x hxm)
    unfold aI.c at h490
    simp(disch:=omega)only[go_sem]
    refine Br.aJ (fun h=>?_) (fun h=>(h (by omega)).elim)
    simp(disch:=omega)only[go_sem,hx,Option.map_some,aI.c]
    refine W.Jq nb (FW (tK A0 B0) p) s (fun q s=>⟨[(3,.ptr 3 0),(4,.ptr 4 0),(7,.ptr 7 0),(12,.pv (.bool s.2)),(13,.pv (.int .i64 p)),(14,.ptr 14 0),(53,.pv (.aq t (A0.map aI.c))),(54,.pv (.int .i64 na)),(55,.pv (.int .i64 p)),(61,.pv (.aq u (B0.map aI.c))),(62,.pv (.int .i64 nb)),(63,.pv (.int .i64 q))],⟨[(3,[.pv (.aq t (A0.map aI.c))]),(4,[.pv (.aq u (B0.map aI.c))]),(7,[.own 0 0 0 na]),(14,x.c.map .pv)],⟨0,1,.inr (cO (vQ w na nb na))⟩::rj w s.1,[]⟩⟩) (fun _ s=>mg na nb s.1/\Below A0 B0 s.1) (by simp only[hnb]; rfl) hi (fun q s hq _ hi=>?_) (fun s hse hi=>?_)
    .obtain⟨N,f⟩:=s
     obtain⟨hN,hNb⟩:=hi
     dsimp only at hN hNb
     obtain⟨l,e1,e2,e3⟩:=hN.get (p:=(p:Int)) (q:=(q:Int)) (by omega) (by omega)
     rw[Xb]at e1 e3
     obtain⟨y,hy⟩:=get_some (l:=B0) (k:=q) (by omega)
     have hym:=Wr hy
     have h490':=r490 y (hB.short y hym) (hB.kind y hym)
     unfold aI.c at h490'
     have hld:=Dv (w:=w) hN
     have hxg:=Iq (w:=w) (na:=na) (nb:=nb) (m:=na) (i:=p) (by omega) (by omega)
     have hset:rj w (N.set p (l.set q false))=rj w (ri N p q):=by
      unfold ri
      rw[WS,e1]
      rfl
     have hst:FW (tK A0 B0) p (N,f) q=if (fx N p q&&!FV N x y)=true then (ri N p q,true) else (N,f):=by
      unfold FW tK
      rw[iX hx,iX hy]
     have hin:mg na nb (FW (tK A0 B0) p (N,f) q).1/\Below A0 B0 (FW (tK A0 B0) p (N,f) q).1:=by
      refine⟨F2 hN hp,?_⟩
      rw[hst]
      split
      .exact hNb.set hN hp hq
      .exact hNb
     have hul:=zn x
     have hxs:=(hA.short x hxm).bc
     have hul':=zn y
     have hys:=(hB.short y hym).bc
     have h489:=fun t u s v=>r489 t u s v na nb (fun _=>1) (oX x) (oX y) N hN (by omega) (hna ▸ hA.use x hxm) (hnb ▸ hB.use y hym) (by omega) (by omega)
     have hrel:FV N x y=uv (fun u v=>fx N u.2 v.2) (oX x) (oX y):=rfl
     rw[<- hrel]at h489
     generalize FV N x y=r at h489 hst
     simp(disch:=omega)only[go_sem,hxg,e1]
     refine Br.aJ (fun h=>?_) (fun h=>(h (by omega)).elim)
     simp(disch:=omega)only[go_sem,hy,Option.map_some,aI.c]
     cases he:fx N p q with
     |false=>
      rw[he]at e3 hst
      rw[if_neg (by simp)]at hst
      simp(disch:=omega)only[go_sem,hxg,e1,e3]
      rw[hst]at hin |-
      exact cV.of rfl hin
     |true=>
      rw[he]at e3 hst
      rw[Xe]at hst
      simp(disch:=omega)only[go_sem,hxg,e1,e3,hrt,hld,h490,h490',h489]
      cases r with
      |true=>
       rw[if_neg (by simp)]at hst
       simp(disch:=omega)only[go_sem]
       rw[hst]at hin |-
       exact cV.of rfl hin
      |false=>
       rw[if_pos (by simp)]at hst
       simp(disch:=omega)only[go_sem,hxg,e1,hset]
       rw[hst]at hin |-
       exact cV.of rfl hin
    .have hr:FX (tK A0 B0) nb _ p=s:=hse.symm
     simp(disch:=omega)only[go_sem]
     rw[hr]
     exact cV.of rfl hi
   .have hr:G0 (tK A0 B0) na nb (M,false)=s:=hse.symm
    have hk:=F1 hs (Na hs.1)
    rw[hr]at hk
    simp(disch:=omega)only[go_sem]
    exact⟨s,⟨hk.1,hi.2⟩,hk.2,rfl⟩
theorem Iy {p:aI} (h:dN p=true):1<=p.kind:=by
 unfold dN at h
 simp only[Bool.and_eq_true,decide_eq_true_eq]at h
 exact h.1.1
structure VT (A:List aI):Prop where
 l:A.length<=2147483648
 o:∀t∈A,t.ok
 s:∀t∈A,t.short
 v:cP A=0
theorem VT.ub {A:List aI} (h:VT A):tL A:=by
 have hs:=fa h.v
 exact⟨h.o,h.s,hs.len,fun t ht=>yF (hs.own t ht),fun t ht u hu=>hs.NH t ht _ (Dz hu ⟨Iy (hs.own t ht),yF (hs.own t ht)⟩)⟩
theorem r477 (t:Nat) (A0:List aI) (x:Int) (h:VT A0) (hx:0<=x/\x<A0.length):res A az 477 [.agg [.aq t (A0.map aI.c),.int .i64 x]]=some [.int .i64 0]:=by
 have h267:=fun v=>r267 v A0 h.l h.o h.s
 rw[h.v]at h267
 have hl:=h.l
 obtain⟨x0,x1⟩:=hx
 have e1:decide (x<0)=false:=decide_eq_false (by omega)
 have e2:decide ((A0.length:Int)<=x)=false:=decide_eq_false (by omega)
 refine aw a477 rfl rfl ?_
 simp only[F477,L7]
 simp(disch:=omega)only[go_sem,h267,e1,e2]
noncomputable def eE (A B:List aI) (x y:Int):Bool:=fx (Dx A B) x y
theorem Ch (A B:List aI):mg A.length B.length (Dx A B):=Io (rL A B (Wy _))
theorem r468 (t u:Nat) (A0 B0:List aI) (x y:Int) (hA:VT A0) (hB:VT B0) (hx:0<=x/\x<A0.length) (hy:0<=y/\y<B0.length):res A az 468 [.agg [.aq t (A0.map aI.c),.int .i64 x],.agg [.aq u (B0.map aI.c),.int .i64 y],.bool false]=some [.bool (eE A0 B0 x y)]:=by
 have h1:=fun t=>r477 t A0 x hA hx
 have h2:=fun t=>r477 t B0 y hB hy
 have h3:=fun t u=>r478 t u A0 B0 hA.ub hB.ub (by omega)
 obtain⟨l,g1,g2,g3⟩:=(Ch A0 B0).get hx hy
 have g4:=(Ch A0 B0).len
 have hw:fx (Dx A0 B0) x y=eE A0 B0 x y:=rfl
 rw[hw]at g3
 generalize eE A0 B0 x y=G at *
 generalize Dx A0 B0=M at *
 have hal:=hA.ub.len
 have hbl:=hB.ub.len
 obtain⟨x0,x1⟩:=hx
 obtain⟨y0,y1⟩:=hy
 refine aw a468 rfl rfl ?_
 simp only[F468,LZ]
 simp(disch:=omega)only[go_sem,h1,h2,h3,gD,g1,g3]
theorem r456 (t u:Nat) (A0 B0:List aI) (x y:Int) (hA:VT A0) (hB:VT B0) (hx:0<=x/\x<A0.length) (hy:0<=y/\y<B0.length):res A az 456 [.agg [.aq t (A0.map aI.c),.int .i64 x],.agg [.aq u (B0.map aI.c),.int .i64 y]]=some [.bool (eE A0 B0 x y)]:=by
 have h1:=fun t u=>r468 t u A0 B0 x y hA hB hx hy
 refine aw a456 rfl rfl ?_
 simp only[F456,LV]
 simp(disch:=omega)only[go_sem,h1]
def Vd (R:Int->Int->Prop):Option Int->Option Int->Prop
 |none,none=>True
 |some x,some y=>R x y
 |_,_=>False
def Ev (a b:List Edge):Nat->Int->Int->Prop
 |0,_,_=>True
 |j+1,p,q=>∀d x,Vd (Ev a b j) (bh p d x a) (bh q d x b)
theorem Ev.refl (a:List Edge):∀(j:Nat) (p:Int),Ev a a j p p
 |0,_=>trivial
 |j+1,p=>fun d x=>by
  cases bh p d x a with
  |none=>trivial
  |some t=>exact Ev.refl a j t
theorem aL.Good.Iz {a:aL} (h:a.Good) {p t:Int} {d:Bool} {x:Int} (hn:bh p d x a.aa=some t):a.inr t:=by
 have:=eh.1 (h.fit _ ((fe h.mw).1 hn))
 exact⟨this.2.2.1,this.2.2.2.1⟩
open Classical in
noncomputable def aq (a b:List Edge):Nat->Int->Int->Nat
 |0,_,_=>0
 |k+1,p,q=>if aq a b k p q≠0 then aq a b k p q else if Ev a b (k+1) p q then 0 else k+1
theorem fu {es:List Edge} {p:Int} {e:Edge}:e∈aG es p↔e∈es/\e.fr=p:=by simp[aG]
def Mv.lt (a b:Mv):Bool:=if a.send≠b.send then b.send else decide (a.label<b.label)
def Nf (D:List (List Int)) (n:Nat) (p:Nat):Nat:=((List.range n).find? fun(q:Nat)=>decide (Va D p q=0)).getD 0
def aL.IA (a:aL):List Int:=(List.range a.ai.toNat).map fun p=>(Nf (differ a a) a.ai.toNat p:Int)
def aL.cl (a:aL) (v:Int):Int:=a.IA.getD v.toNat 0
@[go_sem] theorem r65 (e:Edge) (u:Nat) (s:Int) (cs:List PV):res A az 65 [.agg [.int .i64 e.fr,.bool e.send,.int .i64 e.label,.int .i64 e.to],.ro u (.int .i64 s::cs)]=some [.bool (!decide (e.fr=s))]:=by
 refine aw a65 rfl rfl ?_
 simp only[F65,UK]
 simp(disch:=omega)only[go_sem]
theorem r77 (g t u:Nat) (cs:List PV) (l:List Edge) (p:Edge->Bool) (hl:l.length<=2^63 - 1) (hi:pL A g=false) (hp:az g=none) (ht:du A g=false) (hf:∀x∈l,res A az g [.agg [.int .i64 x.fr,.bool x.send,.int .i64 x.label,.int .i64 x.to],.ro u cs]=some [.bool (p x)]):res A az 77 [.aq t (bD l),.func g [.ro u cs]]=some [.int .i64 (oU p l)]:=by
 refine aw a77 rfl rfl ?_
 simp only[F77,UM]
 simp(disch:=omega)only[go_sem]
 refine W.find l p (fun k=>⟨[(0,.pv (.aq t (bD l))),(1,.pv (.func g [.ro u cs])),(7,.pv (.int .i64 l.length)),(8,.pv (.int .i64 k))],⟨[],[],[]⟩⟩) rfl (fun k x hx hk hfd=>?_) (fun hn=>?_)
 .have hfx:=hf x (Wr hx)
  simp(disch:=omega)only[go_sem]
  refine Br.aJ (fun h=>?_) (fun h=>(h (by omega)).elim)
  simp(disch:=omega)only[go_sem,hx,BJ hi hp ht,hfx]
  refine Br.of (fun h2=>?_) (fun h2=>?_)<;>simp(disch:=omega)only[go_sem]
  .rw[(hfd h2).oU]
  .exact bA.of h2 rfl
 .simp(disch:=omega)only[go_sem]
  rw[hn.oU]
theorem qQ {α:Type} {p:α->Bool} {l:List α} {k:Nat} {x:α} (h:l[k]?=some x):(l.take (k+1)).filter p=if p x=true then (l.take k).filter p++[x] else (l.take k).filter p:=by
 rw[W5,h,List.filter_append]
 by_cases hp:p x=true<;>simp[hp]
theorem F9 (c l:List Edge) (v:Edge) (h:c.length<l.length):(c++l.drop c.length).set c.length v=(c++[v])++l.drop (c++[v]).length:=by
 rw[List.set_append_right _ _ (Wy _),Nat.sub_self,W2]
 have:(c++[v]).length=c.length+1:=by simp
 rw[this,List.drop_eq_getElem_cons h]
 rfl
@[go_sem] theorem Ng (bx:List (Nat×List V)) (mp:List (List (PV×PV))) (ar:List aN) (v n:Nat) (l:List Edge):bW ⟨bx,⟨v,4,.inl (bD l)⟩::ar,mp⟩ true (.own 0 v 0 n)=some (.fr 4 (bD (l.take n))):=by
 simp[bW,eO,aB,bD]
theorem Ga (bx:List (Nat×List V)) (mp:List (List (PV×PV))) (ar:List aN) (v off len:Nat) (l:List Edge) (h:off+len<=l.length):Kp ⟨bx,⟨v,4,.inl (bD l)⟩::ar,mp⟩ 4 [.pv (.int .i64 0),.pv (.bool false),.pv (.int .i64 0),.pv (.int .i64 0)] (.own 0 v off len)=
  some (.dv [],{ ar:=some (0,⟨v,4,.inl (bD (l.take off++List.replicate len ⟨0,false,0,0⟩++l.drop (off+len)))⟩) }):=by
 simp[Kp,aB,ay,V.bP,PV.perm,bD,h,Edge.c]
@[go_sem] theorem Nh {id ax v len:Nat} {l:List Edge} (hn:len=l.length):B5 id ax len ⟨v,4,.inl (bD l)⟩=some ([.fr 4 (bD l)],some (id,⟨ax+1,0,.inl []⟩)):=by
 subst hn
 simp[B5,aN.size,bL]
@[go_sem] theorem PE (l:List Edge) (n:Nat):(bD l).take n=bD (l.take n):=by simp[bD]
set_option maxHeartbeats 4000000 in
@[go_sem] theorem r63 (l:List Edge) (s:Int) (hl:l.length<=2000000000):res A az 63 [.fr 4 (bD l),.func 65 [.ro 2 [.int .i64 s]]]=some [.fr 4 (bD (aG l s))]:=by
 refine aw a63 rfl rfl ?_
 simp only[F63,Tt]
 have h77:=fun t:Nat=>r77 65 t 2 [.int .i64 s] l (fun e=>!decide (e.fr=s)) (by omega) (by kernel_rfl) (by kernel_rfl) (by kernel_rfl) (fun x _=>r65 x 2 s [])
 have hlt:l.take l.length=l:=Xf
 cases hfi:l.findIdx? (fun e=>!decide (e.fr=s))with
 |none=>
  have hix:oU (fun e=>!decide (e.fr=s)) l= -1:=by unfold oU; rw[hfi]
  rw[Xk]at hfi
  have hall:aG l s=l:=by
   unfold aG
   rw[List.filter_eq_self]
   intro e he
   have:=hfi e he
   simpa using this
  simp(disch:=omega)only[go_sem,h77,hlt,hix,hall]
 |some k=>
  have hix:oU (fun e=>!decide (e.fr=s)) l=(k:Int):=by unfold oU; rw[hfi]
  rw[WM]at hfi
  obtain⟨hk,hp,hbefore⟩:=hfi
  have hne:¬(k:Int)= -1:=by omega
  have hpre:aG (l.take (k+1)) s=l.take k:=by
   unfold aG
   rw[qQ (List.getElem?_eq_getElem hk),if_neg (by simpa using hp),List.filter_eq_self]
   intro e he
   obtain⟨j,hj,rfl⟩:=Xt he
   rw[Xm]at hj
   have:=hbefore j (by omega)
   simpa using this
  simp(disch:=omega)only[go_sem,h77,hlt,hix,hne]
  refine W.eG (l.length - (k+1)) (fun j=>⟨[(0,.own 0 0 0 l.length),(1,.pv (.func 65 [.ro 2 [.int .i64 s]])),(5,.pv (.int .i64 (aG (l.take (k+1+j)) s).length)),(6,.pv (.int .i64 (k+1+j:Nat)))],⟨[],[⟨0,4,.inl (bD (aG (l.take (k+1+j)) s++l.drop (aG (l.take (k+1+j)) s).length))⟩],[]⟩⟩) (fun j=>(aG (l.take (k+1+j)) s).length<=k+j) ?_ ?_ fun j hj hw=>?_
  .simp only[Nat.add_zero,hpre,List.length_take,Nat.min_eq_left (Nat.le_of_lt hk)]
   rw[Yb]
   rfl
  .simp only[Nat.add_zero,hpre,List.length_take]
   omega
  have hkeep:∀q,(aG (l.take (k+1+j)) s).length<=q->(aG (l.take (k+1+j)) s++l.drop (aG (l.take (k+1+j)) s).length)[q]?=l[q]?:=fun q hq=>by
   rw[WG hq,Xd]
   congr 1
   omega
  have hln:(aG (l.take (k+1+j)) s++l.drop (aG (l.take (k+1+j)) s).length).length=l.length:=by simp; omega
  simp(disch:=omega)only[go_sem]
  refine Br.aJ (fun h=>?_) (fun h=>?_)
  .obtain⟨x,hx⟩:=get_at (l:=l) (k:=k+1+j) (by omega)
   have h65:=r65 x 2 s []
   have hst:aG (l.take (k+1+(j+1))) s=if (x.fr==s)=true then aG (l.take (k+1+j)) s++[x] else aG (l.take (k+1+j)) s:=qQ hx
   simp(disch:=omega)only[go_sem,hkeep,hx,h65]
   refine Br.aJ (fun g=>?_) (fun g=>?_)<;>simp(disch:=omega)only[go_sem,g]
   .rw[if_pos (by simp[g])]at hst
    have hxe:(⟨s,x.send,x.label,x.to⟩:Edge)=x:=by rw[<- g]
    refine .of (by omega) ?_ ?_
    .show _=St.mk _ _
     rw[hst,hxe,F9 _ _ _ (by omega),WX]
     rfl
    .show (aG _ s).length<=_
     rw[hst,WX]
     simp
     omega
   .rw[if_neg (by simp[g])]at hst
    refine .of (by omega) ?_ ?_
    .show _=St.mk _ _
     rw[hst]
     rfl
    .show (aG _ s).length<=_
     rw[hst]
     omega
  .have hall:l.take (k+1+j)=l:=WU (by omega)
   rw[hall]at hln hw |-
   simp(disch:=omega)only[go_sem]
   rw[Ga _ _ _ _ _ _ _ (by omega)]
   have hl3:(aG l s++List.replicate (l.length - (aG l s).length) (⟨0,false,0,0⟩:Edge)).length=l.length:=by simp; omega
   have e1:List.take (aG l s).length (aG l s++List.drop (aG l s).length l)=aG l s:=by
    rw[X9 (Wy _),Xf]
   have e2:List.drop ((aG l s).length+(l.length - (aG l s).length)) (aG l s++List.drop (aG l s).length l)=[]:=List.drop_eq_nil_of_le (by rw[hln]; omega)
   rw[e1,e2]
   simp(disch:=omega)only[go_sem]
   have e3:List.take (aG l s).length (aG l s++List.replicate (l.length - (aG l s).length) (⟨0,false,0,0⟩:Edge))=aG l s:=by
    rw[X9 (Wy _),Xf]
   rw[e3]
@[go_sem] theorem r63n (s:Int):res A az 63 [.aq 0 [],.func 65 [.ro 2 [.int .i64 s]]]=some [.aq 0 []]:=by
 refine aw a63 rfl rfl ?_
 simp only[F63,Tt]
 have h77:=r77 65 0 2 [.int .i64 s] [] (fun e=>!decide (e.fr=s)) (by simp) (by kernel_rfl) (by kernel_rfl) (by kernel_rfl) (fun x hx=>by cases hx)
 have hix:oU (fun e:Edge=>!decide (e.fr=s)) []= -1:=rfl
 rw[hix]at h77
 have h77':res A az 77 [.aq 0 [],.func 65 [.ro 2 [.int .i64 s]]]=some [.int .i64 (-1)]:=h77
 simp(disch:=omega)only[go_sem,h77']
 rfl
@[go_sem] theorem Jy (h:ae) (v:V):bZ h true [.tl [],v]=(cq h v).bind fun q=>some ([.aq 0 [],q],none):=by
 simp only[bZ,ca,if_true,ay]
 cases cq h v<;>rfl
def Gb (h:ae) (v:V):List PV×Option (Nat×aN)->Option (List PV×Option (Nat×aN))
 |([p],some (i,a))=>(cq { h with ar:=h.ar.set i a } v).bind fun q=>some ([p,q],some (i,a))
 |_=>none
@[go_sem] theorem Sr (bx:List (Nat×List V)) (ar:List aN) (mp:List (List (PV×PV))) (v:V) (p:PV) (i:Nat) (a:aN):Gb ⟨bx,ar,mp⟩ v ([p],some (i,a))=(cq ⟨bx,ar.set i a,mp⟩ v).bind fun q=>some ([p,q],some (i,a)):=rfl
@[go_sem] theorem IB (h:ae) (id ax len:Nat) (v:V):bZ h true [.own id ax 0 len,v]=(aB h id ax).bind fun a=>(B5 id ax len a).bind (Gb h v):=by
 simp only[bZ,ca]
 cases aB h id ax with
 |none=>rfl
 |some a=>
  simp only[Option.bind_some,if_true,B5]
  by_cases hc:a.size=len/\a.k≠0
  .cases hb:a.body with
   |inl rows=>
    simp only[hc,ne_eq,not_false_eq_true,and_self,if_true,Option.bind_some,Gb,ay]
    cases cq { h with ar:=h.ar.set id ⟨ax+1,0,.inl []⟩ } v<;>rfl
   |inr rows=>simp[hc]
  .simp[hc]
@[go_sem] theorem r54 (t:Nat) (n s0 s:Int) (es:List Edge) (ht:t<=1) (hl:es.length<=2000000000):res A az 54 [.agg [.int .i64 n,.int .i64 s0,.aq t (es.map Edge.c)],.int .i64 s]=some [.aq 0 (bD (aG es s))]:=by
 refine aw a54 rfl rfl ?_
 simp only[F54,UE]
 by_cases h0:es.length=0
 .have he:es=[]:=WL h0
  simp(disch:=omega)only[go_sem,qL,h0]
  rw[he]
  rfl
 .have hel:=lO es s
  simp(disch:=omega)only[go_sem,qL,h0,List.take_length]
def dY (a b:Edge):Bool:=if a.send=b.send then decide (a.label<b.label) else b.send
@[go_sem] theorem r55 (a b:Edge):res A az 55 [.agg [.int .i64 a.fr,.bool a.send,.int .i64 a.label,.int .i64 a.to],.agg [.int .i64 b.fr,.bool b.send,.int .i64 b.label,.int .i64 b.to]]=some [.bool (dY a b)]:=by
 refine aw a55 rfl rfl ?_
 simp only[F55,UF]
 simp(disch:=omega)only[go_sem]
 unfold dY
 refine Br.aJ (fun h=>?_) (fun h=>?_)<;>simp(disch:=omega)only[go_sem,h]
@[go_sem] theorem r56 (a:Edge):res A az 56 [.agg [.int .i64 a.fr,.bool a.send,.int .i64 a.label,.int .i64 a.to]]=some [.agg [.bool a.send,.int .i64 a.label]]:=by
 refine aw a56 rfl rfl ?_
 simp only[F56,UG]
 simp(disch:=omega)only[go_sem]
def my (only:Bool):List Edge->List Edge->Option (Edge×Int)
 |[],[]=>none
 |x::_,[]=>some (x,0)
 |[],y::m=>if only then my only [] m else some (y,1)
 |x::l,y::m=>if dY x y=true then some (x,0) else if dY y x=true then (if only then my only (x::l) m else some (y,1)) else my only l m
termination_by l m=>l.length+m.length
structure uw where
 x:Int
 y:Int
 path:List (Bool×Int)
 deriving DecidableEq,Inhabited
def Edge.act (e:Edge):Bool×Int:=(e.send,e.label)
def ga (b:List Edge) (n:uw) (s:List (Int×Int)×List uw) (e:Edge):List (Int×Int)×List uw:=
 match bh n.y e.send e.label b with
 |some y=>if (e.to,y)∈s.1 then s else (s.1++[(e.to,y)],s.2++[⟨e.to,y,n.path++[e.act]⟩])
 |none=>s
def ux (a b:List Edge) (only:Bool):Nat->List (Int×Int)×List uw->Option (List (Bool×Int)×Int)
 |0,_=>none
 |k+1,(seen,q)=>match q with
  |[]=>none
  |n::q=>match my only (aG a n.x) (aG b n.y)with
   |some (e,w)=>some (n.path++[e.act],w)
   |none=>ux a b only k ((aG a n.x).foldl (ga b n) (seen,q))
def Gc (p:Int×Int):PV:=.agg [.int .i64 p.1,.int .i64 p.2]
def gU (s:List (Int×Int)):List (PV×PV):=s.map fun p=>(Gc p,.bool true)
theorem tM (p q:Int×Int):iw true [1,1] (Gc p) (Gc q)=some (decide (p=q)):=by
 obtain⟨a,b⟩:=p
 obtain⟨c,d⟩:=q
 simp only[iw,Gc,if_true]
 simp only[go_sem]
 by_cases h1:a=c<;>by_cases h2:b=d<;>simp[h1,h2]
theorem Ci {p:Int×Int}:∀{s:List (Int×Int)} {i:Nat},p∉s->findKey true [1,1] (Gc p) (gU s) i=some none
 |[],i,_=>by simp[gU,findKey,tM]
 |q::s,i,h=>by
  simp only[List.mem_cons,not_or]at h
  show findKey true [1,1] (Gc p) ((Gc q,.bool true)::gU s) i=_
  simp only[findKey,tM,h.1,decide_false]
  exact Ci h.2
theorem Cj {p:Int×Int}:∀{s:List (Int×Int)} {i:Nat},p∈s->∃j,findKey true [1,1] (Gc p) (gU s) i=some (some (j,.bool true))
 |[],i,h=>by cases h
 |q::s,i,h=>by
  show ∃j,findKey true [1,1] (Gc p) ((Gc q,.bool true)::gU s) i=_
  simp only[findKey,tM]
  by_cases e:p=q
  .exact⟨i,by simp[e]⟩
  .simp only[e,decide_false]
   exact Cj ((WC.1 h).resolve_left e)
@[go_sem] theorem Jz (z:V) (j:Nat) (p:PV):pN z false (some (j,p))=.pv p:=rfl
@[go_sem] theorem JA (z:V):pN z false none=z:=rfl
theorem Gd {ag:Bool} {ks:List Nat} {q p:PV} {id:Nat} {l:List (PV×PV)} (h:findKey ag ks q l 0=some none):wC ag ks q p id l=some { mp:=some (id,l++[(q,p)]) }:=by
 simp only[wC,h]
theorem Bd (s:List (Int×Int)) (p:Int×Int):gU s++[(Gc p,.bool true)]=gU (s++[p]):=by simp[gU]
def oY (ars:List aN) (v:V) (l:List (Bool×Int)):Prop:=(v=.tl []/\l=[])\/∃id ax,v=.own (id+1) ax 0 l.length/\l≠[]/\ars[id]?=some ⟨ax,2,.inl (fQ l)⟩
theorem oY.more {ars:List aN} {v:V} {l:List (Bool×Int)} (h:oY ars v l) (x:List aN):oY (ars++x) v l:=by
 rcases h with h|⟨id,ax,h1,h2,h3⟩
 .exact .inl h
 .exact .inr ⟨id,ax,h1,h2,by rw[Ww (Wq.1 h3).1]; exact h3⟩
theorem oY.calm {ars:List aN} {v:V} {l:List (Bool×Int)} (h:oY ars v l):v.calm=true/\v.sized=true/\v.bP=none/\v.cells=[v]:=by
 rcases h with⟨rfl,_⟩|⟨id,ax,rfl,_,_⟩<;>exact⟨rfl,rfl,rfl,rfl⟩
structure tN (off:Nat) (q:List uw) (rows:List (List V)) (ars:List aN):Prop where
 len:rows.length=off+q.length
 row:∀(i:Nat) (n:uw),q[i]?=some n->∃v,rows[off+i]?=some [.pv (.int .i64 n.x),.pv (.int .i64 n.y),v]/\oY ars v n.path
theorem tN.pop {off:Nat} {n:uw} {q:List uw} {rows:List (List V)} {ars:List aN} (h:tN off (n::q) rows ars):tN (off+1) q rows ars where
 len:=by rw[h.len]; simp; omega
 row i m hi:=by
  obtain⟨v,h1,h2⟩:=h.row (i+1) m (by simpa using hi)
  exact⟨v,by rw[show off+1+i=off+(i+1) by omega]; exact h1,h2⟩
theorem tN.more {off:Nat} {q:List uw} {rows:List (List V)} {ars:List aN} (h:tN off q rows ars) (x:List aN):tN off q rows (ars++x) where
 len:=h.len
 row i n hi:=by
  obtain⟨v,h1,h2⟩:=h.row i n hi
  exact⟨v,h1,h2.more x⟩
theorem tN.push {off:Nat} {q:List uw} {rows:List (List V)} {ars:List aN} (h:tN off q rows ars) {n:uw} {v:V} (hv:oY ars v n.path):tN 0 (q++[n]) ((rows.drop off).take q.length++[[.pv (.int .i64 n.x),.pv (.int .i64 n.y),v]]) ars where
 len:=by
  have:=h.len
  simp
  omega
 row i m hi:=by
  have hl:=h.len
  rw[X3]
  rcases Wx i q.length with hlt|hge
  .rw[Ww hlt]at hi
   obtain⟨u,h1,h2⟩:=h.row i m hi
   refine⟨u,?_,h2⟩
   rw[List.getElem?_append_left (by simp; omega),List.getElem?_take,if_pos hlt,List.getElem?_drop]
   exact h1
  .rw[WG hge]at hi
   have h0:i - q.length=0:=by
    have:=(Wq.1 hi).1
    simp at this
    omega
   rw[h0]at hi
   simp only[List.getElem?_cons_zero,Option.some.injEq]at hi
   subst hi
   refine⟨v,?_,hv⟩
   rw[List.getElem?_append_right (by simp; omega)]
   have:i - ((rows.drop off).take q.length).length=0:=by simp; omega
   rw[this]
   rfl
theorem ji {l:List (Int×Int)} {n m:Nat} (hn:l.Nodup) (h:∀p∈l,(0<=p.1/\p.1<n)/\(0<=p.2/\p.2<m)):l.length<=n*m:=by
 have h1:=List.Nodup.length_le_of_subset (l₂:=(iota n).flatMap fun p=>(iota m).map fun q=>(p,q)) hn (fun p hp=>by
  have:=h p hp
  rw[List.mem_flatMap]
  exact⟨p.1,y6.2 this.1,Wz.2 ⟨p.2,y6.2 this.2,rfl⟩⟩)
 have h2:∀l:List Int,(l.flatMap fun p=>(iota m).map fun q=>(p,q)).length=l.length*m:=by
  intro l
  induction l with
  |nil=>simp
  |cons x l ih=>rw[List.flatMap_cons,List.length_append,ih]; simp[iota]; rw[Nat.add_mul]; omega
 rw[h2,show (iota n).length=n by simp[iota]]at h1
 exact h1
@[go_sem] theorem DC (l:List (Bool×Int)) (d:Bool) (x:Int):fQ l++[[.bool d,.int .i64 x]]=fQ (l++[(d,x)]):=by simp[fQ,Ig]
@[go_sem] theorem JB (h:ae) (d:Bool) (x:Int):aM h 2 (.tl []) (.tl [[.bool d,.int .i64 x]])=some (.own h.ar.length 0 0 1,{ push:=[⟨0,2,.inl (fQ [(d,x)])⟩],base:=h.ar.length }):=by
 have:=wI h 2 [] [.bool d,.int .i64 x] rfl (fun x hx=>by cases hx) (by simp)
 exact this
@[go_sem] theorem IC (h:ae) (id ax off len:Nat) (d:Bool) (x:Int):aM h 2 (.own id ax off len) (.tl [[.bool d,.int .i64 x]])=(aB h id ax).bind (Js id ax off len 2 [.bool d,.int .i64 x]):=yC h id ax off len 2 _ rfl
@[go_sem] theorem Ss {id ax len:Nat} {d:Bool} {x:Int} {l:List (Bool×Int)} (h1:len=l.length) (h2:l.length+1<=2147483648):Js id ax 0 len 2 [.bool d,.int .i64 x] ⟨ax,2,.inl (fQ l)⟩=some (.own id (ax+1) 0 (len+1),{ ar:=some (id,⟨ax+1,2,.inl (fQ (l++[(d,x)]))⟩) }):=by
 rw[EW (by rw[jh]; exact h1) (by rw[jh]; exact h2),DC]
@[go_sem] theorem PF (h:ae) (k:Nat):aZ k [.tl []] h=some (.tl [],{}):=by simp[aZ,aW,aP]
def ID (h:ae) (id n:Nat) (a:aN):Option (V×Tn):=match a.body with
 |.inl rows=>if (rows.take n).all (·.length==2)=true/\(rows.take n).length<=aQ then (if (rows.take n).length=0 then some (.tl [],{ ra:=some id }) else some (.own h.ar.length 0 0 (rows.take n).length,{ push:=[⟨0,2,.inl (rows.take n)⟩],ra:=some id,base:=h.ar.length })) else none
 |.inr _=>none
@[go_sem] theorem Ni (h:ae) (id ax n:Nat):aZ 2 [.own id ax 0 n] h=(aB h id ax).bind (ID h id n):=by
 simp only[aZ,aW]
 cases aB h id ax with
 |none=>rfl
 |some a=>
  cases hb:a.body<;>simp[aA,ID,hb,aP]
@[go_sem] theorem PG {h:ae} {id n ax:Nat} {l:List (Bool×Int)} (hn:n=l.length) (h0:l.length≠0) (hm:l.length<=2147483648):ID h id n ⟨ax,2,.inl (fQ l)⟩=some (.own h.ar.length 0 0 l.length,{ push:=[⟨0,2,.inl (fQ l)⟩],ra:=some id,base:=h.ar.length }):=by
 subst hn
 have e1:(fQ l).take l.length=fQ l:=WU (by rw[jh]; exact Wy _)
 have e2:((fQ l).all fun x=>x.length==2)=true:=by simp[fQ,Ig]
 simp[ID,e1,e2,jh,aQ,hm,h0]
def uy:Option (List (Bool×Int)×Int)->List PV
 |none=>[.aq 0 [],.int .i64 0,.bool false]
 |some (p,w)=>[.aq 0 (fQ p),.int .i64 w,.bool true]
theorem Ge (o:Bool):my o [] []=none:=by rw[my]
theorem Gf (o:Bool) (x:Edge) (l:List Edge):my o (x::l) []=some (x,0):=by rw[my]
theorem Gg (o:Bool) (y:Edge) (m:List Edge):my o [] (y::m)=if o then my o [] m else some (y,1):=by rw[my]
theorem Gh (o:Bool) (x y:Edge) (l m:List Edge):my o (x::l) (y::m)=if dY x y=true then some (x,0) else if dY y x=true then (if o then my o (x::l) m else some (y,1)) else my o l m:=by rw[my]
theorem JC {bx:List (Nat×List V)} {mp:List (List (PV×PV))} {ax off len m:Nat} {rows:List (List V)} {r:List V} {ar:List aN} (h1:ar[m]?=some ⟨0,3,.inr [r]⟩) (h2:r.length=3) (h3:rows.length=off+len) (h4:len+1<=2147483648):
  aM ⟨bx,⟨ax,3,.inr rows⟩::ar,mp⟩ 3 (.own 0 ax off len) (.own (m+1) 0 0 1)=some (.own 0 (ax+1) 0 (len+1),{ ar:=some (0,⟨ax+1,3,.inr ((rows.drop off).take len++[r])⟩),ra:=some (m+1) }):=by
 simp[aM,aW,aB,h1,aA,aP,aD,h2,aN.size,h3,aQ,h4,aV]
structure qR (a b:aL) (k:Nat) (seen:List (Int×Int)) (q:List uw):Prop where
 nodup:seen.Nodup
 mem:∀p∈seen,(0<=p.1/\p.1<a.ai)/\(0<=p.2/\p.2<b.ai)
 count:k+seen.length=a.ai.toNat*b.ai.toNat+1+q.length
 node:∀n∈q,(0<=n.x/\n.x<a.ai)/\(0<=n.y/\n.y<b.ai)/\n.path.length<seen.length
 le:k<=145
theorem qR.push {a b:aL} {k:Nat} {seen:List (Int×Int)} {q:List uw} (h:qR a b k seen q) {x y:Int} {p:List (Bool×Int)} (hn:(x,y)∉seen) (hr:(0<=x/\x<a.ai)/\(0<=y/\y<b.ai)) (hp:p.length<=seen.length):qR a b k (seen++[(x,y)]) (q++[⟨x,y,p⟩]) where
 nodup:=by
  rw[XO]
  exact⟨h.nodup,by simp,fun u hu v hv e=>hn (by rw[List.mem_singleton]at hv; subst hv; subst e; exact hu)⟩
 mem u hu:=by
  rw[W7,Xi]at hu
  rcases hu with hu|rfl
  .exact h.mem u hu
  .exact hr
 count:=by
  have:=h.count
  simp
  omega
 node n hm:=by
  rw[W7,Xi]at hm
  rcases hm with hm|rfl
  .obtain⟨h1,h2,h3⟩:=h.node n hm
   exact⟨h1,h2,by simp; omega⟩
  .exact⟨hr.1,hr.2,by simp; omega⟩
 le:=h.le
def Su (t u:Nat) (a b:aL) (only:Bool) (ax off:Nat) (q:List uw) (rows:List (List V)) (ars:List aN) (seen:List (Int×Int)):St:=
 ⟨[(2,.pv (.bool only)),(3,.ptr 3 0),(4,.ptr 4 0),(9,.own 0 ax off q.length),(10,.map 0)],⟨[(3,[.pv (.int .i64 a.ai),.pv (.int .i64 a.start),.pv (.aq t (a.aa.map Edge.c))]),(4,[.pv (.int .i64 b.ai),.pv (.int .i64 b.start),.pv (.aq u (b.aa.map Edge.c))])],⟨ax,3,.inr rows⟩::ars,[gU seen]⟩⟩
set_option maxHeartbeats 4000000 in
@[go_sem] theorem r35 (t u:Nat) (a b:aL) (only:Bool) (ht:t<=1) (hu:u<=1) (ha:a.Good) (hb:b.Good):res A az 35 [.agg [.int .i64 a.ai,.int .i64 a.start,.aq t (a.aa.map Edge.c)],.agg [.int .i64 b.ai,.int .i64 b.start,.aq u (b.aa.map Edge.c)],.bool only]=some (uy (ux a.aa b.aa only (a.ai.toNat*b.ai.toNat+1) ([(a.start,b.start)],[⟨a.start,b.start,[]⟩]))):=by
 refine aw a35 rfl rfl ?_
 simp only[F35,Uu]
 have hal:=ha.len
 have hbl:=hb.len
 have hst:=ha.st
 have hst':=hb.st
 have hmx:=ha.mx
 have hmx':=hb.mx
 have hu0:wC true [1,1] (PV.agg [PV.int IntKind.i64 a.start,PV.int IntKind.i64 b.start]) (PV.bool true) 0 []=some { mp:=some (0,gU [(a.start,b.start)]) }:=rfl
 simp(disch:=omega)only[go_sem,hu0]
 generalize hN:a.ai.toNat*b.ai.toNat+1=N
 have hNb:N<=145:=by
  have:=Nat.mul_le_mul (show a.ai.toNat<=12 by omega) (show b.ai.toNat<=12 by omega)
  omega
 refine W.Cc (α:=Nat×Nat×Nat×List uw×List (List V)×List aN×List (Int×Int)) (fun x=>Su t u a b only x.2.1 x.2.2.1 x.2.2.2.1 x.2.2.2.2.1 x.2.2.2.2.2.1 x.2.2.2.2.2.2)
  (fun x=>qR a b x.1 x.2.2.2.2.2.2 x.2.2.2.1/\tN x.2.2.1 x.2.2.2.1 x.2.2.2.2.1 x.2.2.2.2.2.1/\ux a.aa b.aa only x.1 (x.2.2.2.2.2.2,x.2.2.2.1)=ux a.aa b.aa only N ([(a.start,b.start)],[⟨a.start,b.start,[]⟩])) (fun x=>x.1) (N,0,0,[⟨a.start,b.start,[]⟩],[[.pv (.int .i64 a.start),.pv (.int .i64 b.start),.tl []]],[],[(a.start,b.start)]) rfl ⟨⟨by simp,by simp; omega,by simp; omega,by simp; omega,hNb⟩,⟨rfl,fun i n hi=>?_⟩,rfl⟩ fun x hx=>?_
 .cases i with
  |zero=>
   cases hi
   exact⟨.tl [],rfl,.inl ⟨rfl,rfl⟩⟩
  |succ i=>simp at hi
 obtain⟨k,ax,off,q,rows,ars,seen⟩:=x
 obtain⟨hD,hQ,hres⟩:=hx
 dsimp only at hD hQ hres
 unfold Su
 dsimp only
 rw[<- hres]
 have hsb:=ji hD.nodup (n:=a.ai.toNat) (m:=b.ai.toNat) (fun p hp=>by
  have:=hD.mem p hp
  omega)
 have hcnt:=hD.count
 rw[hN]at hcnt
 cases q with
 |nil=>
  simp(disch:=omega)only[go_sem]
  refine Br.aJ (fun h=>absurd h (by omega)) (fun h=>?_)
  simp(disch:=omega)only[go_sem]
  cases k<;>rfl
 |cons n q=>
  obtain⟨k,rfl⟩:∃k',k=k'+1:=⟨k - 1,by simp at hcnt; omega⟩
  obtain⟨v,hv,hpv⟩:=hQ.row 0 n rfl
  have hrl:=hQ.len
  obtain⟨⟨x0,x1⟩,⟨y0,y1⟩,hpl⟩:=hD.node n (W1 ..)
  obtain⟨c1,c2,c3,c4⟩:=hpv.calm
  have hoff:off<rows.length:=by simp at hrl; omega
  rw[Nat.add_zero]at hv
  simp(disch:=omega)only[go_sem]
  refine Br.aJ (fun h=>?_) (fun h=>(h (by omega)).elim)
  simp(disch:=omega)only[go_sem,hv,c1]
  rw[Nat.add_sub_cancel]
  have hla:=lO a.aa n.x
  have hlb:=lO b.aa n.y
  generalize hA:aG a.aa n.x=la at hla |-
  generalize hB:aG b.aa n.y=lb at hlb |-
  have hdif:ux a.aa b.aa only (k+1) (seen,n::q)=match my only la lb with
   |some (e,w)=>some (n.path++[e.act],w)
   |none=>ux a.aa b.aa only k (la.foldl (ga b.aa n) (seen,q)):=by rw[<- hA,<- hB]; rfl
  rw[hdif]
  refine W.loop (α:=Nat×Nat) (fun x=>⟨[(2,.pv (.bool only)),(3,.ptr 3 0),(4,.ptr 4 0),(9,.own 0 ax (off+1) q.length),(10,.map 0),(11,.ptr 11 0),(12,.pv (.aq 0 (bD la))),(13,.pv (.aq 0 (bD lb))),(14,.pv (.int .i64 x.1)),(15,.pv (.int .i64 x.2))],⟨[(3,[.pv (.int .i64 a.ai),.pv (.int .i64 a.start),.pv (.aq t (a.aa.map Edge.c))]),(4,[.pv (.int .i64 b.ai),.pv (.int .i64 b.start),.pv (.aq u (b.aa.map Edge.c))]),(11,[.pv (.int .i64 n.x),.pv (.int .i64 n.y),v])],⟨ax,3,.inr rows⟩::ars,[gU seen]⟩⟩)
   (fun x=>x.1<=la.length/\x.2<=lb.length/\my only (la.drop x.1) (lb.drop x.2)=my only la lb) (fun x=>(la.length - x.1)+(lb.length - x.2)) (0,0) rfl ⟨WY _,WY _,rfl⟩ fun x hx=>?_
  obtain⟨i,j⟩:=x
  obtain⟨hi,hj,hm⟩:=hx
  dsimp only at hi hj hm
  rw[<- hm]
  dsimp only
  rcases Wx i la.length with hi'|hi'
  .obtain⟨x,hx⟩:=get_at hi'
   rw[fL hx]
   rcases Wx j lb.length with hj'|hj'
   .obtain⟨y,hy⟩:=get_at hj'
    rw[fL hy,Gh]
    simp(disch:=omega)only[go_sem]
    refine Br.aJ (fun h=>?_) (fun h=>(h (by omega)).elim)
    simp(disch:=omega)only[go_sem,h]
    refine Br.aJ (fun h=>absurd h (by omega)) (fun h=>?_)
    simp(disch:=omega)only[go_sem,h]
    refine Br.aJ (fun h=>?_) (fun h=>(h (by omega)).elim)
    simp(disch:=omega)only[go_sem,h,hx,hy]
    refine Br.of (fun l1=>?_) (fun l1=>?_)<;>simp(disch:=omega)only[go_sem,l1,hx]
    .rw[if_pos l1]
     rcases hpv with⟨rfl,hp⟩|⟨id,pv,rfl,hne,hid⟩
     .simp(disch:=omega)only[go_sem]
      simp[bM,aA,uy,Edge.act,hp,fQ]
     .simp(disch:=omega)only[go_sem,hid]
      have hlt:=(Wq.1 hid).1
      rw[W8 hlt]
      simp[bM,aA,uy,Edge.act,fQ,List.take_of_length_le]
    rw[if_neg (by simp[l1])]
    refine Br.aJ (fun h=>absurd h (by omega)) (fun h=>?_)
    simp(disch:=omega)only[go_sem,h,hx,hy]
    refine Br.of (fun l2=>?_) (fun l2=>?_)<;>simp(disch:=omega)only[go_sem,l2]
    .rw[if_pos l2]
     cases only with
     |true=>
      simp(disch:=omega)only[go_sem]
      refine⟨(i,j+1),⟨hi,by dsimp only; omega,?_⟩,by dsimp only; omega,rfl⟩
      dsimp only
      rw[if_pos rfl,fL hx]
     |false=>
      simp(disch:=omega)only[go_sem,hy]
      rcases hpv with⟨rfl,hp⟩|⟨id,pv,rfl,hne,hid⟩
      .simp(disch:=omega)only[go_sem]
       simp[bM,aA,uy,Edge.act,hp,fQ]
      .simp(disch:=omega)only[go_sem,hid]
       have hlt:=(Wq.1 hid).1
       rw[W8 hlt]
       simp[bM,aA,uy,Edge.act,fQ,List.take_of_length_le]
    .rw[if_neg (by simp[l2])]
     exact⟨(i+1,j+1),⟨by dsimp only; omega,by dsimp only; omega,rfl⟩,by dsimp only; omega,rfl⟩
   .obtain rfl:j=lb.length:=by omega
    rw[XT hj',Gf]
    simp(disch:=omega)only[go_sem]
    refine Br.aJ (fun h=>?_) (fun h=>(h (by omega)).elim)
    simp(disch:=omega)only[go_sem,h,hx]
    rcases hpv with⟨rfl,hp⟩|⟨id,pv,rfl,hne,hid⟩
    .simp(disch:=omega)only[go_sem]
     simp[bM,aA,uy,Edge.act,hp,fQ]
    .simp(disch:=omega)only[go_sem,hid]
     have hlt:=(Wq.1 hid).1
     rw[W8 hlt]
     simp[bM,aA,uy,Edge.act,fQ,List.take_of_length_le]
  .obtain rfl:i=la.length:=by omega
   rw[XT hi']
   rcases Wx j lb.length with hj'|hj'
   .obtain⟨y,hy⟩:=get_at hj'
    rw[fL hy,Gg]
    simp(disch:=omega)only[go_sem]
    refine Br.aJ (fun h=>?_) (fun h=>(h (by omega)).elim)
    simp(disch:=omega)only[go_sem,h]
    refine Br.aJ (fun h=>absurd h (by omega)) (fun h=>?_)
    simp(disch:=omega)only[go_sem,h]
    cases only with
    |true=>
     simp(disch:=omega)only[go_sem]
     refine⟨(la.length,j+1),⟨hi,by dsimp only; omega,?_⟩,by dsimp only; omega,rfl⟩
     dsimp only
     rw[if_pos rfl,XT hi']
    |false=>
     simp(disch:=omega)only[go_sem,hy]
     rcases hpv with⟨rfl,hp⟩|⟨id,pv,rfl,hne,hid⟩
     .simp(disch:=omega)only[go_sem]
      simp[bM,aA,uy,Edge.act,hp,fQ]
     .simp(disch:=omega)only[go_sem,hid]
      have hlt:=(Wq.1 hid).1
      rw[W8 hlt]
      simp[bM,aA,uy,Edge.act,fQ,List.take_of_length_le]
   .obtain rfl:j=lb.length:=by omega
    rw[XT hj',Ge]
    simp(disch:=omega)only[go_sem]
    refine W.Cc (α:=Nat×Nat×Nat×List uw×List (List V)×List aN×List (Int×Int)) (fun x=>⟨[(2,.pv (.bool only)),(3,.ptr 3 0),(4,.ptr 4 0),(9,.own 0 x.2.1 x.2.2.1 x.2.2.2.1.length),(10,.map 0),(11,.ptr 11 0),(124,.pv (.aq 0 (bD la))),(125,.pv (.int .i64 la.length)),(126,.pv (.int .i64 x.1))],⟨[(3,[.pv (.int .i64 a.ai),.pv (.int .i64 a.start),.pv (.aq t (a.aa.map Edge.c))]),(4,[.pv (.int .i64 b.ai),.pv (.int .i64 b.start),.pv (.aq u (b.aa.map Edge.c))]),(11,[.pv (.int .i64 n.x),.pv (.int .i64 n.y),v])],⟨x.2.1,3,.inr x.2.2.2.2.1⟩::x.2.2.2.2.2.1,[gU x.2.2.2.2.2.2]⟩⟩)
     (fun x=>x.1<=la.length/\qR a b k x.2.2.2.2.2.2 x.2.2.2.1/\tN x.2.2.1 x.2.2.2.1 x.2.2.2.2.1 x.2.2.2.2.2.1/\oY x.2.2.2.2.2.1 v n.path/\n.path.length<x.2.2.2.2.2.2.length/\(la.drop x.1).foldl (ga b.aa n) (x.2.2.2.2.2.2,x.2.2.2.1)=la.foldl (ga b.aa n) (seen,q)) (fun x=>la.length - x.1) (0,ax,off+1,q,rows,ars,seen) rfl
     ⟨Nat.zero_le _,⟨hD.nodup,hD.mem,by have:=hD.count; rw[List.length_cons]at this; dsimp only; omega,fun m hm=>hD.node m (List.mem_cons_of_mem _ hm),by have:=hD.le; omega⟩,hQ.pop,hpv,hpl,rfl⟩ fun x hx=>?_
    obtain⟨m,ver',off',q',rows',ars',seen'⟩:=x
    obtain⟨hm',hD',hQ',hpv',hpl',hf⟩:=hx
    dsimp only at hm' hD' hQ' hpv' hpl' hf
    dsimp only
    rw[<- hf]
    have hsb':=ji hD'.nodup (n:=a.ai.toNat) (m:=b.ai.toNat) (fun p hp=>by
     have:=hD'.mem p hp
     omega)
    have hcnt':=hD'.count
    rw[hN]at hcnt'
    have hrl':=hQ'.len
    rcases Wx m la.length with hlt|hlt
    .obtain⟨e,he⟩:=get_at hlt
     rw[fL he,Xy]
     have hea:=Wr he
     rw[<- hA,fu]at hea
     have hef:=eh.1 (ha.fit e hea.1)
     simp(disch:=omega)only[go_sem]
     refine Br.aJ (fun h=>?_) (fun h=>(h (by omega)).elim)
     simp(disch:=omega)only[go_sem,he]
     cases hn:bh n.y e.send e.label b.aa with
     |none=>
      simp(disch:=omega)only[go_sem,Option.isSome_none]
      have hadd:ga b.aa n (seen',q') e=(seen',q'):=by simp[ga,hn]
      exact⟨(m+1,ver',off',q',rows',ars',seen'),⟨by dsimp only; omega,hD',hQ',hpv',hpl',by rw[hadd]⟩,by dsimp only; omega,rfl⟩
     |some y=>
      simp only[Option.isSome_some,Option.getD_some]
      have hyr:0<=y/\y<b.ai:=by
       have hmem:=(fe hb.mw).1 hn
       have hf2:=eh.1 (hb.fit _ hmem)
       exact⟨hf2.2.2.1,hf2.2.2.2.1⟩
      have hkb:=hD'.le
      simp(disch:=omega)only[go_sem]
      by_cases hin:(e.to,y)∈seen'
      .obtain⟨j,hj⟩:=Cj (i:=0) hin
       have hj:findKey true [1,1] (.agg [.int .i64 e.to,.int .i64 y]) (gU seen') 0=some (some (j,.bool true)):=hj
       simp(disch:=omega)only[go_sem,hj]
       have hadd:ga b.aa n (seen',q') e=(seen',q'):=by simp[ga,hn,hin]
       exact⟨(m+1,ver',off',q',rows',ars',seen'),⟨by dsimp only; omega,hD',hQ',hpv',hpl',by rw[hadd]⟩,by dsimp only; omega,rfl⟩
      .have hj:findKey true [1,1] (.agg [.int .i64 e.to,.int .i64 y]) (gU seen') 0=some none:=Ci hin
       have hup:wC true [1,1] (.agg [.int .i64 e.to,.int .i64 y]) (.bool true) 0 (gU seen')=some { mp:=some (0,gU (seen'++[(e.to,y)])) }:=by
        rw[<- Bd]
        exact Gd hj
       simp(disch:=omega)only[go_sem,hj,hup]
       rcases hpv' with⟨rfl,hp⟩|⟨id,pv,rfl,hne,hid⟩
       .simp(disch:=omega)only[go_sem]
        rw[JC (r:=[.pv (.int .i64 e.to),.pv (.int .i64 y),.own (ars'.length+1) 0 0 1]) (by simp) rfl hrl' (by omega)]
        simp(disch:=omega)only[go_sem]
        have hadd:ga b.aa n (seen',q') e=(seen'++[(e.to,y)],q'++[⟨e.to,y,n.path++[e.act]⟩]):=by simp[ga,hn,hin]
        refine⟨(m+1,ver'+1,0,q'++[⟨e.to,y,n.path++[e.act]⟩],(rows'.drop off').take q'.length++[[.pv (.int .i64 e.to),.pv (.int .i64 y),.own (ars'.length+1) 0 0 1]],ars'++[⟨0,2,.inl (fQ [(e.send,e.label)])⟩]++[⟨0,3,.inr [[.pv (.int .i64 e.to),.pv (.int .i64 y),.own (ars'.length+1) 0 0 1]]⟩],seen'++[(e.to,y)]),⟨by dsimp only; omega,hD'.push hin ⟨⟨by omega,by omega⟩,hyr⟩ (by simp; omega),?_,.inl ⟨rfl,hp⟩,by simp; omega,by rw[hadd]⟩,by dsimp only; omega,?_⟩
        .rw[W2]
         refine(hQ'.more _).push (n:=⟨e.to,y,n.path++[e.act]⟩) (.inr ⟨ars'.length,0,?_,by simp,?_⟩)
         .simp[hp]
         .simp[hp,Edge.act]
        .dsimp only
         rw[WX]
         rfl
       .have hne':n.path.length≠0:=fun h=>hne (WL h)
        simp(disch:=omega)only[go_sem,hid,List.getElem?_concat_length,List.set_append_right,Nat.sub_self,List.set_cons_zero,Nat.le_refl]
        rw[JC (r:=[.pv (.int .i64 e.to),.pv (.int .i64 y),.own (ars'.length+1) 1 0 (n.path.length+1)]) (by simp) rfl hrl' (by omega)]
        simp(disch:=omega)only[go_sem]
        have hadd:ga b.aa n (seen',q') e=(seen'++[(e.to,y)],q'++[⟨e.to,y,n.path++[e.act]⟩]):=by simp[ga,hn,hin]
        refine⟨(m+1,ver'+1,0,q'++[⟨e.to,y,n.path++[e.act]⟩],(rows'.drop off').take q'.length++[[.pv (.int .i64 e.to),.pv (.int .i64 y),.own (ars'.length+1) 1 0 (n.path.length+1)]],ars'++[⟨1,2,.inl (fQ (n.path++[(e.send,e.label)]))⟩]++[⟨0,3,.inr [[.pv (.int .i64 e.to),.pv (.int .i64 y),.own (ars'.length+1) 1 0 (n.path.length+1)]]⟩],seen'++[(e.to,y)]),⟨by dsimp only; omega,hD'.push hin ⟨⟨by omega,by omega⟩,hyr⟩ (by simp; omega),?_,?_,by simp; omega,by rw[hadd]⟩,by dsimp only; omega,?_⟩
        .rw[W2]
         refine(hQ'.more _).push (n:=⟨e.to,y,n.path++[e.act]⟩) (.inr ⟨ars'.length,1,?_,by simp,?_⟩)
         .simp
         .simp[Edge.act]
        .dsimp only
         rw[W2]
         exact oY.more (.inr ⟨id,pv,rfl,hne,hid⟩) _
        .dsimp only
         rw[WX]
         rfl
    .obtain rfl:m=la.length:=by omega
     simp(disch:=omega)only[go_sem]
     refine⟨(k,ver',off',q',rows',ars',seen'),⟨hD',hQ',?_⟩,by dsimp only; omega,rfl⟩
     dsimp only
     rw[XT hlt]
     rfl
theorem DD {a b c d:Edge} (h1:a.act=c.act) (h2:b.act=d.act):dY a b=dY c d:=by
 simp only[Edge.act,Prod.mk.injEq]at h1 h2
 unfold dY
 rw[h1.1,h1.2,h2.1,h2.2]
theorem ir {a b:Edge} (h:a.act=b.act):dY a b=false:=by
 rw[DD h rfl]
 simp[dY]
theorem zr {a b c:Edge} (h1:dY a b=true) (h2:dY b c=true):dY a c=true:=by
 unfold dY at *
 cases ha:a.send<;>cases hb:b.send<;>cases hc:c.send<;>simp_all<;>omega
theorem DE {a b:Edge} (h1:dY a b=false) (h2:dY b a=false):a.act=b.act:=by
 unfold dY at *
 unfold Edge.act
 cases ha:a.send<;>cases hb:b.send<;>simp_all<;>omega
def IE (l:List Edge):Prop:=l.Pairwise fun x y=>dY x y=true
theorem aL.Good.IF {a:aL} (h:a.Good) (s:Int):IE (aG a.aa s):=by
 unfold IE aG
 rw[List.pairwise_filter]
 refine h.NI.imp ?_
 intro x y hxy hx hy
 simp only[beq_iff_eq]at hx hy
 unfold Edge.lt at hxy
 unfold dY
 rw[hx,hy]at hxy
 cases hs:x.send<;>cases ht:y.send<;>simp_all
theorem lQ (o:Bool):∀(la lb:List Edge),IE la->IE lb->match my o la lb with
  |none=>(∀x∈la,∃y∈lb,y.act=x.act)/\(o=false->∀y∈lb,∃x∈la,x.act=y.act)
  |some (e,w)=>(w=0/\e∈la/\∀y∈lb,y.act≠e.act)\/(w=1/\o=false/\e∈lb/\∀x∈la,x.act≠e.act)
 |[],[],_,_=>by
  rw[Ge]
  exact⟨fun x hx=>(Yg hx).elim,fun _ y hy=>(Yg hy).elim⟩
 |x::l,[],_,_=>by
  rw[Gf]
  exact .inl ⟨rfl,by simp,fun y hy=>(List.not_mem_nil hy).elim⟩
 |[],y::m,ha,hb=>by
  rw[Gg]
  cases o with
  |true=>
   rw[if_pos rfl]
   have h:=lQ true [] m ha (WH.1 hb).2
   revert h
   cases my true [] m with
   |none=>exact fun _=>⟨fun x hx=>(Yg hx).elim,fun h=>by cases h⟩
   |some r=>
    rintro (⟨_,h,_⟩|⟨_,h,_⟩)
    .cases h
    .cases h
  |false=>
   rw[if_neg (by simp)]
   exact .inr ⟨rfl,rfl,by simp,fun x hx=>(List.not_mem_nil hx).elim⟩
 |x::l,y::m,ha,hb=>by
  obtain⟨ha1,ha2⟩:=WH.1 ha
  obtain⟨hb1,hb2⟩:=WH.1 hb
  have keya:∀{z},dY z x=true->∀u∈x::l,u.act≠z.act:=fun {z} hz u hu e=>by
   rcases WC.1 hu with rfl|hu
   .rw[ir e.symm]at hz; cases hz
   .have:=zr hz (ha1 u hu)
    rw[ir e.symm]at this; cases this
  have keyb:∀{z},dY z y=true->∀u∈y::m,u.act≠z.act:=fun {z} hz u hu e=>by
   rcases WC.1 hu with rfl|hu
   .rw[ir e.symm]at hz; cases hz
   .have:=zr hz (hb1 u hu)
    rw[ir e.symm]at this; cases this
  rw[Gh]
  by_cases h1:dY x y=true
  .rw[if_pos h1]
   exact .inl ⟨rfl,by simp,keyb h1⟩
  .rw[if_neg h1]
   by_cases h2:dY y x=true
   .rw[if_pos h2]
    cases o with
    |true=>
     rw[if_pos rfl]
     have h:=lQ true (x::l) m ha hb2
     revert h
     cases my true (x::l) m with
     |none=>
      rintro ⟨h,_⟩
      refine⟨fun u hu=>?_,fun h=>by cases h⟩
      obtain⟨v,hv,e⟩:=h u hu
      exact⟨v,WK _ hv,e⟩
     |some r=>
      rintro (⟨h3,h4,h5⟩|⟨_,h,_⟩)
      .refine .inl ⟨h3,h4,fun v hv=>?_⟩
       rcases WC.1 hv with rfl|hv
       .exact fun e=>keya h2 _ h4 e.symm
       .exact h5 v hv
      .cases h
    |false=>
     rw[if_neg (by simp)]
     exact .inr ⟨rfl,rfl,by simp,keya h2⟩
   .rw[if_neg h2]
    have he:x.act=y.act:=DE (by simpa using h1) (by simpa using h2)
    have h:=lQ o l m ha2 hb2
    revert h
    cases my o l m with
    |none=>
     rintro ⟨h3,h4⟩
     refine⟨fun u hu=>?_,fun ho u hu=>?_⟩
     .rcases WC.1 hu with rfl|hu
      .exact⟨y,by simp,he.symm⟩
      .obtain⟨v,hv,e⟩:=h3 u hu
       exact⟨v,WK _ hv,e⟩
     .rcases WC.1 hu with rfl|hu
      .exact⟨x,by simp,he⟩
      .obtain⟨v,hv,e⟩:=h4 ho u hu
       exact⟨v,WK _ hv,e⟩
    |some r=>
     rintro (⟨h3,h4,h5⟩|⟨h3,h0,h4,h5⟩)
     .refine .inl ⟨h3,WK _ h4,fun v hv=>?_⟩
      rcases WC.1 hv with rfl|hv
      .intro e
       have:=ha1 _ h4
       rw[ir (he.trans e)]at this
       cases this
      .exact h5 v hv
     .refine .inr ⟨h3,h0,WK _ h4,fun v hv=>?_⟩
      rcases WC.1 hv with rfl|hv
      .intro e
       have:=hb1 _ h4
       rw[ir (he.symm.trans e)]at this
       cases this
      .exact h5 v hv
termination_by la lb=>la.length+lb.length
inductive PR (a b:List Edge) (s t:Int):List (Bool×Int)->Int->Int->Prop
 |nil:PR a b s t [] s t
 |snoc {p:List (Bool×Int)} {x y x' y':Int} {d:Bool} {l:Int}:PR a b s t p x y->bh x d l a=some x'->bh y d l b=some y'->PR a b s t (p++[(d,l)]) x' y'
theorem nw {a b:aL} {k:Nat} {n:uw} (hb:b.Good):∀(l:List Edge) (seen:List (Int×Int)) (q:List uw),(∀e∈l,0<=e.to/\e.to<a.ai)->n.path.length<seen.length->qR a b k seen q->
  ∃seen' qs,l.foldl (ga b.aa n) (seen,q)=(seen',q++qs)/\qR a b k seen' (q++qs)/\(∀p∈seen,p∈seen')/\(∀p∈seen',p∈seen\/∃m∈qs,(m.x,m.y)=p)/\
   (∀m∈qs,∃e∈l,bh n.y e.send e.label b.aa=some m.y/\m.x=e.to/\m.path=n.path++[e.act])/\(∀e∈l,∀y,bh n.y e.send e.label b.aa=some y->(e.to,y)∈seen')
 |[],seen,q,_,_,hD=>⟨seen,[],by simp,by simpa using hD,fun _ h=>h,fun _ h=>.inl h,fun _ h=>(List.not_mem_nil h).elim,fun _ h=>(List.not_mem_nil h).elim⟩
 |e::l,seen,q,hl,hp,hD=>by
  have hl':∀e∈l,0<=e.to/\e.to<a.ai:=fun f hf=>hl f (WK _ hf)
  rw[Xy]
  by_cases hadd:∃y,bh n.y e.send e.label b.aa=some y/\(e.to,y)∉seen
  .obtain⟨y,hy,hns⟩:=hadd
   have hy':=hb.Iz hy
   unfold aL.inr at hy'
   have h0:ga b.aa n (seen,q) e=(seen++[(e.to,y)],q++[⟨e.to,y,n.path++[e.act]⟩]):=by simp[ga,hy,hns]
   obtain⟨seen',qs,h1,h2,h3,h4,h5,h6⟩:=nw (n:=n) hb l _ _ hl' (by simp; omega) (hD.push (p:=n.path++[e.act]) hns ⟨hl e (by simp),hy'⟩ (by simp; omega))
   refine⟨seen',⟨e.to,y,n.path++[e.act]⟩::qs,?_,?_,?_,?_,?_,?_⟩
   .rw[h0,h1,W2]
    rfl
   .rw[W2]at h2
    exact h2
   .exact fun p hp=>h3 p (by simp[hp])
   .intro p hp
    rcases h4 p hp with h|⟨m,hm,h⟩
    .rw[W7,Xi]at h
     rcases h with h|rfl
     .exact .inl h
     .exact .inr ⟨_,W1 ..,rfl⟩
    .exact .inr ⟨m,WK _ hm,h⟩
   .intro m hm
    rcases WC.1 hm with rfl|hm
    .exact⟨e,by simp,hy,rfl,rfl⟩
    .obtain⟨f,hf,h⟩:=h5 m hm
     exact⟨f,WK _ hf,h⟩
   .intro f hf z hz
    rcases WC.1 hf with rfl|hf
    .rw[hy]at hz
     cases hz
     exact h3 _ (by simp)
    .exact h6 f hf z hz
  .have h0:ga b.aa n (seen,q) e=(seen,q):=by
    unfold ga
    cases hn:bh n.y e.send e.label b.aa with
    |none=>rfl
    |some y=>
     have:(e.to,y)∈seen:=Classical.byContradiction fun h=>hadd ⟨y,hn,h⟩
     simp[this]
   obtain⟨seen',qs,h1,h2,h3,h4,h5,h6⟩:=nw (n:=n) hb l seen q hl' hp hD
   refine⟨seen',qs,by rw[h0,h1],h2,h3,h4,?_,?_⟩
   .intro m hm
    obtain⟨f,hf,h⟩:=h5 m hm
    exact⟨f,WK _ hf,h⟩
   .intro f hf z hz
    rcases WC.1 hf with rfl|hf
    .exact h3 _ (Classical.byContradiction fun h=>hadd ⟨z,hz,h⟩)
    .exact h6 f hf z hz
theorem oZ {a b:aL} (ha:a.Good) (hb:b.Good) (o:Bool):∀(k:Nat) (seen:List (Int×Int)) (q:List uw),qR a b k seen q->(∀n∈q,PR a.aa b.aa a.start b.start n.path n.x n.y)->
  (∀x y,(x,y)∈seen->(∃n∈q,n.x=x/\n.y=y)\/(my o (aG a.aa x) (aG b.aa y)=none/\∀d l x' y',bh x d l a.aa=some x'->bh y d l b.aa=some y'->(x',y')∈seen))->(a.start,b.start)∈seen->
  match ux a.aa b.aa o k (seen,q)with
  |none=>∀p x y,PR a.aa b.aa a.start b.start p x y->my o (aG a.aa x) (aG b.aa y)=none
  |some (p,w)=>∃(n:uw) (e:Edge),PR a.aa b.aa a.start b.start n.path n.x n.y/\my o (aG a.aa n.x) (aG b.aa n.y)=some (e,w)/\p=n.path++[e.act]/\n.path.length<1000
 |k,seen,[],hD,_,hs,h0=>by
  have:ux a.aa b.aa o k (seen,[])=none:=by cases k<;>rfl
  rw[this]
  have hin:∀p x y,PR a.aa b.aa a.start b.start p x y->(x,y)∈seen:=fun p x y h=>by
   induction h with
   |nil=>exact h0
   |snoc _ h1 h2 ih=>
    rcases hs _ _ ih with⟨n,hn,_⟩|⟨_,h⟩
    .cases hn
    .exact h _ _ _ _ h1 h2
  intro p x y h
  rcases hs _ _ (hin p x y h)with⟨n,hn,_⟩|⟨h,_⟩
  .cases hn
  .exact h
 |0,seen,n::q,hD,_,_,_=>by
  have h1:=hD.count
  have h2:=ji hD.nodup (n:=a.ai.toNat) (m:=b.ai.toNat) (fun p hp=>by
   have:=hD.mem p hp
   omega)
  simp at h1
  omega
 |k+1,seen,n::q,hD,hq,hs,h0=>by
  have hdif:ux a.aa b.aa o (k+1) (seen,n::q)=match my o (aG a.aa n.x) (aG b.aa n.y)with
   |some (e,w)=>some (n.path++[e.act],w)
   |none=>ux a.aa b.aa o k ((aG a.aa n.x).foldl (ga b.aa n) (seen,q)):=rfl
  rw[hdif]
  cases hm:my o (aG a.aa n.x) (aG b.aa n.y)with
  |some r=>
   obtain⟨e,w⟩:=r
   refine⟨n,e,hq n (by simp),hm,rfl,?_⟩
   have h1:=(hD.node n (by simp)).2.2
   have h2:=ji hD.nodup (n:=a.ai.toNat) (m:=b.ai.toNat) (fun p hp=>by
    have:=hD.mem p hp
    omega)
   have h3:=ha.mx
   have h4:=hb.mx
   have:=Nat.mul_le_mul (show a.ai.toNat<=12 by omega) (show b.ai.toNat<=12 by omega)
   omega
  |none=>
   dsimp only
   have hl:=(hD.node n (by simp)).2.2
   obtain⟨seen',qs,h1,h2,h3,h4,h5,h6⟩:=nw (a:=a) (k:=k) (n:=n) hb (aG a.aa n.x) seen q (fun e he=>by
    rw[fu]at he
    have:=eh.1 (ha.fit e he.1)
    exact⟨this.2.2.1,this.2.2.2.1⟩) hl ⟨hD.nodup,hD.mem,by have:=hD.count; rw[Yf]at this; omega,fun m hm=>hD.node m (WK _ hm),by have:=hD.le; omega⟩
   rw[h1]
   refine oZ ha hb o k seen' (q++qs) h2 ?_ ?_ (h3 _ h0)
   .intro m hm'
    rcases W7.1 hm' with hm'|hm'
    .exact hq m (WK _ hm')
    .obtain⟨e,he,h7,h8,h9⟩:=h5 m hm'
     rw[fu]at he
     rw[h9,h8]
     refine PR.snoc (d:=e.send) (l:=e.label) (hq n (by simp)) ((fe ha.mw).2 ?_) h7
     have:(⟨n.x,e.send,e.label,e.to⟩:Edge)=e:=by rw[<- he.2]
     rw[this]
     exact he.1
   .intro x y hxy
    have done:∀x y,((∃m∈n::q,m.x=x/\m.y=y)\/(my o (aG a.aa x) (aG b.aa y)=none/\∀d l x' y',bh x d l a.aa=some x'->bh y d l b.aa=some y'->(x',y')∈seen))->(∃n∈q++qs,n.x=x/\n.y=y)\/(my o (aG a.aa x) (aG b.aa y)=none/\∀d l x' y',bh x d l a.aa=some x'->bh y d l b.aa=some y'->(x',y')∈seen'):=by
     rintro x y (⟨m,hm',rfl,rfl⟩|⟨h,h'⟩)
     .rcases WC.1 hm' with rfl|hm'
      .refine .inr ⟨hm,fun d l x' y' hx hy=>?_⟩
       exact h6 ⟨m.x,d,l,x'⟩ (fu.2 ⟨(fe ha.mw).1 hx,rfl⟩) y' hy
      .exact .inl ⟨m,Xj _ hm',rfl,rfl⟩
     .exact .inr ⟨h,fun d l x' y' hx hy=>h3 _ (h' d l x' y' hx hy)⟩
    rcases h4 _ hxy with h|⟨m,hm',h⟩
    .exact done x y (hs x y h)
    .simp only[Prod.mk.injEq]at h
     exact .inl ⟨m,Xz _ hm',h.1,h.2⟩
def aL.ux (a b:aL) (o:Bool):Option (List (Bool×Int)×Int):=Pv.ux a.aa b.aa o (a.ai.toNat*b.ai.toNat+1) ([(a.start,b.start)],[⟨a.start,b.start,[]⟩])
theorem aL.oZ {a b:aL} (ha:a.Good) (hb:b.Good) (o:Bool):match a.ux b o with
  |none=>∀p x y,PR a.aa b.aa a.start b.start p x y->my o (aG a.aa x) (aG b.aa y)=none
  |some (p,w)=>∃(n:uw) (e:Edge),PR a.aa b.aa a.start b.start n.path n.x n.y/\my o (aG a.aa n.x) (aG b.aa n.y)=some (e,w)/\p=n.path++[e.act]/\n.path.length<1000:=by
 have h1:=ha.st
 have h2:=hb.st
 have h3:=ha.mx
 have h4:=hb.mx
 have:=Nat.mul_le_mul (show a.ai.toNat<=12 by omega) (show b.ai.toNat<=12 by omega)
 refine Pv.oZ ha hb o _ _ _ ⟨by simp,by simp; omega,by simp,by simp; omega,by omega⟩ ?_ ?_ (by simp)
 .intro n hn
  rw[Xi]at hn
  subst hn
  exact .nil
 .intro x y hxy
  simp only[List.mem_singleton,Prod.mk.injEq]at hxy
  exact .inl ⟨_,Xi.2 rfl,hxy.1.symm,hxy.2.symm⟩
def kH (a b:aL):Int:=if a.err=0 then b.err else a.err
set_option maxHeartbeats 1000000 in
@[go_sem] theorem r34 (t u:Nat) (a b:aL) (ha:a.aa.length<=2000000000) (hb:b.aa.length<=2000000000):res A az 34 [.agg [.int .i64 a.ai,.int .i64 a.start,.aq t (a.aa.map Edge.c)],.agg [.int .i64 b.ai,.int .i64 b.start,.aq u (b.aa.map Edge.c)]]=some [.int .i64 (kH a b)]:=by
 refine aw a34 rfl rfl ?_
 simp only[F34,Ut]
 simp(disch:=omega)only[go_sem]
 refine Br.aJ (fun h=>?_) (fun h=>?_)<;>simp(disch:=omega)only[go_sem,h]
 .unfold kH
  rw[if_pos h]
 .unfold kH
  rw[if_neg h]
theorem mi {a b:aL} (h:kH a b=0):a.Good/\b.Good:=by
 unfold kH at h
 by_cases h1:a.err=0
 .rw[if_pos h1]at h
  exact⟨aL.iV.1 h1,aL.iV.1 h⟩
 .rw[if_neg h1]at h
  exact(h1 h).elim
theorem Gi (r:Option (List (Bool×Int)×Int)):uy r=[.aq 0 (fQ (r.getD ([],0)).1),.int .i64 (r.getD ([],0)).2,.bool r.isSome]:=by
 cases r with
 |none=>rfl
 |some r=>rfl
@[go_sem] theorem r35a (t u:Nat) (a b:aL) (only:Bool) (ht:t<=1) (hu:u<=1) (h:kH a b=0):res A az 35 [.agg [.int .i64 a.ai,.int .i64 a.start,.aq t (a.aa.map Edge.c)],.agg [.int .i64 b.ai,.int .i64 b.start,.aq u (b.aa.map Edge.c)],.bool only]=some [.aq 0 (fQ ((a.ux b only).getD ([],0)).1),.int .i64 ((a.ux b only).getD ([],0)).2,.bool (a.ux b only).isSome]:=by
 rw[r35 t u a b only ht hu (mi h).1 (mi h).2,Gi]
 rfl
set_option maxHeartbeats 1000000 in
@[go_sem] theorem r16 (t u:Nat) (a b:aL) (ht:t<=1) (hu:u<=1) (ha:a.aa.length<=2000000000) (hb:b.aa.length<=2000000000):res A az 16 [.agg [.int .i64 a.ai,.int .i64 a.start,.aq t (a.aa.map Edge.c)],.agg [.int .i64 b.ai,.int .i64 b.start,.aq u (b.aa.map Edge.c)]]=some [.bool (decide (kH a b=0)&&!(a.ux b false).isSome),.int .i64 (kH a b)]:=by
 refine aw a16 rfl rfl ?_
 simp only[F16,Un]
 simp(disch:=omega)only[go_sem]
 refine Br.aJ (fun h=>?_) (fun h=>?_)
 .have h0:=h
  simp(disch:=omega)only[go_sem,h0,r35a t u a b false ht hu h0]
 .simp(disch:=omega)only[go_sem,h]
end Go.Pv
