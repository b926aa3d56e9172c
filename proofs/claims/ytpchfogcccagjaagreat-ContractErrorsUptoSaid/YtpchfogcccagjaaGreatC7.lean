/-
 What the functions of the law give.
-/
import Derived.Test.YtpchfogcccagjaaGreatC6
set_option linter.unusedSimpArgs false
set_option linter.unusedVariables false
open List renaming mem_of_getElem? → Tf, getElem?_eq_some_iff → Tg, length_map → Tl, getElem?_append_left → Tp, take_of_length_le → Ts, length_take → Tt, mem_cons → Tu, length_range → Tv, eq_nil_of_length_eq_zero → Tx, mem_map → TA, getD_eq_getElem?_getD → TC, findIdx?_eq_some_iff_getElem → TG, length_append → TH, map_append → TI, getElem?_append_right → TK, take_add_one → TM, mem_append → TO, mem_cons_self → TP, getElem?_set_self → TR, getElem?_drop → TS, append_assoc → TT, ext_getElem? → TW, take_length → T4, getElem?_set_ne → T7, length_set → Ua, mem_singleton → Ue, findIdx?_eq_none_iff → Up, drop_of_length_le → Uw, foldl_cons → Uy, nodup_append → Uz, getElem_of_mem → UG, take_append_of_le_length → UK
open Nat renaming le_refl → Tj, lt_or_ge → Tm, zero_le → Uv, zero_add → UC, mul_le_mul → UM
open Bool renaming true_and → TL, eq_iff_iff → TQ
open Int renaming toNat_natCast → T0
namespace Go.Pv
def Bi (w na nb m:Nat) (r:List Bool):List V:=(nQ w na nb m).set m (dR (m+1) (bD r))
theorem Dq {w na nb m:Nat} (h:m<na):Bi w na nb m []=nQ w na nb m:=by
 unfold Bi
 apply TW
 intro i
 by_cases e:m=i
 .subst e
  rw[TR (by rw[eB (by omega)]; exact h)]
  unfold nQ dF
  rw[List.getElem?_append_right (by simp; omega),List.getElem?_replicate,if_pos (by simp; omega)]
  rfl
 .rw[T7 e]
theorem Dr {na nb m:Nat} {r:List Bool} (h:m<na) (hr:r.length=nb+1):Bi nb na (nb+1) m r=nQ nb na (nb+1) (m+1):=by
 rw[<- zT h]
 unfold Bi
 cases r with
 |nil=>simp at hr
 |cons b r=>
  obtain rfl:r.length=nb:=by simpa using hr
  simp[bD,dR]
theorem Ds {w:Nat} {M:List (List Bool)} {r:List Bool} (h:r.length=w+1):lS w M++et 1 (bD r)=lS w (M++[r]):=by
 cases r with
 |nil=>simp at h
 |cons b r=>
  obtain rfl:r.length=w:=by simpa using h
  rw[<- Dp]
  simp[bD,et]
theorem Fh {w na nb m:Nat} {r:List Bool} (h:m<na):(Bi w na nb m r)[m]?=some (dR (m+1) (bD r)):=by
 unfold Bi
 rw[TR (by rw[eB (by omega)]; exact h)]
theorem Fi {w na nb m:Nat} {r r':List Bool}:(Bi w na nb m r).set m (dR (m+1) (bD r'))=Bi w na nb m r':=by
 unfold Bi
 rw[List.set_set]
theorem Fj {w na nb m:Nat} {r:List Bool} (h:m<na):(Bi w na nb m r).length=na:=by
 unfold Bi
 rw[Ua,eB (by omega)]
theorem Fk (n k:Nat) (rows:List (List PV)) (r:List PV):(tL n k rows r).all=none:=by cases rows<;>rfl
theorem Kl (n k:Nat) (rows:List (List PV)) (r:List PV):(tL n k rows r).bx=none:=by cases rows<;>rfl
theorem Km (n k:Nat) (rows:List (List PV)) (r:List PV):(tL n k rows r).mp=none:=by cases rows<;>rfl
theorem Bj (n k:Nat) (rows:List (List PV)) (r:List PV):(tL n k rows r).lT=false:=by cases rows<;>rfl
theorem Fl {α:Type} (o:Option α) (eq:α->α->Bool):iT o none eq=true:=by cases o<;>rfl
set_option maxHeartbeats 16000000 in
theorem r478 (t u:Nat) (A0 B0:List aD) (hA:xe A0) (hB:xe B0) (hb0:1<=B0.length):res A ay 478 [.agg [.ai t (A0.map aD.c)],.agg [.ai u (B0.map aD.c)],.bool false]=some [.ai 0 (rZ (fun _=>0) (sP A0 B0))]:=by
 have la:=hA.len
 have lb:=hB.len
 obtain⟨G,hG⟩:∃G,sP A0 B0=G:=⟨_,rfl⟩
 obtain⟨w,hw⟩:∃w,B0.length=w+1:=⟨B0.length - 1,by omega⟩
 rw[hG]
 refine aq a478 rfl rfl ?_
 simp only[F478,Ji]
 simp(disch:=omega)only[go_sem]
 refine W.du A0.length (fun m=>⟨[(2,.pv (.bool false)),(3,.ptr 3 0),(4,.ptr 4 0),(7,.ptr 7 0),(22,.pv (.ai t (A0.map aD.c))),(23,.pv (.int .i64 A0.length)),(24,.pv (.int .i64 m))],⟨[(3,[.pv (.ai t (A0.map aD.c))]),(4,[.pv (.ai u (B0.map aD.c))]),(7,[.own 0 0 0 A0.length])],⟨0,1,.inr (bf (nQ w A0.length B0.length m))⟩::lS w (gj A0 B0 m),[]⟩⟩) (fun _=>True) (by rw[xd]; rfl) trivial fun m hm _=>?_
 have hxl:=eB (w:=w) (nb:=B0.length) hm
 have hbl:=(nR A0 B0 hm).len
 simp(disch:=omega)only[go_sem]
 refine Br.aB (fun h=>?_) (fun h=>?_)
 .obtain⟨x,hx⟩:=get_some (l:=A0) (k:=m) (by omega)
  simp(disch:=omega)only[go_sem,hx,Option.map_some,aD.c]
  refine W.du B0.length (fun q=>⟨[(2,.pv (.bool false)),(3,.ptr 3 0),(4,.ptr 4 0),(7,.ptr 7 0),(8,.pv (.int .i64 m)),(9,.ptr 9 0),(22,.pv (.ai t (A0.map aD.c))),(23,.pv (.int .i64 A0.length)),(24,.pv (.int .i64 m)),(30,.pv (.ai u (B0.map aD.c))),(31,.pv (.int .i64 B0.length)),(32,.pv (.int .i64 q))],⟨[(3,[.pv (.ai t (A0.map aD.c))]),(4,[.pv (.ai u (B0.map aD.c))]),(7,[.own 0 0 0 A0.length]),(9,x.c.map .pv)],⟨0,1,.inr (bf (Bi w A0.length B0.length m ((B0.take q).map (cK x))))⟩::(lS w (gj A0 B0 m)++et 1 (bD ((B0.take q).map (cK x)))),[]⟩⟩) (fun _=>True) ?_ trivial fun q hq _=>?_
  .rw[List.take_zero,List.map_nil,Dq (by omega)]
   simp[bD,et,aD.c]
  obtain⟨row,hrow⟩:∃row,(B0.take q).map (cK x)=row:=⟨_,rfl⟩
  have hrl:row.length=q:=by rw[<- hrow,Tl,Tt]; omega
  rw[hrow]
  simp(disch:=omega)only[go_sem]
  refine Br.aB (fun h=>?_) (fun h=>?_)
  .obtain⟨y,hy⟩:=get_some (l:=B0) (k:=q) (by omega)
   have h488:=r488 x y (hA.ok x (Tf hx)) (hB.ok y (Tf hy))
   have hnx:(B0.take (q+1)).map (cK x)=row++[cK x y]:=by
    rw[TM,hy,TI,hrow]
    rfl
   generalize cK x y=e at h488 hnx
   have hxg:=Fh (w:=w) (na:=A0.length) (nb:=B0.length) (m:=m) (r:=row) (by omega)
   have hxl':=Fj (w:=w) (na:=A0.length) (nb:=B0.length) (m:=m) (r:=row) (by omega)
   have hxs:=Fi (w:=w) (na:=A0.length) (nb:=B0.length) (m:=m) (r:=row) (r':=row++[e])
   have hg:=fun bx mp (a:aR)=>grow bx mp (a::lS w (gj A0 B0 m)) 1 (bD row) [.bool e] rfl (by rw[gJ]; omega)
   have hga:=fun bx mp (a:aR)=>oG bx mp (a::lS w (gj A0 B0 m)) 1 (bD row) [.bool e]
   simp only[List.length_cons,Fg,hbl,List.cons_append]at hg hga
   have hsn:bD row++[[PV.bool e]]=bD (row++[e]):=by simp[bD]
   rw[hsn]at hg hga
   have hst:=pF (id:=0) (row:=m) (aA:=0) (xs:=Bi w A0.length B0.length m row) (y:=dR (m+1) (bD (row++[e]))) (by omega) (EO _ _)
   rw[hxs]at hst
   unfold aD.c at h488
   simp(disch:=omega)only[go_sem,hst,hy,Option.map_some,aD.c,h488,hxg,List.map_cons,List.map_nil,hg,hga,Fk,Kl,Km,Bj,Fl,Option.isNone_none,Option.map_none,Bool.not_false,Bool.and_true]
   refine .of (by omega) ?_ trivial
   show _=St.mk _ _
   rw[hnx]
   rfl
  .obtain rfl:q=B0.length:=by omega
   rw[T4]at hrow
   have hf:=Dr (na:=A0.length) (nb:=w) (m:=m) (r:=row) (by omega) (by omega)
   rw[<- hw]at hf
   have hba:=Ds (w:=w) (M:=gj A0 B0 m) (r:=row) (by omega)
   simp(disch:=omega)only[go_sem]
   refine .of (by omega) ?_ trivial
   show _=St.mk _ _
   rw[ub _ _ hx,hrow,hba,hf]
   rfl
 .obtain rfl:m=A0.length:=by omega
  clear h hxl hbl
  simp(disch:=omega)only[go_sem]
  generalize hna:A0.length=na at *
  generalize hnb:B0.length=nb at *
  have hM0:j9 na nb (gj A0 B0 na):=by
   have:=nR A0 B0 (Tj _)
   rw[hna,hnb]at this
   exact this
  have hB0:Below A0 B0 (gj A0 B0 na):=fun p q he=>by
   rw[<- hna]at he
   exact sh he
  have hG':w6 (je A0 B0) na nb (gj A0 B0 na)=G:=by
   rw[<- hG,<- hna,<- hnb]
   rfl
  have hrt:(bf (nQ w na nb na)).take na=bf (nQ w na nb na):=Ts (by rw[jq,eB (Tj _)]; exact Tj _)
  have hxl:=eB (w:=w) (na:=na) (nb:=nb) (Tj _)
  refine W.wX (fun(s:List (List Bool)×Bool)=>⟨[(3,.ptr 3 0),(4,.ptr 4 0),(7,.ptr 7 0),(12,.pv (.bool s.2))],⟨[(3,[.pv (.ai t (A0.map aD.c))]),(4,[.pv (.ai u (B0.map aD.c))]),(7,[.own 0 0 0 na])],⟨0,1,.inr (bf (nQ w na nb na))⟩::lS w s.1,[]⟩⟩) (fun s=>E8 G (je A0 B0) na nb s/\Below A0 B0 s.1) Be (gj A0 B0 na,true) rfl ⟨⟨hM0,hG'⟩,hB0⟩ fun s hs=>?_
  obtain⟨M,f⟩:=s
  obtain⟨hs,hb⟩:=hs
  dsimp only at hb
  cases f with
  |false=>
   have hkp:=ua (w:=w) hs.1
   have hMG:M=G:=hs.2
   subst hMG
   simp(disch:=omega)only[go_sem,hrt,hkp]
  |true=>
   have hM:=hs.1
   dsimp only at hM
   simp(disch:=omega)only[go_sem]
   refine W.tM na (yL (je A0 B0) nb) (M,false) (fun p s=>⟨[(3,.ptr 3 0),(4,.ptr 4 0),(7,.ptr 7 0),(12,.pv (.bool s.2)),(53,.pv (.ai t (A0.map aD.c))),(54,.pv (.int .i64 na)),(55,.pv (.int .i64 p))],⟨[(3,[.pv (.ai t (A0.map aD.c))]),(4,[.pv (.ai u (B0.map aD.c))]),(7,[.own 0 0 0 na])],⟨0,1,.inr (bf (nQ w na nb na))⟩::lS w s.1,[]⟩⟩) (fun _ s=>j9 na nb s.1/\Below A0 B0 s.1) (by simp only[hna]; rfl) ⟨hM,hb⟩ (fun p s hp _ hi=>?_) (fun s hse hi=>?_)
   .obtain⟨x,hx⟩:=get_some (l:=A0) (k:=p) (by omega)
    have hxm:=Tf hx
    have h490:=r490 x (hA.short x hxm) (hA.kind x hxm)
    unfold aD.c at h490
    simp(disch:=omega)only[go_sem]
    refine Br.aB (fun h=>?_) (fun h=>(h (by omega)).elim)
    simp(disch:=omega)only[go_sem,hx,Option.map_some,aD.c]
    refine W.tM nb (xn (je A0 B0) p) s (fun q s=>⟨[(3,.ptr 3 0),(4,.ptr 4 0),(7,.ptr 7 0),(12,.pv (.bool s.2)),(13,.pv (.int .i64 p)),(14,.ptr 14 0),(53,.pv (.ai t (A0.map aD.c))),(54,.pv (.int .i64 na)),(55,.pv (.int .i64 p)),(61,.pv (.ai u (B0.map aD.c))),(62,.pv (.int .i64 nb)),(63,.pv (.int .i64 q))],⟨[(3,[.pv (.ai t (A0.map aD.c))]),(4,[.pv (.ai u (B0.map aD.c))]),(7,[.own 0 0 0 na]),(14,x.c.map .pv)],⟨0,1,.inr (bf (nQ w na nb na))⟩::lS w s.1,[]⟩⟩) (fun _ s=>j9 na nb s.1/\Below A0 B0 s.1) (by simp only[hnb]; rfl) hi (fun q s hq _ hi=>?_) (fun s hse hi=>?_)
    .obtain⟨N,f⟩:=s
     obtain⟨hN,hNb⟩:=hi
     dsimp only at hN hNb
     obtain⟨l,e1,e2,e3⟩:=hN.get (p:=(p:Int)) (q:=(q:Int)) (by omega) (by omega)
     rw[T0]at e1 e3
     obtain⟨y,hy⟩:=get_some (l:=B0) (k:=q) (by omega)
     have hym:=Tf hy
     have h490':=r490 y (hB.short y hym) (hB.kind y hym)
     unfold aD.c at h490'
     have hld:=tZ (w:=w) hN
     have hxg:=qn (w:=w) (na:=na) (nb:=nb) (m:=na) (i:=p) (by omega) (by omega)
     have hset:lS w (N.set p (l.set q false))=lS w (mu N p q):=by
      unfold mu
      rw[TC,e1]
      rfl
     have hst:xn (je A0 B0) p (N,f) q=if (fq N p q&&!w5 N x y)=true then (mu N p q,true) else (N,f):=by
      unfold xn je
      rw[gk hx,gk hy]
     have hin:j9 na nb (xn (je A0 B0) p (N,f) q).1/\Below A0 B0 (xn (je A0 B0) p (N,f) q).1:=by
      refine⟨yN hN hp,?_⟩
      rw[hst]
      split
      .exact hNb.set hN hp hq
      .exact hNb
     have hul:=sf x
     have hxs:=(hA.short x hxm).aS
     have hul':=sf y
     have hys:=(hB.short y hym).aS
     have h489:=fun t u s v=>r489 t u s v na nb (fun _=>1) (gO x) (gO y) N hN (by omega) (hna ▸ hA.use x hxm) (hnb ▸ hB.use y hym) (by omega) (by omega)
     have hrel:w5 N x y=sN (fun u v=>fq N u.2 v.2) (gO x) (gO y):=rfl
     rw[<- hrel]at h489
     generalize w5 N x y=r at h489 hst
     simp(disch:=omega)only[go_sem,hxg,e1]
     refine Br.aB (fun h=>?_) (fun h=>(h (by omega)).elim)
     simp(disch:=omega)only[go_sem,hy,Option.map_some,aD.c]
     cases he:fq N p q with
     |false=>
      rw[he]at e3 hst
      rw[if_neg (by simp)]at hst
      simp(disch:=omega)only[go_sem,hxg,e1,e3]
      rw[hst]at hin |-
      exact bQ.of rfl hin
     |true=>
      rw[he]at e3 hst
      rw[TL]at hst
      simp(disch:=omega)only[go_sem,hxg,e1,e3,hrt,hld,h490,h490',h489]
      cases r with
      |true=>
       rw[if_neg (by simp)]at hst
       simp(disch:=omega)only[go_sem]
       rw[hst]at hin |-
       exact bQ.of rfl hin
      |false=>
       rw[if_pos (by simp)]at hst
       simp(disch:=omega)only[go_sem,hxg,e1,hset]
       rw[hst]at hin |-
       exact bQ.of rfl hin
    .have hr:yL (je A0 B0) nb _ p=s:=hse.symm
     simp(disch:=omega)only[go_sem]
     rw[hr]
     exact bQ.of rfl hi
   .have hr:De (je A0 B0) na nb (M,false)=s:=hse.symm
    have hk:=w7 hs (Dg hs.1)
    rw[hr]at hk
    simp(disch:=omega)only[go_sem]
    exact⟨s,⟨hk.1,hi.2⟩,hk.2,rfl⟩
theorem Fm {p:aD} (h:eV p=true):1<=p.kind:=by
 unfold eV at h
 simp only[Bool.and_eq_true,decide_eq_true_eq]at h
 exact h.1.1
structure VT (A:List aD):Prop where
 l:A.length<=2147483648
 o:∀t∈A,t.ok
 s:∀t∈A,t.short
 v:ct A=0
theorem VT.sy {A:List aD} (h:VT A):xe A:=by
 have hs:=dm h.v
 exact⟨h.o,h.s,hs.len,fun t ht=>rG (hs.own t ht),fun t ht u hu=>hs.KE t ht _ (Bh hu ⟨Fm (hs.own t ht),rG (hs.own t ht)⟩)⟩
theorem r477 (t:Nat) (A0:List aD) (x:Int) (h:VT A0) (hx:0<=x/\x<A0.length):res A ay 477 [.agg [.ai t (A0.map aD.c),.int .i64 x]]=some [.int .i64 0]:=by
 have h267:=fun v=>r267 v A0 h.l h.o h.s
 rw[h.v]at h267
 have hl:=h.l
 obtain⟨x0,x1⟩:=hx
 have e1:decide (x<0)=false:=decide_eq_false (by omega)
 have e2:decide ((A0.length:Int)<=x)=false:=decide_eq_false (by omega)
 refine aq a477 rfl rfl ?_
 simp only[F477,Jh]
 simp(disch:=omega)only[go_sem,h267,e1,e2]
theorem r492 (t:Nat) (A0:List aD) (x:Int) (h:VT A0) (hx:0<=x/\x<A0.length):res A ay 492 [.agg [.ai t (A0.map aD.c),.int .i64 x]]=some [.int .i64 0]:=by
 have h268:=fun v=>r268 v A0 h.l h.o h.s
 rw[h.v]at h268
 have hl:=h.l
 obtain⟨x0,x1⟩:=hx
 have e1:decide (x<0)=false:=decide_eq_false (by omega)
 have e2:decide ((A0.length:Int)<=x)=false:=decide_eq_false (by omega)
 refine aq a492 rfl rfl ?_
 simp only[F492,Jw]
 simp(disch:=omega)only[go_sem,h268,e1,e2]
noncomputable def cZ (A B:List aD) (x y:Int):Bool:=fq (sP A B) x y
theorem qo (A B:List aD):j9 A.length B.length (sP A B):=Fb (nR A B (Tj _))
theorem r468 (t u:Nat) (A0 B0:List aD) (x y:Int) (hA:VT A0) (hB:VT B0) (hx:0<=x/\x<A0.length) (hy:0<=y/\y<B0.length):res A ay 468 [.agg [.ai t (A0.map aD.c),.int .i64 x],.agg [.ai u (B0.map aD.c),.int .i64 y],.bool false]=some [.bool (cZ A0 B0 x y)]:=by
 have h1:=fun t=>r477 t A0 x hA hx
 have h2:=fun t=>r477 t B0 y hB hy
 have h3:=fun t u=>r478 t u A0 B0 hA.sy hB.sy (by omega)
 obtain⟨l,g1,g2,g3⟩:=(qo A0 B0).get hx hy
 have g4:=(qo A0 B0).len
 have hw:fq (sP A0 B0) x y=cZ A0 B0 x y:=rfl
 rw[hw]at g3
 generalize cZ A0 B0 x y=G at *
 generalize sP A0 B0=M at *
 have hal:=hA.sy.len
 have hbl:=hB.sy.len
 obtain⟨x0,x1⟩:=hx
 obtain⟨y0,y1⟩:=hy
 refine aq a468 rfl rfl ?_
 simp only[F468,I8]
 simp(disch:=omega)only[go_sem,h1,h2,h3,dv,g1,g3]
theorem r479 (t u:Nat) (A0 B0:List aD) (x y:Int) (hA:VT A0) (hB:VT B0) (hx:0<=x/\x<A0.length) (hy:0<=y/\y<B0.length):res A ay 479 [.agg [.ai t (A0.map aD.c),.int .i64 x],.agg [.ai u (B0.map aD.c),.int .i64 y],.bool false]=some [.bool (cZ A0 B0 x y)]:=by
 have h1:=fun t=>r492 t A0 x hA hx
 have h2:=fun t=>r492 t B0 y hB hy
 have h3:=fun t u=>r493 t u A0 B0 hA.sy hB.sy
 obtain⟨l,g1,g2,g3⟩:=(qo A0 B0).get hx hy
 have g4:=(qo A0 B0).len
 have hw:fq (sP A0 B0) x y=cZ A0 B0 x y:=rfl
 rw[hw]at g3
 generalize cZ A0 B0 x y=G at *
 generalize sP A0 B0=M at *
 have hal:=hA.sy.len
 have hbl:=hB.sy.len
 obtain⟨x0,x1⟩:=hx
 obtain⟨y0,y1⟩:=hy
 refine aq a479 rfl rfl ?_
 simp only[F479,Jj]
 simp(disch:=omega)only[go_sem,h1,h2,h3,dv,g1,g3]
theorem r456 (t u:Nat) (A0 B0:List aD) (x y:Int) (hA:VT A0) (hB:VT B0) (hx:0<=x/\x<A0.length) (hy:0<=y/\y<B0.length):res A ay 456 [.agg [.ai t (A0.map aD.c),.int .i64 x],.agg [.ai u (B0.map aD.c),.int .i64 y]]=some [.bool (cZ A0 B0 x y)]:=by
 have h1:=fun t u=>r468 t u A0 B0 x y hA hB hx hy
 refine aq a456 rfl rfl ?_
 simp only[F456,IZ]
 simp(disch:=omega)only[go_sem,h1]
theorem r469 (t u:Nat) (A0 B0:List aD) (x y:Int) (hA:VT A0) (hB:VT B0) (hx:0<=x/\x<A0.length) (hy:0<=y/\y<B0.length):res A ay 469 [.agg [.ai t (A0.map aD.c),.int .i64 x],.agg [.ai u (B0.map aD.c),.int .i64 y]]=some [.bool (cZ A0 B0 x y)]:=by
 have h1:=fun t u=>r479 t u A0 B0 x y hA hB hx hy
 refine aq a469 rfl rfl ?_
 simp only[F469,I9]
 simp(disch:=omega)only[go_sem,h1]
theorem r458 (t1 t2 t3 t4 u1 u2 u3 u4:Nat) (v w:iN) (x y:Int) (hA:VT v.types) (hB:VT w.types) (hx:0<=x/\x<v.types.length) (hy:0<=y/\y<w.types.length):res A ay 458 [.agg (dc t1 t2 t3 t4 v),.int .i64 x,.agg (dc u1 u2 u3 u4 w),.int .i64 y]=some [.bool (cZ v.types w.types x y)]:=by
 have h1:=fun t u=>r469 t u v.types w.types x y hA hB hx hy
 refine aq a458 rfl rfl ?_
 simp only[F458,I0,dc]
 simp(disch:=omega)only[go_sem,h1]
def Dt (R:Int->Int->Prop):Option Int->Option Int->Prop
 |none,none=>True
 |some x,some y=>R x y
 |_,_=>False
theorem Dt.mono {R S:Int->Int->Prop} {x y:Option Int} (h:∀a b,x=some a->y=some b->R a b->S a b) (hr:Dt R x y):Dt S x y:=by
 cases x<;>cases y<;>simp_all [Dt]
def Ev (a b:List Edge):Nat->Int->Int->Prop
 |0,_,_=>True
 |j+1,p,q=>∀d x,Dt (Ev a b j) (aU p d x a) (aU q d x b)
theorem Ev.down {a b:List Edge}:∀{j:Nat} {p q:Int},Ev a b (j+1) p q->Ev a b j p q
 |0,_,_,_=>trivial
 |_j+1,_p,_q,h=>fun d x=>(h d x).mono fun _ _ _ _ hr=>Ev.down hr
theorem Ev.le {a b:List Edge} {j k:Nat} {p q:Int} (hk:k<=j) (h:Ev a b j p q):Ev a b k p q:=by
 induction j with
 |zero=>
  obtain rfl:k=0:=by omega
  exact h
 |succ j ih=>
  rcases Tm j k with h1|h1
  .obtain rfl:k=j+1:=by omega
   exact h
  .exact ih h1 h.down
theorem aO.Good.ft {a:aO} (h:a.Good) {p t:Int} {d:Bool} {x:Int} (hn:aU p d x a.aa=some t):a.inr t:=by
 have:=ew.1 (h.fit _ ((cW h.nw).1 hn))
 exact⟨this.2.2.1,this.2.2.2.1⟩
theorem si {α:Type} {p q:α->Bool}:∀{l:List α},(∀x∈l,q x=true->p x=true)->(l.filter q).length<=(l.filter p).length/\((l.filter q).length=(l.filter p).length->∀x∈l,p x=true->q x=true)
 |[],_=>⟨Tj _,fun _ x hx=>by cases hx⟩
 |y::l,h=>by
  obtain⟨h1,h2⟩:=si (l:=l) fun x hx=>h x (by simp[hx])
  have hy:=h y (by simp)
  cases hq:q y<;>cases hp:p y<;>simp only[List.filter_cons,hq,hp,if_true,if_false,Bool.false_eq_true,List.length_cons]
  .refine⟨h1,fun he x hx hpx=>?_⟩
   rcases Tu.1 hx with rfl|hx
   .rw[hp]at hpx; cases hpx
   .exact h2 he x hx hpx
  .exact⟨by omega,fun he=>by omega⟩
  .rw[hq,hp]at hy
   cases hy rfl
  .refine⟨by omega,fun he x hx hpx=>?_⟩
   rcases Tu.1 hx with rfl|hx
   .exact hq
   .exact h2 (by omega) x hx hpx
open Classical in
theorem Ev.Kn {a b:aO} (ha:a.Good) (hb:b.Good) {p q:Int} (hp:a.inr p) (hq:b.inr q) (h:Ev a.aa b.aa (a.af.toNat*b.af.toNat) p q):∀j,Ev a.aa b.aa j p q:=by
 let prsL:List (Int×Int):=(iota a.af.toNat).flatMap fun p=>(iota b.af.toNat).map fun q=>(p,q)
 have hlen:prsL.length=a.af.toNat*b.af.toNat:=by
  have:∀l:List Int,(l.flatMap fun p=>(iota b.af.toNat).map fun q=>(p,q)).length=l.length*b.af.toNat:=by
   intro l
   induction l with
   |nil=>simp
   |cons x l ih=>rw[List.flatMap_cons,List.length_append,ih]; simp[iota]; rw[Nat.add_mul]; omega
  have h2:=this (iota a.af.toNat)
  rw[show (iota a.af.toNat).length=a.af.toNat by simp[iota]]at h2
  exact h2
 have hmem:∀{p q:Int},a.inr p->b.inr q->(p,q)∈prsL:=fun {p q} hp hq=>by
  rw[List.mem_flatMap]
  unfold aO.inr at hp hq
  exact⟨p,nG.2 (by omega),TA.2 ⟨q,nG.2 (by omega),rfl⟩⟩
 let S:Nat->List (Int×Int):=fun j=>prsL.filter fun x=>decide (Ev a.aa b.aa j x.1 x.2)
 have hS:∀j,(S (j+1)).length<=(S j).length/\((S (j+1)).length=(S j).length->∀x∈prsL,Ev a.aa b.aa j x.1 x.2->Ev a.aa b.aa (j+1) x.1 x.2):=fun j=>by
  obtain⟨h1,h2⟩:=si (l:=prsL) (p:=fun x=>decide (Ev a.aa b.aa j x.1 x.2)) (q:=fun x=>decide (Ev a.aa b.aa (j+1) x.1 x.2)) (fun x _ hx=>by
   simp only[decide_eq_true_eq]at hx |-
   exact hx.down)
  refine⟨h1,fun he x hx hv=>?_⟩
  have:=h2 he x hx (by simpa using hv)
  simpa using this
 have h0:(S 0).length<=a.af.toNat*b.af.toNat:=by
  rw[<- hlen]
  exact List.length_filter_le _ _
 obtain⟨j,hj,hje⟩:∃j,j<=a.af.toNat*b.af.toNat/\(S (j+1)).length=(S j).length:=by
  apply Classical.byContradiction
  intro hno
  have hall:∀j,j<=a.af.toNat*b.af.toNat+1->(S j).length+j<=a.af.toNat*b.af.toNat:=by
   intro j
   induction j with
   |zero=>intro _; simpa using h0
   |succ j ih=>
    intro hj
    have h1:=ih (by omega)
    have h2:=(hS j).1
    have h3:(S (j+1)).length≠(S j).length:=fun e=>hno ⟨j,by omega,e⟩
    omega
  have:=hall (a.af.toNat*b.af.toNat+1) (Tj _)
  omega
 have hst:∀k,∀{p q:Int},a.inr p->b.inr q->Ev a.aa b.aa j p q->Ev a.aa b.aa (j+k) p q:=by
  intro k
  induction k with
  |zero=>intro p q _ _ h; exact h
  |succ k ih=>
   intro p q hp hq h
   have h1:=(hS j).2 hje (p,q) (hmem hp hq) h
   intro d x
   exact(h1 d x).mono fun s t hs ht hr=>ih (ha.ft hs) (hb.ft ht) hr
 intro k
 rcases Tm k j with hk|hk
 .exact h.le (by omega)
 .have:=hst (k - j) hp hq (h.le hj)
  rwa [show j+(k - j)=k by omega]at this
open Classical in
noncomputable def ai (a b:List Edge):Nat->Int->Int->Nat
 |0,_,_=>0
 |k+1,p,q=>if ai a b k p q≠0 then ai a b k p q else if Ev a b (k+1) p q then 0 else k+1
theorem iD {a b:List Edge}:∀{k:Nat} {p q:Int},ai a b k p q=0↔Ev a b k p q
 |0,_,_=>by simp[ai,Ev]
 |k+1,p,q=>by
  have ih:=iD (a:=a) (b:=b) (k:=k) (p:=p) (q:=q)
  unfold ai
  by_cases h:ai a b k p q=0
  .rw[if_neg (by simp[h])]
   by_cases h2:Ev a b (k+1) p q
   .simp[h2]
   .simp[h2]
  .rw[if_pos h]
   exact⟨fun h'=>(h h').elim,fun h'=>(h (ih.2 h'.down)).elim⟩
theorem iF {a b:List Edge} {m:Nat} {p q:Int}:∀{k:Nat},ai a b k p q=m+1↔m+1<=k/\Ev a b m p q/\¬Ev a b (m+1) p q
 |0=>by simp[ai]
 |k+1=>by
  have ih:=iF (a:=a) (b:=b) (m:=m) (p:=p) (q:=q) (k:=k)
  have hz:=iD (a:=a) (b:=b) (k:=k) (p:=p) (q:=q)
  unfold ai
  by_cases h:ai a b k p q=0
  .rw[if_neg (by simp[h])]
   have hk:=hz.1 h
   by_cases h2:Ev a b (k+1) p q
   .rw[if_pos h2]
    constructor
    .intro h'; cases h'
    .rintro ⟨h3,h4,h5⟩
     exact(h5 (h2.le h3)).elim
   .rw[if_neg h2]
    constructor
    .intro h'
     obtain rfl:k=m:=by omega
     exact⟨Tj _,hk,h2⟩
    .rintro ⟨h3,h4,h5⟩
     rcases Tm m k with h6|h6
     .exact(h5 (hk.le h6)).elim
     .omega
  .rw[if_pos h,ih]
   constructor
   .rintro ⟨h3,h4,h5⟩
    exact⟨by omega,h4,h5⟩
   .rintro ⟨h3,h4,h5⟩
    refine⟨?_,h4,h5⟩
    rcases Tm m k with h6|h6
    .exact h6
    .obtain rfl:m=k:=by omega
     exact(h (hz.2 h4)).elim
theorem cO {es:List Edge} {p:Int} {e:Edge}:e∈aH es p↔e∈es/\e.fr=p:=by simp[aH]
theorem uc {a b:List Edge} (ha:a.Pairwise (nw Edge.lt)) {p q:Int}:(kU a b p q).isSome=true↔∃d x t,aU p d x a=some t/\aU q d x b=none:=by
 unfold kU
 rw[List.find?_isSome]
 constructor
 .rintro ⟨e,he,hn⟩
  obtain⟨h1,rfl⟩:=cO.1 he
  exact⟨e.send,e.label,e.to,(cW ha).2 h1,by simpa using hn⟩
 .rintro ⟨d,x,t,h1,h2⟩
  exact⟨⟨p,d,x,t⟩,cO.2 ⟨(cW ha).1 h1,rfl⟩,by simp[h2]⟩
theorem zV {a b:List Edge} (ha:a.Pairwise (nw Edge.lt)) (hb:b.Pairwise (nw Edge.lt)) {p q:Int}:zQ a b p q=true↔¬Ev a b 1 p q:=by
 unfold zQ
 rw[Bool.or_eq_true,uc ha,uc hb]
 constructor
 .rintro (⟨d,x,t,h1,h2⟩|⟨d,x,t,h1,h2⟩) h
  .have:=h d x
   rw[h1,h2]at this
   exact this
  .have:=h d x
   rw[h1,h2]at this
   exact this
 .intro h
  apply Classical.byContradiction
  intro hno
  apply h
  intro d x
  cases h1:aU p d x a with
  |none=>
   cases h2:aU q d x b with
   |none=>trivial
   |some t=>exact(hno (.inr ⟨d,x,t,h2,h1⟩)).elim
  |some t=>
   cases h2:aU q d x b with
   |none=>exact(hno (.inl ⟨d,x,t,h1,h2⟩)).elim
   |some u=>trivial
theorem oW {a b:List Edge} (ha:a.Pairwise (nw Edge.lt)) {M:List (List Int)} {p q k:Int}:(iC a b M p q k).isSome=true↔∃d x t u,aU p d x a=some t/\aU q d x b=some u/\mz M t u=k:=by
 unfold iC
 rw[List.find?_isSome]
 constructor
 .rintro ⟨e,he,hn⟩
  obtain⟨h1,rfl⟩:=cO.1 he
  unfold pJ at hn
  split at hn
  .rename_i u hu
   exact⟨e.send,e.label,e.to,u,(cW ha).2 h1,hu,by simpa using hn⟩
  .cases hn
 .rintro ⟨d,x,t,u,h1,h2,h3⟩
  exact⟨⟨p,d,x,t⟩,cO.2 ⟨(cW ha).1 h1,rfl⟩,by simp[pJ,h2,h3]⟩
theorem Fo {na nb p q p' q':Nat} {M:List (List Int)} {v:Int} (h:fC na nb M) (hp:p<na) (hq:q<nb) (hp':p'<na):mz (xc M p q v) p' q'=if p=p'/\q=q' then v else mz M p' q':=by
 have hl:p<M.length:=by rw[h.len]; exact hp
 have hr:(M.getD p []).length=nb:=h.row _ (by
  have:M[p]?=some (M.getD p []):=by simp[hl]
  exact Tf this)
 have hgs:∀r:List Int,(M.set p r).getD p' []=if p=p' then r else M.getD p' []:=fun r=>by
  simp only[List.getD_eq_getElem?_getD,List.getElem?_set]
  by_cases e:p=p'
  .subst e
   simp[hl]
  .simp[e]
 unfold mz xc
 simp only[Int.toNat_natCast]
 rw[hgs]
 by_cases e:p=p'
 .subst e
  rw[if_pos rfl,A9 (by rw[hr]; exact hq)]
  simp
 .simp[e]
noncomputable def yQ (a b:List Edge) (M:List (List Int)) (k:Int) (p q:Nat):Int:=if (iC a b M p q k).isSome=true/\mz M p q=0 then k+1 else mz M p q
theorem Bk {a b:aO} (ha:a.Good) (hb:b.Good) {M M':List (List Int)} {k p q:Int} (h:∀s t:Int,a.inr s->b.inr t->(mz M' s t=k↔mz M s t=k)):(iC a.aa b.aa M' p q k).isSome=(iC a.aa b.aa M p q k).isSome:=by
 rw[TQ,oW ha.nw,oW ha.nw]
 constructor
 .rintro ⟨d,x,t,u,h1,h2,h3⟩
  exact⟨d,x,t,u,h1,h2,(h t u (ha.ft h1) (hb.ft h2)).1 h3⟩
 .rintro ⟨d,x,t,u,h1,h2,h3⟩
  exact⟨d,x,t,u,h1,h2,(h t u (ha.ft h1) (hb.ft h2)).2 h3⟩
theorem Bl {a b:List Edge} {M:List (List Int)} {k:Int} (hk:1<=k) {p q:Nat}:yQ a b M k p q=k↔mz M p q=k:=by
 unfold yQ
 split
 .rename_i h
  rw[h.2]
  omega
 .rfl
theorem Bm {a b:aO} (ha:a.Good) (hb:b.Good) {M:List (List Int)} {k:Int} (hk:1<=k) (hM:fC a.af.toNat b.af.toNat M):fC a.af.toNat b.af.toNat (u5 a.aa b.aa a.af.toNat b.af.toNat k M)/\
  ∀p q:Nat,p<a.af.toNat->q<b.af.toNat->mz (u5 a.aa b.aa a.af.toNat b.af.toNat k M) p q=yQ a.aa b.aa M k p q:=by
 let Inv:Nat->Nat->List (List Int)->Prop:=fun P Q M'=>fC a.af.toNat b.af.toNat M'/\∀p q:Nat,p<a.af.toNat->q<b.af.toNat->mz M' p q=if p<P\/(p=P/\q<Q) then yQ a.aa b.aa M k p q else mz M p q
 have hin:∀P,P<a.af.toNat->∀Q,Q<=b.af.toNat->∀M',Inv P 0 M'->Inv P Q ((List.range Q).foldl (nO a.aa b.aa k P) M'):=by
  intro P hP Q
  induction Q with
  |zero=>intro _ M' h; exact h
  |succ Q ih=>
   intro hQ M' h
   rw[List.range_succ,List.foldl_append]
   obtain⟨h1,h2⟩:=ih (by omega) M' h
   generalize (List.range Q).foldl (nO a.aa b.aa k P) M'=N at h1 h2
   have hsame:(iC a.aa b.aa N P Q k).isSome=(iC a.aa b.aa M P Q k).isSome:=Bk ha hb fun s t hs ht=>by
    unfold aO.inr at hs ht
    have:=h2 s.toNat t.toNat (by omega) (by omega)
    rw[show ((s.toNat:Nat):Int)=s by omega,show ((t.toNat:Nat):Int)=t by omega]at this
    rw[this]
    split
    .have h3:=Bl (a:=a.aa) (b:=b.aa) (M:=M) hk (p:=s.toNat) (q:=t.toNat)
     rw[show ((s.toNat:Nat):Int)=s by omega,show ((t.toNat:Nat):Int)=t by omega]at h3
     exact h3
    .rfl
   have hent:mz N P Q=mz M P Q:=by
    rw[h2 P Q hP (by omega),if_neg (by omega)]
   show Inv P (Q+1) (nO a.aa b.aa k P N Q)
   have hnew:yQ a.aa b.aa M k P Q=if (iC a.aa b.aa N P Q k).isSome=true/\mz N P Q=0 then k+1 else mz M P Q:=by
    unfold yQ
    rw[hsame,hent]
   unfold nO
   split
   .rename_i hc
    rw[if_pos hc]at hnew
    refine⟨zS h1 hP,fun p q hp hq=>?_⟩
    rw[Fo h1 hP (by omega) hp]
    by_cases e:P=p/\Q=q
    .obtain⟨rfl,rfl⟩:=e
     rw[if_pos ⟨rfl,rfl⟩,if_pos (by omega),hnew]
    .rw[if_neg e,h2 p q hp hq]
     by_cases h3:p<P\/(p=P/\q<Q)
     .rw[if_pos h3,if_pos (by omega)]
     .rw[if_neg h3,if_neg (by omega)]
   .rename_i hc
    rw[if_neg hc]at hnew
    refine⟨h1,fun p q hp hq=>?_⟩
    rw[h2 p q hp hq]
    by_cases e:P=p/\Q=q
    .obtain⟨rfl,rfl⟩:=e
     rw[if_neg (by omega),if_pos (by omega),hnew]
    .by_cases h3:p<P\/(p=P/\q<Q)
     .rw[if_pos h3,if_pos (by omega)]
     .rw[if_neg h3,if_neg (by omega)]
 have hout:∀P,P<=a.af.toNat->Inv P 0 ((List.range P).foldl (Fe a.aa b.aa b.af.toNat k) M):=by
  intro P
  induction P with
  |zero=>exact fun _=>⟨hM,fun p q _ _=>by rw[if_neg (by omega)]; rfl⟩
  |succ P ih=>
   intro hP
   rw[List.range_succ,List.foldl_append]
   obtain⟨h1,h2⟩:=hin P (by omega) b.af.toNat (Tj _) _ (ih (by omega))
   refine⟨h1,fun p q hp hq=>?_⟩
   have:=h2 p q hp hq
   refine this.trans ?_
   by_cases h3:p<P\/(p=P/\q<b.af.toNat)
   .rw[if_pos h3,if_pos (by omega)]
   .rw[if_neg h3,if_neg (by omega)]
 obtain⟨h1,h2⟩:=hout a.af.toNat (Tj _)
 refine⟨h1,fun p q hp hq=>?_⟩
 exact(h2 p q hp hq).trans (by rw[if_pos (by omega)])
theorem sj {a b:aO} (ha:a.Good) (hb:b.Good):∀j,fC a.af.toNat b.af.toNat (nP a.aa b.aa a.af.toNat b.af.toNat j)/\
  ∀p q:Nat,p<a.af.toNat->q<b.af.toNat->mz (nP a.aa b.aa a.af.toNat b.af.toNat j) p q=(ai a.aa b.aa (j+1) p q:Int)
 |0=>by
  refine⟨xb _ _ _ _,fun p q hp hq=>?_⟩
  have hbl:Bg a.aa b.aa b.af.toNat p b.af.toNat=(List.range b.af.toNat).map fun(q:Nat)=>D0 (zQ a.aa b.aa p q):=by
   have:=jX (fun(q:Nat)=>D0 (zQ a.aa b.aa p q)) 0 (List.range b.af.toNat)
   rw[Tv]at this
   exact this
  have he:mz (nP a.aa b.aa a.af.toNat b.af.toNat 0) p q=D0 (zQ a.aa b.aa p q):=by
   unfold mz nP jr
   simp only[Int.toNat_natCast,List.getD_eq_getElem?_getD,List.getElem?_map,List.getElem?_range hp,Option.map_some,Option.getD_some,hbl,List.getElem?_range hq]
  rw[he]
  have h1:=iD (a:=a.aa) (b:=b.aa) (k:=1) (p:=p) (q:=q)
  have h2:=iF (a:=a.aa) (b:=b.aa) (m:=0) (k:=1) (p:=p) (q:=q)
  by_cases hl:zQ a.aa b.aa p q=true
  .have:=h2.2 ⟨Tj _,trivial,(zV ha.nw hb.nw).1 hl⟩
   rw[this,hl]
   rfl
  .have hz:=h1.2 (Classical.byContradiction fun hn=>hl ((zV ha.nw hb.nw).2 hn))
   rw[hz]
   simp[D0,hl]
 |j+1=>by
  obtain⟨h1,h2⟩:=sj ha hb j
  obtain⟨g1,g2⟩:=Bm ha hb (k:=((j+1:Nat):Int)) (by omega) h1
  refine⟨g1,fun p q hp hq=>?_⟩
  have hg:=g2 p q hp hq
  have hd:nP a.aa b.aa a.af.toNat b.af.toNat (j+1)=u5 a.aa b.aa a.af.toNat b.af.toNat ((j+1:Nat):Int) (nP a.aa b.aa a.af.toNat b.af.toNat j):=rfl
  rw[hd,hg]
  unfold yQ
  rw[h2 p q hp hq]
  by_cases h0:ai a.aa b.aa (j+1) p q=0
  .have hev:=iD.1 h0
   have hn:(iC a.aa b.aa (nP a.aa b.aa a.af.toNat b.af.toNat j) p q ((j+1:Nat):Int)).isSome=true↔¬Ev a.aa b.aa (j+2) p q:=by
    rw[oW ha.nw]
    constructor
    .rintro ⟨d,x,t,u,e1,e2,e3⟩ hc
     have ht:=ha.ft e1
     have hu:=hb.ft e2
     unfold aO.inr at ht hu
     have h3:=h2 t.toNat u.toNat (by omega) (by omega)
     rw[show ((t.toNat:Nat):Int)=t by omega,show ((u.toNat:Nat):Int)=u by omega]at h3
     rw[h3]at e3
     have h4:=(iF (m:=j)).1 (show ai a.aa b.aa (j+1) t u=j+1 by omega)
     have h5:=hc d x
     rw[e1,e2]at h5
     exact h4.2.2 h5
    .intro hc
     apply Classical.byContradiction
     intro hno
     apply hc
     intro d x
     have h6:=hev d x
     cases e1:aU p d x a.aa with
     |none=>
      cases e2:aU q d x b.aa with
      |none=>trivial
      |some u=>rw[e1,e2]at h6; exact h6
     |some t=>
      cases e2:aU q d x b.aa with
      |none=>rw[e1,e2]at h6; exact h6
      |some u=>
       rw[e1,e2]at h6
       show Ev a.aa b.aa (j+1) t u
       apply Classical.byContradiction
       intro h7
       apply hno
       have ht:=ha.ft e1
       have hu:=hb.ft e2
       unfold aO.inr at ht hu
       have h3:=h2 t.toNat u.toNat (by omega) (by omega)
       rw[show ((t.toNat:Nat):Int)=t by omega,show ((u.toNat:Nat):Int)=u by omega]at h3
       exact⟨d,x,t,u,e1,e2,by rw[h3,(iF (m:=j)).2 ⟨Tj _,h6,h7⟩]⟩
   by_cases hE:Ev a.aa b.aa (j+2) p q
   .rw[if_neg (fun hc=>(hn.1 hc.1) hE),h0,iD.2 hE]
   .rw[if_pos ⟨hn.2 hE,by rw[h0]; rfl⟩,(iF (m:=j+1)).2 ⟨Tj _,hev,hE⟩]
    omega
  .have hne:¬((ai a.aa b.aa (j+1) p q:Int)=0):=by omega
   rw[if_neg (fun hc=>hne hc.2)]
   congr 1
   obtain⟨m,hm⟩:∃m,ai a.aa b.aa (j+1) p q=m+1:=⟨ai a.aa b.aa (j+1) p q - 1,by omega⟩
   obtain⟨k1,k2,k3⟩:=iF.1 hm
   rw[hm]
   exact(iF.2 ⟨by omega,k2,k3⟩).symm
theorem xf {a b:aO} (ha:a.Good) (hb:b.Good) {p q:Int} (hp:a.inr p) (hq:b.inr q):mz (differ a b) p q=0↔∀j,Ev a.aa b.aa j p q:=by
 have hp':=hp
 have hq':=hq
 unfold aO.inr at hp' hq'
 have h:=(sj ha hb (a.af.toNat*b.af.toNat)).2 p.toNat q.toNat (by omega) (by omega)
 rw[show ((p.toNat:Nat):Int)=p by omega,show ((q.toNat:Nat):Int)=q by omega]at h
 unfold differ
 rw[h]
 constructor
 .intro h0
  exact Ev.Kn ha hb hp hq ((iD.1 (show ai a.aa b.aa _ p q=0 by omega)).down)
 .intro hall
  rw[iD.2 (hall _)]
  rfl
def Mv.lt (a b:Mv):Bool:=if a.send≠b.send then b.send else decide (a.label<b.label)
def Ko (D:List (List Int)) (n:Nat) (p:Nat):Nat:=((List.range n).find? fun(q:Nat)=>decide (mz D p q=0)).getD 0
def aO.Fp (a:aO):List Int:=(List.range a.af.toNat).map fun p=>(Ko (differ a a) a.af.toNat p:Int)
def aO.cl (a:aO) (v:Int):Int:=a.Fp.getD v.toNat 0
@[go_sem] theorem r65 (e:Edge) (u:Nat) (s:Int) (cs:List PV):res A ay 65 [.agg [.int .i64 e.fr,.bool e.send,.int .i64 e.label,.int .i64 e.to],.ro u (.int .i64 s::cs)]=some [.bool (!decide (e.fr=s))]:=by
 refine aq a65 rfl rfl ?_
 simp only[F65,RT]
 simp(disch:=omega)only[go_sem]
theorem r77 (g t u:Nat) (cs:List PV) (l:List Edge) (p:Edge->Bool) (hl:l.length<=2^63 - 1) (hi:oz A g=false) (hp:ay g=none) (ht:dn A g=false) (hf:∀x∈l,res A ay g [.agg [.int .i64 x.fr,.bool x.send,.int .i64 x.label,.int .i64 x.to],.ro u cs]=some [.bool (p x)]):res A ay 77 [.ai t (bG l),.func g [.ro u cs]]=some [.int .i64 (nK p l)]:=by
 refine aq a77 rfl rfl ?_
 simp only[F77,RV]
 simp(disch:=omega)only[go_sem]
 refine W.find l p (fun k=>⟨[(0,.pv (.ai t (bG l))),(1,.pv (.func g [.ro u cs])),(7,.pv (.int .i64 l.length)),(8,.pv (.int .i64 k))],⟨[],[],[]⟩⟩) rfl (fun k x hx hk hfd=>?_) (fun hn=>?_)
 .have hfx:=hf x (Tf hx)
  simp(disch:=omega)only[go_sem]
  refine Br.aB (fun h=>?_) (fun h=>(h (by omega)).elim)
  simp(disch:=omega)only[go_sem,hx,zi hi hp ht,hfx]
  refine Br.of (fun h2=>?_) (fun h2=>?_)<;>simp(disch:=omega)only[go_sem]
  .rw[(hfd h2).nK]
  .exact aN.of h2 rfl
 .simp(disch:=omega)only[go_sem]
  rw[hn.nK]
theorem pK {α:Type} {p:α->Bool} {l:List α} {k:Nat} {x:α} (h:l[k]?=some x):(l.take (k+1)).filter p=if p x=true then (l.take k).filter p++[x] else (l.take k).filter p:=by
 rw[TM,h,List.filter_append]
 by_cases hp:p x=true<;>simp[hp]
theorem Du (c l:List Edge) (v:Edge) (h:c.length<l.length):(c++l.drop c.length).set c.length v=(c++[v])++l.drop (c++[v]).length:=by
 rw[List.set_append_right _ _ (Tj _),Nat.sub_self,TT]
 have:(c++[v]).length=c.length+1:=by simp
 rw[this,List.drop_eq_getElem_cons h]
 rfl
@[go_sem] theorem Kp (bx:List (Nat×List V)) (mp:List (List (PV×PV))) (ar:List aR) (v n:Nat) (l:List Edge):cx ⟨bx,⟨v,4,.inl (bG l)⟩::ar,mp⟩ true (.own 0 v 0 n)=some (.fr 4 (bG (l.take n))):=by
 simp[cx,eC,aE,bG]
theorem Dv (bx:List (Nat×List V)) (mp:List (List (PV×PV))) (ar:List aR) (v off len:Nat) (l:List Edge) (h:off+len<=l.length):Hb ⟨bx,⟨v,4,.inl (bG l)⟩::ar,mp⟩ 4 [.pv (.int .i64 0),.pv (.bool false),.pv (.int .i64 0),.pv (.int .i64 0)] (.own 0 v off len)=
  some (.dp [],{ ar:=some (0,⟨v,4,.inl (bG (l.take off++List.replicate len ⟨0,false,0,0⟩++l.drop (off+len)))⟩) }):=by
 simp[Hb,aE,az,V.bR,PV.perm,bG,h,Edge.c]
@[go_sem] theorem Kq {id aA v len:Nat} {l:List Edge} (hn:len=l.length):zB id aA len ⟨v,4,.inl (bG l)⟩=some ([.fr 4 (bG l)],some (id,⟨aA+1,0,.inl []⟩)):=by
 subst hn
 simp[zB,aR.size,bM]
@[go_sem] theorem Mz (l:List Edge) (n:Nat):(bG l).take n=bG (l.take n):=by simp[bG]
set_option maxHeartbeats 4000000 in
@[go_sem] theorem r63 (l:List Edge) (s:Int) (hl:l.length<=2000000000):res A ay 63 [.fr 4 (bG l),.func 65 [.ro 2 [.int .i64 s]]]=some [.fr 4 (bG (aH l s))]:=by
 refine aq a63 rfl rfl ?_
 simp only[F63,Qs]
 have h77:=fun t:Nat=>r77 65 t 2 [.int .i64 s] l (fun e=>!decide (e.fr=s)) (by omega) (by kernel_rfl) (by kernel_rfl) (by kernel_rfl) (fun x _=>r65 x 2 s [])
 have hlt:l.take l.length=l:=T4
 cases hfi:l.findIdx? (fun e=>!decide (e.fr=s))with
 |none=>
  have hix:nK (fun e=>!decide (e.fr=s)) l= -1:=by unfold nK; rw[hfi]
  rw[Up]at hfi
  have hall:aH l s=l:=by
   unfold aH
   rw[List.filter_eq_self]
   intro e he
   have:=hfi e he
   simpa using this
  simp(disch:=omega)only[go_sem,h77,hlt,hix,hall]
 |some k=>
  have hix:nK (fun e=>!decide (e.fr=s)) l=(k:Int):=by unfold nK; rw[hfi]
  rw[TG]at hfi
  obtain⟨hk,hp,hbefore⟩:=hfi
  have hne:¬(k:Int)= -1:=by omega
  have hpre:aH (l.take (k+1)) s=l.take k:=by
   unfold aH
   rw[pK (List.getElem?_eq_getElem hk),if_neg (by simpa using hp),List.filter_eq_self]
   intro e he
   obtain⟨j,hj,rfl⟩:=UG he
   rw[Tt]at hj
   have:=hbefore j (by omega)
   simpa using this
  simp(disch:=omega)only[go_sem,h77,hlt,hix,hne]
  refine W.du (l.length - (k+1)) (fun j=>⟨[(0,.own 0 0 0 l.length),(1,.pv (.func 65 [.ro 2 [.int .i64 s]])),(5,.pv (.int .i64 (aH (l.take (k+1+j)) s).length)),(6,.pv (.int .i64 (k+1+j:Nat)))],⟨[],[⟨0,4,.inl (bG (aH (l.take (k+1+j)) s++l.drop (aH (l.take (k+1+j)) s).length))⟩],[]⟩⟩) (fun j=>(aH (l.take (k+1+j)) s).length<=k+j) ?_ ?_ fun j hj hw=>?_
  .simp only[Nat.add_zero,hpre,List.length_take,Nat.min_eq_left (Nat.le_of_lt hk)]
   rw[List.take_append_drop]
   rfl
  .simp only[Nat.add_zero,hpre,List.length_take]
   omega
  have hkeep:∀q,(aH (l.take (k+1+j)) s).length<=q->(aH (l.take (k+1+j)) s++l.drop (aH (l.take (k+1+j)) s).length)[q]?=l[q]?:=fun q hq=>by
   rw[TK hq,TS]
   congr 1
   omega
  have hln:(aH (l.take (k+1+j)) s++l.drop (aH (l.take (k+1+j)) s).length).length=l.length:=by simp; omega
  simp(disch:=omega)only[go_sem]
  refine Br.aB (fun h=>?_) (fun h=>?_)
  .obtain⟨x,hx⟩:=get_at (l:=l) (k:=k+1+j) (by omega)
   have h65:=r65 x 2 s []
   have hst:aH (l.take (k+1+(j+1))) s=if (x.fr==s)=true then aH (l.take (k+1+j)) s++[x] else aH (l.take (k+1+j)) s:=pK hx
   simp(disch:=omega)only[go_sem,hkeep,hx,h65]
   refine Br.aB (fun g=>?_) (fun g=>?_)<;>simp(disch:=omega)only[go_sem,g]
   .rw[if_pos (by simp[g])]at hst
    have hxe:(⟨s,x.send,x.label,x.to⟩:Edge)=x:=by rw[<- g]
    refine .of (by omega) ?_ ?_
    .show _=St.mk _ _
     rw[hst,hxe,Du _ _ _ (by omega),TH]
     rfl
    .show (aH _ s).length<=_
     rw[hst,TH]
     simp
     omega
   .rw[if_neg (by simp[g])]at hst
    refine .of (by omega) ?_ ?_
    .show _=St.mk _ _
     rw[hst]
     rfl
    .show (aH _ s).length<=_
     rw[hst]
     omega
  .have hall:l.take (k+1+j)=l:=Ts (by omega)
   rw[hall]at hln hw |-
   simp(disch:=omega)only[go_sem]
   rw[Dv _ _ _ _ _ _ _ (by omega)]
   have hl3:(aH l s++List.replicate (l.length - (aH l s).length) (⟨0,false,0,0⟩:Edge)).length=l.length:=by simp; omega
   have e1:List.take (aH l s).length (aH l s++List.drop (aH l s).length l)=aH l s:=by
    rw[UK (Tj _),T4]
   have e2:List.drop ((aH l s).length+(l.length - (aH l s).length)) (aH l s++List.drop (aH l s).length l)=[]:=List.drop_eq_nil_of_le (by rw[hln]; omega)
   rw[e1,e2]
   simp(disch:=omega)only[go_sem]
   have e3:List.take (aH l s).length (aH l s++List.replicate (l.length - (aH l s).length) (⟨0,false,0,0⟩:Edge))=aH l s:=by
    rw[UK (Tj _),T4]
   rw[e3]
@[go_sem] theorem r63n (s:Int):res A ay 63 [.ai 0 [],.func 65 [.ro 2 [.int .i64 s]]]=some [.ai 0 []]:=by
 refine aq a63 rfl rfl ?_
 simp only[F63,Qs]
 have h77:=r77 65 0 2 [.int .i64 s] [] (fun e=>!decide (e.fr=s)) (by simp) (by kernel_rfl) (by kernel_rfl) (by kernel_rfl) (fun x hx=>by cases hx)
 have hix:nK (fun e:Edge=>!decide (e.fr=s)) []= -1:=rfl
 rw[hix]at h77
 have h77':res A ay 77 [.ai 0 [],.func 65 [.ro 2 [.int .i64 s]]]=some [.int .i64 (-1)]:=h77
 simp(disch:=omega)only[go_sem,h77']
 rfl
@[go_sem] theorem Gf (h:aw) (v:V):bX h true [.tl [],v]=(cm h v).bind fun q=>some ([.ai 0 [],q],none):=by
 simp only[bX,bZ,if_true,az]
 cases cm h v<;>rfl
def Dw (h:aw) (v:V):List PV×Option (Nat×aR)->Option (List PV×Option (Nat×aR))
 |([p],some (i,a))=>(cm { h with ar:=h.ar.set i a } v).bind fun q=>some ([p,q],some (i,a))
 |_=>none
@[go_sem] theorem Pp (bx:List (Nat×List V)) (ar:List aR) (mp:List (List (PV×PV))) (v:V) (p:PV) (i:Nat) (a:aR):Dw ⟨bx,ar,mp⟩ v ([p],some (i,a))=(cm ⟨bx,ar.set i a,mp⟩ v).bind fun q=>some ([p,q],some (i,a)):=rfl
@[go_sem] theorem Fq (h:aw) (id aA len:Nat) (v:V):bX h true [.own id aA 0 len,v]=(aE h id aA).bind fun a=>(zB id aA len a).bind (Dw h v):=by
 simp only[bX,bZ]
 cases aE h id aA with
 |none=>rfl
 |some a=>
  simp only[Option.bind_some,if_true,zB]
  by_cases hc:a.size=len/\a.k≠0
  .cases hb:a.body with
   |inl rows=>
    simp only[hc,ne_eq,not_false_eq_true,and_self,if_true,Option.bind_some,Dw,az]
    cases cm { h with ar:=h.ar.set id ⟨aA+1,0,.inl []⟩ } v<;>rfl
   |inr rows=>simp[hc]
  .simp[hc]
@[go_sem] theorem r54 (t:Nat) (n s0 s:Int) (es:List Edge) (ht:t<=1) (hl:es.length<=2000000000):res A ay 54 [.agg [.int .i64 n,.int .i64 s0,.ai t (es.map Edge.c)],.int .i64 s]=some [.ai 0 (bG (aH es s))]:=by
 refine aq a54 rfl rfl ?_
 simp only[F54,RM]
 by_cases h0:es.length=0
 .have he:es=[]:=Tx h0
  simp(disch:=omega)only[go_sem,pD,h0]
  rw[he]
  rfl
 .have hel:=gi es s
  simp(disch:=omega)only[go_sem,pD,h0,List.take_length]
def dT (a b:Edge):Bool:=if a.send=b.send then decide (a.label<b.label) else b.send
@[go_sem] theorem r55 (a b:Edge):res A ay 55 [.agg [.int .i64 a.fr,.bool a.send,.int .i64 a.label,.int .i64 a.to],.agg [.int .i64 b.fr,.bool b.send,.int .i64 b.label,.int .i64 b.to]]=some [.bool (dT a b)]:=by
 refine aq a55 rfl rfl ?_
 simp only[F55,RN]
 simp(disch:=omega)only[go_sem]
 unfold dT
 refine Br.aB (fun h=>?_) (fun h=>?_)<;>simp(disch:=omega)only[go_sem,h]
@[go_sem] theorem r56 (a:Edge):res A ay 56 [.agg [.int .i64 a.fr,.bool a.send,.int .i64 a.label,.int .i64 a.to]]=some [.agg [.bool a.send,.int .i64 a.label]]:=by
 refine aq a56 rfl rfl ?_
 simp only[F56,RO]
 simp(disch:=omega)only[go_sem]
def lK (only:Bool):List Edge->List Edge->Option (Edge×Int)
 |[],[]=>none
 |x::_,[]=>some (x,0)
 |[],y::m=>if only then lK only [] m else some (y,1)
 |x::l,y::m=>if dT x y=true then some (x,0) else if dT y x=true then (if only then lK only (x::l) m else some (y,1)) else lK only l m
termination_by l m=>l.length+m.length
structure sQ where
 x:Int
 y:Int
 path:List (Bool×Int)
 deriving DecidableEq,Inhabited
def Edge.act (e:Edge):Bool×Int:=(e.send,e.label)
def fD (b:List Edge) (n:sQ) (s:List (Int×Int)×List sQ) (e:Edge):List (Int×Int)×List sQ:=
 match aU n.y e.send e.label b with
 |some y=>if (e.to,y)∈s.1 then s else (s.1++[(e.to,y)],s.2++[⟨e.to,y,n.path++[e.act]⟩])
 |none=>s
def sk (a b:List Edge) (only:Bool):Nat->List (Int×Int)×List sQ->Option (List (Bool×Int)×Int)
 |0,_=>none
 |k+1,(seen,q)=>match q with
  |[]=>none
  |n::q=>match lK only (aH a n.x) (aH b n.y)with
   |some (e,w)=>some (n.path++[e.act],w)
   |none=>sk a b only k ((aH a n.x).foldl (fD b n) (seen,q))
def Dx (p:Int×Int):PV:=.agg [.int .i64 p.1,.int .i64 p.2]
def gC (s:List (Int×Int)):List (PV×PV):=s.map fun p=>(Dx p,.bool true)
theorem so (p q:Int×Int):gX true [1,1] (Dx p) (Dx q)=some (decide (p=q)):=by
 obtain⟨a,b⟩:=p
 obtain⟨c,d⟩:=q
 simp only[gX,Dx,if_true]
 simp only[go_sem]
 by_cases h1:a=c<;>by_cases h2:b=d<;>simp[h1,h2]
theorem zW {p:Int×Int}:∀{s:List (Int×Int)} {i:Nat},p∉s->findKey true [1,1] (Dx p) (gC s) i=some none
 |[],i,_=>by simp[gC,findKey,so]
 |q::s,i,h=>by
  simp only[List.mem_cons,not_or]at h
  show findKey true [1,1] (Dx p) ((Dx q,.bool true)::gC s) i=_
  simp only[findKey,so,h.1,decide_false]
  exact zW h.2
theorem zX {p:Int×Int}:∀{s:List (Int×Int)} {i:Nat},p∈s->∃j,findKey true [1,1] (Dx p) (gC s) i=some (some (j,.bool true))
 |[],i,h=>by cases h
 |q::s,i,h=>by
  show ∃j,findKey true [1,1] (Dx p) ((Dx q,.bool true)::gC s) i=_
  simp only[findKey,so]
  by_cases e:p=q
  .exact⟨i,by simp[e]⟩
  .simp only[e,decide_false]
   exact zX ((Tu.1 h).resolve_left e)
@[go_sem] theorem Gg (z:V) (j:Nat) (p:PV):oB z false (some (j,p))=.pv p:=rfl
@[go_sem] theorem Gh (z:V):oB z false none=z:=rfl
theorem Dy {ag:Bool} {ks:List Nat} {q p:PV} {id:Nat} {l:List (PV×PV)} (h:findKey ag ks q l 0=some none):uI ag ks q p id l=some { mp:=some (id,l++[(q,p)]) }:=by
 simp only[uI,h]
theorem yR (s:List (Int×Int)) (p:Int×Int):gC s++[(Dx p,.bool true)]=gC (s++[p]):=by simp[gC]
def nS (ars:List aR) (v:V) (l:List (Bool×Int)):Prop:=(v=.tl []/\l=[])\/∃id aA,v=.own (id+1) aA 0 l.length/\l≠[]/\ars[id]?=some ⟨aA,2,.inl (fw l)⟩
theorem nS.more {ars:List aR} {v:V} {l:List (Bool×Int)} (h:nS ars v l) (x:List aR):nS (ars++x) v l:=by
 rcases h with h|⟨id,aA,h1,h2,h3⟩
 .exact .inl h
 .exact .inr ⟨id,aA,h1,h2,by rw[Tp (Tg.1 h3).1]; exact h3⟩
theorem nS.calm {ars:List aR} {v:V} {l:List (Bool×Int)} (h:nS ars v l):v.calm=true/\v.sized=true/\v.bR=none/\v.cells=[v]:=by
 rcases h with⟨rfl,_⟩|⟨id,aA,rfl,_,_⟩<;>exact⟨rfl,rfl,rfl,rfl⟩
structure sq (off:Nat) (q:List sQ) (rows:List (List V)) (ars:List aR):Prop where
 len:rows.length=off+q.length
 row:∀(i:Nat) (n:sQ),q[i]?=some n->∃v,rows[off+i]?=some [.pv (.int .i64 n.x),.pv (.int .i64 n.y),v]/\nS ars v n.path
theorem sq.pop {off:Nat} {n:sQ} {q:List sQ} {rows:List (List V)} {ars:List aR} (h:sq off (n::q) rows ars):sq (off+1) q rows ars where
 len:=by rw[h.len]; simp; omega
 row i m hi:=by
  obtain⟨v,h1,h2⟩:=h.row (i+1) m (by simpa using hi)
  exact⟨v,by rw[show off+1+i=off+(i+1) by omega]; exact h1,h2⟩
theorem sq.more {off:Nat} {q:List sQ} {rows:List (List V)} {ars:List aR} (h:sq off q rows ars) (x:List aR):sq off q rows (ars++x) where
 len:=h.len
 row i n hi:=by
  obtain⟨v,h1,h2⟩:=h.row i n hi
  exact⟨v,h1,h2.more x⟩
theorem sq.push {off:Nat} {q:List sQ} {rows:List (List V)} {ars:List aR} (h:sq off q rows ars) {n:sQ} {v:V} (hv:nS ars v n.path):sq 0 (q++[n]) ((rows.drop off).take q.length++[[.pv (.int .i64 n.x),.pv (.int .i64 n.y),v]]) ars where
 len:=by
  have:=h.len
  simp
  omega
 row i m hi:=by
  have hl:=h.len
  rw[UC]
  rcases Tm i q.length with hlt|hge
  .rw[Tp hlt]at hi
   obtain⟨u,h1,h2⟩:=h.row i m hi
   refine⟨u,?_,h2⟩
   rw[List.getElem?_append_left (by simp; omega),List.getElem?_take,if_pos hlt,List.getElem?_drop]
   exact h1
  .rw[TK hge]at hi
   have h0:i - q.length=0:=by
    have:=(Tg.1 hi).1
    simp at this
    omega
   rw[h0]at hi
   simp only[List.getElem?_cons_zero,Option.some.injEq]at hi
   subst hi
   refine⟨v,?_,hv⟩
   rw[List.getElem?_append_right (by simp; omega)]
   have:i - ((rows.drop off).take q.length).length=0:=by simp; omega
   rw[this]
   rfl
theorem iR {l:List (Int×Int)} {n m:Nat} (hn:l.Nodup) (h:∀p∈l,(0<=p.1/\p.1<n)/\(0<=p.2/\p.2<m)):l.length<=n*m:=by
 have h1:=List.Nodup.length_le_of_subset (l₂:=(iota n).flatMap fun p=>(iota m).map fun q=>(p,q)) hn (fun p hp=>by
  have:=h p hp
  rw[List.mem_flatMap]
  exact⟨p.1,nG.2 this.1,TA.2 ⟨p.2,nG.2 this.2,rfl⟩⟩)
 have h2:∀l:List Int,(l.flatMap fun p=>(iota m).map fun q=>(p,q)).length=l.length*m:=by
  intro l
  induction l with
  |nil=>simp
  |cons x l ih=>rw[List.flatMap_cons,List.length_append,ih]; simp[iota]; rw[Nat.add_mul]; omega
 rw[h2,show (iota n).length=n by simp[iota]]at h1
 exact h1
@[go_sem] theorem Bn (l:List (Bool×Int)) (d:Bool) (x:Int):fw l++[[.bool d,.int .i64 x]]=fw (l++[(d,x)]):=by simp[fw,E2]
@[go_sem] theorem Gi (h:aw) (d:Bool) (x:Int):aV h 2 (.tl []) (.tl [[.bool d,.int .i64 x]])=some (.own h.ar.length 0 0 1,{ push:=[⟨0,2,.inl (fw [(d,x)])⟩],base:=h.ar.length }):=by
 have:=uL h 2 [] [.bool d,.int .i64 x] rfl (fun x hx=>by cases hx) (by simp)
 exact this
@[go_sem] theorem Fs (h:aw) (id aA off len:Nat) (d:Bool) (x:Int):aV h 2 (.own id aA off len) (.tl [[.bool d,.int .i64 x]])=(aE h id aA).bind (Ga id aA off len 2 [.bool d,.int .i64 x]):=wz h id aA off len 2 _ rfl
@[go_sem] theorem Pq {id aA len:Nat} {d:Bool} {x:Int} {l:List (Bool×Int)} (h1:len=l.length) (h2:l.length+1<=2147483648):Ga id aA 0 len 2 [.bool d,.int .i64 x] ⟨aA,2,.inl (fw l)⟩=some (.own id (aA+1) 0 (len+1),{ ar:=some (id,⟨aA+1,2,.inl (fw (l++[(d,x)]))⟩) }):=by
 rw[CA (by rw[iO]; exact h1) (by rw[iO]; exact h2),Bn]
@[go_sem] theorem MA (h:aw) (k:Nat):cd k [.tl []] h=some (.tl [],{}):=by simp[cd,bB,aW]
def Ft (h:aw) (id n:Nat) (a:aR):Option (V×Tn):=match a.body with
 |.inl rows=>if (rows.take n).all (·.length==2)=true/\(rows.take n).length<=aT then (if (rows.take n).length=0 then some (.tl [],{ ra:=some id }) else some (.own h.ar.length 0 0 (rows.take n).length,{ push:=[⟨0,2,.inl (rows.take n)⟩],ra:=some id,base:=h.ar.length })) else none
 |.inr _=>none
@[go_sem] theorem Kr (h:aw) (id aA n:Nat):cd 2 [.own id aA 0 n] h=(aE h id aA).bind (Ft h id n):=by
 simp only[cd,bB]
 cases aE h id aA with
 |none=>rfl
 |some a=>
  cases hb:a.body<;>simp[aI,Ft,hb,aW]
@[go_sem] theorem MB {h:aw} {id n aA:Nat} {l:List (Bool×Int)} (hn:n=l.length) (h0:l.length≠0) (hm:l.length<=2147483648):Ft h id n ⟨aA,2,.inl (fw l)⟩=some (.own h.ar.length 0 0 l.length,{ push:=[⟨0,2,.inl (fw l)⟩],ra:=some id,base:=h.ar.length }):=by
 subst hn
 have e1:(fw l).take l.length=fw l:=Ts (by rw[iO]; exact Tj _)
 have e2:((fw l).all fun x=>x.length==2)=true:=by simp[fw,E2]
 simp[Ft,e1,e2,iO,aT,hm,h0]
def sR:Option (List (Bool×Int)×Int)->List PV
 |none=>[.ai 0 [],.int .i64 0,.bool false]
 |some (p,w)=>[.ai 0 (fw p),.int .i64 w,.bool true]
theorem Dz (o:Bool):lK o [] []=none:=by rw[lK]
theorem DA (o:Bool) (x:Edge) (l:List Edge):lK o (x::l) []=some (x,0):=by rw[lK]
theorem DB (o:Bool) (y:Edge) (m:List Edge):lK o [] (y::m)=if o then lK o [] m else some (y,1):=by rw[lK]
theorem DC (o:Bool) (x y:Edge) (l m:List Edge):lK o (x::l) (y::m)=if dT x y=true then some (x,0) else if dT y x=true then (if o then lK o (x::l) m else some (y,1)) else lK o l m:=by rw[lK]
theorem Gj {bx:List (Nat×List V)} {mp:List (List (PV×PV))} {aA off len m:Nat} {rows:List (List V)} {r:List V} {ar:List aR} (h1:ar[m]?=some ⟨0,3,.inr [r]⟩) (h2:r.length=3) (h3:rows.length=off+len) (h4:len+1<=2147483648):
  aV ⟨bx,⟨aA,3,.inr rows⟩::ar,mp⟩ 3 (.own 0 aA off len) (.own (m+1) 0 0 1)=some (.own 0 (aA+1) 0 (len+1),{ ar:=some (0,⟨aA+1,3,.inr ((rows.drop off).take len++[r])⟩),ra:=some (m+1) }):=by
 simp[aV,bB,aE,h1,aI,aW,aJ,h2,aR.size,h3,aT,h4,bN]
structure pL (a b:aO) (k:Nat) (seen:List (Int×Int)) (q:List sQ):Prop where
 nodup:seen.Nodup
 mem:∀p∈seen,(0<=p.1/\p.1<a.af)/\(0<=p.2/\p.2<b.af)
 count:k+seen.length=a.af.toNat*b.af.toNat+1+q.length
 node:∀n∈q,(0<=n.x/\n.x<a.af)/\(0<=n.y/\n.y<b.af)/\n.path.length<seen.length
 le:k<=145
theorem pL.push {a b:aO} {k:Nat} {seen:List (Int×Int)} {q:List sQ} (h:pL a b k seen q) {x y:Int} {p:List (Bool×Int)} (hn:(x,y)∉seen) (hr:(0<=x/\x<a.af)/\(0<=y/\y<b.af)) (hp:p.length<=seen.length):pL a b k (seen++[(x,y)]) (q++[⟨x,y,p⟩]) where
 nodup:=by
  rw[Uz]
  exact⟨h.nodup,by simp,fun u hu v hv e=>hn (by rw[List.mem_singleton]at hv; subst hv; subst e; exact hu)⟩
 mem u hu:=by
  rw[TO,Ue]at hu
  rcases hu with hu|rfl
  .exact h.mem u hu
  .exact hr
 count:=by
  have:=h.count
  simp
  omega
 node n hm:=by
  rw[TO,Ue]at hm
  rcases hm with hm|rfl
  .obtain⟨h1,h2,h3⟩:=h.node n hm
   exact⟨h1,h2,by simp; omega⟩
  .exact⟨hr.1,hr.2,by simp; omega⟩
 le:=h.le
def Ps (t u:Nat) (a b:aO) (only:Bool) (aA off:Nat) (q:List sQ) (rows:List (List V)) (ars:List aR) (seen:List (Int×Int)):St:=
 ⟨[(2,.pv (.bool only)),(3,.ptr 3 0),(4,.ptr 4 0),(9,.own 0 aA off q.length),(10,.map 0)],⟨[(3,[.pv (.int .i64 a.af),.pv (.int .i64 a.start),.pv (.ai t (a.aa.map Edge.c))]),(4,[.pv (.int .i64 b.af),.pv (.int .i64 b.start),.pv (.ai u (b.aa.map Edge.c))])],⟨aA,3,.inr rows⟩::ars,[gC seen]⟩⟩
set_option maxHeartbeats 4000000 in
@[go_sem] theorem r35 (t u:Nat) (a b:aO) (only:Bool) (ht:t<=1) (hu:u<=1) (ha:a.Good) (hb:b.Good):res A ay 35 [.agg [.int .i64 a.af,.int .i64 a.start,.ai t (a.aa.map Edge.c)],.agg [.int .i64 b.af,.int .i64 b.start,.ai u (b.aa.map Edge.c)],.bool only]=some (sR (sk a.aa b.aa only (a.af.toNat*b.af.toNat+1) ([(a.start,b.start)],[⟨a.start,b.start,[]⟩]))):=by
 refine aq a35 rfl rfl ?_
 simp only[F35,Ry]
 have hal:=ha.len
 have hbl:=hb.len
 have hst:=ha.st
 have hst':=hb.st
 have hmx:=ha.mx
 have hmx':=hb.mx
 have hu0:uI true [1,1] (PV.agg [PV.int IntKind.i64 a.start,PV.int IntKind.i64 b.start]) (PV.bool true) 0 []=some { mp:=some (0,gC [(a.start,b.start)]) }:=rfl
 simp(disch:=omega)only[go_sem,hu0]
 generalize hN:a.af.toNat*b.af.toNat+1=N
 have hNb:N<=145:=by
  have:=UM (show a.af.toNat<=12 by omega) (show b.af.toNat<=12 by omega)
  omega
 refine W.wX (α:=Nat×Nat×Nat×List sQ×List (List V)×List aR×List (Int×Int)) (fun x=>Ps t u a b only x.2.1 x.2.2.1 x.2.2.2.1 x.2.2.2.2.1 x.2.2.2.2.2.1 x.2.2.2.2.2.2)
  (fun x=>pL a b x.1 x.2.2.2.2.2.2 x.2.2.2.1/\sq x.2.2.1 x.2.2.2.1 x.2.2.2.2.1 x.2.2.2.2.2.1/\sk a.aa b.aa only x.1 (x.2.2.2.2.2.2,x.2.2.2.1)=sk a.aa b.aa only N ([(a.start,b.start)],[⟨a.start,b.start,[]⟩])) (fun x=>x.1) (N,0,0,[⟨a.start,b.start,[]⟩],[[.pv (.int .i64 a.start),.pv (.int .i64 b.start),.tl []]],[],[(a.start,b.start)]) rfl ⟨⟨by simp,by simp; omega,by simp; omega,by simp; omega,hNb⟩,⟨rfl,fun i n hi=>?_⟩,rfl⟩ fun x hx=>?_
 .cases i with
  |zero=>
   cases hi
   exact⟨.tl [],rfl,.inl ⟨rfl,rfl⟩⟩
  |succ i=>simp at hi
 obtain⟨k,aA,off,q,rows,ars,seen⟩:=x
 obtain⟨hD,hQ,hres⟩:=hx
 dsimp only at hD hQ hres
 unfold Ps
 dsimp only
 rw[<- hres]
 have hsb:=iR hD.nodup (n:=a.af.toNat) (m:=b.af.toNat) (fun p hp=>by
  have:=hD.mem p hp
  omega)
 have hcnt:=hD.count
 rw[hN]at hcnt
 cases q with
 |nil=>
  simp(disch:=omega)only[go_sem]
  refine Br.aB (fun h=>absurd h (by omega)) (fun h=>?_)
  simp(disch:=omega)only[go_sem]
  cases k<;>rfl
 |cons n q=>
  obtain⟨k,rfl⟩:∃k',k=k'+1:=⟨k - 1,by simp at hcnt; omega⟩
  obtain⟨v,hv,hpv⟩:=hQ.row 0 n rfl
  have hrl:=hQ.len
  obtain⟨⟨x0,x1⟩,⟨y0,y1⟩,hpl⟩:=hD.node n (TP ..)
  obtain⟨c1,c2,c3,c4⟩:=hpv.calm
  have hoff:off<rows.length:=by simp at hrl; omega
  rw[Nat.add_zero]at hv
  simp(disch:=omega)only[go_sem]
  refine Br.aB (fun h=>?_) (fun h=>(h (by omega)).elim)
  simp(disch:=omega)only[go_sem,hv,c1]
  rw[Nat.add_sub_cancel]
  have hla:=gi a.aa n.x
  have hlb:=gi b.aa n.y
  generalize hA:aH a.aa n.x=la at hla |-
  generalize hB:aH b.aa n.y=lb at hlb |-
  have hdif:sk a.aa b.aa only (k+1) (seen,n::q)=match lK only la lb with
   |some (e,w)=>some (n.path++[e.act],w)
   |none=>sk a.aa b.aa only k (la.foldl (fD b.aa n) (seen,q)):=by rw[<- hA,<- hB]; rfl
  rw[hdif]
  refine W.loop (α:=Nat×Nat) (fun x=>⟨[(2,.pv (.bool only)),(3,.ptr 3 0),(4,.ptr 4 0),(9,.own 0 aA (off+1) q.length),(10,.map 0),(11,.ptr 11 0),(12,.pv (.ai 0 (bG la))),(13,.pv (.ai 0 (bG lb))),(14,.pv (.int .i64 x.1)),(15,.pv (.int .i64 x.2))],⟨[(3,[.pv (.int .i64 a.af),.pv (.int .i64 a.start),.pv (.ai t (a.aa.map Edge.c))]),(4,[.pv (.int .i64 b.af),.pv (.int .i64 b.start),.pv (.ai u (b.aa.map Edge.c))]),(11,[.pv (.int .i64 n.x),.pv (.int .i64 n.y),v])],⟨aA,3,.inr rows⟩::ars,[gC seen]⟩⟩)
   (fun x=>x.1<=la.length/\x.2<=lb.length/\lK only (la.drop x.1) (lb.drop x.2)=lK only la lb) (fun x=>(la.length - x.1)+(lb.length - x.2)) (0,0) rfl ⟨Uv _,Uv _,rfl⟩ fun x hx=>?_
  obtain⟨i,j⟩:=x
  obtain⟨hi,hj,hm⟩:=hx
  dsimp only at hi hj hm
  rw[<- hm]
  dsimp only
  rcases Tm i la.length with hi'|hi'
  .obtain⟨x,hx⟩:=get_at hi'
   rw[fm hx]
   rcases Tm j lb.length with hj'|hj'
   .obtain⟨y,hy⟩:=get_at hj'
    rw[fm hy,DC]
    simp(disch:=omega)only[go_sem]
    refine Br.aB (fun h=>?_) (fun h=>(h (by omega)).elim)
    simp(disch:=omega)only[go_sem,h]
    refine Br.aB (fun h=>absurd h (by omega)) (fun h=>?_)
    simp(disch:=omega)only[go_sem,h]
    refine Br.aB (fun h=>?_) (fun h=>(h (by omega)).elim)
    simp(disch:=omega)only[go_sem,h,hx,hy]
    refine Br.of (fun l1=>?_) (fun l1=>?_)<;>simp(disch:=omega)only[go_sem,l1,hx]
    .rw[if_pos l1]
     rcases hpv with⟨rfl,hp⟩|⟨id,pv,rfl,hne,hid⟩
     .simp(disch:=omega)only[go_sem]
      simp[cr,aI,sR,Edge.act,hp,fw]
     .simp(disch:=omega)only[go_sem,hid]
      have hlt:=(Tg.1 hid).1
      rw[TR hlt]
      simp[cr,aI,sR,Edge.act,fw,List.take_of_length_le]
    rw[if_neg (by simp[l1])]
    refine Br.aB (fun h=>absurd h (by omega)) (fun h=>?_)
    simp(disch:=omega)only[go_sem,h,hx,hy]
    refine Br.of (fun l2=>?_) (fun l2=>?_)<;>simp(disch:=omega)only[go_sem,l2]
    .rw[if_pos l2]
     cases only with
     |true=>
      simp(disch:=omega)only[go_sem]
      refine⟨(i,j+1),⟨hi,by dsimp only; omega,?_⟩,by dsimp only; omega,rfl⟩
      dsimp only
      rw[if_pos rfl,fm hx]
     |false=>
      simp(disch:=omega)only[go_sem,hy]
      rcases hpv with⟨rfl,hp⟩|⟨id,pv,rfl,hne,hid⟩
      .simp(disch:=omega)only[go_sem]
       simp[cr,aI,sR,Edge.act,hp,fw]
      .simp(disch:=omega)only[go_sem,hid]
       have hlt:=(Tg.1 hid).1
       rw[TR hlt]
       simp[cr,aI,sR,Edge.act,fw,List.take_of_length_le]
    .rw[if_neg (by simp[l2])]
     exact⟨(i+1,j+1),⟨by dsimp only; omega,by dsimp only; omega,rfl⟩,by dsimp only; omega,rfl⟩
   .obtain rfl:j=lb.length:=by omega
    rw[Uw hj',DA]
    simp(disch:=omega)only[go_sem]
    refine Br.aB (fun h=>?_) (fun h=>(h (by omega)).elim)
    simp(disch:=omega)only[go_sem,h,hx]
    rcases hpv with⟨rfl,hp⟩|⟨id,pv,rfl,hne,hid⟩
    .simp(disch:=omega)only[go_sem]
     simp[cr,aI,sR,Edge.act,hp,fw]
    .simp(disch:=omega)only[go_sem,hid]
     have hlt:=(Tg.1 hid).1
     rw[TR hlt]
     simp[cr,aI,sR,Edge.act,fw,List.take_of_length_le]
  .obtain rfl:i=la.length:=by omega
   rw[Uw hi']
   rcases Tm j lb.length with hj'|hj'
   .obtain⟨y,hy⟩:=get_at hj'
    rw[fm hy,DB]
    simp(disch:=omega)only[go_sem]
    refine Br.aB (fun h=>?_) (fun h=>(h (by omega)).elim)
    simp(disch:=omega)only[go_sem,h]
    refine Br.aB (fun h=>absurd h (by omega)) (fun h=>?_)
    simp(disch:=omega)only[go_sem,h]
    cases only with
    |true=>
     simp(disch:=omega)only[go_sem]
     refine⟨(la.length,j+1),⟨hi,by dsimp only; omega,?_⟩,by dsimp only; omega,rfl⟩
     dsimp only
     rw[if_pos rfl,Uw hi']
    |false=>
     simp(disch:=omega)only[go_sem,hy]
     rcases hpv with⟨rfl,hp⟩|⟨id,pv,rfl,hne,hid⟩
     .simp(disch:=omega)only[go_sem]
      simp[cr,aI,sR,Edge.act,hp,fw]
     .simp(disch:=omega)only[go_sem,hid]
      have hlt:=(Tg.1 hid).1
      rw[TR hlt]
      simp[cr,aI,sR,Edge.act,fw,List.take_of_length_le]
   .obtain rfl:j=lb.length:=by omega
    rw[Uw hj',Dz]
    simp(disch:=omega)only[go_sem]
    refine W.wX (α:=Nat×Nat×Nat×List sQ×List (List V)×List aR×List (Int×Int)) (fun x=>⟨[(2,.pv (.bool only)),(3,.ptr 3 0),(4,.ptr 4 0),(9,.own 0 x.2.1 x.2.2.1 x.2.2.2.1.length),(10,.map 0),(11,.ptr 11 0),(124,.pv (.ai 0 (bG la))),(125,.pv (.int .i64 la.length)),(126,.pv (.int .i64 x.1))],⟨[(3,[.pv (.int .i64 a.af),.pv (.int .i64 a.start),.pv (.ai t (a.aa.map Edge.c))]),(4,[.pv (.int .i64 b.af),.pv (.int .i64 b.start),.pv (.ai u (b.aa.map Edge.c))]),(11,[.pv (.int .i64 n.x),.pv (.int .i64 n.y),v])],⟨x.2.1,3,.inr x.2.2.2.2.1⟩::x.2.2.2.2.2.1,[gC x.2.2.2.2.2.2]⟩⟩)
     (fun x=>x.1<=la.length/\pL a b k x.2.2.2.2.2.2 x.2.2.2.1/\sq x.2.2.1 x.2.2.2.1 x.2.2.2.2.1 x.2.2.2.2.2.1/\nS x.2.2.2.2.2.1 v n.path/\n.path.length<x.2.2.2.2.2.2.length/\(la.drop x.1).foldl (fD b.aa n) (x.2.2.2.2.2.2,x.2.2.2.1)=la.foldl (fD b.aa n) (seen,q)) (fun x=>la.length - x.1) (0,aA,off+1,q,rows,ars,seen) rfl
     ⟨Nat.zero_le _,⟨hD.nodup,hD.mem,by have:=hD.count; rw[List.length_cons]at this; dsimp only; omega,fun m hm=>hD.node m (List.mem_cons_of_mem _ hm),by have:=hD.le; omega⟩,hQ.pop,hpv,hpl,rfl⟩ fun x hx=>?_
    obtain⟨m,ver',off',q',rows',ars',seen'⟩:=x
    obtain⟨hm',hD',hQ',hpv',hpl',hf⟩:=hx
    dsimp only at hm' hD' hQ' hpv' hpl' hf
    dsimp only
    rw[<- hf]
    have hsb':=iR hD'.nodup (n:=a.af.toNat) (m:=b.af.toNat) (fun p hp=>by
     have:=hD'.mem p hp
     omega)
    have hcnt':=hD'.count
    rw[hN]at hcnt'
    have hrl':=hQ'.len
    rcases Tm m la.length with hlt|hlt
    .obtain⟨e,he⟩:=get_at hlt
     rw[fm he,Uy]
     have hea:=Tf he
     rw[<- hA,cO]at hea
     have hef:=ew.1 (ha.fit e hea.1)
     simp(disch:=omega)only[go_sem]
     refine Br.aB (fun h=>?_) (fun h=>(h (by omega)).elim)
     simp(disch:=omega)only[go_sem,he]
     cases hn:aU n.y e.send e.label b.aa with
     |none=>
      simp(disch:=omega)only[go_sem,Option.isSome_none]
      have hadd:fD b.aa n (seen',q') e=(seen',q'):=by simp[fD,hn]
      exact⟨(m+1,ver',off',q',rows',ars',seen'),⟨by dsimp only; omega,hD',hQ',hpv',hpl',by rw[hadd]⟩,by dsimp only; omega,rfl⟩
     |some y=>
      simp only[Option.isSome_some,Option.getD_some]
      have hyr:0<=y/\y<b.af:=by
       have hmem:=(cW hb.nw).1 hn
       have hf2:=ew.1 (hb.fit _ hmem)
       exact⟨hf2.2.2.1,hf2.2.2.2.1⟩
      have hkb:=hD'.le
      simp(disch:=omega)only[go_sem]
      by_cases hin:(e.to,y)∈seen'
      .obtain⟨j,hj⟩:=zX (i:=0) hin
       have hj:findKey true [1,1] (.agg [.int .i64 e.to,.int .i64 y]) (gC seen') 0=some (some (j,.bool true)):=hj
       simp(disch:=omega)only[go_sem,hj]
       have hadd:fD b.aa n (seen',q') e=(seen',q'):=by simp[fD,hn,hin]
       exact⟨(m+1,ver',off',q',rows',ars',seen'),⟨by dsimp only; omega,hD',hQ',hpv',hpl',by rw[hadd]⟩,by dsimp only; omega,rfl⟩
      .have hj:findKey true [1,1] (.agg [.int .i64 e.to,.int .i64 y]) (gC seen') 0=some none:=zW hin
       have hup:uI true [1,1] (.agg [.int .i64 e.to,.int .i64 y]) (.bool true) 0 (gC seen')=some { mp:=some (0,gC (seen'++[(e.to,y)])) }:=by
        rw[<- yR]
        exact Dy hj
       simp(disch:=omega)only[go_sem,hj,hup]
       rcases hpv' with⟨rfl,hp⟩|⟨id,pv,rfl,hne,hid⟩
       .simp(disch:=omega)only[go_sem]
        rw[Gj (r:=[.pv (.int .i64 e.to),.pv (.int .i64 y),.own (ars'.length+1) 0 0 1]) (by simp) rfl hrl' (by omega)]
        simp(disch:=omega)only[go_sem]
        have hadd:fD b.aa n (seen',q') e=(seen'++[(e.to,y)],q'++[⟨e.to,y,n.path++[e.act]⟩]):=by simp[fD,hn,hin]
        refine⟨(m+1,ver'+1,0,q'++[⟨e.to,y,n.path++[e.act]⟩],(rows'.drop off').take q'.length++[[.pv (.int .i64 e.to),.pv (.int .i64 y),.own (ars'.length+1) 0 0 1]],ars'++[⟨0,2,.inl (fw [(e.send,e.label)])⟩]++[⟨0,3,.inr [[.pv (.int .i64 e.to),.pv (.int .i64 y),.own (ars'.length+1) 0 0 1]]⟩],seen'++[(e.to,y)]),⟨by dsimp only; omega,hD'.push hin ⟨⟨by omega,by omega⟩,hyr⟩ (by simp; omega),?_,.inl ⟨rfl,hp⟩,by simp; omega,by rw[hadd]⟩,by dsimp only; omega,?_⟩
        .rw[TT]
         refine(hQ'.more _).push (n:=⟨e.to,y,n.path++[e.act]⟩) (.inr ⟨ars'.length,0,?_,by simp,?_⟩)
         .simp[hp]
         .simp[hp,Edge.act]
        .dsimp only
         rw[TH]
         rfl
       .have hne':n.path.length≠0:=fun h=>hne (Tx h)
        simp(disch:=omega)only[go_sem,hid,List.getElem?_concat_length,List.set_append_right,Nat.sub_self,List.set_cons_zero,Nat.le_refl]
        rw[Gj (r:=[.pv (.int .i64 e.to),.pv (.int .i64 y),.own (ars'.length+1) 1 0 (n.path.length+1)]) (by simp) rfl hrl' (by omega)]
        simp(disch:=omega)only[go_sem]
        have hadd:fD b.aa n (seen',q') e=(seen'++[(e.to,y)],q'++[⟨e.to,y,n.path++[e.act]⟩]):=by simp[fD,hn,hin]
        refine⟨(m+1,ver'+1,0,q'++[⟨e.to,y,n.path++[e.act]⟩],(rows'.drop off').take q'.length++[[.pv (.int .i64 e.to),.pv (.int .i64 y),.own (ars'.length+1) 1 0 (n.path.length+1)]],ars'++[⟨1,2,.inl (fw (n.path++[(e.send,e.label)]))⟩]++[⟨0,3,.inr [[.pv (.int .i64 e.to),.pv (.int .i64 y),.own (ars'.length+1) 1 0 (n.path.length+1)]]⟩],seen'++[(e.to,y)]),⟨by dsimp only; omega,hD'.push hin ⟨⟨by omega,by omega⟩,hyr⟩ (by simp; omega),?_,?_,by simp; omega,by rw[hadd]⟩,by dsimp only; omega,?_⟩
        .rw[TT]
         refine(hQ'.more _).push (n:=⟨e.to,y,n.path++[e.act]⟩) (.inr ⟨ars'.length,1,?_,by simp,?_⟩)
         .simp
         .simp[Edge.act]
        .dsimp only
         rw[TT]
         exact nS.more (.inr ⟨id,pv,rfl,hne,hid⟩) _
        .dsimp only
         rw[TH]
         rfl
    .obtain rfl:m=la.length:=by omega
     simp(disch:=omega)only[go_sem]
     refine⟨(k,ver',off',q',rows',ars',seen'),⟨hD',hQ',?_⟩,by dsimp only; omega,rfl⟩
     dsimp only
     rw[Uw hlt]
     rfl
end Go.Pv
