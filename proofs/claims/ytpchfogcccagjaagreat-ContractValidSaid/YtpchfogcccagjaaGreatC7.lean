/-
 What the functions of the law give.
-/
import Derived.Test.YtpchfogcccagjaaGreatC6
set_option linter.unusedSimpArgs false
set_option linter.unusedVariables false
open List renaming mem_of_getElem? → Wa, getElem?_eq_some_iff → V9, getElem?_append_left → We, length_map → Wg, getElem?_map → Wf, length_append → Wz, getD_eq_getElem?_getD → Ws, length_take → W8, getElem?_take → Wy, take_add_one → WL, getElem?_append_right → Wn, mem_map → Wk, getElem?_set_self → WU, append_assoc → WK, getElem?_set_ne → Xk, all_eq_true → Wu, map_append → WC, take_length → WV, getElem?_drop → WQ, mem_append_left → Xa, ext_getElem? → WW, length_set → Xx, any_eq_false → WY, mem_append_right → Xt, append_nil → Xh, take_append_drop → XG, any_eq_true → Xm, mem_flatMap → afw, map_cons → XQ, getElem?_set → afz, set_append_right → afB, map_eq_nil_iff → afE, map_map → Xw
open Nat renaming le_refl → Wj, le_trans → WM, zero_le → WA, add_zero → afv, sub_self → afA, min_eq_left → afF
open Bool renaming true_and → WZ, eq_iff_iff → Xb, false_and → Xu, and_false → abu, eq_false_iff → Xz
open Option renaming map_eq_some_iff → Wx, map_some → afx
namespace Go.Pv
@[go_sem] theorem cw404 (vs:List V) (h:aa) (K:V->Tn->Prop):CW A aA 404 vs h K=CN A aA false 404 vs h K:=cd vs h K
structure acq (o:Nat) (a b:List aL):Prop where
 len:a.length<=b.length
 get:∀i,i<a.length->i≠o->b[i]?=a[i]?
theorem acq.trans {o:Nat} {a b c:List aL} (h:acq o a b) (g:acq o b c):acq o a c:=⟨WM h.len g.len,fun i hi ho=>by rw[g.get i (by have:=h.len; omega) ho,h.get i hi ho]⟩
theorem acq.push (o:Nat) (a x:List aL):acq o a (a++x):=⟨by simp,fun i hi _=>List.getElem?_append_left hi⟩
theorem acq.set (o:Nat) (a:List aL) (x:aL):acq o a (a.set o x):=⟨by simp,fun i _ ho=>List.getElem?_set_ne (fun e=>ho e.symm)⟩
theorem Home.aeR {a b:List aL} {o k:Nat} {v:V} {rows:List (List PV)} (h:Home a o k v rows) (g:acq o a b):Home b o k v rows:=by
 rcases h with h|⟨id,ax,h1,h2,h3⟩|h
 .exact .inl h
 .exact .inr (.inl ⟨id,ax,h1,h2,h3.move (g.get id h3.lt h2)⟩)
 .exact .inr (.inr h)
theorem afW.aeR {a b:List aL} {o:Nat} {row:List V} {cs:List PV} (h:afW a o row cs) (g:acq o a b):afW b o row cs:=by
 refine⟨h.1,fun i v c h1 h2=>?_⟩
 rcases h.2 i v c h1 h2 with h|⟨k,rows,h3,h4⟩
 .exact .inl h
 .exact .inr ⟨k,rows,h3,h4.aeR g⟩
def acK (x:aH) (sv mv:V):List V:=[.pv (.int .i64 x.kind),.pv (.str x.name),.pv (.int .i64 x.low),.pv (.int .i64 x.high),.pv (.int .i64 x.max),sv,mv,.pv (.int .i64 x.key),.pv (.int .i64 x.elem),.pv (.bool x.jO)]
def ab0 (ar:List aL) (b k:Nat) (v:V) (rows:List (List PV)):Prop:=(v=.tl []/\rows=[])\/∃m,v=.own m 0 0 rows.length/\b<=m/\rows≠[]/\ar[m]?=some ⟨0,k,.inl rows⟩
theorem ab0.home {ar:List aL} {b k o:Nat} {v:V} {rows:List (List PV)} (h:ab0 ar b k v rows) (ho:o<b):Home ar o k v rows:=by
 rcases h with⟨rfl,rfl⟩|⟨m,rfl,h1,_,h2⟩
 .exact .inr (.inr rfl)
 .exact .inr (.inl ⟨m,0,rfl,by omega,.whole h2⟩)
theorem acB {α:Type} {l:List α} {i:Nat} {a:α} (h:l[i]?=some a):l.set i a=l:=by
 apply WW
 intro j
 rw[afz]
 split
 .rename_i e
  subst e
  rw[h,if_pos (V9.1 h).1]
 .rfl
theorem ach {ax k:Nat} {body:Sum (List (List PV)) (List (List V))} {x:aH} {sv mv:V} (hk:k<(dX body).length) (hrow:(dX body)[k]?=some (x.c.map .pv)) (hs:sv.calm=true/\X6 sv=true) (hm:mv.calm=true/\X6 mv=true):
  ∃b5 b6,eG 2 k 5 [sv] ⟨ax,10,body⟩=some { ar:=some (2,⟨ax,10,b5⟩) }/\eG 2 k 6 [mv] ⟨ax,10,b5⟩=some { ar:=some (2,⟨ax,10,b6⟩) }/\dX b6=(dX body).set k (acK x sv mv):=by
 obtain⟨b5,h5,g5⟩:=aaa (id:=2) (r:=k) (c:=5) (ax:=ax) (k:=10) (news:=[sv]) (body:=body) hk (by simp) (by simp[hs.1]) (by simp[hs.2])
 obtain⟨b6,h6,g6⟩:=aaa (id:=2) (r:=k) (c:=6) (ax:=ax) (k:=10) (news:=[mv]) (body:=b5) (by rw[g5,List.length_set]; exact hk) (by simp) (by simp[hm.1]) (by simp[hm.2])
 refine⟨b5,b6,h5,h6,?_⟩
 have hgd:(dX body).getD k []=x.c.map .pv:=by rw[Ws,hrow]; rfl
 rw[g6,g5,List.set_set,hgd]
 congr 1
 rw[Ws,WU hk]
 rfl
set_option maxHeartbeats 2000000 in
theorem afc (c1 c2 c13:List V) (n:Nat) (ar:List aL) (ax m k:Nat) (body:Sum (List (List PV)) (List (List V))) (x:aH) (hx:x.syms.length<=2147483648/\x.bc.length<=2147483648) (hk:k<m) (h2:ar[2]?=some ⟨ax,10,body⟩) (hbl:(dX body).length=m) (hrow:(dX body)[k]?=some (x.c.map .pv)) (Q:Ex->St->Prop)
  (hQ:∀env ar1 b1 sv mv,acq 2 ar ar1->ar1[2]?=some ⟨ax,10,b1⟩->dX b1=(dX body).set k (acK x sv mv)->ab0 ar1 ar.length 2 sv (x.syms.map Sym.c)->ab0 ar1 ar.length 13 mv (x.bc.map Mem.c)->sv≠mv\/mv=.tl []->Q .normal ⟨(1,.ptr 1 0)::(2,.ptr 2 0)::(12,.own 1 0 0 n)::(13,.ptr 13 0)::(17,.du 2 ax k 0)::(100,.pv (.int .i64 m))::(101,.pv (.int .i64 k))::env,⟨[(1,c1),(2,c2),(13,c13)],ar1,[]⟩⟩):
  W A aA F408.body.two.two.two.two.two.two.two.one.two.VD.VD.VD.two.two.one.VD.two.two.one ⟨[(1,.ptr 1 0),(2,.ptr 2 0),(12,.own 1 0 0 n),(13,.ptr 13 0),(17,.du 2 ax k 0),(100,.pv (.int .i64 m)),(101,.pv (.int .i64 k))],⟨[(1,c1),(2,c2),(13,c13)],ar,[]⟩⟩ Q:=by
 simp only[F408,Rx,AC.one,AC.two,AC.VD]
 have hl2:2<ar.length:=(V9.1 h2).1
 have gX:∀X:List aL,(ar++X)[2]?=some ⟨ax,10,body⟩:=fun X=>by rw[We hl2]; exact h2
 have hb:=YF k body
 rw[hrow]at hb
 unfold aH.c at hb
 simp only[List.map_cons,List.map_nil]at hb
 have gS:∀X a,((ar++X).set 2 a)[2]?=some a:=fun X a=>WU (by rw[Wz]; omega)
 have gX2:∀X Y:List aL,(ar++X++Y)[2]?=some ⟨ax,10,body⟩:=fun X Y=>by rw[WK]; exact gX _
 have gS0:∀a,(ar.set 2 a)[2]?=some a:=fun a=>WU hl2
 have gS2:∀X Y a,((ar++X++Y).set 2 a)[2]?=some a:=fun X Y a=>by rw[WK]; exact gS _ a
 have d2:decide (2<ar.length)=true:=decide_eq_true hl2
 have hkb:k<(dX body).length:=by omega
 have aS:∀X a,acq 2 ar ((ar++X).set 2 a):=fun X a=>(acq.push 2 ar X).trans (.set 2 _ a)
 rcases Fb (c:=Sym.c) (k:=2) (fun _=>rfl) x.syms hx.1 with⟨s1,s2⟩|⟨s1,s2⟩<;>rcases Fb (c:=Mem.c) (k:=13) (fun _=>rfl) x.bc hx.2 with⟨m1,m2⟩|⟨m1,m2⟩
 .obtain⟨b5,b6,h5,h6,h7⟩:=ach (ax:=ax) (x:=x) (sv:=.tl []) (mv:=.tl []) hkb hrow ⟨rfl,rfl⟩ ⟨rfl,rfl⟩
  simp(disch:=omega)only[go_sem,h2,hb,s2,m2,h5,h6,gS0,List.set_set]
  refine hQ _ _ b6 (.tl []) (.tl []) (.set 2 _ _) (gS0 _) h7 (.inl ⟨rfl,by rw[s1]; rfl⟩) (.inl ⟨rfl,by rw[m1]; rfl⟩) (.inr rfl)
 .obtain⟨b5,b6,h5,h6,h7⟩:=ach (ax:=ax) (x:=x) (sv:=.tl []) (mv:=.own ar.length 0 0 x.bc.length) hkb hrow ⟨rfl,rfl⟩ ⟨rfl,rfl⟩
  simp(disch:=omega)only[go_sem,h2,hb,s2,m2,gX,h5,h6,gS,List.set_set]
  refine hQ _ _ b6 (.tl []) (.own ar.length 0 0 x.bc.length) (aS _ _) (gS _ _) h7 (.inl ⟨rfl,by rw[s1]; rfl⟩) (.inr ⟨ar.length,by simp,Nat.le_refl _,by simpa using m1,?_⟩) (.inl (by simp))
  rw[Xk (by omega)]
  simp
 .obtain⟨b5,b6,h5,h6,h7⟩:=ach (ax:=ax) (x:=x) (sv:=.own ar.length 0 0 x.syms.length) (mv:=.tl []) hkb hrow ⟨rfl,rfl⟩ ⟨rfl,rfl⟩
  simp(disch:=omega)only[go_sem,h2,hb,s2,m2,gX,h5,h6,gS,d2,List.set_set]
  refine hQ _ _ b6 (.own ar.length 0 0 x.syms.length) (.tl []) (aS _ _) (gS _ _) h7 (.inr ⟨ar.length,by simp,Nat.le_refl _,by simpa using s1,?_⟩) (.inl ⟨rfl,by rw[m1]; rfl⟩) (.inr rfl)
  rw[Xk (by omega)]
  simp
 .obtain⟨b5,b6,h5,h6,h7⟩:=ach (ax:=ax) (x:=x) (sv:=.own ar.length 0 0 x.syms.length) (mv:=.own (ar.length+1) 0 0 x.bc.length) hkb hrow ⟨rfl,rfl⟩ ⟨rfl,rfl⟩
  simp(disch:=omega)only[go_sem,h2,hb,s2,m2,gX,gX2,h5,h6,gS2,d2,List.set_set]
  rw[WK]
  refine hQ _ _ b6 (.own ar.length 0 0 x.syms.length) (.own (ar.length+1) 0 0 x.bc.length) (aS _ _) (gS _ _) h7 (.inr ⟨ar.length,by simp,Nat.le_refl _,by simpa using s1,?_⟩) (.inr ⟨ar.length+1,by simp,by omega,by simpa using m1,?_⟩) (.inl (by simp))
  .rw[Xk (by omega)]
   simp
  .rw[Xk (by omega)]
   simp
set_option maxHeartbeats 2000000 in
theorem afd (c1 c2 c13:List V) (n:Nat) (L at':List Int) (ar:List aL) (ax m k:Nat) (b1:Sum (List (List PV)) (List (List V))) (x:aH) (sv mv:V) (hml:x.bc.length<=1048576) (hk:k<m) (h2:ar[2]?=some ⟨ax,10,b1⟩) (hrow:(dX b1)[k]?=some (acK x sv mv)) (h1:ar[1]?=some ⟨0,1,.inl (ints at')⟩) (hn:at'.length=n)
  (hat:∀q∈x.bc,0<=q.type/\q.type<n/\at'[q.type.toNat]?=some (afX L q.type)) (b:Nat) (hb:2<b) (hmv:ab0 ar b 13 mv (x.bc.map Mem.c)) (hbm:m<=100) (Q:Ex->St->Prop)
  (hQ:∀env ar2,(∀i,i<b->ar2[i]?=ar[i]?)->ar.length<=ar2.length->(∀i,(V.own i 0 0 x.bc.length≠mv->ar2[i]?=ar[i]?))->ab0 ar2 b 13 mv ((x.bc.map (xb L)).map Mem.c)->Q (.exit 8) ⟨(1,.ptr 1 0)::(2,.ptr 2 0)::(12,.own 1 0 0 n)::(13,.ptr 13 0)::(17,.du 2 ax k 0)::(100,.pv (.int .i64 m))::(101,.pv (.int .i64 k))::env,⟨[(1,c1),(2,c2),(13,c13)],ar2,[]⟩⟩):
  W A aA F408.body.two.two.two.two.two.two.two.one.two.VD.VD.VD.two.two.one.VD.two.two.two.one.two.VD ⟨[(1,.ptr 1 0),(2,.ptr 2 0),(12,.own 1 0 0 n),(13,.ptr 13 0),(17,.du 2 ax k 0),(100,.pv (.int .i64 m)),(101,.pv (.int .i64 k)),(129,.pv (.int .i64 x.bc.length)),(130,.pv (.int .i64 0))],⟨[(1,c1),(2,c2),(13,c13)],ar,[]⟩⟩ Q:=by
 simp only[F408,Rx,AC.one,AC.two,AC.VD]
 have hbr:=YF k b1
 rw[hrow]at hbr
 unfold acK at hbr
 rcases hmv with⟨rfl,hm0⟩|⟨mi,rfl,hmi,hm0,hma⟩
 .have hm0:=afE.1 hm0
  rw[hm0]at hQ |-
  refine W.fv 0 (fun j=>⟨[(1,.ptr 1 0),(2,.ptr 2 0),(12,.own 1 0 0 n),(13,.ptr 13 0),(17,.du 2 ax k 0),(100,.pv (.int .i64 m)),(101,.pv (.int .i64 k)),(129,.pv (.int .i64 (([]:List Mem).length:Nat))),(130,.pv (.int .i64 j))],⟨[(1,c1),(2,c2),(13,c13)],ar,[]⟩⟩) (fun _=>True) rfl trivial fun j hj _=>?_
  simp(disch:=omega)only[go_sem]
  refine Br.aJ (fun c=>?_) (fun c=>?_)
  .simp at c
   omega
  simp(disch:=omega)only[go_sem]
  exact hQ _ ar (fun _ _=>rfl) (Wj _) (fun _ _=>rfl) (.inl ⟨rfl,rfl⟩)
 .have hml2:(x.bc.map Mem.c).length=x.bc.length:=Wg _
  rw[hml2]at hbr hQ
  have hmil:=(V9.1 hma).1
  have gM:∀a,(ar.set mi a)[mi]?=some a:=fun a=>WU hmil
  have g1:∀a,(ar.set mi a)[1]?=some ⟨0,1,.inl (ints at')⟩:=fun a=>by rw[Xk (by omega)]; exact h1
  have g2:∀a,(ar.set mi a)[2]?=some ⟨ax,10,b1⟩:=fun a=>by rw[Xk (by omega)]; exact h2
  refine W.fv x.bc.length (fun j=>⟨[(1,.ptr 1 0),(2,.ptr 2 0),(12,.own 1 0 0 n),(13,.ptr 13 0),(17,.du 2 ax k 0),(100,.pv (.int .i64 m)),(101,.pv (.int .i64 k)),(129,.pv (.int .i64 x.bc.length)),(130,.pv (.int .i64 j))],⟨[(1,c1),(2,c2),(13,c13)],ar.set mi ⟨0,13,.inl ((acn L x.bc j).map Mem.c)⟩,[]⟩⟩) (fun _=>True) ?_ trivial fun j hj _=>?_
  .rw[adQ,acB hma]
   rfl
  have hmj:=adf L x.bc j
  simp(disch:=omega)only[go_sem]
  refine Br.aJ (fun c=>?_) (fun c=>?_)
  .obtain⟨q,hq⟩:=get_some (l:=x.bc) (k:=j) (by omega)
   obtain⟨q0,q1,q2⟩:=hat q (Wa hq)
   have hmg:=adg (L:=L) hq
   have hst:=fun id=>adE (L:=L) hq id
   simp(disch:=omega)only[go_sem,g1,g2,gM,hbr,hmg,Option.map_some,Mem.c,q2,hst,List.set_set]
   exact .of (by omega) rfl trivial
  .obtain rfl:j=x.bc.length:=by omega
   rw[aec]
   simp(disch:=omega)only[go_sem]
   refine hQ _ _ (fun i hi=>by rw[List.getElem?_set_ne (by omega)]) (by rw[List.length_set]; exact Nat.le_refl _) (fun i hi=>?_) (.inr ⟨mi,by simp,hmi,by simpa using hm0,gM _⟩)
   rw[Xk]
   rintro rfl
   exact hi rfl
theorem ab8 {o ax kk k c:Nat} {body:Sum (List (List PV)) (List (List V))} {row:List V} {w:V} (hrow:(dX body)[k]?=some row) (hc:c+1<=kk) (hw:w.calm=true/\X6 w=true):
  ∃b',eG o k c [w] ⟨ax,kk,body⟩=some { ar:=some (o,⟨ax,kk,b'⟩) }/\dX b'=(dX body).set k (Yr row c [w]):=by
 obtain⟨b',h,g⟩:=aaa (id:=o) (r:=k) (c:=c) (ax:=ax) (k:=kk) (news:=[w]) (body:=body) (List.getElem?_eq_some_iff.1 hrow).1 (by simpa using hc) (by simp[hw.1]) (by simp[hw.2])
 refine⟨b',h,?_⟩
 rw[g,Ws,hrow]
 rfl
def aez (L:List Int) (x:aH) (sv mv:V):List V:=acK { x with key:=if x.kind=8 then afX L x.key else x.key,elem:=if 7<=x.kind then afX L x.elem else x.elem } sv mv
set_option maxHeartbeats 2000000 in
theorem afe (c1 c2 c13:List V) (n:Nat) (L at':List Int) (ar:List aL) (ax m k:Nat) (b1:Sum (List (List PV)) (List (List V))) (x:aH) (sv mv:V) (hk:k<m) (h2:ar[2]?=some ⟨ax,10,b1⟩) (hrow:(dX b1)[k]?=some (acK x sv mv)) (h1:ar[1]?=some ⟨0,1,.inl (ints at')⟩) (hn:at'.length=n) (hkd:1<=x.kind/\x.kind<=9)
  (hke:x.kind=8->0<=x.key/\x.key<n/\at'[x.key.toNat]?=some (afX L x.key)) (hel:7<=x.kind->0<=x.elem/\x.elem<n/\at'[x.elem.toNat]?=some (afX L x.elem)) (hbm:m<=100) (env0:List (Nat×V)) (Q:Ex->St->Prop)
  (hQ:∀e env ar2 b2,(e=[]\/e=[(17,V.du 2 ax k 0)])->(∀i,i≠2->ar2[i]?=ar[i]?)->ar.length=ar2.length->ar2[2]?=some ⟨ax,10,b2⟩->dX b2=(dX b1).set k (aez L x sv mv)->Q .normal ⟨(1,.ptr 1 0)::(2,.ptr 2 0)::(12,.own 1 0 0 n)::(13,.ptr 13 0)::(e++(100,.pv (.int .i64 m))::(101,.pv (.int .i64 k))::env),⟨[(1,c1),(2,c2),(13,c13)],ar2,[]⟩⟩):
  W A aA F408.body.two.two.two.two.two.two.two.one.two.VD.VD.VD.two.two.one.VD.two.two.two.two ⟨(1,.ptr 1 0)::(2,.ptr 2 0)::(12,.own 1 0 0 n)::(13,.ptr 13 0)::(17,.du 2 ax k 0)::(100,.pv (.int .i64 m))::(101,.pv (.int .i64 k))::env0,⟨[(1,c1),(2,c2),(13,c13)],ar,[]⟩⟩ Q:=by
 simp only[F408,Rx,AC.one,AC.two,AC.VD]
 have hl2:2<ar.length:=(V9.1 h2).1
 have gS:∀a,(ar.set 2 a)[2]?=some a:=fun a=>WU hl2
 have g1:∀a,(ar.set 2 a)[1]?=some ⟨0,1,.inl (ints at')⟩:=fun a=>by rw[Xk (by omega)]; exact h1
 have gO:∀a i,i≠2->(ar.set 2 a)[i]?=ar[i]?:=fun a i hi=>Xk (fun e=>hi e.symm)
 have hbr:=YF k b1
 rw[hrow]at hbr
 have hself:∀row,acK x sv mv=row->dX b1=(dX b1).set k row:=fun row e=>by rw[acB]; rw[hrow,e]
 unfold aez at hQ
 obtain⟨kind,name,low,high,max,syms,bc,key,elem,jO⟩:=x
 dsimp only at *
 unfold acK at hbr hrow
 dsimp only at hbr hrow
 rcases nine hkd with rfl|rfl|rfl|rfl|rfl|rfl|rfl|rfl|rfl
 case inr.inr.inr.inr.inr.inr.inl=>
  obtain⟨e0,e1,e2⟩:=hel (by decide)
  obtain⟨b7,h7,g7⟩:=ab8 (o:=2) (ax:=ax) (kk:=10) (c:=8) (w:=.pv (.int .i64 (afX L elem))) hrow (by decide) ⟨rfl,rfl⟩
  simp(disch:=omega)only[go_sem,h2,hbr,decide_true,decide_false,Int.reduceEq,h1,e2,h7]
  refine hQ [] _ _ b7 (.inl rfl) (gO _) (by simp) (gS _) ?_
  rw[g7]
  rfl
 case inr.inr.inr.inr.inr.inr.inr.inl=>
  obtain⟨e0,e1,e2⟩:=hel (by decide)
  obtain⟨k0,k1,k2⟩:=hke (by decide)
  obtain⟨b6,h6,g6⟩:=ab8 (o:=2) (ax:=ax) (kk:=10) (c:=7) (w:=.pv (.int .i64 (afX L key))) hrow (by decide) ⟨rfl,rfl⟩
  have hrow6:(dX b6)[k]?=some [.pv (.int .i64 8),.pv (.str name),.pv (.int .i64 low),.pv (.int .i64 high),.pv (.int .i64 max),sv,mv,.pv (.int .i64 (afX L key)),.pv (.int .i64 elem),.pv (.bool jO)]:=by
   rw[g6,WU (V9.1 hrow).1]
   rfl
  have hbr6:=YF k b6
  rw[hrow6]at hbr6
  obtain⟨b7,h7,g7⟩:=ab8 (o:=2) (ax:=ax) (kk:=10) (c:=8) (w:=.pv (.int .i64 (afX L elem))) hrow6 (by decide) ⟨rfl,rfl⟩
  simp(disch:=omega)only[go_sem,h2,hbr,decide_true,decide_false,Int.reduceEq,h1,g1,gS,k2,e2,h6,hbr6,h7,List.set_set]
  refine hQ [] _ _ b7 (.inl rfl) (gO _) (by simp) (gS _) ?_
  rw[g7,g6,List.set_set]
  rfl
 case inr.inr.inr.inr.inr.inr.inr.inr=>
  obtain⟨e0,e1,e2⟩:=hel (by decide)
  obtain⟨b7,h7,g7⟩:=ab8 (o:=2) (ax:=ax) (kk:=10) (c:=8) (w:=.pv (.int .i64 (afX L elem))) hrow (by decide) ⟨rfl,rfl⟩
  simp(disch:=omega)only[go_sem,h2,hbr,decide_true,decide_false,Int.reduceEq,h1,e2,h7]
  refine hQ [] _ _ b7 (.inl rfl) (gO _) (by simp) (gS _) ?_
  rw[g7]
  rfl
 all_goals
  simp(disch:=omega)only[go_sem,h2,hbr,decide_true,decide_false,Int.reduceEq]
  exact hQ [(17,.du 2 ax k 0)] _ ar b1 (.inr rfl) (fun _ _=>rfl) rfl h2 (hself _ rfl)
theorem aeA {L:List Int} {x:aH} {ar:List aL} {o b:Nat} {sv mv:V} (ho:o<b) (hs:ab0 ar b 2 sv (x.syms.map Sym.c)) (hm:ab0 ar b 13 mv ((x.bc.map (xb L)).map Mem.c)):afW ar o (aez L x sv mv) (af0 L x).c:=by
 unfold aez acK aH.c af0
 dsimp only
 refine .pure rfl rfl (.pure rfl rfl (.pure rfl rfl (.pure rfl rfl (.pure rfl rfl (.cons (.inr ⟨2,_,rfl,hs.home ho⟩) (.cons (.inr ⟨13,_,rfl,hm.home ho⟩) (.pure rfl rfl (.pure rfl rfl (.pure rfl rfl (.nil _ _))))))))))
structure At7 (T:List aH) (L at':List Int) (ax k:Nat) (ar:List aL):Prop where
 le:k<=L.length
 at1:ar[1]?=some ⟨0,1,.inl (ints at')⟩
 it:∃body,ar[2]?=some ⟨ax,10,body⟩/\(dX body).length=L.length/\(∀i row u,i<k->(dX body)[i]?=some row->L[i]?=some u->afW ar 2 row (af0 L (ji T u)).c)/\∀i,k<=i->(dX body)[i]?=L[i]?.map fun u=>(ji T u).c.map V.pv
set_option maxHeartbeats 4000000 in
theorem sh7 (c1 c2:List V) (nm:ByteArray) (n:Nat) (T:List aH) (L at':List Int) (ar:List aL) (hts:∀t∈T,t.short) (hn:at'.length=n) (hT:∀u∈L,0<=u/\u<T.length/\1<=(ji T u).kind/\(ji T u).kind<=9) (hL:L.length<=100)
  (hat:∀u∈L,∀w∈cT (ji T u),0<=w/\w<n/\at'[w.toNat]?=some (afX L w)) (ax:Nat) (hver:L.length=ax+1) (h0:At7 T L at' ax 0 ar) (Q:Ex->St->Prop)
  (hQ:∀env ar,At7 T L at' ax L.length ar->Q (.exit 6) ⟨(1,.ptr 1 0)::(2,.ptr 2 0)::(12,.own 1 0 0 n)::(13,.ptr 13 0)::env,⟨[(1,c1),(2,c2),(13,[.pv (.str nm),.own 2 ax 0 L.length,.tl [],.tl [],.tl []])],ar,[]⟩⟩):
  W A aA F408.body.two.two.two.two.two.two.two.one.two.VD ⟨[(1,.ptr 1 0),(2,.ptr 2 0),(12,.own 1 0 0 n),(13,.ptr 13 0),(100,.pv (.int .i64 L.length)),(101,.pv (.int .i64 0))],⟨[(1,c1),(2,c2),(13,[.pv (.str nm),.own 2 ax 0 L.length,.tl [],.tl [],.tl []])],ar,[]⟩⟩ Q:=by
 have s7a:=afc c1 c2 [.pv (.str nm),.own 2 ax 0 L.length,.tl [],.tl [],.tl []] n
 have s7b:=afd c1 c2 [.pv (.str nm),.own 2 ax 0 L.length,.tl [],.tl [],.tl []] n L at'
 have s7c:=afe c1 c2 [.pv (.str nm),.own 2 ax 0 L.length,.tl [],.tl [],.tl []] n L at'
 rw[show F408.body.two.two.two.two.two.two.two.one.two.VD=AC.loop (.mask [1,2,12,13,100,101] [1,2,13] (.seq F408.body.two.two.two.two.two.two.two.one.two.VD.VD.VD.one (.seq F408.body.two.two.two.two.two.two.two.one.two.VD.VD.VD.two.one (.seq (.block 7 (.seq F408.body.two.two.two.two.two.two.two.one.two.VD.VD.VD.two.two.one.VD.one (.seq F408.body.two.two.two.two.two.two.two.one.two.VD.VD.VD.two.two.one.VD.two.one (.seq F408.body.two.two.two.two.two.two.two.one.two.VD.VD.VD.two.two.one.VD.two.two.one (.seq (.seq F408.body.two.two.two.two.two.two.two.one.two.VD.VD.VD.two.two.one.VD.two.two.two.one.one (.block 8 F408.body.two.two.two.two.two.two.two.one.two.VD.VD.VD.two.two.one.VD.two.two.two.one.two.VD)) F408.body.two.two.two.two.two.two.two.one.two.VD.VD.VD.two.two.one.VD.two.two.two.two))))) F408.body.two.two.two.two.two.two.two.one.two.VD.VD.VD.two.two.two)))) from rfl]
 generalize F408.body.two.two.two.two.two.two.two.one.two.VD.VD.VD.two.two.one.VD.two.two.one=D at s7a |-
 generalize F408.body.two.two.two.two.two.two.two.one.two.VD.VD.VD.two.two.one.VD.two.two.two.one.two.VD=E at s7b |-
 generalize F408.body.two.two.two.two.two.two.two.one.two.VD.VD.VD.two.two.one.VD.two.two.two.two=F at s7c |-
 simp only[F408,Rx,AC.one,AC.two,AC.VD]
 refine W.loop (α:=Nat×List aL) (fun x=>⟨[(1,.ptr 1 0),(2,.ptr 2 0),(12,.own 1 0 0 n),(13,.ptr 13 0),(100,.pv (.int .i64 L.length)),(101,.pv (.int .i64 x.1))],⟨[(1,c1),(2,c2),(13,[.pv (.str nm),.own 2 ax 0 L.length,.tl [],.tl [],.tl []])],x.2,[]⟩⟩) (fun x=>At7 T L at' ax x.1 x.2) (fun x=>L.length - x.1) (0,ar) rfl h0 fun x hx=>?_
 obtain⟨k,ar⟩:=x
 obtain⟨hk,h1,body,h2,hbl,hdone,hraw⟩:=hx
 dsimp only at hk h1 h2 hbl hdone hraw
 simp(disch:=omega)only[go_sem]
 refine Br.aJ (fun c=>?_) (fun c=>?_)
 rotate_left
 .obtain rfl:k=L.length:=by omega
  simp(disch:=omega)only[go_sem]
  exact hQ _ ar ⟨Wj _,h1,body,h2,hbl,hdone,hraw⟩
 obtain⟨u,hu⟩:=get_some (l:=L) (k:=k) (by omega)
 have hum:=Wa hu
 obtain⟨u0,u1,k1,k9⟩:=hT u hum
 have hxm:ji T u∈T:=Wa (uT u0 u1)
 have hsh:=hts _ hxm
 have hm:=hsh.bc
 have hs:=hsh.syms
 have hau:=hat u hum
 have hrow:=hraw k (Wj _)
 rw[hu,afx]at hrow
 have hdone':∀row w,L[k]?=some w->afW ar 2 row (af0 L (ji T w)).c->afW ar 2 row (af0 L (ji T u)).c:=fun row w hw h=>by rw[hu]at hw; cases hw; exact h
 have hl2:2<ar.length:=(V9.1 h2).1
 generalize hxx:ji T u=x at *
 simp(disch:=omega)only[go_sem,h2]
 refine s7a ar ax L.length k body x ⟨by omega,by omega⟩ (by omega) h2 hbl hrow _ fun env ar1 b1 sv mv ha1 ha2 hb1 hsv hmv hne=>?_
 have hrow1:(dX b1)[k]?=some (acK x sv mv):=by rw[hb1,WU (by omega)]
 have h11:ar1[1]?=some ⟨0,1,.inl (ints at')⟩:=by rw[ha1.get 1 (by omega) (by decide),h1]
 have hbr:=YF k b1
 rw[hrow1]at hbr
 unfold acK at hbr
 have hlen:ix ⟨[(1,c1),(2,c2),(13,[.pv (.str nm),.own 2 ax 0 L.length,.tl [],.tl [],.tl []])],ar1,[]⟩ 0 mv=some (x.bc.length,{}):=by
  rcases hmv with⟨rfl,h⟩|⟨mi,rfl,_⟩
  .rw[afE.1 h]
   rfl
  .rw[Wg]
   rfl
 simp(disch:=omega)only[go_sem,ha2,hbr,hlen]
 have hum':∀q∈x.bc,0<=q.type/\q.type<n/\at'[q.type.toNat]?=some (afX L q.type):=fun q hq=>hau _ (abY hq)
 refine s7b ar1 ax L.length k b1 x sv mv hm (by omega) ha2 hrow1 h11 hn hum' ar.length hl2 hmv hL _ fun env ar2 ha ha3 ha4 hmv2=>?_
 have hkeep:acq 2 ar ar2:=⟨by have:=ha1.len; omega,fun i hi ho=>by rw[ha i hi,ha1.get i hi ho]⟩
 have ha22:ar2[2]?=some ⟨ax,10,b1⟩:=by rw[ha 2 hl2,ha2]
 have h21:ar2[1]?=some ⟨0,1,.inl (ints at')⟩:=by rw[ha 1 (by omega),h11]
 have hsv2:ab0 ar2 ar.length 2 sv (x.syms.map Sym.c):=by
  rcases hsv with h|⟨mi,rfl,g1,g2,g3⟩
  .exact .inl h
  .refine .inr ⟨mi,rfl,g1,g2,?_⟩
   by_cases e:V.own mi 0 0 x.bc.length=mv
   .rcases hmv with⟨rfl,_⟩|⟨mj,rfl,_,_,g4⟩
    .cases e
    .injection e with e1
     subst e1
     rw[g3]at g4
     cases g4
   .rw[ha4 mi e]
    exact g3
 simp(disch:=omega)only[go_sem]
 refine s7c ar2 ax L.length k b1 x sv mv (by omega) ha22 hrow1 h21 hn ⟨k1,k9⟩ (fun h=>hau _ (ou h)) (fun h=>hau _ (acf h)) hL _ _ fun e env ar3 b2 he hb2 hb3 hb4 hb5=>?_
 have hA:At7 T L at' ax (k+1) ar3:=by
  have hkeep3:acq 2 ar ar3:=⟨by have:=hkeep.len; omega,fun i hi ho=>by rw[hb2 i ho,hkeep.get i hi ho]⟩
  refine⟨by omega,by rw[hb2 1 (by decide),h21],b2,hb4,by rw[hb5,Xx,hb1,Xx,hbl],fun i row w hi hr hw=>?_,fun i hi=>?_⟩
  .rw[hb5,hb1,List.set_set]at hr
   by_cases e:k=i
   .subst e
    rw[hu]at hw
    cases hw
    rw[WU (by omega)]at hr
    cases hr
    rw[hxx]
    have hs3:ab0 ar3 ar.length 2 sv (x.syms.map Sym.c):=by
     rcases hsv2 with h|⟨mi,h5,g1,g2,g3⟩
     .exact .inl h
     .exact .inr ⟨mi,h5,g1,g2,by rw[hb2 mi (by omega)]; exact g3⟩
    have hm3:ab0 ar3 ar.length 13 mv ((x.bc.map (xb L)).map Mem.c):=by
     rcases hmv2 with h|⟨mi,h5,g1,g2,g3⟩
     .exact .inl h
     .exact .inr ⟨mi,h5,g1,g2,by rw[hb2 mi (by omega)]; exact g3⟩
    exact aeA hl2 hs3 hm3
   .rw[Xk e]at hr
    exact(hdone i row w (by omega) hr hw).aeR hkeep3
  .rw[hb5,hb1,List.set_set,Xk (by omega),hraw i (by omega)]
 rcases he with rfl|rfl<;>simp(disch:=omega)only[go_sem,List.nil_append,List.cons_append]<;>exact⟨(k+1,ar3),hA,by dsimp only; omega,rfl⟩
set_option maxHeartbeats 4000000 in
theorem sh8 (a1 a2:V) (a4 a5:V) (c2:List V) (nm:ByteArray) (n t2:Nat) (C:List Cal) (L at':List Int) (V0:V) (pre:List aL) (hn:at'.length=n) (h1:pre[1]?=some ⟨0,1,.inl (ints at')⟩) (hC:C.length<=8)
  (hat:∀c∈C,(0<=c.ud/\c.ud<n/\at'[c.ud.toNat]?=some (afX L c.ud))/\0<=c.rep/\c.rep<n/\at'[c.rep.toNat]?=some (afX L c.rep)) (Q:Ex->St->Prop)
  (hQ:∀env,Q (.exit 10) ⟨(1,.ptr 1 0)::(2,.ptr 2 0)::(12,.own 1 0 0 n)::(13,.ptr 13 0)::env,⟨[(1,[a1,a2,.pv (.aq t2 (ch C)),a4,a5]),(2,c2),(13,[.pv (.str nm),V0,dh pre.length (ch (C.map (afN L))),.tl [],.tl []])],pre++cK 3 (ch (C.map (afN L))),[]⟩⟩):
  W A aA F408.body.two.two.two.two.two.two.two.two.one.two.VD ⟨[(1,.ptr 1 0),(2,.ptr 2 0),(12,.own 1 0 0 n),(13,.ptr 13 0),(198,.pv (.aq t2 (ch C))),(199,.pv (.int .i64 C.length)),(200,.pv (.int .i64 0))],⟨[(1,[a1,a2,.pv (.aq t2 (ch C)),a4,a5]),(2,c2),(13,[.pv (.str nm),V0,.tl [],.tl [],.tl []])],pre,[]⟩⟩ Q:=by
 simp only[F408,Rx,AC.one,AC.two,AC.VD]
 refine W.fv C.length (fun k=>⟨[(1,.ptr 1 0),(2,.ptr 2 0),(12,.own 1 0 0 n),(13,.ptr 13 0),(198,.pv (.aq t2 (ch C))),(199,.pv (.int .i64 C.length)),(200,.pv (.int .i64 k))],⟨[(1,[a1,a2,.pv (.aq t2 (ch C)),a4,a5]),(2,c2),(13,[.pv (.str nm),V0,dh pre.length (ch ((C.map (afN L)).take k)),.tl [],.tl []])],pre++cK 3 (ch ((C.map (afN L)).take k)),[]⟩⟩) (fun _=>True) (by show _=(⟨_,⟨_,pre++[],[]⟩⟩:St); rw[Xh]; rfl) trivial fun k hk _=>?_
 simp(disch:=omega)only[go_sem]
 refine Br.aJ (fun c=>?_) (fun c=>?_)
 .obtain⟨x,hx⟩:=get_some (l:=C) (k:=k) (by omega)
  obtain⟨⟨_,_,q1⟩,_,_,q2⟩:=hat x (Wa hx)
  have hp1:=(V9.1 h1).1
  have gP:∀X:List aL,(pre++X)[1]?=some ⟨0,1,.inl (ints at')⟩:=fun X=>by rw[We hp1]; exact h1
  have hnx:ch ((C.map (afN L)).take (k+1))=ch ((C.map (afN L)).take k)++[[.str x.name,.int .i64 (afX L x.ud),.int .i64 (afX L x.rep)]]:=by
   rw[WL,Wf,hx]
   simp[ch,afN,Cal.c]
  have hql:(ch ((C.map (afN L)).take k)).length<=8:=by rw[oj,W8,Wg]; omega
  have hg:=fun bx mp=>grow bx mp pre 3 (ch ((C.map (afN L)).take k)) (afN L x).c rfl (by omega)
  have hgt:=fun bx mp=>ik bx mp pre 3 (ch ((C.map (afN L)).take k)) (afN L x).c
  generalize ch ((C.map (afN L)).take k)=rows at *
  unfold afN Cal.c at hg hgt
  dsimp only at hg hgt
  simp(disch:=omega)only[go_sem,hx,Option.map_some,Cal.c,gP,q1,q2,hg,hgt]
  refine .of (by omega) ?_ trivial
  rw[hnx]
  rfl
 .obtain rfl:k=C.length:=by omega
  have e:(C.map (afN L)).take C.length=C.map (afN L):=List.take_of_length_le (by simp)
  rw[e]
  simp(disch:=omega)only[go_sem]
  exact hQ _
set_option maxHeartbeats 4000000 in
theorem aff (c2:List V) (nm:ByteArray) (n t4:Nat) (C:List Tpc) (L at':List Int) (V0 V1 V2:V) (pre:List aL) (hn:at'.length=n) (h1:pre[1]?=some ⟨0,1,.inl (ints at')⟩) (hC:C.length<=8)
  (hat:∀c∈C,0<=c.ty/\c.ty<n/\at'[c.ty.toNat]?=some (afX L c.ty)) (Q:Ex->St->Prop)
  (hQ:∀env,Q (.exit 16) ⟨(2,.ptr 2 0)::(12,.own 1 0 0 n)::(13,.ptr 13 0)::env,⟨[(2,c2),(13,[.pv (.str nm),V0,V1,V2,dh pre.length (df (C.map (afT L)))])],pre++cK 2 (df (C.map (afT L))),[]⟩⟩):
  W A aA F408.body.two.two.two.two.two.two.two.two.two.two.one.two.VD ⟨[(2,.ptr 2 0),(12,.own 1 0 0 n),(13,.ptr 13 0),(261,.pv (.aq t4 (df C))),(262,.pv (.int .i64 C.length)),(263,.pv (.int .i64 0))],⟨[(2,c2),(13,[.pv (.str nm),V0,V1,V2,.tl []])],pre,[]⟩⟩ Q:=by
 simp only[F408,Rx,AC.one,AC.two,AC.VD]
 refine W.fv C.length (fun k=>⟨[(2,.ptr 2 0),(12,.own 1 0 0 n),(13,.ptr 13 0),(261,.pv (.aq t4 (df C))),(262,.pv (.int .i64 C.length)),(263,.pv (.int .i64 k))],⟨[(2,c2),(13,[.pv (.str nm),V0,V1,V2,dh pre.length (df ((C.map (afT L)).take k))])],pre++cK 2 (df ((C.map (afT L)).take k)),[]⟩⟩) (fun _=>True) (by show _=(⟨_,⟨_,pre++[],[]⟩⟩:St); rw[Xh]; rfl) trivial fun k hk _=>?_
 simp(disch:=omega)only[go_sem]
 refine Br.aJ (fun c=>?_) (fun c=>?_)
 .obtain⟨x,hx⟩:=get_some (l:=C) (k:=k) (by omega)
  obtain⟨_,_,q1⟩:=hat x (Wa hx)
  have hp1:=(V9.1 h1).1
  have gP:∀X:List aL,(pre++X)[1]?=some ⟨0,1,.inl (ints at')⟩:=fun X=>by rw[We hp1]; exact h1
  have hnx:df ((C.map (afT L)).take (k+1))=df ((C.map (afT L)).take k)++[[.str x.name,.int .i64 (afX L x.ty)]]:=by
   rw[WL,Wf,hx]
   simp[df,afT,Tpc.c]
  have hql:(df ((C.map (afT L)).take k)).length<=8:=by rw[sG,W8,Wg]; omega
  have hg:=fun bx mp=>grow bx mp pre 2 (df ((C.map (afT L)).take k)) (afT L x).c rfl (by omega)
  have hgt:=fun bx mp=>ik bx mp pre 2 (df ((C.map (afT L)).take k)) (afT L x).c
  generalize df ((C.map (afT L)).take k)=rows at *
  unfold afT Tpc.c at hg hgt
  dsimp only at hg hgt
  simp(disch:=omega)only[go_sem,hx,Option.map_some,Tpc.c,gP,q1,hg,hgt]
  refine .of (by omega) ?_ trivial
  rw[hnx]
  rfl
 .obtain rfl:k=C.length:=by omega
  have e:(C.map (afT L)).take C.length=C.map (afT L):=List.take_of_length_le (by simp)
  rw[e]
  simp(disch:=omega)only[go_sem]
  exact hQ _
def ab3 (ar:List aL) (b k:Nat) (v:V) (rows:List (List PV)):Prop:=(v=.pv (.aq 0 [])/\rows=[])\/∃m,v=.own m 0 0 rows.length/\b<=m/\rows≠[]/\ar[m]?=some ⟨0,k,.inl rows⟩
set_option maxHeartbeats 4000000 in
theorem afg (c1 c2 c13:List V) (n t3 m k:Nat) (S:List (List PV)) (x:eE) (hx1:x.msgs.length<=2147483648) (hx2:x.auto.af.length<=2147483648) (ar:List aL) (Q:Ex->St->Prop)
  (hQ:∀env X mv ev,ab3 (ar++X) ar.length 3 mv (msgs x.msgs)->ab3 (ar++X) ar.length 4 ev (x.auto.af.map Edge.c)->Q .normal ⟨(1,.ptr 1 0)::(2,.ptr 2 0)::(12,.own 1 0 0 n)::(13,.ptr 13 0)::(22,.ptr 22 0)::(224,.pv (.aq t3 S))::(225,.pv (.int .i64 m))::(226,.pv (.int .i64 k))::env,⟨[(1,c1),(2,c2),(13,c13),(22,[.pv (.str x.name),mv,.pv (.int .i64 x.auto.aj),.pv (.int .i64 x.auto.start),ev])],ar++X,[]⟩⟩):
  W A aA F408.body.two.two.two.two.two.two.two.two.two.one.two.VD.VD.VD.two.two.one.VD.two.one ⟨[(1,.ptr 1 0),(2,.ptr 2 0),(12,.own 1 0 0 n),(13,.ptr 13 0),(22,.ptr 22 0),(224,.pv (.aq t3 S)),(225,.pv (.int .i64 m)),(226,.pv (.int .i64 k))],⟨[(1,c1),(2,c2),(13,c13),(22,x.c.map .pv)],ar,[]⟩⟩ Q:=by
 simp only[F408,Rx,AC.one,AC.two,AC.VD]
 have h445:=r445 x hx1 hx2
 unfold Mu at h445
 have hml:(msgs x.msgs).length=x.msgs.length:=Rk _
 unfold eE.c at h445 |-
 by_cases em:msgs x.msgs=[]<;>by_cases ee:x.auto.af.map Edge.c=[]
 .rw[if_pos em,if_pos ee]at h445
  simp(disch:=omega)only[go_sem,List.map_cons,List.map_nil,h445]
  have:=hQ [] [] (.pv (.aq 0 [])) (.pv (.aq 0 [])) (.inl ⟨rfl,em⟩) (.inl ⟨rfl,ee⟩)
  rw[Xh]at this
  exact this
 .rw[if_pos em,if_neg ee]at h445
  simp(disch:=omega)only[go_sem,List.map_cons,List.map_nil,h445]
  exact hQ [] _ _ _ (.inl ⟨rfl,em⟩) (.inr ⟨ar.length,by simp,Nat.le_refl _,ee,by simp⟩)
 .rw[if_neg em,if_pos ee]at h445
  simp(disch:=omega)only[go_sem,List.map_cons,List.map_nil,h445]
  exact hQ [] _ _ _ (.inr ⟨ar.length,by rw[hml],Nat.le_refl _,em,by simp⟩) (.inl ⟨rfl,ee⟩)
 .rw[if_neg em,if_neg ee]at h445
  simp(disch:=omega)only[go_sem,List.map_cons,List.map_nil,h445]
  exact hQ [] _ _ _ (.inr ⟨ar.length,by rw[hml],Nat.le_refl _,em,by simp⟩) (.inr ⟨ar.length+1,by simp,by omega,ee,by simp⟩)
def acr {α:Type} (f:α->α) (l:List α) (j:Nat):List α:=(l.take j).map f++l.drop j
theorem ad6 {α:Type} (f:α->α) (l:List α):acr f l 0=l:=by simp[acr]
theorem aej {α:Type} (f:α->α) (l:List α):acr f l l.length=l.map f:=by simp[acr]
theorem adq {α:Type} (f:α->α) (l:List α) (j:Nat):(acr f l j).length=l.length:=by
 simp only[acr,List.length_append,List.length_map,List.length_take,List.length_drop]
 omega
theorem adr {α:Type} {f:α->α} {l:List α} {j:Nat} {m:α} (h:l[j]?=some m):(acr f l j)[j]?=some m:=by
 have hj:=(V9.1 h).1
 have hl:((l.take j).map f).length=j:=by simp; omega
 unfold acr
 rw[Wn (by omega),hl,afA,WQ,afv]
 exact h
theorem aek {α:Type} {f:α->α} {l:List α} {j:Nat} {m:α} (h:l[j]?=some m):(acr f l j).set j (f m)=acr f l (j+1):=by
 have hj:=(V9.1 h).1
 have hl:((l.take j).map f).length=j:=by simp; omega
 unfold acr
 rw[afB _ _ (by omega),hl,afA,ade h,List.set_cons_zero,WL,h]
 simp
theorem adJ {L:List Int} {l:List gI} {j:Nat} {m:gI} (h:l[j]?=some m) (id:Nat):eG id j 2 [.pv (.int .i64 (afX L m.ty))] ⟨0,3,.inl (msgs (acr (abM L) l j))⟩=some { ar:=some (id,⟨0,3,.inl (msgs (acr (abM L) l (j+1)))⟩) }:=by
 have hj:=(V9.1 h).1
 rw[n9 (l:=[.int .i64 (afX L m.ty)]) (by rw[Rk,adq]; exact hj) rfl (by simp) rfl,<- aek h]
 unfold over msgs
 have hd:((acr (abM L) l j).map gI.c).getD j []=m.c:=by rw[Ws,Wf,adr h]; rfl
 rw[hd,List.map_set]
 rfl
set_option maxHeartbeats 4000000 in
theorem afh (c1 c2 c13:List V) (n t3 m k:Nat) (S:List (List PV)) (L at':List Int) (x:eE) (hx1:x.msgs.length<=16) (ar:List aL) (mv ev:V) (b:Nat) (hb:1<b) (hmv:ab3 ar b 3 mv (msgs x.msgs)) (h1:ar[1]?=some ⟨0,1,.inl (ints at')⟩) (hn:at'.length=n)
  (hat:∀q∈x.msgs,0<=q.ty/\q.ty<n/\at'[q.ty.toNat]?=some (afX L q.ty)) (env0:List (Nat×V)) (Q:Ex->St->Prop)
  (hQ:∀env ar2,(∀i,i<b->ar2[i]?=ar[i]?)->ar.length<=ar2.length->(∀i,(V.own i 0 0 x.msgs.length≠mv->ar2[i]?=ar[i]?))->ab3 ar2 b 3 mv (msgs (x.msgs.map (abM L)))->Q (.exit 14) ⟨(1,.ptr 1 0)::(2,.ptr 2 0)::(12,.own 1 0 0 n)::(13,.ptr 13 0)::(22,.ptr 22 0)::(224,.pv (.aq t3 S))::(225,.pv (.int .i64 m))::(226,.pv (.int .i64 k))::env,⟨[(1,c1),(2,c2),(13,c13),(22,[.pv (.str x.name),mv,.pv (.int .i64 x.auto.aj),.pv (.int .i64 x.auto.start),ev])],ar2,[]⟩⟩):
  W A aA F408.body.two.two.two.two.two.two.two.two.two.one.two.VD.VD.VD.two.two.one.VD.two.two.one.two.VD ⟨[(1,.ptr 1 0),(2,.ptr 2 0),(12,.own 1 0 0 n),(13,.ptr 13 0),(22,.ptr 22 0),(224,.pv (.aq t3 S)),(225,.pv (.int .i64 m)),(226,.pv (.int .i64 k)),(234,.pv (.int .i64 x.msgs.length)),(235,.pv (.int .i64 0))],⟨[(1,c1),(2,c2),(13,c13),(22,[.pv (.str x.name),mv,.pv (.int .i64 x.auto.aj),.pv (.int .i64 x.auto.start),ev])],ar,[]⟩⟩ Q:=by
 simp only[F408,Rx,AC.one,AC.two,AC.VD]
 rcases hmv with⟨rfl,hm0⟩|⟨mi,rfl,hmi,hm0,hma⟩
 .have hm0:=afE.1 hm0
  rw[hm0]at hQ |-
  refine W.fv 0 (fun j=>⟨[(1,.ptr 1 0),(2,.ptr 2 0),(12,.own 1 0 0 n),(13,.ptr 13 0),(22,.ptr 22 0),(224,.pv (.aq t3 S)),(225,.pv (.int .i64 m)),(226,.pv (.int .i64 k)),(234,.pv (.int .i64 (([]:List gI).length:Nat))),(235,.pv (.int .i64 j))],⟨[(1,c1),(2,c2),(13,c13),(22,[.pv (.str x.name),.pv (.aq 0 []),.pv (.int .i64 x.auto.aj),.pv (.int .i64 x.auto.start),ev])],ar,[]⟩⟩) (fun _=>True) rfl trivial fun j hj _=>?_
  simp(disch:=omega)only[go_sem]
  refine Br.aJ (fun c=>?_) (fun c=>?_)
  .simp at c
   omega
  simp(disch:=omega)only[go_sem]
  exact hQ _ ar (fun _ _=>rfl) (Wj _) (fun _ _=>rfl) (.inl ⟨rfl,rfl⟩)
 .have hml2:(msgs x.msgs).length=x.msgs.length:=Rk _
  rw[hml2]at hQ
  have hmil:=(V9.1 hma).1
  have gM:∀a,(ar.set mi a)[mi]?=some a:=fun a=>WU hmil
  have g1:∀a,(ar.set mi a)[1]?=some ⟨0,1,.inl (ints at')⟩:=fun a=>by rw[Xk (by omega)]; exact h1
  rw[hml2]
  refine W.fv x.msgs.length (fun j=>⟨[(1,.ptr 1 0),(2,.ptr 2 0),(12,.own 1 0 0 n),(13,.ptr 13 0),(22,.ptr 22 0),(224,.pv (.aq t3 S)),(225,.pv (.int .i64 m)),(226,.pv (.int .i64 k)),(234,.pv (.int .i64 x.msgs.length)),(235,.pv (.int .i64 j))],⟨[(1,c1),(2,c2),(13,c13),(22,[.pv (.str x.name),.own mi 0 0 x.msgs.length,.pv (.int .i64 x.auto.aj),.pv (.int .i64 x.auto.start),ev])],ar.set mi ⟨0,3,.inl (msgs (acr (abM L) x.msgs j))⟩,[]⟩⟩) (fun _=>True) ?_ trivial fun j hj _=>?_
  .rw[ad6,acB hma]
   rfl
  have hmj:=adq (abM L) x.msgs j
  simp(disch:=omega)only[go_sem]
  refine Br.aJ (fun c=>?_) (fun c=>?_)
  .obtain⟨q,hq⟩:=get_some (l:=x.msgs) (k:=j) (by omega)
   obtain⟨q0,q1,q2⟩:=hat q (Wa hq)
   have hmg:=adr (f:=abM L) hq
   have hst:=fun id=>adJ (L:=L) hq id
   simp(disch:=omega)only[go_sem,g1,gM,hmg,Option.map_some,gI.c,q2,hst,List.set_set]
   exact .of (by omega) rfl trivial
  .obtain rfl:j=x.msgs.length:=by omega
   rw[aej]
   simp(disch:=omega)only[go_sem]
   refine hQ _ _ (fun i hi=>by rw[List.getElem?_set_ne (by omega)]) (by rw[List.length_set]; exact Nat.le_refl _) (fun i hi=>?_) (.inr ⟨mi,by simp[msgs],hmi,by simpa [msgs]using hm0,gM _⟩)
   rw[Xk]
   rintro rfl
   exact hi rfl
theorem ab3.cell {ar:List aL} {b k o:Nat} {v:V} {rows:List (List PV)} (h:ab3 ar b k v rows) (ho:o<b):Yw ar o v (.aq 0 rows):=by
 rcases h with⟨rfl,rfl⟩|⟨m,rfl,h1,_,h2⟩
 .exact .inl ⟨rfl,rfl⟩
 .exact .inr ⟨k,rows,rfl,.inr (.inl ⟨m,0,rfl,by omega,.whole h2⟩)⟩
theorem ab3.aeG {ar:List aL} {b k o:Nat} {v:V} {rows:List (List PV)} (h:ab3 ar b k v rows) (ho:ar.length<=o):Yw ar o v (.aq 0 rows):=by
 rcases h with⟨rfl,rfl⟩|⟨m,rfl,h1,_,h2⟩
 .exact .inl ⟨rfl,rfl⟩
 .have:=(V9.1 h2).1
  exact .inr ⟨k,rows,rfl,.inr (.inl ⟨m,0,rfl,by omega,.whole h2⟩)⟩
theorem adN {w:eE} {ar:List aL} {o b:Nat} {mv ev:V} (ho:o<b\/ar.length<=o) (hm:ab3 ar b 3 mv (msgs w.msgs)) (he:ab3 ar b 4 ev (w.auto.af.map Edge.c)):afW ar o [.pv (.str w.name),mv,.pv (.int .i64 w.auto.aj),.pv (.int .i64 w.auto.start),ev] w.c:=by
 unfold eE.c
 have h1:Yw ar o mv (.aq 0 (w.msgs.map gI.c)):=by
  rcases ho with h|h
  .exact hm.cell h
  .exact hm.aeG h
 have h2:Yw ar o ev (.aq 0 (w.auto.af.map Edge.c)):=by
  rcases ho with h|h
  .exact he.cell h
  .exact he.aeG h
 exact .pure rfl rfl (.cons h1 (.pure rfl rfl (.pure rfl rfl (.cons h2 (.nil _ _)))))
theorem ab3.push {ar:List aL} {b k:Nat} {v:V} {rows:List (List PV)} (h:ab3 ar b k v rows) (x:List aL):ab3 (ar++x) b k v rows:=by
 rcases h with h|⟨m,h1,h2,h3,h4⟩
 .exact .inl h
 .exact .inr ⟨m,h1,h2,h3,by rw[We (V9.1 h4).1]; exact h4⟩
theorem ads {α:Type} {a b:List α} {n i:Nat} (h:a.take n=b.take n) (hi:i<n):a[i]?=b[i]?:=by
 have:=congrArg (fun l=>l[i]?) h
 simpa [List.getElem?_take,hi]using this
theorem adt {α:Type} {a b:List α} {n:Nat} (h:∀i,i<n->a[i]?=b[i]?):a.take n=b.take n:=by
 apply WW
 intro i
 rw[Wy,Wy]
 split
 .exact h i (by assumption)
 .rfl
theorem afU.move {b:Nat} {ar ar':List aL} {V0:V} {k:Nat} {css:List (List PV)} (h:afU b ar V0 k css) (hl:∀i,i<ar.length->ar'[i]?=ar[i]?):afU b ar' V0 k css:=by
 rcases h with h|⟨o,ax,h1,h2,body,h3,h4⟩
 .exact .inl h
 .have ho:=(V9.1 h3).1
  refine .inr ⟨o,ax,h1,h2,body,by rw[hl o ho]; exact h3,h4.len,fun i row cs g1 g2=>?_⟩
  obtain⟨r1,r2⟩:=h4.row i row cs g1 g2
  refine⟨r1,fun j v c j1 j2=>?_⟩
  rcases r2 j v c j1 j2 with h|⟨kk,rows,e,h|⟨id,vv,e1,e2,e3⟩|h⟩
  .exact .inl h
  .exact .inr ⟨kk,rows,e,.inl h⟩
  .exact .inr ⟨kk,rows,e,.inr (.inl ⟨id,vv,e1,e2,e3.move (hl id e3.lt)⟩)⟩
  .exact .inr ⟨kk,rows,e,.inr (.inr h)⟩
set_option maxHeartbeats 8000000 in
theorem sh9 (c1 c2:List V) (nm:ByteArray) (n t3:Nat) (C:List eE) (L at':List Int) (V0 V1:V) (pre:List aL) (hn:at'.length=n) (h1:pre[1]?=some ⟨0,1,.inl (ints at')⟩) (hC:C.length<=8) (hsm:∀w∈C,w.msgs.length<=16/\w.auto.af.length<=2000000000)
  (hat:∀w∈C,∀q∈w.msgs,0<=q.ty/\q.ty<n/\at'[q.ty.toNat]?=some (afX L q.ty)) (Q:Ex->St->Prop)
  (hQ:∀env ar V2,ar.take pre.length=pre->afU pre.length ar V2 5 ((C.map (afR L)).map eE.c)->Q (.exit 12) ⟨(1,.ptr 1 0)::(2,.ptr 2 0)::(12,.own 1 0 0 n)::(13,.ptr 13 0)::env,⟨[(1,c1),(2,c2),(13,[.pv (.str nm),V0,V1,V2,.tl []])],ar,[]⟩⟩):
  W A aA F408.body.two.two.two.two.two.two.two.two.two.one.two.VD ⟨[(1,.ptr 1 0),(2,.ptr 2 0),(12,.own 1 0 0 n),(13,.ptr 13 0),(224,.pv (.aq t3 (aG C))),(225,.pv (.int .i64 C.length)),(226,.pv (.int .i64 0))],⟨[(1,c1),(2,c2),(13,[.pv (.str nm),V0,V1,.tl [],.tl []])],pre,[]⟩⟩ Q:=by
 have s9a:=afg c1 c2
 have s9b:=afh c1 c2
 have hp1:=(V9.1 h1).1
 rw[show F408.body.two.two.two.two.two.two.two.two.two.one.two.VD=AC.loop (.mask [1,2,12,13,224,225,226] [1,2,13] (.seq F408.body.two.two.two.two.two.two.two.two.two.one.two.VD.VD.VD.one (.seq F408.body.two.two.two.two.two.two.two.two.two.one.two.VD.VD.VD.two.one (.seq (.block 13 (.seq F408.body.two.two.two.two.two.two.two.two.two.one.two.VD.VD.VD.two.two.one.VD.one (.seq F408.body.two.two.two.two.two.two.two.two.two.one.two.VD.VD.VD.two.two.one.VD.two.one (.seq (.seq F408.body.two.two.two.two.two.two.two.two.two.one.two.VD.VD.VD.two.two.one.VD.two.two.one.one (.block 14 F408.body.two.two.two.two.two.two.two.two.two.one.two.VD.VD.VD.two.two.one.VD.two.two.one.two.VD)) F408.body.two.two.two.two.two.two.two.two.two.one.two.VD.VD.VD.two.two.one.VD.two.two.two)))) F408.body.two.two.two.two.two.two.two.two.two.one.two.VD.VD.VD.two.two.two)))) from rfl]
 generalize F408.body.two.two.two.two.two.two.two.two.two.one.two.VD.VD.VD.two.two.one.VD.two.one=D at s9a |-
 generalize F408.body.two.two.two.two.two.two.two.two.two.one.two.VD.VD.VD.two.two.one.VD.two.two.one.two.VD=E at s9b |-
 simp only[F408,Rx,AC.one,AC.two,AC.VD]
 refine W.loop (α:=Nat×List aL×V) (fun x=>⟨[(1,.ptr 1 0),(2,.ptr 2 0),(12,.own 1 0 0 n),(13,.ptr 13 0),(224,.pv (.aq t3 (aG C))),(225,.pv (.int .i64 C.length)),(226,.pv (.int .i64 x.1))],⟨[(1,c1),(2,c2),(13,[.pv (.str nm),V0,V1,x.2.2,.tl []])],x.2.1,[]⟩⟩) (fun x=>x.1<=C.length/\x.2.1.take pre.length=pre/\pre.length<=x.2.1.length/\afU pre.length x.2.1 x.2.2 5 (((C.map (afR L)).take x.1).map eE.c)) (fun x=>C.length - x.1) (0,pre,.tl []) rfl ⟨WA _,WV,Wj _,.inl ⟨rfl,rfl⟩⟩ fun x hx=>?_
 obtain⟨k,ar,V2⟩:=x
 obtain⟨hk,hpre,hpl,hlist⟩:=hx
 dsimp only at hk hpre hpl hlist
 simp(disch:=omega)only[go_sem]
 refine Br.aJ (fun c=>?_) (fun c=>?_)
 rotate_left
 .obtain rfl:k=C.length:=by omega
  have e:(C.map (afR L)).take C.length=C.map (afR L):=List.take_of_length_le (by simp)
  rw[e]at hlist
  simp(disch:=omega)only[go_sem]
  exact hQ _ ar V2 hpre hlist
 obtain⟨x,hx⟩:=get_some (l:=C) (k:=k) (by omega)
 have hxm:=Wa hx
 obtain⟨hm16,hel⟩:=hsm x hxm
 have hax:=hat x hxm
 have har1:ar[1]?=some ⟨0,1,.inl (ints at')⟩:=by
  have:ar[1]?=pre[1]?:=by rw[<- hpre,Wy,if_pos hp1]
  rw[this,h1]
 have har1l:=(V9.1 har1).1
 have hnx:((C.map (afR L)).take (k+1)).map eE.c=((C.map (afR L)).take k).map eE.c++[(afR L x).c]:=by
  rw[WL,Wf,hx]
  simp
 have hcl:(((C.map (afR L)).take k).map eE.c).length<=8:=by rw[Wg,W8,Wg]; omega
 simp(disch:=omega)only[go_sem,hx,Option.map_some,eE.c]
 refine s9a [.pv (.str nm),V0,V1,V2,.tl []] n t3 C.length k (aG C) x (by omega) (by omega) ar _ fun env X mv ev hmv hev=>?_
 have hX1:(ar++X)[1]?=some ⟨0,1,.inl (ints at')⟩:=by rw[We har1l]; exact har1
 have hlen:ix ⟨[(1,c1),(2,c2),(13,[.pv (.str nm),V0,V1,V2,.tl []]),(22,[.pv (.str x.name),mv,.pv (.int .i64 x.auto.aj),.pv (.int .i64 x.auto.start),ev])],ar++X,[]⟩ 0 mv=some (x.msgs.length,{}):=by
  rcases hmv with⟨rfl,h⟩|⟨mi,rfl,_⟩
  .rw[afE.1 h]
   rfl
  .rw[Rk]
   rfl
 simp(disch:=omega)only[go_sem,hlen]
 refine s9b [.pv (.str nm),V0,V1,V2,.tl []] n t3 C.length k (aG C) L at' x hm16 (ar++X) mv ev ar.length (by omega) hmv hX1 hn hax [] _ fun env ar2 g1 g2 g3 hmv2=>?_
 have hev2:ab3 ar2 ar.length 4 ev (x.auto.af.map Edge.c):=by
  rcases hev with h|⟨mi,rfl,q1,q2,q3⟩
  .exact .inl h
  .refine .inr ⟨mi,rfl,q1,q2,?_⟩
   by_cases e:V.own mi 0 0 x.msgs.length=mv
   .rcases hmv with⟨rfl,_⟩|⟨mj,rfl,_,_,q4⟩
    .cases e
    .injection e with e1
     subst e1
     rw[q3]at q4
     cases q4
   .rw[g3 mi e]
    exact q3
 have hl2:afU pre.length ar2 V2 5 (((C.map (afR L)).take k).map eE.c):=hlist.move fun i hi=>by rw[g1 i hi,We hi]
 have hpre2:ar2.take pre.length=pre:=by
  rw[<- hpre]
  rw[W8,afF hpl]
  exact adt fun i hi=>by rw[g1 i (by omega),We (by omega)]
 have hAl:(ar2.take ar.length).length=ar.length:=by rw[W8]; have:=g2; rw[Wz]at this; omega
 have hA:afU pre.length (ar2.take ar.length) V2 5 (((C.map (afR L)).take k).map eE.c):=hlist.move fun i hi=>by rw[Wy,if_pos hi,g1 i hi,We hi]
 have hsplit:ar2.take ar.length++ar2.drop ar.length=ar2:=XG _ _
 have hmsgs:(afR L x).msgs=x.msgs.map (abM L):=rfl
 have fin:∀ar' V3,ar'.take pre.length=(ar2.take ar.length).take pre.length->pre.length<=ar'.length->afU pre.length ar' V3 5 (((C.map (afR L)).take k).map eE.c++[(afR L x).c])->((k+1,ar',V3):Nat×List aL×V).1<=C.length/\ar'.take pre.length=pre/\pre.length<=ar'.length/\afU pre.length ar' V3 5 (((C.map (afR L)).take (k+1)).map eE.c):=fun ar' V3 q1 q2 q3=>by
  refine⟨by dsimp only; omega,?_,q2,by rw[hnx]; exact q3⟩
  rw[q1,List.take_take,afF hpl,hpre2]
 have lit:∀row,row=[.pv (.str x.name),mv,.pv (.int .i64 x.auto.aj),.pv (.int .i64 x.auto.start),ev]->∃V3 T ar',(∀bx,aK ⟨bx,ar2++[⟨0,5,.inr [row]⟩],[]⟩ 5 V2 (.own ar2.length 0 0 1)=some (V3,T))/\(∀bx,T.apply ⟨bx,ar2++[⟨0,5,.inr [row]⟩],[]⟩=⟨bx,ar',[]⟩)/\V3.cells=[V3]/\V3.calm=true/\ar'.take pre.length=(ar2.take ar.length).take pre.length/\pre.length<=ar'.length/\afU pre.length ar' V3 5 (((C.map (afR L)).take k).map eE.c++[(afR L x).c]):=fun row hrow=>by
  have:=aew (X0:=ar2.drop ar.length) (row:=row) (n:=ar2.length) (cs:=(afR L x).c) hA (by omega) (by omega) rfl (by rw[hsplit]) fun o ho=>?_
  .rw[hsplit]at this
   exact this
  .rw[hsplit,hrow]
   have:=adN (w:=afR L x) (ar:=ar2++[⟨0,5,.inr [row]⟩]) (o:=o) (b:=ar.length) (mv:=mv) (ev:=ev) (by rw[Wz,List.length_singleton]; omega) (hmv2.push _) (hev2.push _)
   rw[hrow]at this
   exact this
 rcases hmv2 with⟨rfl,hm0⟩|⟨mi,rfl,w1,w2,w3⟩<;>rcases hev2 with⟨rfl,he0⟩|⟨ei,rfl,z1,z2,z3⟩
 .obtain⟨V3,T,ar',happ,hT,hc1,hc2,q1,q2,q3⟩:∃V3 T ar',(∀bx,aK ⟨bx,ar2,[]⟩ 5 V2 (.tl [[.str x.name,.aq 0 [],.int .i64 x.auto.aj,.int .i64 x.auto.start,.aq 0 []]])=some (V3,T))/\(∀bx,T.apply ⟨bx,ar2,[]⟩=⟨bx,ar',[]⟩)/\V3.cells=[V3]/\V3.calm=true/\ar'.take pre.length=(ar2.take ar.length).take pre.length/\pre.length<=ar'.length/\afU pre.length ar' V3 5 (((C.map (afR L)).take k).map eE.c++[(afR L x).c]):=by
   have:=aeZ (X:=ar2.drop ar.length) (y:=.tl [[.str x.name,.aq 0 [],.int .i64 x.auto.aj,.int .i64 x.auto.start,.aq 0 []]]) (new:=.inl [[.str x.name,.aq 0 [],.int .i64 x.auto.aj,.int .i64 x.auto.start,.aq 0 []]]) (rd:=none) (row:=[.pv (.str x.name),.pv (.aq 0 []),.pv (.int .i64 x.auto.aj),.pv (.int .i64 x.auto.start),.pv (.aq 0 [])]) (cs:=(afR L x).c) hA (by omega) (by omega) rfl (fun bx=>rfl) rfl (fun o h=>by cases h) fun o ho=>?_
   .rw[hsplit]at this
    exact this
   .rw[hsplit]at ho |-
    exact adN (w:=afR L x) (b:=ar.length) (by omega) (.inl ⟨rfl,hm0⟩) (.inl ⟨rfl,he0⟩)
  simp(disch:=omega)only[go_sem,happ,hT,hc1,hc2]
  exact⟨(k+1,ar',V3),fin ar' V3 q1 q2 q3,by dsimp only; omega,rfl⟩
 .simp only[Rk,List.length_map]at lit
  obtain⟨V3,T,ar',happ,hT,hc1,hc2,q1,q2,q3⟩:=lit _ rfl
  simp(disch:=omega)only[go_sem,happ,hT,hc1,hc2]
  exact⟨(k+1,ar',V3),fin ar' V3 q1 q2 q3,by dsimp only; omega,rfl⟩
 .simp only[Rk,List.length_map]at lit
  obtain⟨V3,T,ar',happ,hT,hc1,hc2,q1,q2,q3⟩:=lit _ rfl
  simp(disch:=omega)only[go_sem,happ,hT,hc1,hc2]
  exact⟨(k+1,ar',V3),fin ar' V3 q1 q2 q3,by dsimp only; omega,rfl⟩
 .simp only[Rk,List.length_map]at lit
  obtain⟨V3,T,ar',happ,hT,hc1,hc2,q1,q2,q3⟩:=lit _ rfl
  simp(disch:=omega)only[go_sem,happ,hT,hc1,hc2]
  exact⟨(k+1,ar',V3),fin ar' V3 q1 q2 q3,by dsimp only; omega,rfl⟩
set_option maxHeartbeats 2000000 in
theorem afi (c1 c2:List V) (nm:ByteArray) (n:Nat) (T:List aH) (L at':List Int) (ua:aL) (rows:List (List PV)) (hr:rows=L.map fun u=>(ji T u).c) (hts:∀t∈T,t.short) (hn:at'.length=n) (hT:∀u∈L,0<=u/\u<T.length/\1<=(ji T u).kind/\(ji T u).kind<=9) (hL:L.length<=100)
  (hat:∀u∈L,∀w∈cT (ji T u),0<=w/\w<n/\at'[w.toNat]?=some (afX L w)) (Q:Ex->St->Prop)
  (hQ:∀env ar V0,ar[1]?=some ⟨0,1,.inl (ints at')⟩->afU 0 ar V0 10 (L.map fun u=>(af0 L (ji T u)).c)->Q (.exit 6) ⟨(1,.ptr 1 0)::(2,.ptr 2 0)::(12,.own 1 0 0 n)::(13,.ptr 13 0)::env,⟨[(1,c1),(2,c2),(13,[.pv (.str nm),V0,.tl [],.tl [],.tl []])],ar,[]⟩⟩):
  W A aA F408.body.two.two.two.two.two.two.two.one.two.VD ⟨[(1,.ptr 1 0),(2,.ptr 2 0),(12,.own 1 0 0 n),(13,.ptr 13 0),(100,.pv (.int .i64 rows.length)),(101,.pv (.int .i64 0))],⟨[(1,c1),(2,c2),(13,[.pv (.str nm),dh 2 rows,.tl [],.tl [],.tl []])],ua::⟨0,1,.inl (ints at')⟩::cK 10 rows,[]⟩⟩ Q:=by
 have hrl:rows.length=L.length:=by rw[hr,Wg]
 cases hLc:L with
 |nil=>
  subst hLc
  have hr0:rows=[]:=by rw[hr]; rfl
  rw[hr0]
  simp only[F408,Rx,AC.one,AC.two,AC.VD]
  refine W.fv 0 (fun k=>⟨[(1,.ptr 1 0),(2,.ptr 2 0),(12,.own 1 0 0 n),(13,.ptr 13 0),(100,.pv (.int .i64 (([]:List (List PV)).length:Nat))),(101,.pv (.int .i64 k))],⟨[(1,c1),(2,c2),(13,[.pv (.str nm),.tl [],.tl [],.tl [],.tl []])],[ua,⟨0,1,.inl (ints at')⟩],[]⟩⟩) (fun _=>True) rfl trivial fun k hk _=>?_
  simp(disch:=omega)only[go_sem]
  refine Br.aJ (fun c=>?_) (fun c=>?_)
  .simp at c
   omega
  simp(disch:=omega)only[go_sem]
  exact hQ _ _ (.tl []) rfl (.inl ⟨rfl,rfl⟩)
 |cons u0 L0=>
  have hv:L.length=L0.length+1:=by rw[hLc]; rfl
  rw[rn (n:=L0.length) (by rw[hrl,hv]),lU (n:=L0.length) (by rw[hrl,hv]),hrl]
  have:=sh7 c1 c2 nm n T L at' [ua,⟨0,1,.inl (ints at')⟩,⟨L0.length,10,.inl rows⟩] hts hn hT hL hat L0.length hv ⟨Nat.zero_le _,rfl,.inl rows,rfl,by simp[dX,hrl],fun i row u h=>absurd h (Nat.not_lt_zero _),fun i _=>by simp[dX,hr,List.getElem?_map,Function.comp_def]⟩ Q fun env ar h=>hQ env ar (.own 2 L0.length 0 L.length) h.at1 ?_
  .rw[<- hv]
   exact this
  .obtain⟨_,_,body,h2,hbl,hd,_⟩:=h
   refine .inr ⟨2,L0.length,by rw[Wg],WA _,body,h2,by rw[hbl,Wg],fun i row cs g1 g2=>?_⟩
   rw[Wf]at g2
   obtain⟨u,hu,rfl⟩:=Wx.1 g2
   exact hd i row u (V9.1 hu).1 g1 hu
theorem cH.roots {v:ij} (h:cH v):(afY v).length<=1000:=by
 obtain⟨h1,h2,h3⟩:=h.zn
 have:=aey fun w hw=>show w.msgs.length<=20 by have:=(h.wK w hw).zn; omega
 have h7:=acA v.calls
 have h8:(HC v.aT).length=v.aT.length:=Wg _
 rw[afY,Wz,Wz]
 omega
theorem tf (bx:List (Nat×List V)) (mp:List (List (PV×PV))) (pre post:List aL) (k d:Nat) (rows:List (List PV)):aY ⟨bx,pre++(cK k rows++post),mp⟩ (d+1) (dh pre.length rows)=some (.aq 0 rows):=by
 cases rows with
 |nil=>rfl
 |cons x q=>
  have:=Ag bx mp pre post k x q
  simp[dh,dS,this,bO,az]
theorem r408 (t1 t2 t3 t4:Nat) (v:ij) (hv:iX v):res A aA 408 [.agg (lB t1 t2 t3 t4 v)]=some (if acw v=0 then [.agg (lB 0 0 0 0 (afH v)),.int .i64 0] else [.agg [.str ⟨#[]⟩,.aq 0 [],.aq 0 [],.aq 0 [],.aq 0 []],.int .i64 (acw v)]):=by
 have h407:=r407 t1 t2 t3 t4 v hv
 refine aw a408 rfl rfl ?_
 simp only[F408,Rx,lB]at h407 |-
 simp(disch:=omega)only[go_sem,h407]
 refine Br.aJ (fun c=>?_) (fun c=>?_)
 rotate_left
 .rw[if_neg c]
  simp(disch:=omega)only[go_sem]
 rw[if_pos c]
 have hG:=vj c
 have h8:=hG.zn
 have hvv:=hG.valid
 have h32:=(eZ hvv).len
 have hroot:=hG.root
 have hrl:(afY v).length<=1000:=hG.roots
 have h417:=r417 t1 t2 t3 t4 v (by omega) (by omega) (by omega) (by omega) (fun w hw=>(hv.ss w hw).2.1)
 simp only[lB]at h417
 simp(disch:=omega)only[go_sem,h417]
 refine sh3 t1 t2 t3 t4 v hv hvv _ (fun r hr=>hroot r (acV.1 hr)) (by have:=adS (afY v); omega) _ fun env=>?_
 simp(disch:=omega)only[go_sem]
 refine sh6 t1 t2 t3 t4 v h32 _ (acX _ _) _ fun env=>?_
 simp(disch:=omega)only[go_sem]
 have hUl:=adY v
 have hUd:acD v.types (acU (afY v))=ab5 v:=rfl
 have hKd:abN (ab5 v) v.types.length=afM v:=rfl
 rw[hUd]
 have hkr:ab6 v.types (ab5 v) v.types.length=(afM v).map fun u=>(ji v.types u).c:=by
  unfold ab6 afM abN
  rw[Xw]
  rfl
 have hnl:=adj (ab5 v) v.types.length v.types.length
 have hus:∀u,Used v u->0<=u/\u<v.types.length/\(aci (ab5 v) v.types.length v.types.length)[u.toNat]?=some (afX (afM v) u):=fun u h=>⟨h.1,h.2.1,aef h.1 h.2.1 h.2.2⟩
 have hur:=acz hvv hroot
 have hsane:=eZ hvv
 have hkd:∀u:Int,0<=u->u<v.types.length->1<=(ji v.types u).kind/\(ji v.types u).kind<=9:=fun u h0 h1=>(Fe hv.to hvv).2.2 _ (Wa (uT h0 h1))
 have hLl:(afM v).length<=100:=by
  unfold afM abN
  rw[Wg]
  have:=acg (ab5 v) v.types.length
  omega
 have hsv:afH v=⟨v.name,(afM v).map fun u=>af0 (afM v) (ji v.types u),v.calls.map (afN (afM v)),v.aG.map (afR (afM v)),v.aT.map (afT (afM v))⟩:=rfl
 generalize aci (ab5 v) v.types.length v.types.length=at' at *
 refine afi _ _ v.name v.types.length v.types (afM v) at' _ _ hkr (fun t ht=>abK (hsane.own t ht)) hnl (fun u hu=>?_) hLl (fun u hu w hw=>hus w (ac1 (af9.1 hu) hw)) _ fun env ar V0 ha1 hV0=>?_
 .obtain⟨g0,g1,_⟩:=af9.1 hu
  exact⟨g0,g1,hkd u g0 g1⟩
 have hq0:=hV0.quiet
 simp(disch:=omega)only[go_sem,hq0.1,hq0.2]
 refine sh8 _ _ _ _ _ v.name v.types.length t2 v.calls (afM v) at' V0 ar hnl ha1 (by omega) (fun c hc=>?_) _ fun env=>?_
 .have h1:c.ud∈afY v:=List.mem_append_left _ (List.mem_append_left _ (List.mem_flatMap.2 ⟨c,hc,by simp⟩))
  have h2:c.rep∈afY v:=List.mem_append_left _ (List.mem_append_left _ (List.mem_flatMap.2 ⟨c,hc,by simp⟩))
  exact⟨hus _ (hur _ h1),hus _ (hur _ h2)⟩
 simp(disch:=omega)only[go_sem,hq0.1,hq0.2]
 have har1l:=(V9.1 ha1).1
 have hp1:(ar++cK 3 (ch (v.calls.map (afN (afM v)))))[1]?=some ⟨0,1,.inl (ints at')⟩:=by rw[We har1l]; exact ha1
 refine sh9 _ _ v.name v.types.length t3 v.aG (afM v) at' V0 (dh ar.length (ch (v.calls.map (afN (afM v))))) (ar++cK 3 (ch (v.calls.map (afN (afM v))))) hnl hp1 (by omega) (fun w hw=>⟨(hG.wK w hw).zn,(hv.ss w hw).2.2.2⟩) (fun w hw q hq=>?_) _ fun env ar3 V2 ht hV2=>?_
 .have h1:q.ty∈afY v:=Xa _ (Xt _ (afw.2 ⟨w,hw,Wk.2 ⟨q,hq,rfl⟩⟩))
  exact hus _ (hur _ h1)
 have hq2:=hV2.quiet
 have h31:ar3[1]?=some ⟨0,1,.inl (ints at')⟩:=by
  have:=ads (i:=1) (n:=(ar++cK 3 (ch (v.calls.map (afN (afM v))))).length) (a:=ar3) (b:=ar++cK 3 (ch (v.calls.map (afN (afM v))))) (by rw[ht,WV]) (by rw[Wz]; omega)
  rw[this,hp1]
 simp(disch:=omega)only[go_sem,hq0.1,hq0.2,hq2.1,hq2.2]
 refine aff _ v.name v.types.length t4 v.aT (afM v) at' V0 (dh ar.length (ch (v.calls.map (afN (afM v))))) V2 ar3 hnl h31 (by omega) (fun c hc=>hus _ (hur _ (Xt _ (Wk.2 ⟨c,hc,rfl⟩)))) _ fun env=>?_
 have k0:∀bx,aY ⟨bx,ar3++cK 2 (df (v.aT.map (afT (afM v)))),[]⟩ 4 V0=some (.aq 0 ((afM v).map fun u=>(af0 (afM v) (ji v.types u)).c)):=fun bx=>by
  have h1:afU 0 ar3 V0 10 ((afM v).map fun u=>(af0 (afM v) (ji v.types u)).c):=hV0.move fun i hi=>by
   have:=ads (i:=i) (n:=(ar++cK 3 (ch (v.calls.map (afN (afM v))))).length) (a:=ar3) (b:=ar++cK 3 (ch (v.calls.map (afN (afM v))))) (by rw[ht,WV]) (by rw[Wz]; omega)
   rw[this,We hi]
  exact(h1.push _).keep bx []
 have k1:∀bx,aY ⟨bx,ar3++cK 2 (df (v.aT.map (afT (afM v)))),[]⟩ 4 (dh ar.length (ch (v.calls.map (afN (afM v)))))=some (.aq 0 (ch (v.calls.map (afN (afM v))))):=fun bx=>by
  have h1:ar3=(ar++cK 3 (ch (v.calls.map (afN (afM v)))))++ar3.drop (ar++cK 3 (ch (v.calls.map (afN (afM v))))).length:=by
   have:=XG (ar++cK 3 (ch (v.calls.map (afN (afM v))))).length ar3
   rw[ht]at this
   exact this.symm
  rw[h1,WK,WK]
  exact tf bx [] ar _ 3 3 _
 have k2:∀bx,aY ⟨bx,ar3++cK 2 (df (v.aT.map (afT (afM v)))),[]⟩ 4 V2=some (.aq 0 ((v.aG.map (afR (afM v))).map eE.c)):=fun bx=>(hV2.push _).keep bx []
 have k3:∀bx,aY ⟨bx,ar3++cK 2 (df (v.aT.map (afT (afM v)))),[]⟩ 4 (dh ar3.length (df (v.aT.map (afT (afM v)))))=some (.aq 0 (df (v.aT.map (afT (afM v))))):=fun bx=>sI bx [] ar3 2 3 _
 simp(disch:=omega)only[go_sem,hq0.1,hq0.2,hq2.1,hq2.2,k0,k1,k2,k3]
 rw[hsv]
 dsimp only
 unfold aG
 rw[Xw (l:=afM v)]
 rfl
set_option maxHeartbeats 4000000 in
theorem r409 (v:ij) (ht:v.types.length<=2147483648) (ho:∀t∈v.types,t.ok) (hc:v.calls.length<=1000) (hs:v.aG.length<=1000) (hss:∀w∈v.aG,w.msgs.length<=2^63 - 1/\w.auto.af.length<=2^63 - 1) (hp:v.aT.length<=1000):res A aA 409 [.agg (lB 0 0 0 0 v),.agg (lB 0 0 0 0 v)]=some [.bool true]:=by
 have h277:=fun t u=>r277 t u v.types v.types (by omega) (by omega) ho ho
 rw[fI]at h277
 refine aw a409 rfl rfl ?_
 simp only[F409,aeJ,lB]
 have bx:∀k:Nat,True:=fun _=>trivial
 simp(disch:=omega)only[go_sem,h277]
 refine W.fv v.calls.length (fun k=>⟨[(2,.ptr 2 0),(3,.ptr 3 0),(5,.pv (.int .i64 k))],⟨[(2,[.pv (.str v.name),.pv (.aq 0 (v.types.map aH.c)),.pv (.aq 0 (ch v.calls)),.pv (.aq 0 (aG v.aG)),.pv (.aq 0 (df v.aT))]),(3,[.pv (.str v.name),.pv (.aq 0 (v.types.map aH.c)),.pv (.aq 0 (ch v.calls)),.pv (.aq 0 (aG v.aG)),.pv (.aq 0 (df v.aT))])],[],[]⟩⟩) (fun _=>True) rfl trivial fun k hk _=>?_
 simp(disch:=omega)only[go_sem]
 refine Br.aJ (fun c=>?_) (fun c=>?_)
 .obtain⟨x,hx⟩:=get_some (l:=v.calls) (k:=k) (by omega)
  simp(disch:=omega)only[go_sem,hx,Option.map_some,Cal.c,decide_true,Bool.and_true]
  exact .of (by omega) rfl trivial
 simp(disch:=omega)only[go_sem]
 refine W.fv v.aG.length (fun k=>⟨[(2,.ptr 2 0),(3,.ptr 3 0),(6,.pv (.int .i64 k))],⟨[(2,[.pv (.str v.name),.pv (.aq 0 (v.types.map aH.c)),.pv (.aq 0 (ch v.calls)),.pv (.aq 0 (aG v.aG)),.pv (.aq 0 (df v.aT))]),(3,[.pv (.str v.name),.pv (.aq 0 (v.types.map aH.c)),.pv (.aq 0 (ch v.calls)),.pv (.aq 0 (aG v.aG)),.pv (.aq 0 (df v.aT))])],[],[]⟩⟩) (fun _=>True) rfl trivial fun k hk _=>?_
 simp(disch:=omega)only[go_sem]
 refine Br.aJ (fun c=>?_) (fun c=>?_)
 .obtain⟨x,hx⟩:=get_some (l:=v.aG) (k:=k) (by omega)
  have h416:=r416 x (hss x (Wa hx)).1 (hss x (Wa hx)).2
  simp only[eE.c]at h416
  simp(disch:=omega)only[go_sem,hx,Option.map_some,eE.c,h416]
  exact .of (by omega) rfl trivial
 simp(disch:=omega)only[go_sem]
 refine W.fv v.aT.length (fun k=>⟨[(2,.ptr 2 0),(3,.ptr 3 0),(7,.pv (.int .i64 k))],⟨[(2,[.pv (.str v.name),.pv (.aq 0 (v.types.map aH.c)),.pv (.aq 0 (ch v.calls)),.pv (.aq 0 (aG v.aG)),.pv (.aq 0 (df v.aT))]),(3,[.pv (.str v.name),.pv (.aq 0 (v.types.map aH.c)),.pv (.aq 0 (ch v.calls)),.pv (.aq 0 (aG v.aG)),.pv (.aq 0 (df v.aT))])],[],[]⟩⟩) (fun _=>True) rfl trivial fun k hk _=>?_
 simp(disch:=omega)only[go_sem]
 refine Br.aJ (fun c=>?_) (fun c=>?_)
 .obtain⟨x,hx⟩:=get_some (l:=v.aT) (k:=k) (by omega)
  simp(disch:=omega)only[go_sem,hx,Option.map_some,Tpc.c,decide_true,Bool.and_true]
  exact .of (by omega) rfl trivial
 simp(disch:=omega)only[go_sem]
def aa7:ij:=⟨⟨#[]⟩,[],[],[],[]⟩
theorem cj {v:ij} (hf:cg v=true) (hn:bC v.name) (ho:∀t∈v.types,t.ok) (hs:∀t∈v.types,t.held) (hc:∀c∈v.calls,bC c.name) (hw:∀w∈v.aG,bC w.name/\∀m∈w.msgs,bC m.name) (hp:∀c∈v.aT,bC c.name):iX v:=by
 obtain⟨f1,f2,f3,f4,f5,f6⟩:=dr hf
 exact⟨hn,by have:=fB f5; omega,ho,hs,by omega,hc,by omega,fun w h=>⟨(hw w h).1,by have:=f6 w h; omega,(hw w h).2,by have:=f6 w h; omega⟩,by omega,hp⟩
set_option maxRecDepth 20000 in
set_option maxHeartbeats 8000000 in
theorem r396 (r404:res A aA 404 []=some [.bool true]) (v:ij) (ho:∀t∈v.types,t.ok) (hs:∀t∈v.types,t.held) (h1:v.aG.length<=2^63 - 1) (hn:bC v.name) (hc:∀c∈v.calls,bC c.name) (hw:∀w∈v.aG,bC w.name/\∀m∈w.msgs,bC m.name) (hp:∀c∈v.aT,bC c.name):res A aA 396 [.agg (lB 0 0 0 0 v)]=some [.bool true]:=by
 refine aw a396 rfl rfl ?_
 simp only[F396,afO]
 have h405:=r405 0 0 0 0 v ho h1
 cases hf:cg v with
 |false=>
  rw[hf]at h405
  simp only[lB]at h405 |-
  simp(disch:=omega)only[go_sem,r404,h405]
 |true=>
  rw[hf]at h405
  have hv:=cj hf hn ho hs hc hw hp
  have h406:=r406 0 0 0 0 v hv
  have h407:=r407 0 0 0 0 v hv
  have h408:=r408 0 0 0 0 v hv
  have h409:=r409 aa7 (by simp[aa7]) (fun t h=>by simp[aa7]at h) (by simp[aa7]) (by simp[aa7]) (fun t h=>by simp[aa7]at h) (by simp[aa7])
  generalize afH v=sv at *
  generalize acw v=e at *
  simp only[lB,aa7,List.map_nil]at *
  have e0:ch []=[]:=rfl
  have e1:aG []=[]:=rfl
  have e2:df []=[]:=rfl
  rw[e0,e1,e2]at h409
  by_cases c:e=0
  .rw[if_pos c]at h408
   subst c
   simp(disch:=omega)only[go_sem,r404,h405,h406,h407,h408]
  .rw[if_neg c]at h408
   have c1:decide (e=0)=false:=decide_eq_false c
   simp(disch:=omega)only[go_sem,r404,h405,h406,h407,h408,h409,c1]
structure vo where
 a:ej
 x:Int
 y:Int
 z:Int
def vo.c (s:vo):List PV:=[.int .u8 s.a.n,.aq 0 (s.a.gH.map vb.c),.int .u8 s.x,.int .u8 s.y,.int .u8 s.z]
def vo.ok (s:vo):Prop:=s.a.ok/\(0<=s.x/\s.x<=255)/\(0<=s.y/\s.y<=255)/\0<=s.z/\s.z<=255
structure Dg where
 s:List Node
 calls:List (Int×Int)
 aG:List vo
 aT:List Int
def Pj (c:Int×Int):List PV:=[.int .u8 c.1,.int .u8 c.2]
def Pk (c:Int):List PV:=[.int .u8 c]
def Dg.c (d:Dg):List PV:=[.aq 0 (d.s.map Node.cs),.aq 0 (d.calls.map Pj),.aq 0 (d.aG.map vo.c),.aq 0 (d.aT.map Pk)]
def MG (x:Int):Prop:=0<=x/\x<=255
structure Dg.ok (d:Dg):Prop where
 s:∀y∈d.s,y.ok
 sl:bP d.s
 c:∀x∈d.calls,MG x.1/\MG x.2
 cl:bP d.calls
 w:∀x∈d.aG,x.ok
 wl:bP d.aG
 t:∀x∈d.aT,MG x
 tl:bP d.aT
def i6 (u:Int×Int):List PV:=[.int .i64 u.1,.int .i64 u.2]
def oP (l:List Mem):List (Int×Int):=l.map fun m=>(m.id,m.type)
def p5 (t:aH):List (Int×Int):=oP t.bc++(if t.kind=8 then [(0,t.key)] else [])++(if 7<=t.kind then [(-1,t.elem)] else [])
theorem HO (k:Nat) (rows:List (List PV)) (r1 r2:List PV) (h1:r1.length=k) (h2:r2.length=k) (hm:rows.length+2<=2147483648):
  ∃V1 T ar',(∀bx,aK ⟨bx,cK k rows,[]⟩ k (dh 0 rows) (.tl [r1,r2])=some (V1,T))/\(∀bx,T.apply ⟨bx,cK k rows,[]⟩=⟨bx,ar',[]⟩)/\V1.cells=[V1]/\V1.calm=true/\(∀b,dN b V1=V1)/\∀bx,keep ⟨bx,ar',[]⟩ false V1=some (.aq 0 (rows++[r1,r2])):=by
 cases rows with
 |nil=>exact⟨.own 0 0 0 2,{ push:=[⟨0,k,.inl [r1,r2]⟩],base:=0 },[⟨0,k,.inl [r1,r2]⟩],fun bx=>by simp[aK,dh,cK,aW,aO,aD,h1,h2,aU,aN],fun bx=>by simp[Tn.apply,cK],rfl,rfl,fun _=>rfl,fun bx=>by simp[keep,dS,aB,bO,az]⟩
 |cons x q=>
  refine⟨.own 0 (q.length+1) 0 (q.length+3),{ ar:=some (0,⟨q.length+1,k,.inl (x::q++[r1,r2])⟩) },[⟨q.length+1,k,.inl (x::q++[r1,r2])⟩],fun bx=>?_,fun bx=>by simp[Tn.apply,cK],rfl,rfl,fun _=>rfl,fun bx=>?_⟩
  .have e1:aB ⟨bx,cK k (x::q),[]⟩ 0 q.length=some ⟨q.length,k,.inl (x::q)⟩:=by simp[aB,cK]
   have e2:(⟨q.length,k,.inl (x::q)⟩:aL).size=q.length+1:=rfl
   simp only[List.length_cons]at hm
   simp[aK,dh,aW,aO,aD,h1,h2,e1,e2,aU,az,aN]
   omega
  .simp[keep,dS,aB,bO,az]
   exact List.take_of_length_le (by simp)
set_option maxHeartbeats 4000000 in
theorem r490 (t:aH) (hs:t.short) (h9:t.kind<=9):res A aA 490 [.agg t.c]=some [.aq 0 ((p5 t).map i6)]:=by
 have hl:=hs.bc
 obtain⟨k,a2,a3,a4,a5,a6,l,a8,a9,a10⟩:=t
 unfold p5 aH.c
 dsimp only at *
 refine aw a490 rfl rfl ?_
 simp only[F490,LK]
 simp(disch:=omega)only[go_sem]
 refine W.fv l.length (fun j=>⟨[(1,.ptr 1 0),(3,dh 0 ((oP (l.take j)).map i6)),(7,.pv (.aq 0 (l.map Mem.c))),(8,.pv (.int .i64 l.length)),(9,.pv (.int .i64 j))],⟨[(1,[.pv (.int .i64 k),.pv (.str a2),.pv (.int .i64 a3),.pv (.int .i64 a4),.pv (.int .i64 a5),.pv (.aq 0 (a6.map Sym.c)),.pv (.aq 0 (l.map Mem.c)),.pv (.int .i64 a8),.pv (.int .i64 a9),.pv (.bool a10)])],cK 2 ((oP (l.take j)).map i6),[]⟩⟩) (fun _=>True) rfl trivial fun j hj _=>?_
 simp(disch:=omega)only[go_sem]
 refine Br.aJ (fun c=>?_) (fun c=>?_)
 .obtain⟨p,hp⟩:=get_some (l:=l) (k:=j) (by omega)
  have hR:(oP (l.take (j+1))).map i6=(oP (l.take j)).map i6++[[.int .i64 p.id,.int .i64 p.type]]:=by
   rw[WL,hp]
   simp[oP,i6]
  have hRl:((oP (l.take j)).map i6).length<=j:=by simp[oP]; omega
  generalize (oP (l.take j)).map i6=rows at *
  have hg:∀bx mp,aK ⟨bx,cK 2 rows,mp⟩ 2 (dh 0 rows) (.tl [[.int .i64 p.id,.int .i64 p.type]])=some (dh 0 (rows++[[.int .i64 p.id,.int .i64 p.type]]),tM 0 2 rows [.int .i64 p.id,.int .i64 p.type]):=fun bx mp=>grow bx mp [] 2 rows _ rfl (by omega)
  simp(disch:=omega)only[go_sem,hp,Option.map_some,Mem.c,hg]
  refine .of (by omega) ?_ trivial
  rw[hR]
  rfl
 obtain rfl:j=l.length:=by omega
 rw[WV]
 have hRl:((oP l).map i6).length=l.length:=by simp[oP]
 rw[WC,WC]
 generalize (oP l).map i6=rows at *
 simp(disch:=omega)only[go_sem]
 obtain⟨V1,T,ar',happ,hT,hc1,hc2,hsc,hk⟩:=HO 2 rows [.int .i64 0,.int .i64 a8] [.int .i64 (-1),.int .i64 a9] rfl rfl (by omega)
 have hg:∀bx mp,aK ⟨bx,cK 2 rows,mp⟩ 2 (dh 0 rows) (.tl [[.int .i64 (-1),.int .i64 a9]])=some (dh 0 (rows++[[.int .i64 (-1),.int .i64 a9]]),tM 0 2 rows [.int .i64 (-1),.int .i64 a9]):=fun bx mp=>grow bx mp [] 2 rows _ rfl (by omega)
 refine Br.aJ (fun c8=>?_) (fun c8=>?_)
 .rw[if_pos c8,if_pos (by omega)]
  simp(disch:=omega)only[go_sem,happ,hT,hc1,hc2,hsc,hk]
  simp[i6]
 .rw[if_neg c8]
  cases h7:decide (k=7)with
  |true=>
   have c7:=of_decide_eq_true h7
   rw[if_pos (by omega)]
   simp(disch:=omega)only[go_sem,h7,hg]
   simp[i6]
  |false=>
   have c7:=of_decide_eq_false h7
   cases h9':decide (k=9)with
   |true=>
    have c9:=of_decide_eq_true h9'
    rw[if_pos (by omega)]
    simp(disch:=omega)only[go_sem,h7,h9',hg]
    simp[i6]
   |false=>
    have c9:=of_decide_eq_false h9'
    rw[if_neg (by omega)]
    simp(disch:=omega)only[go_sem,h7,h9',List.append_nil]
set_option maxHeartbeats 4000000 in
theorem r504 (t:aH) (hs:t.short) (h9:t.kind<=9):res A aA 504 [.agg t.c]=some [.aq 0 ((p5 t).map i6)]:=by
 have hl:=hs.bc
 obtain⟨k,a2,a3,a4,a5,a6,l,a8,a9,a10⟩:=t
 unfold p5 aH.c
 dsimp only at *
 refine aw a504 rfl rfl ?_
 simp only[F504,aa0]
 simp(disch:=omega)only[go_sem]
 refine W.fv l.length (fun j=>⟨[(1,.ptr 1 0),(3,dh 0 ((oP (l.take j)).map i6)),(4,.pv (.int .i64 j))],⟨[(1,[.pv (.int .i64 k),.pv (.str a2),.pv (.int .i64 a3),.pv (.int .i64 a4),.pv (.int .i64 a5),.pv (.aq 0 (a6.map Sym.c)),.pv (.aq 0 (l.map Mem.c)),.pv (.int .i64 a8),.pv (.int .i64 a9),.pv (.bool a10)])],cK 2 ((oP (l.take j)).map i6),[]⟩⟩) (fun _=>True) rfl trivial fun j hj _=>?_
 simp(disch:=omega)only[go_sem]
 refine Br.aJ (fun c=>?_) (fun c=>?_)
 .obtain⟨p,hp⟩:=get_some (l:=l) (k:=j) (by omega)
  have hR:(oP (l.take (j+1))).map i6=(oP (l.take j)).map i6++[[.int .i64 p.id,.int .i64 p.type]]:=by
   rw[WL,hp]
   simp[oP,i6]
  have hRl:((oP (l.take j)).map i6).length<=j:=by simp[oP]; omega
  generalize (oP (l.take j)).map i6=rows at *
  have hg:∀bx mp,aK ⟨bx,cK 2 rows,mp⟩ 2 (dh 0 rows) (.tl [[.int .i64 p.id,.int .i64 p.type]])=some (dh 0 (rows++[[.int .i64 p.id,.int .i64 p.type]]),tM 0 2 rows [.int .i64 p.id,.int .i64 p.type]):=fun bx mp=>grow bx mp [] 2 rows _ rfl (by omega)
  simp(disch:=omega)only[go_sem,hp,Option.map_some,Mem.c,hg]
  refine .of (by omega) ?_ trivial
  rw[hR]
  rfl
 obtain rfl:j=l.length:=by omega
 rw[WV]
 have hRl:((oP l).map i6).length=l.length:=by simp[oP]
 rw[WC,WC]
 generalize (oP l).map i6=rows at *
 have hg:∀bx mp (rows:List (List PV)) (x y:Int),rows.length<=2000000->aK ⟨bx,cK 2 rows,mp⟩ 2 (dh 0 rows) (.tl [[.int .i64 x,.int .i64 y]])=some (dh 0 (rows++[[.int .i64 x,.int .i64 y]]),tM 0 2 rows [.int .i64 x,.int .i64 y]):=fun bx mp rows x y h=>grow bx mp [] 2 rows _ rfl (by omega)
 have g1:=fun bx mp x y=>hg bx mp rows x y (by omega)
 have g2:=fun bx mp x y=>hg bx mp (rows++[[.int .i64 0,.int .i64 a8]]) x y (by rw[Wz,List.length_singleton]; omega)
 simp(disch:=omega)only[go_sem]
 cases h8:decide (k=8)with
 |true=>
  have c8:=of_decide_eq_true h8
  rw[if_pos c8,if_pos (by omega)]
  simp(disch:=omega)only[go_sem,h8,g1,g2]
  simp[i6]
 |false=>
  have c8:=of_decide_eq_false h8
  rw[if_neg c8]
  cases h7:decide (k=7)with
  |true=>
   have c7:=of_decide_eq_true h7
   rw[if_pos (by omega)]
   simp(disch:=omega)only[go_sem,h8,h7,g1]
   simp[i6]
  |false=>
   have c7:=of_decide_eq_false h7
   cases h9':decide (k=9)with
   |true=>
    have c9:=of_decide_eq_true h9'
    rw[if_pos (by omega)]
    simp(disch:=omega)only[go_sem,h8,h7,h9',g1]
    simp[i6]
   |false=>
    have c9:=of_decide_eq_false h9'
    rw[if_neg (by omega)]
    simp(disch:=omega)only[go_sem,h8,h7,h9',List.append_nil,List.map_nil]
set_option maxHeartbeats 4000000 in
theorem r499:∀(n k:Nat) (cs ds:List PV),mu n cs->mu k ds->res A aA 499 [.agg cs,.agg ds]=some [.bool (eqv cs ds)]
 |0,_,_,_,h,_=>h.elim
 |_+1,0,_,_,_,h=>h.elim
 |n+1,k+1,cs,ds,h,h'=>by
  obtain⟨v,rfl,⟨h1,h2,h3,h4⟩,⟨h5,h6,h7⟩,h8,h9,h10⟩:=h
  obtain⟨w,rfl,⟨g1,g2,g3,g4⟩,⟨g5,g6,g7⟩,g8,g9,g10⟩:=h'
  have ih:=r499 n k
  unfold bP at h5 h6 h7 g5 g6 g7
  have hk:=fun t u=>r334g cw499 t u v.keys w.keys (by omega) (by omega) (fun r hr=>(h8 r hr).val) (fun r hr=>(g8 r hr).val) (fun r hr q hq=>ih r q (h8 r hr) (g8 q hq))
  have hi:=fun t u=>r334g cw499 t u v.items w.items (by omega) (by omega) (fun r hr=>(h9 r hr).val) (fun r hr=>(g9 r hr).val) (fun r hr q hq=>ih r q (h9 r hr) (g9 q hq))
  have hr:=fun t u=>r333 t u v.rest w.rest (by omega) (by omega)
  rw[oq]
  obtain⟨a1,a2,a3,a4,a5,a6,a7,a8⟩:=v
  obtain⟨b1,b2,b3,b4,b5,b6,b7,b8⟩:=w
  unfold dz.c
  dsimp only at *
  clear ih
  refine aw a499 rfl rfl ?_
  simp only[F499,LR]
  simp(disch:=omega)only[go_sem]
  have no:∀{p q:dz},p≠q->(some [PV.bool false]:Option (List PV))=some [PV.bool (eqv p q)]:=fun h=>by rw[fJ h]
  refine Br.aJ (fun e=>?_) (fun e=>?_)<;>simp(disch:=omega)only[go_sem,e]
  rotate_left
  .exact no (fun q=>e (by cases q; rfl))
  subst e
  refine Br.aJ (fun e=>?_) (fun e=>?_)<;>simp(disch:=omega)only[go_sem,e]
  rotate_left
  .exact no (fun q=>e (by cases q; rfl))
  subst e
  refine Br.aJ (fun e=>?_) (fun e=>?_)<;>simp(disch:=omega)only[go_sem,e]
  rotate_left
  .exact no (fun q=>e (by cases q; rfl))
  subst e
  refine Br.aJ (fun e=>?_) (fun e=>?_)<;>simp(disch:=omega)only[go_sem,e]
  rotate_left
  .exact no (fun q=>e (by cases q; rfl))
  subst e
  refine Br.aJ (fun e=>?_) (fun e=>?_)<;>simp(disch:=omega)only[go_sem,e]
  rotate_left
  .exact no (fun q=>e (by cases q; rfl))
  subst e
  simp(disch:=omega)only[go_sem,hr]
  refine Br.of (fun e=>?_) (fun e=>?_)<;>simp(disch:=omega)only[go_sem,e]
  rotate_left
  .exact no (fun q=>mW.1 e (by cases q; rfl))
  have e:=bY.1 e
  subst e
  simp(disch:=omega)only[go_sem,hk]
  refine Br.of (fun e=>?_) (fun e=>?_)<;>simp(disch:=omega)only[go_sem,e]
  rotate_left
  .exact no (fun q=>mW.1 e (by cases q; rfl))
  have e:=bY.1 e
  subst e
  simp(disch:=omega)only[go_sem,hi]
  congr 3
  rw[Xb,bY,bY]
  exact⟨fun e=>by rw[e],fun q=>by cases q; rfl⟩
def wM {α β:Type} (g:α->β->Bool) (l:List α) (m:List β):Bool:=decide (l.length=m.length)&&(l.zip m).all fun q=>g q.1 q.2
theorem p6 {α β:Type} {g:α->β->Bool} {l:List α} {m:List β} (h:¬l.length=m.length):wM g l m=false:=by
 unfold wM
 rw[decide_eq_false h]
 rfl
theorem wN {α β:Type} {g:α->β->Bool} {l:List α} {m:List β} (h:(l.zip m).any (fun q=>!g q.1 q.2)=true):wM g l m=false:=by
 unfold wM
 have:(l.zip m).all (fun q=>g q.1 q.2)=false:=by
  rw[Xz]
  intro h2
  obtain⟨q,hq,hn⟩:=Xm.1 h
  have:=Wu.1 h2 q hq
  rw[this]at hn
  cases hn
 rw[this,abu]
theorem ru {α β:Type} {g:α->β->Bool} {l:List α} {m:List β} (h:l.length=m.length) (h2:(l.zip m).any (fun q=>!g q.1 q.2)=false):wM g l m=true:=by
 unfold wM
 rw[decide_eq_true h,WZ,Wu]
 intro q hq
 have:=WY.1 h2 q hq
 simpa using this
theorem wO {α β:Type} (k:α->β) {g:α->α->Bool} (h:∀x y,g x y=eqv (k x) (k y)):∀l m:List α,wM g l m=eqv (l.map k) (m.map k)
 |[],[]=>by rw[fI]; rfl
 |[],y::m=>by rw[p6 (by simp),fJ (by simp)]
 |x::l,[]=>by rw[p6 (by simp),fJ (by simp)]
 |x::l,y::m=>by
  have ih:=wO k h l m
  unfold wM at ih |-
  rw[List.zip_cons_cons,List.all_cons]
  dsimp only
  rw[h x y]
  by_cases e:k x=k y
  .rw[e,fI,WZ,XQ,XQ,e]
   have e2:decide ((x::l).length=(y::m).length)=decide (l.length=m.length):=by simp
   rw[e2,ih,Xb,bY,bY]
   exact⟨fun h=>by rw[h],fun h=>List.tail_eq_of_cons_eq h⟩
  .rw[fJ e,Xu,abu,fJ]
   intro h2
   rw[XQ,XQ]at h2
   exact e (List.head_eq_of_cons_eq h2)
def tj (s:Sym):Int:=s.id
def AX (m:Mem):Int×Bool×Bool×dz:=(m.id,m.DJ,m.has,m.ib)
def HP (t:aH):(Int×Int×Int×Int×Bool)×List Int×List (Int×Bool×Bool×dz):=((t.kind,t.low,t.high,t.max,t.jO),t.syms.map tj,t.bc.map AX)
noncomputable def ep (x y:aH):Bool:=eqv (HP x) (HP y)
theorem r497 (u:Nat) (x y:Sym):res A aA 497 [.agg x.c,.agg y.c,.ro u [.bool false]]=some [.bool (eqv (tj x) (tj y))]:=by
 have e:eqv (tj x) (tj y)=decide (x.id=y.id):=by
  unfold tj eqv
  simp
 rw[e]
 refine aw a497 rfl rfl ?_
 simp only[F497,LP]
 unfold Sym.c
 simp(disch:=omega)only[go_sem]
 refine Br.aJ (fun c=>?_) (fun c=>?_)<;>simp(disch:=omega)only[go_sem,c,decide_true,decide_false]
end Go.Pv
