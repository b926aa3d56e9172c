/-
 What the functions of the law give.
-/
import Derived.Test.YtpchfogcccagjaaGreatC7
set_option linter.unusedSimpArgs false
set_option linter.unusedVariables false
open List renaming getElem?_eq_some_iff → Vy, mem_of_getElem? → Vz, length_map → VB, getElem?_append_left → VC, mem_iff_getElem? → VD, length_append → VE, getElem?_map → VF, length_take → VH, eq_nil_of_length_eq_zero → VJ, getD_eq_getElem?_getD → VK, getElem?_append_right → VM, getElem?_take → VN, append_assoc → VO, mem_map → VP, take_add_one → VT, take_length → VW, getElem?_set_ne → VX, getElem?_set_self → VY, getElem?_drop → Wg, mem_append_left → Wh, ext_getElem? → Wi, append_nil → Wj, mem_append_right → Wn, take_append_drop → Wo, foldl_cons → Wy, length_set → WG, length_singleton → WV, map_eq_nil_iff → W2, map_map → W6, mem_flatMap → Xo
open Nat renaming le_refl → VI, zero_le → V4, le_trans → Wr, min_eq_left → Xe, add_zero → Xi
open Option renaming map_eq_some_iff → Wf, map_some → Xb
namespace Go.Pv
structure oi (o:Nat) (a b:List aL):Prop where
 len:a.length<=b.length
 get:∀i,i<a.length->i≠o->b[i]?=a[i]?
theorem oi.trans {o:Nat} {a b c:List aL} (h:oi o a b) (g:oi o b c):oi o a c:=⟨Wr h.len g.len,fun i hi ho=>by rw[g.get i (by have:=h.len; omega) ho,h.get i hi ho]⟩
theorem oi.push (o:Nat) (a x:List aL):oi o a (a++x):=⟨by simp,fun i hi _=>List.getElem?_append_left hi⟩
theorem oi.set (o:Nat) (a:List aL) (x:aL):oi o a (a.set o x):=⟨by simp,fun i _ ho=>List.getElem?_set_ne (fun e=>ho e.symm)⟩
theorem Home.L8 {a b:List aL} {o k:Nat} {v:V} {rows:List (List PV)} (h:Home a o k v rows) (g:oi o a b):Home b o k v rows:=by
 rcases h with h|⟨id,aq,h1,h2,h3⟩|h
 .exact .inl h
 .exact .inr (.inl ⟨id,aq,h1,h2,by rw[g.get id (Vy.1 h3).1 h2]; exact h3⟩)
 .exact .inr (.inr h)
theorem dE.L8 {a b:List aL} {o:Nat} {row:List V} {cs:List PV} (h:dE a o row cs) (g:oi o a b):dE b o row cs:=by
 refine⟨h.1,fun i v c h1 h2=>?_⟩
 rcases h.2 i v c h1 h2 with h|⟨k,rows,h3,h4⟩
 .exact .inl h
 .exact .inr ⟨k,rows,h3,h4.L8 g⟩
def ik (x:aC) (sv mv:V):List V:=[.pv (.int .i64 x.kind),.pv (.str x.name),.pv (.int .i64 x.low),.pv (.int .i64 x.high),.pv (.int .i64 x.max),sv,mv,.pv (.int .i64 x.key),.pv (.int .i64 x.elem),.pv (.bool x.ku)]
def cT (ar:List aL) (b k:Nat) (v:V) (rows:List (List PV)):Prop:=(v=.tl []/\rows=[])\/∃m,v=.own m 0 0 rows.length/\b<=m/\rows≠[]/\ar[m]?=some ⟨0,k,.inl rows⟩
theorem cT.home {ar:List aL} {b k o:Nat} {v:V} {rows:List (List PV)} (h:cT ar b k v rows) (ho:o<b):Home ar o k v rows:=by
 rcases h with⟨rfl,rfl⟩|⟨m,rfl,h1,_,h2⟩
 .exact .inr (.inr rfl)
 .exact .inr (.inl ⟨m,0,rfl,by omega,h2⟩)
theorem cT.flat {ar:List aL} {b k:Nat} {v:V} {rows:List (List PV)} (h:cT ar b k v rows):v.calm=true/\ld v=true/\v.cells=[v]:=by
 rcases h with⟨rfl,rfl⟩|⟨m,rfl,_⟩<;>exact⟨rfl,rfl,rfl⟩
theorem km {α:Type} {l:List α} {i:Nat} {a:α} (h:l[i]?=some a):l.set i a=l:=by
 apply Wi
 intro j
 rw[List.getElem?_set]
 split
 .rename_i e
  subst e
  rw[h,if_pos (Vy.1 h).1]
 .rfl
theorem mX {aq k:Nat} {body:Sum (List (List PV)) (List (List V))} {x:aC} {sv mv:V} (hk:k<(bh body).length) (hrow:(bh body)[k]?=some (x.c.map .pv)) (hs:sv.calm=true/\ld sv=true) (hm:mv.calm=true/\ld mv=true):
  ∃b5 b6,dC 2 k 5 [sv] ⟨aq,10,body⟩=some { ar:=some (2,⟨aq,10,b5⟩) }/\dC 2 k 6 [mv] ⟨aq,10,b5⟩=some { ar:=some (2,⟨aq,10,b6⟩) }/\bh b6=(bh body).set k (ik x sv mv):=by
 obtain⟨b5,h5,g5⟩:=xn (id:=2) (r:=k) (c:=5) (aq:=aq) (k:=10) (news:=[sv]) (body:=body) hk (by simp) (by simp[hs.1]) (by simp[hs.2])
 obtain⟨b6,h6,g6⟩:=xn (id:=2) (r:=k) (c:=6) (aq:=aq) (k:=10) (news:=[mv]) (body:=b5) (by rw[g5,List.length_set]; exact hk) (by simp) (by simp[hm.1]) (by simp[hm.2])
 refine⟨b5,b6,h5,h6,?_⟩
 have hgd:(bh body).getD k []=x.c.map .pv:=by rw[VK,hrow]; rfl
 rw[g6,g5,List.set_set,hgd]
 congr 1
 rw[VK,VY hk]
 rfl
set_option maxHeartbeats 2000000 in
theorem T3 (c1 c2 c13:List V) (n:Nat) (ar:List aL) (aq m k:Nat) (body:Sum (List (List PV)) (List (List V))) (x:aC) (hx:x.syms.length<=2147483648/\x.aN.length<=2147483648) (hk:k<m) (h2:ar[2]?=some ⟨aq,10,body⟩) (hbl:(bh body).length=m) (hrow:(bh body)[k]?=some (x.c.map .pv)) (Q:Ex->St->Prop)
  (hQ:∀env ar1 b1 sv mv,oi 2 ar ar1->ar1[2]?=some ⟨aq,10,b1⟩->bh b1=(bh body).set k (ik x sv mv)->cT ar1 ar.length 2 sv (x.syms.map Sym.c)->cT ar1 ar.length 13 mv (x.aN.map Mem.c)->sv≠mv\/mv=.tl []->Q .normal ⟨(1,.ptr 1 0)::(2,.ptr 2 0)::(12,.own 1 0 0 n)::(13,.ptr 13 0)::(17,.df 2 aq k 0)::(100,.pv (.int .i64 m))::(101,.pv (.int .i64 k))::env,⟨[(1,c1),(2,c2),(13,c13)],ar1,[]⟩⟩):
  W A az F408.body.two.two.two.two.two.two.two.one.two.aY.aY.aY.two.two.one.aY.two.two.one ⟨[(1,.ptr 1 0),(2,.ptr 2 0),(12,.own 1 0 0 n),(13,.ptr 13 0),(17,.df 2 aq k 0),(100,.pv (.int .i64 m)),(101,.pv (.int .i64 k))],⟨[(1,c1),(2,c2),(13,c13)],ar,[]⟩⟩ Q:=by
 simp only[F408,nX,AC.one,AC.two,AC.aY]
 have hl2:2<ar.length:=(Vy.1 h2).1
 have gX:∀X:List aL,(ar++X)[2]?=some ⟨aq,10,body⟩:=fun X=>by rw[VC hl2]; exact h2
 have hb:=kj k body
 rw[hrow]at hb
 unfold aC.c at hb
 simp only[List.map_cons,List.map_nil]at hb
 have gS:∀X a,((ar++X).set 2 a)[2]?=some a:=fun X a=>VY (by rw[VE]; omega)
 have gX2:∀X Y:List aL,(ar++X++Y)[2]?=some ⟨aq,10,body⟩:=fun X Y=>by rw[VO]; exact gX _
 have gS0:∀a,(ar.set 2 a)[2]?=some a:=fun a=>VY hl2
 have gS2:∀X Y a,((ar++X++Y).set 2 a)[2]?=some a:=fun X Y a=>by rw[VO]; exact gS _ a
 have d2:decide (2<ar.length)=true:=decide_eq_true hl2
 have hkb:k<(bh body).length:=by omega
 have aS:∀X a,oi 2 ar ((ar++X).set 2 a):=fun X a=>(oi.push 2 ar X).trans (.set 2 _ a)
 rcases w8 (c:=Sym.c) (k:=2) (fun _=>rfl) x.syms hx.1 with⟨s1,s2⟩|⟨s1,s2⟩<;>rcases w8 (c:=Mem.c) (k:=13) (fun _=>rfl) x.aN hx.2 with⟨m1,m2⟩|⟨m1,m2⟩
 .obtain⟨b5,b6,h5,h6,h7⟩:=mX (aq:=aq) (x:=x) (sv:=.tl []) (mv:=.tl []) hkb hrow ⟨rfl,rfl⟩ ⟨rfl,rfl⟩
  simp(disch:=omega)only[go_sem,h2,hb,s2,m2,h5,h6,gS0,List.set_set]
  refine hQ _ _ b6 (.tl []) (.tl []) (.set 2 _ _) (gS0 _) h7 (.inl ⟨rfl,by rw[s1]; rfl⟩) (.inl ⟨rfl,by rw[m1]; rfl⟩) (.inr rfl)
 .obtain⟨b5,b6,h5,h6,h7⟩:=mX (aq:=aq) (x:=x) (sv:=.tl []) (mv:=.own ar.length 0 0 x.aN.length) hkb hrow ⟨rfl,rfl⟩ ⟨rfl,rfl⟩
  simp(disch:=omega)only[go_sem,h2,hb,s2,m2,gX,h5,h6,gS,List.set_set]
  refine hQ _ _ b6 (.tl []) (.own ar.length 0 0 x.aN.length) (aS _ _) (gS _ _) h7 (.inl ⟨rfl,by rw[s1]; rfl⟩) (.inr ⟨ar.length,by simp,Nat.le_refl _,by simpa using m1,?_⟩) (.inl (by simp))
  rw[VX (by omega)]
  simp
 .obtain⟨b5,b6,h5,h6,h7⟩:=mX (aq:=aq) (x:=x) (sv:=.own ar.length 0 0 x.syms.length) (mv:=.tl []) hkb hrow ⟨rfl,rfl⟩ ⟨rfl,rfl⟩
  simp(disch:=omega)only[go_sem,h2,hb,s2,m2,gX,h5,h6,gS,d2,List.set_set]
  refine hQ _ _ b6 (.own ar.length 0 0 x.syms.length) (.tl []) (aS _ _) (gS _ _) h7 (.inr ⟨ar.length,by simp,Nat.le_refl _,by simpa using s1,?_⟩) (.inl ⟨rfl,by rw[m1]; rfl⟩) (.inr rfl)
  rw[VX (by omega)]
  simp
 .obtain⟨b5,b6,h5,h6,h7⟩:=mX (aq:=aq) (x:=x) (sv:=.own ar.length 0 0 x.syms.length) (mv:=.own (ar.length+1) 0 0 x.aN.length) hkb hrow ⟨rfl,rfl⟩ ⟨rfl,rfl⟩
  simp(disch:=omega)only[go_sem,h2,hb,s2,m2,gX,gX2,h5,h6,gS2,d2,List.set_set]
  rw[VO]
  refine hQ _ _ b6 (.own ar.length 0 0 x.syms.length) (.own (ar.length+1) 0 0 x.aN.length) (aS _ _) (gS _ _) h7 (.inr ⟨ar.length,by simp,Nat.le_refl _,by simpa using s1,?_⟩) (.inr ⟨ar.length+1,by simp,by omega,by simpa using m1,?_⟩) (.inl (by simp))
  .rw[VX (by omega)]
   simp
  .rw[VX (by omega)]
   simp
set_option maxHeartbeats 2000000 in
theorem T4 (c1 c2 c13:List V) (n:Nat) (L at':List Int) (ar:List aL) (aq m k:Nat) (b1:Sum (List (List PV)) (List (List V))) (x:aC) (sv mv:V) (hml:x.aN.length<=1048576) (hk:k<m) (h2:ar[2]?=some ⟨aq,10,b1⟩) (hrow:(bh b1)[k]?=some (ik x sv mv)) (h1:ar[1]?=some ⟨0,1,.inl (ints at')⟩) (hn:at'.length=n)
  (hat:∀q∈x.aN,0<=q.type/\q.type<n/\at'[q.type.toNat]?=some (di L q.type)) (b:Nat) (hb:2<b) (hmv:cT ar b 13 mv (x.aN.map Mem.c)) (hbm:m<=100) (Q:Ex->St->Prop)
  (hQ:∀env ar2,(∀i,i<b->ar2[i]?=ar[i]?)->ar.length<=ar2.length->(∀i,(V.own i 0 0 x.aN.length≠mv->ar2[i]?=ar[i]?))->cT ar2 b 13 mv ((x.aN.map (js L)).map Mem.c)->Q (.exit 8) ⟨(1,.ptr 1 0)::(2,.ptr 2 0)::(12,.own 1 0 0 n)::(13,.ptr 13 0)::(17,.df 2 aq k 0)::(100,.pv (.int .i64 m))::(101,.pv (.int .i64 k))::env,⟨[(1,c1),(2,c2),(13,c13)],ar2,[]⟩⟩):
  W A az F408.body.two.two.two.two.two.two.two.one.two.aY.aY.aY.two.two.one.aY.two.two.two.one.two.aY ⟨[(1,.ptr 1 0),(2,.ptr 2 0),(12,.own 1 0 0 n),(13,.ptr 13 0),(17,.df 2 aq k 0),(100,.pv (.int .i64 m)),(101,.pv (.int .i64 k)),(129,.pv (.int .i64 x.aN.length)),(130,.pv (.int .i64 0))],⟨[(1,c1),(2,c2),(13,c13)],ar,[]⟩⟩ Q:=by
 simp only[F408,nX,AC.one,AC.two,AC.aY]
 have hbr:=kj k b1
 rw[hrow]at hbr
 unfold ik at hbr
 rcases hmv with⟨rfl,hm0⟩|⟨mi,rfl,hmi,hm0,hma⟩
 .have hm0:=W2.1 hm0
  rw[hm0]at hQ |-
  refine W.cD 0 (fun j=>⟨[(1,.ptr 1 0),(2,.ptr 2 0),(12,.own 1 0 0 n),(13,.ptr 13 0),(17,.df 2 aq k 0),(100,.pv (.int .i64 m)),(101,.pv (.int .i64 k)),(129,.pv (.int .i64 (([]:List Mem).length:Nat))),(130,.pv (.int .i64 j))],⟨[(1,c1),(2,c2),(13,c13)],ar,[]⟩⟩) (fun _=>True) rfl trivial fun j hj _=>?_
  simp(disch:=omega)only[go_sem]
  refine Br.aD (fun c=>?_) (fun c=>?_)
  .simp at c
   omega
  simp(disch:=omega)only[go_sem]
  exact hQ _ ar (fun _ _=>rfl) (VI _) (fun _ _=>rfl) (.inl ⟨rfl,rfl⟩)
 .have hml2:(x.aN.map Mem.c).length=x.aN.length:=VB _
  rw[hml2]at hbr hQ
  have hmil:=(Vy.1 hma).1
  have gM:∀a,(ar.set mi a)[mi]?=some a:=fun a=>VY hmil
  have g1:∀a,(ar.set mi a)[1]?=some ⟨0,1,.inl (ints at')⟩:=fun a=>by rw[VX (by omega)]; exact h1
  have g2:∀a,(ar.set mi a)[2]?=some ⟨aq,10,b1⟩:=fun a=>by rw[VX (by omega)]; exact h2
  refine W.cD x.aN.length (fun j=>⟨[(1,.ptr 1 0),(2,.ptr 2 0),(12,.own 1 0 0 n),(13,.ptr 13 0),(17,.df 2 aq k 0),(100,.pv (.int .i64 m)),(101,.pv (.int .i64 k)),(129,.pv (.int .i64 x.aN.length)),(130,.pv (.int .i64 j))],⟨[(1,c1),(2,c2),(13,c13)],ar.set mi ⟨0,13,.inl ((ng L x.aN j).map Mem.c)⟩,[]⟩⟩) (fun _=>True) ?_ trivial fun j hj _=>?_
  .rw[vC,km hma]
   rfl
  have hmj:=tD L x.aN j
  simp(disch:=omega)only[go_sem]
  refine Br.aD (fun c=>?_) (fun c=>?_)
  .obtain⟨q,hq⟩:=get_some (l:=x.aN) (k:=j) (by omega)
   obtain⟨q0,q1,q2⟩:=hat q (Vz hq)
   have hmg:=tE (L:=L) hq
   have hst:=fun id=>tF (L:=L) hq id
   simp(disch:=omega)only[go_sem,g1,g2,gM,hbr,hmg,Option.map_some,Mem.c,q2,hst,List.set_set]
   exact .of (by omega) rfl trivial
  .obtain rfl:j=x.aN.length:=by omega
   rw[y4]
   simp(disch:=omega)only[go_sem]
   refine hQ _ _ (fun i hi=>by rw[List.getElem?_set_ne (by omega)]) (by rw[List.length_set]; exact Nat.le_refl _) (fun i hi=>?_) (.inr ⟨mi,by simp,hmi,by simpa using hm0,gM _⟩)
   rw[VX]
   rintro rfl
   exact hi rfl
theorem lf {o aq kk k c:Nat} {body:Sum (List (List PV)) (List (List V))} {row:List V} {w:V} (hrow:(bh body)[k]?=some row) (hc:c+1<=kk) (hw:w.calm=true/\ld w=true):
  ∃b',dC o k c [w] ⟨aq,kk,body⟩=some { ar:=some (o,⟨aq,kk,b'⟩) }/\bh b'=(bh body).set k (G9 row c [w]):=by
 obtain⟨b',h,g⟩:=xn (id:=o) (r:=k) (c:=c) (aq:=aq) (k:=kk) (news:=[w]) (body:=body) (List.getElem?_eq_some_iff.1 hrow).1 (by simpa using hc) (by simp[hw.1]) (by simp[hw.2])
 refine⟨b',h,?_⟩
 rw[g,VK,hrow]
 rfl
def Hc (L:List Int) (x:aC) (sv mv:V):List V:=ik { x with key:=if x.kind=8 then di L x.key else x.key,elem:=if 7<=x.kind then di L x.elem else x.elem } sv mv
set_option maxHeartbeats 2000000 in
theorem T5 (c1 c2 c13:List V) (n:Nat) (L at':List Int) (ar:List aL) (aq m k:Nat) (b1:Sum (List (List PV)) (List (List V))) (x:aC) (sv mv:V) (hk:k<m) (h2:ar[2]?=some ⟨aq,10,b1⟩) (hrow:(bh b1)[k]?=some (ik x sv mv)) (h1:ar[1]?=some ⟨0,1,.inl (ints at')⟩) (hn:at'.length=n) (hkd:1<=x.kind/\x.kind<=9)
  (hke:x.kind=8->0<=x.key/\x.key<n/\at'[x.key.toNat]?=some (di L x.key)) (hel:7<=x.kind->0<=x.elem/\x.elem<n/\at'[x.elem.toNat]?=some (di L x.elem)) (hbm:m<=100) (env0:List (Nat×V)) (Q:Ex->St->Prop)
  (hQ:∀e env ar2 b2,(e=[]\/e=[(17,V.df 2 aq k 0)])->(∀i,i≠2->ar2[i]?=ar[i]?)->ar.length=ar2.length->ar2[2]?=some ⟨aq,10,b2⟩->bh b2=(bh b1).set k (Hc L x sv mv)->Q .normal ⟨(1,.ptr 1 0)::(2,.ptr 2 0)::(12,.own 1 0 0 n)::(13,.ptr 13 0)::(e++(100,.pv (.int .i64 m))::(101,.pv (.int .i64 k))::env),⟨[(1,c1),(2,c2),(13,c13)],ar2,[]⟩⟩):
  W A az F408.body.two.two.two.two.two.two.two.one.two.aY.aY.aY.two.two.one.aY.two.two.two.two ⟨(1,.ptr 1 0)::(2,.ptr 2 0)::(12,.own 1 0 0 n)::(13,.ptr 13 0)::(17,.df 2 aq k 0)::(100,.pv (.int .i64 m))::(101,.pv (.int .i64 k))::env0,⟨[(1,c1),(2,c2),(13,c13)],ar,[]⟩⟩ Q:=by
 simp only[F408,nX,AC.one,AC.two,AC.aY]
 have hl2:2<ar.length:=(Vy.1 h2).1
 have gS:∀a,(ar.set 2 a)[2]?=some a:=fun a=>VY hl2
 have g1:∀a,(ar.set 2 a)[1]?=some ⟨0,1,.inl (ints at')⟩:=fun a=>by rw[VX (by omega)]; exact h1
 have gO:∀a i,i≠2->(ar.set 2 a)[i]?=ar[i]?:=fun a i hi=>VX (fun e=>hi e.symm)
 have hbr:=kj k b1
 rw[hrow]at hbr
 have hself:∀row,ik x sv mv=row->bh b1=(bh b1).set k row:=fun row e=>by rw[km]; rw[hrow,e]
 unfold Hc at hQ
 obtain⟨kind,name,low,high,max,syms,aN,key,elem,ku⟩:=x
 dsimp only at *
 unfold ik at hbr hrow
 dsimp only at hbr hrow
 rcases nine hkd with rfl|rfl|rfl|rfl|rfl|rfl|rfl|rfl|rfl
 case inr.inr.inr.inr.inr.inr.inl=>
  obtain⟨e0,e1,e2⟩:=hel (by decide)
  obtain⟨b7,h7,g7⟩:=lf (o:=2) (aq:=aq) (kk:=10) (c:=8) (w:=.pv (.int .i64 (di L elem))) hrow (by decide) ⟨rfl,rfl⟩
  simp(disch:=omega)only[go_sem,h2,hbr,decide_true,decide_false,Int.reduceEq,h1,e2,h7]
  refine hQ [] _ _ b7 (.inl rfl) (gO _) (by simp) (gS _) ?_
  rw[g7]
  rfl
 case inr.inr.inr.inr.inr.inr.inr.inl=>
  obtain⟨e0,e1,e2⟩:=hel (by decide)
  obtain⟨k0,k1,k2⟩:=hke (by decide)
  obtain⟨b6,h6,g6⟩:=lf (o:=2) (aq:=aq) (kk:=10) (c:=7) (w:=.pv (.int .i64 (di L key))) hrow (by decide) ⟨rfl,rfl⟩
  have hrow6:(bh b6)[k]?=some [.pv (.int .i64 8),.pv (.str name),.pv (.int .i64 low),.pv (.int .i64 high),.pv (.int .i64 max),sv,mv,.pv (.int .i64 (di L key)),.pv (.int .i64 elem),.pv (.bool ku)]:=by
   rw[g6,VY (Vy.1 hrow).1]
   rfl
  have hbr6:=kj k b6
  rw[hrow6]at hbr6
  obtain⟨b7,h7,g7⟩:=lf (o:=2) (aq:=aq) (kk:=10) (c:=8) (w:=.pv (.int .i64 (di L elem))) hrow6 (by decide) ⟨rfl,rfl⟩
  simp(disch:=omega)only[go_sem,h2,hbr,decide_true,decide_false,Int.reduceEq,h1,g1,gS,k2,e2,h6,hbr6,h7,List.set_set]
  refine hQ [] _ _ b7 (.inl rfl) (gO _) (by simp) (gS _) ?_
  rw[g7,g6,List.set_set]
  rfl
 case inr.inr.inr.inr.inr.inr.inr.inr=>
  obtain⟨e0,e1,e2⟩:=hel (by decide)
  obtain⟨b7,h7,g7⟩:=lf (o:=2) (aq:=aq) (kk:=10) (c:=8) (w:=.pv (.int .i64 (di L elem))) hrow (by decide) ⟨rfl,rfl⟩
  simp(disch:=omega)only[go_sem,h2,hbr,decide_true,decide_false,Int.reduceEq,h1,e2,h7]
  refine hQ [] _ _ b7 (.inl rfl) (gO _) (by simp) (gS _) ?_
  rw[g7]
  rfl
 all_goals
  simp(disch:=omega)only[go_sem,h2,hbr,decide_true,decide_false,Int.reduceEq]
  exact hQ [(17,.df 2 aq k 0)] _ ar b1 (.inr rfl) (fun _ _=>rfl) rfl h2 (hself _ rfl)
theorem Hd {L:List Int} {x:aC} {ar:List aL} {o b:Nat} {sv mv:V} (ho:o<b) (hs:cT ar b 2 sv (x.syms.map Sym.c)) (hm:cT ar b 13 mv ((x.aN.map (js L)).map Mem.c)):dE ar o (Hc L x sv mv) (dp L x).c:=by
 unfold Hc ik aC.c dp
 dsimp only
 refine .pure rfl rfl (.pure rfl rfl (.pure rfl rfl (.pure rfl rfl (.pure rfl rfl (.cons (.inr ⟨2,_,rfl,hs.home ho⟩) (.cons (.inr ⟨13,_,rfl,hm.home ho⟩) (.pure rfl rfl (.pure rfl rfl (.pure rfl rfl (.nil _ _))))))))))
structure SD (T:List aC) (L at':List Int) (aq k:Nat) (ar:List aL):Prop where
 le:k<=L.length
 Vu:ar[1]?=some ⟨0,1,.inl (ints at')⟩
 it:∃body,ar[2]?=some ⟨aq,10,body⟩/\(bh body).length=L.length/\(∀i row u,i<k->(bh body)[i]?=some row->L[i]?=some u->dE ar 2 row (dp L (bK T u)).c)/\∀i,k<=i->(bh body)[i]?=L[i]?.map fun u=>(bK T u).c.map V.pv
set_option maxHeartbeats 4000000 in
theorem U9 (c1 c2:List V) (nm:ByteArray) (n:Nat) (T:List aC) (L at':List Int) (ar:List aL) (hts:∀t∈T,t.short) (hn:at'.length=n) (hT:∀u∈L,0<=u/\u<T.length/\1<=(bK T u).kind/\(bK T u).kind<=9) (hL:L.length<=100)
  (hat:∀u∈L,∀w∈bT (bK T u),0<=w/\w<n/\at'[w.toNat]?=some (di L w)) (aq:Nat) (hver:L.length=aq+1) (h0:SD T L at' aq 0 ar) (Q:Ex->St->Prop)
  (hQ:∀env ar,SD T L at' aq L.length ar->Q (.exit 6) ⟨(1,.ptr 1 0)::(2,.ptr 2 0)::(12,.own 1 0 0 n)::(13,.ptr 13 0)::env,⟨[(1,c1),(2,c2),(13,[.pv (.str nm),.own 2 aq 0 L.length,.tl [],.tl [],.tl []])],ar,[]⟩⟩):
  W A az F408.body.two.two.two.two.two.two.two.one.two.aY ⟨[(1,.ptr 1 0),(2,.ptr 2 0),(12,.own 1 0 0 n),(13,.ptr 13 0),(100,.pv (.int .i64 L.length)),(101,.pv (.int .i64 0))],⟨[(1,c1),(2,c2),(13,[.pv (.str nm),.own 2 aq 0 L.length,.tl [],.tl [],.tl []])],ar,[]⟩⟩ Q:=by
 have s7a:=T3 c1 c2 [.pv (.str nm),.own 2 aq 0 L.length,.tl [],.tl [],.tl []] n
 have s7b:=T4 c1 c2 [.pv (.str nm),.own 2 aq 0 L.length,.tl [],.tl [],.tl []] n L at'
 have s7c:=T5 c1 c2 [.pv (.str nm),.own 2 aq 0 L.length,.tl [],.tl [],.tl []] n L at'
 rw[show F408.body.two.two.two.two.two.two.two.one.two.aY=AC.loop (.mask [1,2,12,13,100,101] [1,2,13] (.seq F408.body.two.two.two.two.two.two.two.one.two.aY.aY.aY.one (.seq F408.body.two.two.two.two.two.two.two.one.two.aY.aY.aY.two.one (.seq (.block 7 (.seq F408.body.two.two.two.two.two.two.two.one.two.aY.aY.aY.two.two.one.aY.one (.seq F408.body.two.two.two.two.two.two.two.one.two.aY.aY.aY.two.two.one.aY.two.one (.seq F408.body.two.two.two.two.two.two.two.one.two.aY.aY.aY.two.two.one.aY.two.two.one (.seq (.seq F408.body.two.two.two.two.two.two.two.one.two.aY.aY.aY.two.two.one.aY.two.two.two.one.one (.block 8 F408.body.two.two.two.two.two.two.two.one.two.aY.aY.aY.two.two.one.aY.two.two.two.one.two.aY)) F408.body.two.two.two.two.two.two.two.one.two.aY.aY.aY.two.two.one.aY.two.two.two.two))))) F408.body.two.two.two.two.two.two.two.one.two.aY.aY.aY.two.two.two)))) from rfl]
 generalize F408.body.two.two.two.two.two.two.two.one.two.aY.aY.aY.two.two.one.aY.two.two.one=D at s7a |-
 generalize F408.body.two.two.two.two.two.two.two.one.two.aY.aY.aY.two.two.one.aY.two.two.two.one.two.aY=E at s7b |-
 generalize F408.body.two.two.two.two.two.two.two.one.two.aY.aY.aY.two.two.one.aY.two.two.two.two=F at s7c |-
 simp only[F408,nX,AC.one,AC.two,AC.aY]
 refine W.loop (α:=Nat×List aL) (fun x=>⟨[(1,.ptr 1 0),(2,.ptr 2 0),(12,.own 1 0 0 n),(13,.ptr 13 0),(100,.pv (.int .i64 L.length)),(101,.pv (.int .i64 x.1))],⟨[(1,c1),(2,c2),(13,[.pv (.str nm),.own 2 aq 0 L.length,.tl [],.tl [],.tl []])],x.2,[]⟩⟩) (fun x=>SD T L at' aq x.1 x.2) (fun x=>L.length - x.1) (0,ar) rfl h0 fun x hx=>?_
 obtain⟨k,ar⟩:=x
 obtain⟨hk,h1,body,h2,hbl,hdone,hraw⟩:=hx
 dsimp only at hk h1 h2 hbl hdone hraw
 simp(disch:=omega)only[go_sem]
 refine Br.aD (fun c=>?_) (fun c=>?_)
 rotate_left
 .obtain rfl:k=L.length:=by omega
  simp(disch:=omega)only[go_sem]
  exact hQ _ ar ⟨VI _,h1,body,h2,hbl,hdone,hraw⟩
 obtain⟨u,hu⟩:=get_some (l:=L) (k:=k) (by omega)
 have hum:=Vz hu
 obtain⟨u0,u1,k1,k9⟩:=hT u hum
 have hxm:bK T u∈T:=Vz (eL u0 u1)
 have hsh:=hts _ hxm
 have hm:=hsh.aN
 have hs:=hsh.syms
 have hau:=hat u hum
 have hrow:=hraw k (VI _)
 rw[hu,Xb]at hrow
 have hdone':∀row w,L[k]?=some w->dE ar 2 row (dp L (bK T w)).c->dE ar 2 row (dp L (bK T u)).c:=fun row w hw h=>by rw[hu]at hw; cases hw; exact h
 have hl2:2<ar.length:=(Vy.1 h2).1
 generalize hxx:bK T u=x at *
 simp(disch:=omega)only[go_sem,h2]
 refine s7a ar aq L.length k body x ⟨by omega,by omega⟩ (by omega) h2 hbl hrow _ fun env ar1 b1 sv mv ha1 ha2 hb1 hsv hmv hne=>?_
 have hrow1:(bh b1)[k]?=some (ik x sv mv):=by rw[hb1,VY (by omega)]
 have h11:ar1[1]?=some ⟨0,1,.inl (ints at')⟩:=by rw[ha1.get 1 (by omega) (by decide),h1]
 have hbr:=kj k b1
 rw[hrow1]at hbr
 unfold ik at hbr
 have hlen:fY ⟨[(1,c1),(2,c2),(13,[.pv (.str nm),.own 2 aq 0 L.length,.tl [],.tl [],.tl []])],ar1,[]⟩ 0 mv=some (x.aN.length,{}):=by
  rcases hmv with⟨rfl,h⟩|⟨mi,rfl,_⟩
  .rw[W2.1 h]
   rfl
  .rw[VB]
   rfl
 simp(disch:=omega)only[go_sem,ha2,hbr,hlen]
 have hum':∀q∈x.aN,0<=q.type/\q.type<n/\at'[q.type.toNat]?=some (di L q.type):=fun q hq=>hau _ (EJ hq)
 refine s7b ar1 aq L.length k b1 x sv mv hm (by omega) ha2 hrow1 h11 hn hum' ar.length hl2 hmv hL _ fun env ar2 ha ha3 ha4 hmv2=>?_
 have hkeep:oi 2 ar ar2:=⟨by have:=ha1.len; omega,fun i hi ho=>by rw[ha i hi,ha1.get i hi ho]⟩
 have ha22:ar2[2]?=some ⟨aq,10,b1⟩:=by rw[ha 2 hl2,ha2]
 have h21:ar2[1]?=some ⟨0,1,.inl (ints at')⟩:=by rw[ha 1 (by omega),h11]
 have hsv2:cT ar2 ar.length 2 sv (x.syms.map Sym.c):=by
  rcases hsv with h|⟨mi,rfl,g1,g2,g3⟩
  .exact .inl h
  .refine .inr ⟨mi,rfl,g1,g2,?_⟩
   by_cases e:V.own mi 0 0 x.aN.length=mv
   .rcases hmv with⟨rfl,_⟩|⟨mj,rfl,_,_,g4⟩
    .cases e
    .injection e with e1
     subst e1
     rw[g3]at g4
     cases g4
   .rw[ha4 mi e]
    exact g3
 simp(disch:=omega)only[go_sem]
 refine s7c ar2 aq L.length k b1 x sv mv (by omega) ha22 hrow1 h21 hn ⟨k1,k9⟩ (fun h=>hau _ (ka h)) (fun h=>hau _ (CT h)) hL _ _ fun e env ar3 b2 he hb2 hb3 hb4 hb5=>?_
 have hA:SD T L at' aq (k+1) ar3:=by
  have hkeep3:oi 2 ar ar3:=⟨by have:=hkeep.len; omega,fun i hi ho=>by rw[hb2 i ho,hkeep.get i hi ho]⟩
  refine⟨by omega,by rw[hb2 1 (by decide),h21],b2,hb4,by rw[hb5,WG,hb1,WG,hbl],fun i row w hi hr hw=>?_,fun i hi=>?_⟩
  .rw[hb5,hb1,List.set_set]at hr
   by_cases e:k=i
   .subst e
    rw[hu]at hw
    cases hw
    rw[VY (by omega)]at hr
    cases hr
    rw[hxx]
    have hs3:cT ar3 ar.length 2 sv (x.syms.map Sym.c):=by
     rcases hsv2 with h|⟨mi,h5,g1,g2,g3⟩
     .exact .inl h
     .exact .inr ⟨mi,h5,g1,g2,by rw[hb2 mi (by omega)]; exact g3⟩
    have hm3:cT ar3 ar.length 13 mv ((x.aN.map (js L)).map Mem.c):=by
     rcases hmv2 with h|⟨mi,h5,g1,g2,g3⟩
     .exact .inl h
     .exact .inr ⟨mi,h5,g1,g2,by rw[hb2 mi (by omega)]; exact g3⟩
    exact Hd hl2 hs3 hm3
   .rw[VX e]at hr
    exact(hdone i row w (by omega) hr hw).L8 hkeep3
  .rw[hb5,hb1,List.set_set,VX (by omega),hraw i (by omega)]
 rcases he with rfl|rfl<;>simp(disch:=omega)only[go_sem,List.nil_append,List.cons_append]<;>exact⟨(k+1,ar3),hA,by dsimp only; omega,rfl⟩
set_option maxHeartbeats 4000000 in
theorem Va (a1 a2:V) (a4 a5:V) (c2:List V) (nm:ByteArray) (n t2:Nat) (C:List lC) (L at':List Int) (V0:V) (pre:List aL) (hn:at'.length=n) (h1:pre[1]?=some ⟨0,1,.inl (ints at')⟩) (hC:C.length<=8)
  (hat:∀c∈C,(0<=c.nH/\c.nH<n/\at'[c.nH.toNat]?=some (di L c.nH))/\0<=c.rep/\c.rep<n/\at'[c.rep.toNat]?=some (di L c.rep)) (Q:Ex->St->Prop)
  (hQ:∀env,Q (.exit 10) ⟨(1,.ptr 1 0)::(2,.ptr 2 0)::(12,.own 1 0 0 n)::(13,.ptr 13 0)::env,⟨[(1,[a1,a2,.pv (.aa t2 (aW C)),a4,a5]),(2,c2),(13,[.pv (.str nm),V0,cY pre.length (aW (C.map (bc L))),.tl [],.tl []])],pre++cm 3 (aW (C.map (bc L))),[]⟩⟩):
  W A az F408.body.two.two.two.two.two.two.two.two.one.two.aY ⟨[(1,.ptr 1 0),(2,.ptr 2 0),(12,.own 1 0 0 n),(13,.ptr 13 0),(198,.pv (.aa t2 (aW C))),(199,.pv (.int .i64 C.length)),(200,.pv (.int .i64 0))],⟨[(1,[a1,a2,.pv (.aa t2 (aW C)),a4,a5]),(2,c2),(13,[.pv (.str nm),V0,.tl [],.tl [],.tl []])],pre,[]⟩⟩ Q:=by
 simp only[F408,nX,AC.one,AC.two,AC.aY]
 refine W.cD C.length (fun k=>⟨[(1,.ptr 1 0),(2,.ptr 2 0),(12,.own 1 0 0 n),(13,.ptr 13 0),(198,.pv (.aa t2 (aW C))),(199,.pv (.int .i64 C.length)),(200,.pv (.int .i64 k))],⟨[(1,[a1,a2,.pv (.aa t2 (aW C)),a4,a5]),(2,c2),(13,[.pv (.str nm),V0,cY pre.length (aW ((C.map (bc L)).take k)),.tl [],.tl []])],pre++cm 3 (aW ((C.map (bc L)).take k)),[]⟩⟩) (fun _=>True) (by show _=(⟨_,⟨_,pre++[],[]⟩⟩:St); rw[Wj]; rfl) trivial fun k hk _=>?_
 simp(disch:=omega)only[go_sem]
 refine Br.aD (fun c=>?_) (fun c=>?_)
 .obtain⟨x,hx⟩:=get_some (l:=C) (k:=k) (by omega)
  obtain⟨⟨_,_,q1⟩,_,_,q2⟩:=hat x (Vz hx)
  have hp1:=(Vy.1 h1).1
  have gP:∀X:List aL,(pre++X)[1]?=some ⟨0,1,.inl (ints at')⟩:=fun X=>by rw[VC hp1]; exact h1
  have hnx:aW ((C.map (bc L)).take (k+1))=aW ((C.map (bc L)).take k)++[[.str x.name,.int .i64 (di L x.nH),.int .i64 (di L x.rep)]]:=by
   rw[VT,VF,hx]
   simp[aW,bc,lC.c]
  have hql:(aW ((C.map (bc L)).take k)).length<=8:=by rw[pe,VH,VB]; omega
  have hg:=fun bx mp=>grow bx mp pre 3 (aW ((C.map (bc L)).take k)) (bc L x).c rfl (by omega)
  have hgt:=fun bx mp=>ek bx mp pre 3 (aW ((C.map (bc L)).take k)) (bc L x).c
  generalize aW ((C.map (bc L)).take k)=rows at *
  unfold bc lC.c at hg hgt
  dsimp only at hg hgt
  simp(disch:=omega)only[go_sem,hx,Option.map_some,lC.c,gP,q1,q2,hg,hgt]
  refine .of (by omega) ?_ trivial
  rw[hnx]
  rfl
 .obtain rfl:k=C.length:=by omega
  have e:(C.map (bc L)).take C.length=C.map (bc L):=List.take_of_length_le (by simp)
  rw[e]
  simp(disch:=omega)only[go_sem]
  exact hQ _
set_option maxHeartbeats 4000000 in
theorem T6 (c2:List V) (nm:ByteArray) (n t4:Nat) (C:List nc) (L at':List Int) (V0 V1 V2:V) (pre:List aL) (hn:at'.length=n) (h1:pre[1]?=some ⟨0,1,.inl (ints at')⟩) (hC:C.length<=8)
  (hat:∀c∈C,0<=c.ty/\c.ty<n/\at'[c.ty.toNat]?=some (di L c.ty)) (Q:Ex->St->Prop)
  (hQ:∀env,Q (.exit 16) ⟨(2,.ptr 2 0)::(12,.own 1 0 0 n)::(13,.ptr 13 0)::env,⟨[(2,c2),(13,[.pv (.str nm),V0,V1,V2,cY pre.length (bo (C.map (bp L)))])],pre++cm 2 (bo (C.map (bp L))),[]⟩⟩):
  W A az F408.body.two.two.two.two.two.two.two.two.two.two.one.two.aY ⟨[(2,.ptr 2 0),(12,.own 1 0 0 n),(13,.ptr 13 0),(261,.pv (.aa t4 (bo C))),(262,.pv (.int .i64 C.length)),(263,.pv (.int .i64 0))],⟨[(2,c2),(13,[.pv (.str nm),V0,V1,V2,.tl []])],pre,[]⟩⟩ Q:=by
 simp only[F408,nX,AC.one,AC.two,AC.aY]
 refine W.cD C.length (fun k=>⟨[(2,.ptr 2 0),(12,.own 1 0 0 n),(13,.ptr 13 0),(261,.pv (.aa t4 (bo C))),(262,.pv (.int .i64 C.length)),(263,.pv (.int .i64 k))],⟨[(2,c2),(13,[.pv (.str nm),V0,V1,V2,cY pre.length (bo ((C.map (bp L)).take k))])],pre++cm 2 (bo ((C.map (bp L)).take k)),[]⟩⟩) (fun _=>True) (by show _=(⟨_,⟨_,pre++[],[]⟩⟩:St); rw[Wj]; rfl) trivial fun k hk _=>?_
 simp(disch:=omega)only[go_sem]
 refine Br.aD (fun c=>?_) (fun c=>?_)
 .obtain⟨x,hx⟩:=get_some (l:=C) (k:=k) (by omega)
  obtain⟨_,_,q1⟩:=hat x (Vz hx)
  have hp1:=(Vy.1 h1).1
  have gP:∀X:List aL,(pre++X)[1]?=some ⟨0,1,.inl (ints at')⟩:=fun X=>by rw[VC hp1]; exact h1
  have hnx:bo ((C.map (bp L)).take (k+1))=bo ((C.map (bp L)).take k)++[[.str x.name,.int .i64 (di L x.ty)]]:=by
   rw[VT,VF,hx]
   simp[bo,bp,nc.c]
  have hql:(bo ((C.map (bp L)).take k)).length<=8:=by rw[tc,VH,VB]; omega
  have hg:=fun bx mp=>grow bx mp pre 2 (bo ((C.map (bp L)).take k)) (bp L x).c rfl (by omega)
  have hgt:=fun bx mp=>ek bx mp pre 2 (bo ((C.map (bp L)).take k)) (bp L x).c
  generalize bo ((C.map (bp L)).take k)=rows at *
  unfold bp nc.c at hg hgt
  dsimp only at hg hgt
  simp(disch:=omega)only[go_sem,hx,Option.map_some,nc.c,gP,q1,hg,hgt]
  refine .of (by omega) ?_ trivial
  rw[hnx]
  rfl
 .obtain rfl:k=C.length:=by omega
  have e:(C.map (bp L)).take C.length=C.map (bp L):=List.take_of_length_le (by simp)
  rw[e]
  simp(disch:=omega)only[go_sem]
  exact hQ _
def jM (ar:List aL) (b k:Nat) (v:V) (rows:List (List PV)):Prop:=(v=.pv (.aa 0 [])/\rows=[])\/∃m,v=.own m 0 0 rows.length/\b<=m/\rows≠[]/\ar[m]?=some ⟨0,k,.inl rows⟩
set_option maxHeartbeats 4000000 in
theorem T7 (c1 c2 c13:List V) (n t3 m k:Nat) (S:List (List PV)) (x:dx) (hx1:x.msgs.length<=2147483648) (hx2:x.auto.aw.length<=2147483648) (ar:List aL) (Q:Ex->St->Prop)
  (hQ:∀env X mv ev,jM (ar++X) ar.length 3 mv (msgs x.msgs)->jM (ar++X) ar.length 4 ev (x.auto.aw.map Edge.c)->Q .normal ⟨(1,.ptr 1 0)::(2,.ptr 2 0)::(12,.own 1 0 0 n)::(13,.ptr 13 0)::(22,.ptr 22 0)::(224,.pv (.aa t3 S))::(225,.pv (.int .i64 m))::(226,.pv (.int .i64 k))::env,⟨[(1,c1),(2,c2),(13,c13),(22,[.pv (.str x.name),mv,.pv (.int .i64 x.auto.ay),.pv (.int .i64 x.auto.start),ev])],ar++X,[]⟩⟩):
  W A az F408.body.two.two.two.two.two.two.two.two.two.one.two.aY.aY.aY.two.two.one.aY.two.one ⟨[(1,.ptr 1 0),(2,.ptr 2 0),(12,.own 1 0 0 n),(13,.ptr 13 0),(22,.ptr 22 0),(224,.pv (.aa t3 S)),(225,.pv (.int .i64 m)),(226,.pv (.int .i64 k))],⟨[(1,c1),(2,c2),(13,c13),(22,x.c.map .pv)],ar,[]⟩⟩ Q:=by
 simp only[F408,nX,AC.one,AC.two,AC.aY]
 have h445:=r445 x hx1 hx2
 unfold LM at h445
 have hml:(msgs x.msgs).length=x.msgs.length:=eV _
 unfold dx.c at h445 |-
 by_cases em:msgs x.msgs=[]<;>by_cases ee:x.auto.aw.map Edge.c=[]
 .rw[if_pos em,if_pos ee]at h445
  simp(disch:=omega)only[go_sem,List.map_cons,List.map_nil,h445]
  have:=hQ [] [] (.pv (.aa 0 [])) (.pv (.aa 0 [])) (.inl ⟨rfl,em⟩) (.inl ⟨rfl,ee⟩)
  rw[Wj]at this
  exact this
 .rw[if_pos em,if_neg ee]at h445
  simp(disch:=omega)only[go_sem,List.map_cons,List.map_nil,h445]
  exact hQ [] _ _ _ (.inl ⟨rfl,em⟩) (.inr ⟨ar.length,by simp,Nat.le_refl _,ee,by simp⟩)
 .rw[if_neg em,if_pos ee]at h445
  simp(disch:=omega)only[go_sem,List.map_cons,List.map_nil,h445]
  exact hQ [] _ _ _ (.inr ⟨ar.length,by rw[hml],Nat.le_refl _,em,by simp⟩) (.inl ⟨rfl,ee⟩)
 .rw[if_neg em,if_neg ee]at h445
  simp(disch:=omega)only[go_sem,List.map_cons,List.map_nil,h445]
  exact hQ [] _ _ _ (.inr ⟨ar.length,by rw[hml],Nat.le_refl _,em,by simp⟩) (.inr ⟨ar.length+1,by simp,by omega,ee,by simp⟩)
def nk {α:Type} (f:α->α) (l:List α) (j:Nat):List α:=(l.take j).map f++l.drop j
theorem we {α:Type} (f:α->α) (l:List α):nk f l 0=l:=by simp[nk]
theorem zG {α:Type} (f:α->α) (l:List α):nk f l l.length=l.map f:=by simp[nk]
theorem uk {α:Type} (f:α->α) (l:List α) (j:Nat):(nk f l j).length=l.length:=by
 simp only[nk,List.length_append,List.length_map,List.length_take,List.length_drop]
 omega
theorem um {α:Type} {f:α->α} {l:List α} {j:Nat} {m:α} (h:l[j]?=some m):(nk f l j)[j]?=some m:=by
 have hj:=(Vy.1 h).1
 have hl:((l.take j).map f).length=j:=by simp; omega
 unfold nk
 rw[VM (by omega),hl,Nat.sub_self,Wg,Xi]
 exact h
theorem Fz {α:Type} {f:α->α} {l:List α} {j:Nat} {m:α} (h:l[j]?=some m):(nk f l j).set j (f m)=nk f l (j+1):=by
 have hj:=(Vy.1 h).1
 have hl:((l.take j).map f).length=j:=by simp; omega
 unfold nk
 rw[List.set_append_right _ _ (by omega),hl,Nat.sub_self,y3 h,List.set_cons_zero,VT,h]
 simp
theorem uo {L:List Int} {l:List eD} {j:Nat} {m:eD} (h:l[j]?=some m) (id:Nat):dC id j 2 [.pv (.int .i64 (di L m.ty))] ⟨0,3,.inl (msgs (nk (gy L) l j))⟩=some { ar:=some (id,⟨0,3,.inl (msgs (nk (gy L) l (j+1)))⟩) }:=by
 have hj:=(Vy.1 h).1
 rw[iD (l:=[.int .i64 (di L m.ty)]) (by rw[eV,uk]; exact hj) rfl (by simp) rfl,<- Fz h]
 unfold over msgs
 have hd:((nk (gy L) l j).map eD.c).getD j []=m.c:=by rw[VK,VF,um h]; rfl
 rw[hd,List.map_set]
 rfl
set_option maxHeartbeats 4000000 in
theorem T8 (c1 c2 c13:List V) (n t3 m k:Nat) (S:List (List PV)) (L at':List Int) (x:dx) (hx1:x.msgs.length<=16) (ar:List aL) (mv ev:V) (b:Nat) (hb:1<b) (hmv:jM ar b 3 mv (msgs x.msgs)) (h1:ar[1]?=some ⟨0,1,.inl (ints at')⟩) (hn:at'.length=n)
  (hat:∀q∈x.msgs,0<=q.ty/\q.ty<n/\at'[q.ty.toNat]?=some (di L q.ty)) (env0:List (Nat×V)) (Q:Ex->St->Prop)
  (hQ:∀env ar2,(∀i,i<b->ar2[i]?=ar[i]?)->ar.length<=ar2.length->(∀i,(V.own i 0 0 x.msgs.length≠mv->ar2[i]?=ar[i]?))->jM ar2 b 3 mv (msgs (x.msgs.map (gy L)))->Q (.exit 14) ⟨(1,.ptr 1 0)::(2,.ptr 2 0)::(12,.own 1 0 0 n)::(13,.ptr 13 0)::(22,.ptr 22 0)::(224,.pv (.aa t3 S))::(225,.pv (.int .i64 m))::(226,.pv (.int .i64 k))::env,⟨[(1,c1),(2,c2),(13,c13),(22,[.pv (.str x.name),mv,.pv (.int .i64 x.auto.ay),.pv (.int .i64 x.auto.start),ev])],ar2,[]⟩⟩):
  W A az F408.body.two.two.two.two.two.two.two.two.two.one.two.aY.aY.aY.two.two.one.aY.two.two.one.two.aY ⟨[(1,.ptr 1 0),(2,.ptr 2 0),(12,.own 1 0 0 n),(13,.ptr 13 0),(22,.ptr 22 0),(224,.pv (.aa t3 S)),(225,.pv (.int .i64 m)),(226,.pv (.int .i64 k)),(234,.pv (.int .i64 x.msgs.length)),(235,.pv (.int .i64 0))],⟨[(1,c1),(2,c2),(13,c13),(22,[.pv (.str x.name),mv,.pv (.int .i64 x.auto.ay),.pv (.int .i64 x.auto.start),ev])],ar,[]⟩⟩ Q:=by
 simp only[F408,nX,AC.one,AC.two,AC.aY]
 rcases hmv with⟨rfl,hm0⟩|⟨mi,rfl,hmi,hm0,hma⟩
 .have hm0:=W2.1 hm0
  rw[hm0]at hQ |-
  refine W.cD 0 (fun j=>⟨[(1,.ptr 1 0),(2,.ptr 2 0),(12,.own 1 0 0 n),(13,.ptr 13 0),(22,.ptr 22 0),(224,.pv (.aa t3 S)),(225,.pv (.int .i64 m)),(226,.pv (.int .i64 k)),(234,.pv (.int .i64 (([]:List eD).length:Nat))),(235,.pv (.int .i64 j))],⟨[(1,c1),(2,c2),(13,c13),(22,[.pv (.str x.name),.pv (.aa 0 []),.pv (.int .i64 x.auto.ay),.pv (.int .i64 x.auto.start),ev])],ar,[]⟩⟩) (fun _=>True) rfl trivial fun j hj _=>?_
  simp(disch:=omega)only[go_sem]
  refine Br.aD (fun c=>?_) (fun c=>?_)
  .simp at c
   omega
  simp(disch:=omega)only[go_sem]
  exact hQ _ ar (fun _ _=>rfl) (VI _) (fun _ _=>rfl) (.inl ⟨rfl,rfl⟩)
 .have hml2:(msgs x.msgs).length=x.msgs.length:=eV _
  rw[hml2]at hQ
  have hmil:=(Vy.1 hma).1
  have gM:∀a,(ar.set mi a)[mi]?=some a:=fun a=>VY hmil
  have g1:∀a,(ar.set mi a)[1]?=some ⟨0,1,.inl (ints at')⟩:=fun a=>by rw[VX (by omega)]; exact h1
  rw[hml2]
  refine W.cD x.msgs.length (fun j=>⟨[(1,.ptr 1 0),(2,.ptr 2 0),(12,.own 1 0 0 n),(13,.ptr 13 0),(22,.ptr 22 0),(224,.pv (.aa t3 S)),(225,.pv (.int .i64 m)),(226,.pv (.int .i64 k)),(234,.pv (.int .i64 x.msgs.length)),(235,.pv (.int .i64 j))],⟨[(1,c1),(2,c2),(13,c13),(22,[.pv (.str x.name),.own mi 0 0 x.msgs.length,.pv (.int .i64 x.auto.ay),.pv (.int .i64 x.auto.start),ev])],ar.set mi ⟨0,3,.inl (msgs (nk (gy L) x.msgs j))⟩,[]⟩⟩) (fun _=>True) ?_ trivial fun j hj _=>?_
  .rw[we,km hma]
   rfl
  have hmj:=uk (gy L) x.msgs j
  simp(disch:=omega)only[go_sem]
  refine Br.aD (fun c=>?_) (fun c=>?_)
  .obtain⟨q,hq⟩:=get_some (l:=x.msgs) (k:=j) (by omega)
   obtain⟨q0,q1,q2⟩:=hat q (Vz hq)
   have hmg:=um (f:=gy L) hq
   have hst:=fun id=>uo (L:=L) hq id
   simp(disch:=omega)only[go_sem,g1,gM,hmg,Option.map_some,eD.c,q2,hst,List.set_set]
   exact .of (by omega) rfl trivial
  .obtain rfl:j=x.msgs.length:=by omega
   rw[zG]
   simp(disch:=omega)only[go_sem]
   refine hQ _ _ (fun i hi=>by rw[List.getElem?_set_ne (by omega)]) (by rw[List.length_set]; exact Nat.le_refl _) (fun i hi=>?_) (.inr ⟨mi,by simp[msgs],hmi,by simpa [msgs]using hm0,gM _⟩)
   rw[VX]
   rintro rfl
   exact hi rfl
theorem jM.cell {ar:List aL} {b k o:Nat} {v:V} {rows:List (List PV)} (h:jM ar b k v rows) (ho:o<b):fu ar o v (.aa 0 rows):=by
 rcases h with⟨rfl,rfl⟩|⟨m,rfl,h1,_,h2⟩
 .exact .inl ⟨rfl,rfl⟩
 .exact .inr ⟨k,rows,rfl,.inr (.inl ⟨m,0,rfl,by omega,h2⟩)⟩
theorem jM.HZ {ar:List aL} {b k o:Nat} {v:V} {rows:List (List PV)} (h:jM ar b k v rows) (ho:ar.length<=o):fu ar o v (.aa 0 rows):=by
 rcases h with⟨rfl,rfl⟩|⟨m,rfl,h1,_,h2⟩
 .exact .inl ⟨rfl,rfl⟩
 .have:=(Vy.1 h2).1
  exact .inr ⟨k,rows,rfl,.inr (.inl ⟨m,0,rfl,by omega,h2⟩)⟩
theorem Cc {w:dx} {ar:List aL} {o b:Nat} {mv ev:V} (ho:o<b\/ar.length<=o) (hm:jM ar b 3 mv (msgs w.msgs)) (he:jM ar b 4 ev (w.auto.aw.map Edge.c)):dE ar o [.pv (.str w.name),mv,.pv (.int .i64 w.auto.ay),.pv (.int .i64 w.auto.start),ev] w.c:=by
 unfold dx.c
 have h1:fu ar o mv (.aa 0 (w.msgs.map eD.c)):=by
  rcases ho with h|h
  .exact hm.cell h
  .exact hm.HZ h
 have h2:fu ar o ev (.aa 0 (w.auto.aw.map Edge.c)):=by
  rcases ho with h|h
  .exact he.cell h
  .exact he.HZ h
 exact .pure rfl rfl (.cons h1 (.pure rfl rfl (.pure rfl rfl (.cons h2 (.nil _ _)))))
theorem jM.push {ar:List aL} {b k:Nat} {v:V} {rows:List (List PV)} (h:jM ar b k v rows) (x:List aL):jM (ar++x) b k v rows:=by
 rcases h with h|⟨m,h1,h2,h3,h4⟩
 .exact .inl h
 .exact .inr ⟨m,h1,h2,h3,by rw[VC (Vy.1 h4).1]; exact h4⟩
theorem uq {α:Type} {a b:List α} {n i:Nat} (h:a.take n=b.take n) (hi:i<n):a[i]?=b[i]?:=by
 have:=congrArg (fun l=>l[i]?) h
 simpa [List.getElem?_take,hi]using this
theorem rk {α:Type} {a b:List α} {n:Nat} (h:∀i,i<n->a[i]?=b[i]?):a.take n=b.take n:=by
 apply Wi
 intro i
 rw[VN,VN]
 split
 .exact h i (by assumption)
 .rfl
theorem cg.move {b:Nat} {ar ar':List aL} {V0:V} {k:Nat} {css:List (List PV)} (h:cg b ar V0 k css) (hl:∀i,i<ar.length->ar'[i]?=ar[i]?):cg b ar' V0 k css:=by
 rcases h with h|⟨o,aq,h1,h2,body,h3,h4⟩
 .exact .inl h
 .have ho:=(Vy.1 h3).1
  refine .inr ⟨o,aq,h1,h2,body,by rw[hl o ho]; exact h3,h4.len,fun i row cs g1 g2=>?_⟩
  obtain⟨r1,r2⟩:=h4.row i row cs g1 g2
  refine⟨r1,fun j v c j1 j2=>?_⟩
  rcases r2 j v c j1 j2 with h|⟨kk,rows,e,h|⟨id,vv,e1,e2,e3⟩|h⟩
  .exact .inl h
  .exact .inr ⟨kk,rows,e,.inl h⟩
  .exact .inr ⟨kk,rows,e,.inr (.inl ⟨id,vv,e1,e2,by rw[hl id (Vy.1 e3).1]; exact e3⟩)⟩
  .exact .inr ⟨kk,rows,e,.inr (.inr h)⟩
set_option maxHeartbeats 8000000 in
theorem Vb (c1 c2:List V) (nm:ByteArray) (n t3:Nat) (C:List dx) (L at':List Int) (V0 V1:V) (pre:List aL) (hn:at'.length=n) (h1:pre[1]?=some ⟨0,1,.inl (ints at')⟩) (hC:C.length<=8) (hsm:∀w∈C,w.msgs.length<=16/\w.auto.aw.length<=2000000000)
  (hat:∀w∈C,∀q∈w.msgs,0<=q.ty/\q.ty<n/\at'[q.ty.toNat]?=some (di L q.ty)) (Q:Ex->St->Prop)
  (hQ:∀env ar V2,ar.take pre.length=pre->cg pre.length ar V2 5 ((C.map (bG L)).map dx.c)->Q (.exit 12) ⟨(1,.ptr 1 0)::(2,.ptr 2 0)::(12,.own 1 0 0 n)::(13,.ptr 13 0)::env,⟨[(1,c1),(2,c2),(13,[.pv (.str nm),V0,V1,V2,.tl []])],ar,[]⟩⟩):
  W A az F408.body.two.two.two.two.two.two.two.two.two.one.two.aY ⟨[(1,.ptr 1 0),(2,.ptr 2 0),(12,.own 1 0 0 n),(13,.ptr 13 0),(224,.pv (.aa t3 (ax C))),(225,.pv (.int .i64 C.length)),(226,.pv (.int .i64 0))],⟨[(1,c1),(2,c2),(13,[.pv (.str nm),V0,V1,.tl [],.tl []])],pre,[]⟩⟩ Q:=by
 have s9a:=T7 c1 c2
 have s9b:=T8 c1 c2
 have hp1:=(Vy.1 h1).1
 rw[show F408.body.two.two.two.two.two.two.two.two.two.one.two.aY=AC.loop (.mask [1,2,12,13,224,225,226] [1,2,13] (.seq F408.body.two.two.two.two.two.two.two.two.two.one.two.aY.aY.aY.one (.seq F408.body.two.two.two.two.two.two.two.two.two.one.two.aY.aY.aY.two.one (.seq (.block 13 (.seq F408.body.two.two.two.two.two.two.two.two.two.one.two.aY.aY.aY.two.two.one.aY.one (.seq F408.body.two.two.two.two.two.two.two.two.two.one.two.aY.aY.aY.two.two.one.aY.two.one (.seq (.seq F408.body.two.two.two.two.two.two.two.two.two.one.two.aY.aY.aY.two.two.one.aY.two.two.one.one (.block 14 F408.body.two.two.two.two.two.two.two.two.two.one.two.aY.aY.aY.two.two.one.aY.two.two.one.two.aY)) F408.body.two.two.two.two.two.two.two.two.two.one.two.aY.aY.aY.two.two.one.aY.two.two.two)))) F408.body.two.two.two.two.two.two.two.two.two.one.two.aY.aY.aY.two.two.two)))) from rfl]
 generalize F408.body.two.two.two.two.two.two.two.two.two.one.two.aY.aY.aY.two.two.one.aY.two.one=D at s9a |-
 generalize F408.body.two.two.two.two.two.two.two.two.two.one.two.aY.aY.aY.two.two.one.aY.two.two.one.two.aY=E at s9b |-
 simp only[F408,nX,AC.one,AC.two,AC.aY]
 refine W.loop (α:=Nat×List aL×V) (fun x=>⟨[(1,.ptr 1 0),(2,.ptr 2 0),(12,.own 1 0 0 n),(13,.ptr 13 0),(224,.pv (.aa t3 (ax C))),(225,.pv (.int .i64 C.length)),(226,.pv (.int .i64 x.1))],⟨[(1,c1),(2,c2),(13,[.pv (.str nm),V0,V1,x.2.2,.tl []])],x.2.1,[]⟩⟩) (fun x=>x.1<=C.length/\x.2.1.take pre.length=pre/\pre.length<=x.2.1.length/\cg pre.length x.2.1 x.2.2 5 (((C.map (bG L)).take x.1).map dx.c)) (fun x=>C.length - x.1) (0,pre,.tl []) rfl ⟨V4 _,VW,VI _,.inl ⟨rfl,rfl⟩⟩ fun x hx=>?_
 obtain⟨k,ar,V2⟩:=x
 obtain⟨hk,hpre,hpl,hlist⟩:=hx
 dsimp only at hk hpre hpl hlist
 simp(disch:=omega)only[go_sem]
 refine Br.aD (fun c=>?_) (fun c=>?_)
 rotate_left
 .obtain rfl:k=C.length:=by omega
  have e:(C.map (bG L)).take C.length=C.map (bG L):=List.take_of_length_le (by simp)
  rw[e]at hlist
  simp(disch:=omega)only[go_sem]
  exact hQ _ ar V2 hpre hlist
 obtain⟨x,hx⟩:=get_some (l:=C) (k:=k) (by omega)
 have hxm:=Vz hx
 obtain⟨hm16,hel⟩:=hsm x hxm
 have hax:=hat x hxm
 have har1:ar[1]?=some ⟨0,1,.inl (ints at')⟩:=by
  have:ar[1]?=pre[1]?:=by rw[<- hpre,VN,if_pos hp1]
  rw[this,h1]
 have har1l:=(Vy.1 har1).1
 have hnx:((C.map (bG L)).take (k+1)).map dx.c=((C.map (bG L)).take k).map dx.c++[(bG L x).c]:=by
  rw[VT,VF,hx]
  simp
 have hcl:(((C.map (bG L)).take k).map dx.c).length<=8:=by rw[VB,VH,VB]; omega
 simp(disch:=omega)only[go_sem,hx,Option.map_some,dx.c]
 refine s9a [.pv (.str nm),V0,V1,V2,.tl []] n t3 C.length k (ax C) x (by omega) (by omega) ar _ fun env X mv ev hmv hev=>?_
 have hX1:(ar++X)[1]?=some ⟨0,1,.inl (ints at')⟩:=by rw[VC har1l]; exact har1
 have hlen:fY ⟨[(1,c1),(2,c2),(13,[.pv (.str nm),V0,V1,V2,.tl []]),(22,[.pv (.str x.name),mv,.pv (.int .i64 x.auto.ay),.pv (.int .i64 x.auto.start),ev])],ar++X,[]⟩ 0 mv=some (x.msgs.length,{}):=by
  rcases hmv with⟨rfl,h⟩|⟨mi,rfl,_⟩
  .rw[W2.1 h]
   rfl
  .rw[eV]
   rfl
 simp(disch:=omega)only[go_sem,hlen]
 refine s9b [.pv (.str nm),V0,V1,V2,.tl []] n t3 C.length k (ax C) L at' x hm16 (ar++X) mv ev ar.length (by omega) hmv hX1 hn hax [] _ fun env ar2 g1 g2 g3 hmv2=>?_
 have hev2:jM ar2 ar.length 4 ev (x.auto.aw.map Edge.c):=by
  rcases hev with h|⟨mi,rfl,q1,q2,q3⟩
  .exact .inl h
  .refine .inr ⟨mi,rfl,q1,q2,?_⟩
   by_cases e:V.own mi 0 0 x.msgs.length=mv
   .rcases hmv with⟨rfl,_⟩|⟨mj,rfl,_,_,q4⟩
    .cases e
    .injection e with e1
     subst e1
     rw[q3]at q4
     cases q4
   .rw[g3 mi e]
    exact q3
 have hl2:cg pre.length ar2 V2 5 (((C.map (bG L)).take k).map dx.c):=hlist.move fun i hi=>by rw[g1 i hi,VC hi]
 have hpre2:ar2.take pre.length=pre:=by
  rw[<- hpre]
  rw[VH,Xe hpl]
  exact rk fun i hi=>by rw[g1 i (by omega),VC (by omega)]
 have hAl:(ar2.take ar.length).length=ar.length:=by rw[VH]; have:=g2; rw[VE]at this; omega
 have hA:cg pre.length (ar2.take ar.length) V2 5 (((C.map (bG L)).take k).map dx.c):=hlist.move fun i hi=>by rw[VN,if_pos hi,g1 i hi,VC hi]
 have hsplit:ar2.take ar.length++ar2.drop ar.length=ar2:=Wo _ _
 have hmsgs:(bG L x).msgs=x.msgs.map (gy L):=rfl
 have fin:∀ar' V3,ar'.take pre.length=(ar2.take ar.length).take pre.length->pre.length<=ar'.length->cg pre.length ar' V3 5 (((C.map (bG L)).take k).map dx.c++[(bG L x).c])->((k+1,ar',V3):Nat×List aL×V).1<=C.length/\ar'.take pre.length=pre/\pre.length<=ar'.length/\cg pre.length ar' V3 5 (((C.map (bG L)).take (k+1)).map dx.c):=fun ar' V3 q1 q2 q3=>by
  refine⟨by dsimp only; omega,?_,q2,by rw[hnx]; exact q3⟩
  rw[q1,List.take_take,Xe hpl,hpre2]
 have lit:∀row,row=[.pv (.str x.name),mv,.pv (.int .i64 x.auto.ay),.pv (.int .i64 x.auto.start),ev]->∃V3 T ar',(∀bx,aJ ⟨bx,ar2++[⟨0,5,.inr [row]⟩],[]⟩ 5 V2 (.own ar2.length 0 0 1)=some (V3,T))/\(∀bx,T.apply ⟨bx,ar2++[⟨0,5,.inr [row]⟩],[]⟩=⟨bx,ar',[]⟩)/\V3.cells=[V3]/\V3.calm=true/\ar'.take pre.length=(ar2.take ar.length).take pre.length/\pre.length<=ar'.length/\cg pre.length ar' V3 5 (((C.map (bG L)).take k).map dx.c++[(bG L x).c]):=fun row hrow=>by
  have:=xm (X0:=ar2.drop ar.length) (row:=row) (n:=ar2.length) (cs:=(bG L x).c) hA (by omega) (by omega) rfl (by rw[hsplit]) fun o ho=>?_
  .rw[hsplit]at this
   exact this
  .rw[hsplit,hrow]
   have:=Cc (w:=bG L x) (ar:=ar2++[⟨0,5,.inr [row]⟩]) (o:=o) (b:=ar.length) (mv:=mv) (ev:=ev) (by rw[VE,WV]; omega) (hmv2.push _) (hev2.push _)
   rw[hrow]at this
   exact this
 rcases hmv2 with⟨rfl,hm0⟩|⟨mi,rfl,w1,w2,w3⟩<;>rcases hev2 with⟨rfl,he0⟩|⟨ei,rfl,z1,z2,z3⟩
 .obtain⟨V3,T,ar',happ,hT,hc1,hc2,q1,q2,q3⟩:∃V3 T ar',(∀bx,aJ ⟨bx,ar2,[]⟩ 5 V2 (.tl [[.str x.name,.aa 0 [],.int .i64 x.auto.ay,.int .i64 x.auto.start,.aa 0 []]])=some (V3,T))/\(∀bx,T.apply ⟨bx,ar2,[]⟩=⟨bx,ar',[]⟩)/\V3.cells=[V3]/\V3.calm=true/\ar'.take pre.length=(ar2.take ar.length).take pre.length/\pre.length<=ar'.length/\cg pre.length ar' V3 5 (((C.map (bG L)).take k).map dx.c++[(bG L x).c]):=by
   have:=Rh (X:=ar2.drop ar.length) (y:=.tl [[.str x.name,.aa 0 [],.int .i64 x.auto.ay,.int .i64 x.auto.start,.aa 0 []]]) (new:=.inl [[.str x.name,.aa 0 [],.int .i64 x.auto.ay,.int .i64 x.auto.start,.aa 0 []]]) (rd:=none) (row:=[.pv (.str x.name),.pv (.aa 0 []),.pv (.int .i64 x.auto.ay),.pv (.int .i64 x.auto.start),.pv (.aa 0 [])]) (cs:=(bG L x).c) hA (by omega) (by omega) rfl (fun bx=>rfl) rfl (fun o h=>by cases h) fun o ho=>?_
   .rw[hsplit]at this
    exact this
   .rw[hsplit]at ho |-
    exact Cc (w:=bG L x) (b:=ar.length) (by omega) (.inl ⟨rfl,hm0⟩) (.inl ⟨rfl,he0⟩)
  simp(disch:=omega)only[go_sem,happ,hT,hc1,hc2]
  exact⟨(k+1,ar',V3),fin ar' V3 q1 q2 q3,by dsimp only; omega,rfl⟩
 .simp only[eV,List.length_map]at lit
  obtain⟨V3,T,ar',happ,hT,hc1,hc2,q1,q2,q3⟩:=lit _ rfl
  simp(disch:=omega)only[go_sem,happ,hT,hc1,hc2]
  exact⟨(k+1,ar',V3),fin ar' V3 q1 q2 q3,by dsimp only; omega,rfl⟩
 .simp only[eV,List.length_map]at lit
  obtain⟨V3,T,ar',happ,hT,hc1,hc2,q1,q2,q3⟩:=lit _ rfl
  simp(disch:=omega)only[go_sem,happ,hT,hc1,hc2]
  exact⟨(k+1,ar',V3),fin ar' V3 q1 q2 q3,by dsimp only; omega,rfl⟩
 .simp only[eV,List.length_map]at lit
  obtain⟨V3,T,ar',happ,hT,hc1,hc2,q1,q2,q3⟩:=lit _ rfl
  simp(disch:=omega)only[go_sem,happ,hT,hc1,hc2]
  exact⟨(k+1,ar',V3),fin ar' V3 q1 q2 q3,by dsimp only; omega,rfl⟩
set_option maxHeartbeats 2000000 in
theorem T9 (c1 c2:List V) (nm:ByteArray) (n:Nat) (T:List aC) (L at':List Int) (ua:aL) (rows:List (List PV)) (hr:rows=L.map fun u=>(bK T u).c) (hts:∀t∈T,t.short) (hn:at'.length=n) (hT:∀u∈L,0<=u/\u<T.length/\1<=(bK T u).kind/\(bK T u).kind<=9) (hL:L.length<=100)
  (hat:∀u∈L,∀w∈bT (bK T u),0<=w/\w<n/\at'[w.toNat]?=some (di L w)) (Q:Ex->St->Prop)
  (hQ:∀env ar V0,ar[1]?=some ⟨0,1,.inl (ints at')⟩->cg 0 ar V0 10 (L.map fun u=>(dp L (bK T u)).c)->Q (.exit 6) ⟨(1,.ptr 1 0)::(2,.ptr 2 0)::(12,.own 1 0 0 n)::(13,.ptr 13 0)::env,⟨[(1,c1),(2,c2),(13,[.pv (.str nm),V0,.tl [],.tl [],.tl []])],ar,[]⟩⟩):
  W A az F408.body.two.two.two.two.two.two.two.one.two.aY ⟨[(1,.ptr 1 0),(2,.ptr 2 0),(12,.own 1 0 0 n),(13,.ptr 13 0),(100,.pv (.int .i64 rows.length)),(101,.pv (.int .i64 0))],⟨[(1,c1),(2,c2),(13,[.pv (.str nm),cY 2 rows,.tl [],.tl [],.tl []])],ua::⟨0,1,.inl (ints at')⟩::cm 10 rows,[]⟩⟩ Q:=by
 have hrl:rows.length=L.length:=by rw[hr,VB]
 cases hLc:L with
 |nil=>
  subst hLc
  have hr0:rows=[]:=by rw[hr]; rfl
  rw[hr0]
  simp only[F408,nX,AC.one,AC.two,AC.aY]
  refine W.cD 0 (fun k=>⟨[(1,.ptr 1 0),(2,.ptr 2 0),(12,.own 1 0 0 n),(13,.ptr 13 0),(100,.pv (.int .i64 (([]:List (List PV)).length:Nat))),(101,.pv (.int .i64 k))],⟨[(1,c1),(2,c2),(13,[.pv (.str nm),.tl [],.tl [],.tl [],.tl []])],[ua,⟨0,1,.inl (ints at')⟩],[]⟩⟩) (fun _=>True) rfl trivial fun k hk _=>?_
  simp(disch:=omega)only[go_sem]
  refine Br.aD (fun c=>?_) (fun c=>?_)
  .simp at c
   omega
  simp(disch:=omega)only[go_sem]
  exact hQ _ _ (.tl []) rfl (.inl ⟨rfl,rfl⟩)
 |cons u0 L0=>
  have hv:L.length=L0.length+1:=by rw[hLc]; rfl
  rw[pg (n:=L0.length) (by rw[hrl,hv]),kR (n:=L0.length) (by rw[hrl,hv]),hrl]
  have:=U9 c1 c2 nm n T L at' [ua,⟨0,1,.inl (ints at')⟩,⟨L0.length,10,.inl rows⟩] hts hn hT hL hat L0.length hv ⟨Nat.zero_le _,rfl,.inl rows,rfl,by simp[bh,hrl],fun i row u h=>absurd h (Nat.not_lt_zero _),fun i _=>by simp[bh,hr,List.getElem?_map,Function.comp_def]⟩ Q fun env ar h=>hQ env ar (.own 2 L0.length 0 L.length) h.Vu ?_
  .rw[<- hv]
   exact this
  .obtain⟨_,_,body,h2,hbl,hd,_⟩:=h
   refine .inr ⟨2,L0.length,by rw[VB],V4 _,body,h2,by rw[hbl,VB],fun i row cs g1 g2=>?_⟩
   rw[VF]at g2
   obtain⟨u,hu,rfl⟩:=Wf.1 g2
   exact hd i row u (Vy.1 hu).1 g1 hu
theorem ki.roots {v:kr} (h:ki v):(du v).length<=1000:=by
 obtain⟨h1,h2,h3⟩:=h.HQ
 have:=Hb fun w hw=>show w.msgs.length<=20 by have:=(h.rX w hw).HQ; omega
 have h7:=mW v.calls
 have h8:(jt v.aK).length=v.aK.length:=VB _
 rw[du,VE,VE]
 omega
theorem lg (bx:List (Nat×List V)) (mp:List (List (PV×PV))) (pre post:List aL) (k d:Nat) (rows:List (List PV)):aV ⟨bx,pre++(cm k rows++post),mp⟩ (d+1) (cY pre.length rows)=some (.aa 0 rows):=by
 cases rows with
 |nil=>rfl
 |cons x q=>
  have:=AH bx mp pre post k x q
  simp[cY,fC,this,dD,aI]
theorem r408 (t1 t2 t3 t4:Nat) (v:kr) (hv:jw v):res A az 408 [.agg (fT t1 t2 t3 t4 v)]=some (if ui v=0 then [.agg (fT 0 0 0 0 (jK v)),.int .i64 0] else [.agg [.str ⟨#[]⟩,.aa 0 [],.aa 0 [],.aa 0 [],.aa 0 []],.int .i64 (ui v)]):=by
 have h407:=r407 t1 t2 t3 t4 v hv
 refine ai a408 rfl rfl ?_
 simp only[F408,nX,fT]at h407 |-
 simp(disch:=omega)only[go_sem,h407]
 refine Br.aD (fun c=>?_) (fun c=>?_)
 rotate_left
 .rw[if_neg c]
  simp(disch:=omega)only[go_sem]
 rw[if_pos c]
 have hG:=v8 c
 have h8:=hG.HQ
 have hvv:=hG.valid
 have h32:=(bS hvv).len
 have hroot:=hG.root
 have hrl:(du v).length<=1000:=hG.roots
 have h417:=r417 t1 t2 t3 t4 v (by omega) (by omega) (by omega) (by omega) (fun w hw=>(hv.ss w hw).2.1)
 simp only[fT]at h417
 simp(disch:=omega)only[go_sem,h417]
 refine U7 t1 t2 t3 t4 v hv hvv _ (fun r hr=>hroot r (mR.1 hr)) (by have:=vJ (du v); omega) _ fun env=>?_
 simp(disch:=omega)only[go_sem]
 refine U8 t1 t2 t3 t4 v h32 _ (vM _ _) _ fun env=>?_
 simp(disch:=omega)only[go_sem]
 have hUl:=C6 v
 have hUd:q9 v.types (lu (du v))=ju v:=rfl
 have hKd:gU (ju v) v.types.length=aQ v:=rfl
 rw[hUd]
 have hkr:kl v.types (ju v) v.types.length=(aQ v).map fun u=>(bK v.types u).c:=by
  unfold kl aQ gU
  rw[W6]
  rfl
 have hnl:=zb (ju v) v.types.length v.types.length
 have hus:∀u,Used v u->0<=u/\u<v.types.length/\(nh (ju v) v.types.length v.types.length)[u.toNat]?=some (di (aQ v) u):=fun u h=>⟨h.1,h.2.1,ES h.1 h.2.1 h.2.2⟩
 have hur:=vP hvv hroot
 have hsane:=bS hvv
 have hkd:∀u:Int,0<=u->u<v.types.length->1<=(bK v.types u).kind/\(bK v.types u).kind<=9:=fun u h0 h1=>(tL hv.to hvv).2.2 _ (Vz (eL h0 h1))
 have hLl:(aQ v).length<=100:=by
  unfold aQ gU
  rw[VB]
  have:=mS (ju v) v.types.length
  omega
 have hsv:jK v=⟨v.name,(aQ v).map fun u=>dp (aQ v) (bK v.types u),v.calls.map (bc (aQ v)),v.ax.map (bG (aQ v)),v.aK.map (bp (aQ v))⟩:=rfl
 generalize nh (ju v) v.types.length v.types.length=at' at *
 refine T9 _ _ v.name v.types.length v.types (aQ v) at' _ _ hkr hv.ts hnl (fun u hu=>?_) hLl (fun u hu w hw=>hus w (vQ (gz.1 hu) hw)) _ fun env ar V0 ha1 hV0=>?_
 .obtain⟨g0,g1,_⟩:=gz.1 hu
  exact⟨g0,g1,hkd u g0 g1⟩
 have hq0:=hV0.quiet
 simp(disch:=omega)only[go_sem,hq0.1,hq0.2]
 refine Va _ _ _ _ _ v.name v.types.length t2 v.calls (aQ v) at' V0 ar hnl ha1 (by omega) (fun c hc=>?_) _ fun env=>?_
 .have h1:c.nH∈du v:=List.mem_append_left _ (List.mem_append_left _ (List.mem_flatMap.2 ⟨c,hc,by simp⟩))
  have h2:c.rep∈du v:=List.mem_append_left _ (List.mem_append_left _ (List.mem_flatMap.2 ⟨c,hc,by simp⟩))
  exact⟨hus _ (hur _ h1),hus _ (hur _ h2)⟩
 simp(disch:=omega)only[go_sem,hq0.1,hq0.2]
 have har1l:=(Vy.1 ha1).1
 have hp1:(ar++cm 3 (aW (v.calls.map (bc (aQ v)))))[1]?=some ⟨0,1,.inl (ints at')⟩:=by rw[VC har1l]; exact ha1
 refine Vb _ _ v.name v.types.length t3 v.ax (aQ v) at' V0 (cY ar.length (aW (v.calls.map (bc (aQ v))))) (ar++cm 3 (aW (v.calls.map (bc (aQ v))))) hnl hp1 (by omega) (fun w hw=>⟨(hG.rX w hw).HQ,(hv.ss w hw).2.2.2⟩) (fun w hw q hq=>?_) _ fun env ar3 V2 ht hV2=>?_
 .have h1:q.ty∈du v:=Wh _ (Wn _ (Xo.2 ⟨w,hw,VP.2 ⟨q,hq,rfl⟩⟩))
  exact hus _ (hur _ h1)
 have hq2:=hV2.quiet
 have h31:ar3[1]?=some ⟨0,1,.inl (ints at')⟩:=by
  have:=uq (i:=1) (n:=(ar++cm 3 (aW (v.calls.map (bc (aQ v))))).length) (a:=ar3) (b:=ar++cm 3 (aW (v.calls.map (bc (aQ v))))) (by rw[ht,VW]) (by rw[VE]; omega)
  rw[this,hp1]
 simp(disch:=omega)only[go_sem,hq0.1,hq0.2,hq2.1,hq2.2]
 refine T6 _ v.name v.types.length t4 v.aK (aQ v) at' V0 (cY ar.length (aW (v.calls.map (bc (aQ v))))) V2 ar3 hnl h31 (by omega) (fun c hc=>hus _ (hur _ (Wn _ (VP.2 ⟨c,hc,rfl⟩)))) _ fun env=>?_
 have k0:∀bx,aV ⟨bx,ar3++cm 2 (bo (v.aK.map (bp (aQ v)))),[]⟩ 4 V0=some (.aa 0 ((aQ v).map fun u=>(dp (aQ v) (bK v.types u)).c)):=fun bx=>by
  have h1:cg 0 ar3 V0 10 ((aQ v).map fun u=>(dp (aQ v) (bK v.types u)).c):=hV0.move fun i hi=>by
   have:=uq (i:=i) (n:=(ar++cm 3 (aW (v.calls.map (bc (aQ v))))).length) (a:=ar3) (b:=ar++cm 3 (aW (v.calls.map (bc (aQ v))))) (by rw[ht,VW]) (by rw[VE]; omega)
   rw[this,VC hi]
  exact(h1.push _).bO bx []
 have k1:∀bx,aV ⟨bx,ar3++cm 2 (bo (v.aK.map (bp (aQ v)))),[]⟩ 4 (cY ar.length (aW (v.calls.map (bc (aQ v)))))=some (.aa 0 (aW (v.calls.map (bc (aQ v))))):=fun bx=>by
  have h1:ar3=(ar++cm 3 (aW (v.calls.map (bc (aQ v)))))++ar3.drop (ar++cm 3 (aW (v.calls.map (bc (aQ v))))).length:=by
   have:=Wo (ar++cm 3 (aW (v.calls.map (bc (aQ v))))).length ar3
   rw[ht]at this
   exact this.symm
  rw[h1,VO,VO]
  exact lg bx [] ar _ 3 3 _
 have k2:∀bx,aV ⟨bx,ar3++cm 2 (bo (v.aK.map (bp (aQ v)))),[]⟩ 4 V2=some (.aa 0 ((v.ax.map (bG (aQ v))).map dx.c)):=fun bx=>(hV2.push _).bO bx []
 have k3:∀bx,aV ⟨bx,ar3++cm 2 (bo (v.aK.map (bp (aQ v)))),[]⟩ 4 (cY ar3.length (bo (v.aK.map (bp (aQ v)))))=some (.aa 0 (bo (v.aK.map (bp (aQ v))))):=fun bx=>l9 bx [] ar3 2 3 _
 simp(disch:=omega)only[go_sem,hq0.1,hq0.2,hq2.1,hq2.2,k0,k1,k2,k3]
 rw[hsv]
 dsimp only
 unfold ax
 rw[W6 (l:=aQ v)]
 rfl
set_option maxHeartbeats 4000000 in
theorem r409 (v:kr) (ht:v.types.length<=2147483648) (ho:∀t∈v.types,t.ok) (hc:v.calls.length<=1000) (hs:v.ax.length<=1000) (hss:∀w∈v.ax,w.msgs.length<=2^63 - 1/\w.auto.aw.length<=2^63 - 1) (hp:v.aK.length<=1000):res A az 409 [.agg (fT 0 0 0 0 v),.agg (fT 0 0 0 0 v)]=some [.bool true]:=by
 have h277:=fun t u=>r277 t u v.types v.types (by omega) (by omega) ho ho
 rw[eW]at h277
 refine ai a409 rfl rfl ?_
 simp only[F409,Kr,fT]
 have bx:∀k:Nat,True:=fun _=>trivial
 simp(disch:=omega)only[go_sem,h277]
 refine W.cD v.calls.length (fun k=>⟨[(2,.ptr 2 0),(3,.ptr 3 0),(5,.pv (.int .i64 k))],⟨[(2,[.pv (.str v.name),.pv (.aa 0 (v.types.map aC.c)),.pv (.aa 0 (aW v.calls)),.pv (.aa 0 (ax v.ax)),.pv (.aa 0 (bo v.aK))]),(3,[.pv (.str v.name),.pv (.aa 0 (v.types.map aC.c)),.pv (.aa 0 (aW v.calls)),.pv (.aa 0 (ax v.ax)),.pv (.aa 0 (bo v.aK))])],[],[]⟩⟩) (fun _=>True) rfl trivial fun k hk _=>?_
 simp(disch:=omega)only[go_sem]
 refine Br.aD (fun c=>?_) (fun c=>?_)
 .obtain⟨x,hx⟩:=get_some (l:=v.calls) (k:=k) (by omega)
  simp(disch:=omega)only[go_sem,hx,Option.map_some,lC.c,decide_true,Bool.and_true]
  exact .of (by omega) rfl trivial
 simp(disch:=omega)only[go_sem]
 refine W.cD v.ax.length (fun k=>⟨[(2,.ptr 2 0),(3,.ptr 3 0),(6,.pv (.int .i64 k))],⟨[(2,[.pv (.str v.name),.pv (.aa 0 (v.types.map aC.c)),.pv (.aa 0 (aW v.calls)),.pv (.aa 0 (ax v.ax)),.pv (.aa 0 (bo v.aK))]),(3,[.pv (.str v.name),.pv (.aa 0 (v.types.map aC.c)),.pv (.aa 0 (aW v.calls)),.pv (.aa 0 (ax v.ax)),.pv (.aa 0 (bo v.aK))])],[],[]⟩⟩) (fun _=>True) rfl trivial fun k hk _=>?_
 simp(disch:=omega)only[go_sem]
 refine Br.aD (fun c=>?_) (fun c=>?_)
 .obtain⟨x,hx⟩:=get_some (l:=v.ax) (k:=k) (by omega)
  have h416:=r416 x (hss x (Vz hx)).1 (hss x (Vz hx)).2
  simp only[dx.c]at h416
  simp(disch:=omega)only[go_sem,hx,Option.map_some,dx.c,h416]
  exact .of (by omega) rfl trivial
 simp(disch:=omega)only[go_sem]
 refine W.cD v.aK.length (fun k=>⟨[(2,.ptr 2 0),(3,.ptr 3 0),(7,.pv (.int .i64 k))],⟨[(2,[.pv (.str v.name),.pv (.aa 0 (v.types.map aC.c)),.pv (.aa 0 (aW v.calls)),.pv (.aa 0 (ax v.ax)),.pv (.aa 0 (bo v.aK))]),(3,[.pv (.str v.name),.pv (.aa 0 (v.types.map aC.c)),.pv (.aa 0 (aW v.calls)),.pv (.aa 0 (ax v.ax)),.pv (.aa 0 (bo v.aK))])],[],[]⟩⟩) (fun _=>True) rfl trivial fun k hk _=>?_
 simp(disch:=omega)only[go_sem]
 refine Br.aD (fun c=>?_) (fun c=>?_)
 .obtain⟨x,hx⟩:=get_some (l:=v.aK) (k:=k) (by omega)
  simp(disch:=omega)only[go_sem,hx,Option.map_some,nc.c,decide_true,Bool.and_true]
  exact .of (by omega) rfl trivial
 simp(disch:=omega)only[go_sem]
def rn:kr:=⟨⟨#[]⟩,[],[],[],[]⟩
theorem r454 (t:Nat) (L:List Int) (n:Int) (hn:n∈L) (hl:L.length<=2^63 - 1):res A az 454 [.aa t (ints L),.int .i64 n]=some [.int .i64 (di L n)]:=by
 refine ai a454 rfl rfl ?_
 simp only[F454,KJ]
 simp(disch:=omega)only[go_sem]
 refine W.cD L.length (fun k=>⟨[(0,.pv (.aa t (ints L))),(1,.pv (.int .i64 n)),(5,.pv (.int .i64 k))],⟨[],[],[]⟩⟩) (fun k=>∀(i:Nat) (w:Int),i<k->L[i]?=some w->decide (w=n)=false) rfl (fun i w hi=>absurd hi (by omega)) fun k hk hi=>?_
 simp(disch:=omega)only[go_sem]
 refine Br.aD (fun c1=>?_) (fun c1=>?_)
 .obtain⟨w,hw⟩:=get_some (l:=L) (k:=k) (by omega)
  cases hd:decide (w=n)with
  |true=>
   simp(disch:=omega)only[go_sem,hw,Option.map_some,hd]
   unfold di bd
   rw[GM hw hd hi]
  |false=>
   simp(disch:=omega)only[go_sem,hw,Option.map_some,hd]
   exact .of (by omega) rfl (yL hw hi hd)
 .exfalso
  obtain⟨i,hlt⟩:=VD.1 hn
  have:=hi i n (by have:=(Vy.1 hlt).1; omega) hlt
  simp at this
def KV (V5:V) (K:List Int):Prop:=V5=.pv (.aa 0 (ints K))\/(V5=.tl []/\K=[])
theorem Rm {c:Nat} {K:List Int} (h:c=0->K=[]):KV (tV c K) K:=by
 cases c with
 |zero=>exact .inr ⟨rfl,h rfl⟩
 |succ c=>exact .inl rfl
theorem dc {V5:V} {K:List Int} (h:KV V5 K) (b:List Nat):dO b V5=V5:=by
 rcases h with rfl|⟨rfl,rfl⟩<;>rfl
theorem L9 {V5:V} {K:List Int} (hK:KV V5 K) (h:af):fY h 0 V5=some (K.length,{}):=by
 rcases hK with rfl|⟨rfl,rfl⟩
 .simp[fY,ints]
 .rfl
set_option maxHeartbeats 2000000 in
theorem Vc (t1 t2 t3 t4:Nat) (v:kr) (hv:jw v) (hvv:bW v.types=0) (R:List Int) (hRl:R.length<=1000) (Q:Ex->St->Prop)
  (hQ:∀env V5,KV V5 (R.foldl (fun K r=>eT K (bL v.types r).1) [])->Q (.exit 0) ⟨(1,.ptr 1 0)::(2,.ptr 2 0)::(5,V5)::env,⟨[(1,[.pv (.str v.name),.pv (.aa t1 (v.types.map aC.c)),.pv (.aa t2 (aW v.calls)),.pv (.aa t3 (ax v.ax)),.pv (.aa t4 (bo v.aK))]),(2,[.pv (.str ⟨#[]⟩),.tl [],.tl [],.tl [],.tl []])],[],[]⟩⟩):
  W A az F420.body.two.two.two.two.one.two.aY ⟨[(1,.ptr 1 0),(2,.ptr 2 0),(5,.tl []),(6,.pv (.aa 0 (ints R))),(7,.pv (.int .i64 0))],⟨[(1,[.pv (.str v.name),.pv (.aa t1 (v.types.map aC.c)),.pv (.aa t2 (aW v.calls)),.pv (.aa t3 (ax v.ax)),.pv (.aa t4 (bo v.aK))]),(2,[.pv (.str ⟨#[]⟩),.tl [],.tl [],.tl [],.tl []])],[],[]⟩⟩ Q:=by
 have h32:=(bS hvv).len
 have hf:∀(R:List Int) (s:Nat×List Int),(R.foldl (fun(s:Nat×List Int) r=>(s.1+(bL v.types r).1.length,eT s.2 (bL v.types r).1)) s).2=R.foldl (fun K r=>eT K (bL v.types r).1) s.2:=fun R=>by
  induction R with
  |nil=>intro s; rfl
  |cons r R ih=>intro s; rw[Wy,ih]; rfl
 have hf0:=hf R (0,[])
 dsimp only at hf0
 rw[<- hf0]at hQ
 clear hf hf0
 simp only[F420,rB,AC.one,AC.two,AC.aY]at hQ |-
 refine W.fold R (fun(s:Nat×List Int) r=>(s.1+(bL v.types r).1.length,eT s.2 (bL v.types r).1)) (0,[]) (fun k s=>⟨[(1,.ptr 1 0),(2,.ptr 2 0),(5,tV s.1 s.2),(6,.pv (.aa 0 (ints R))),(7,.pv (.int .i64 k))],⟨[(1,[.pv (.str v.name),.pv (.aa t1 (v.types.map aC.c)),.pv (.aa t2 (aW v.calls)),.pv (.aa t3 (ax v.ax)),.pv (.aa t4 (bo v.aK))]),(2,[.pv (.str ⟨#[]⟩),.tl [],.tl [],.tl [],.tl []])],[],[]⟩⟩) (fun k s=>s.2.length<=s.1/\s.1<=32*k) rfl ⟨VI _,VI _⟩ (fun k r s hr hk _ hu=>?_) (fun s hs hu=>?_)
 .have h274:=fun t=>r274 t v.types r hv.tl hv.to hv.ts
  have hlen:=tC (l:=v.types) (i:=r)
  generalize (bL v.types r).1=L at *
  generalize (bL v.types r).2=e at *
  obtain⟨c,K⟩:=s
  dsimp only at hu
  simp(disch:=omega)only[go_sem]
  refine Br.aD (fun _=>?_) (fun c=>(c (by omega)).elim)
  simp(disch:=omega)only[go_sem,hr,h274]
  refine W.fold L (fun(s:Nat×List Int) x=>(s.1+1,uw x s.2)) (c,K) (fun j s=>⟨[(1,.ptr 1 0),(2,.ptr 2 0),(5,tV s.1 s.2),(6,.pv (.aa 0 (ints R))),(7,.pv (.int .i64 k)),(8,.pv (.aa 0 (ints L))),(10,.pv (.int .i64 j))],⟨[(1,[.pv (.str v.name),.pv (.aa t1 (v.types.map aC.c)),.pv (.aa t2 (aW v.calls)),.pv (.aa t3 (ax v.ax)),.pv (.aa t4 (bo v.aK))]),(2,[.pv (.str ⟨#[]⟩),.tl [],.tl [],.tl [],.tl []])],[],[]⟩⟩) (fun j s=>s.2.length<=s.1/\s.1=c+j) rfl ⟨hu.1,rfl⟩ (fun j x s hx hj _ hw=>?_) (fun s hs hw=>?_)
  .obtain⟨d,M⟩:=s
   dsimp only at hw
   have hle:=fun h=>rY h d M (fun h=>VJ (by omega))
   have q1:=r452 M x (by omega)
   have hpl:=rU x M
   simp(disch:=omega)only[go_sem]
   refine Br.aD (fun c=>?_) (fun c=>(c (by omega)).elim)
   simp(disch:=omega)only[go_sem,hx,hle,q1]
   exact cI.of rfl ⟨by dsimp only; omega,by dsimp only; omega⟩
  .have h2:∀(L:List Int) (s:Nat×List Int),L.foldl (fun(s:Nat×List Int) x=>(s.1+1,uw x s.2)) s=(s.1+L.length,eT s.2 L):=fun L=>by
    induction L with
    |nil=>intro s; rfl
    |cons x L ih=>intro s; rw[List.foldl_cons,ih]; simp only[List.length_cons,eT,List.foldl_cons,Prod.mk.injEq,and_true]; omega
   rw[h2]at hs
   subst hs
   simp(disch:=omega)only[go_sem]
   exact cI.of rfl ⟨hw.1,by dsimp only; omega⟩
 .obtain⟨c,K⟩:=s
  dsimp only at hu
  rw[<- hs]at hQ
  simp(disch:=omega)only[go_sem]
  exact hQ _ _ (Rm fun h=>VJ (by omega))
set_option maxHeartbeats 4000000 in
theorem Vd (a1 a2:V) (a4 a5:V) (c2:List V) (nm:ByteArray) (t2:Nat) (C:List lC) (L:List Int) (V0 V5:V) (pre:List aL) (hV:KV V5 L) (hL:L.length<=100) (hC:C.length<=8)
  (hat:∀c∈C,c.nH∈L/\c.rep∈L) (Q:Ex->St->Prop)
  (hQ:∀env,Q (.exit 8) ⟨(1,.ptr 1 0)::(2,.ptr 2 0)::(5,V5)::(11,.ptr 11 0)::env,⟨[(1,[a1,a2,.pv (.aa t2 (aW C)),a4,a5]),(2,c2),(11,[.pv (.str nm),V0,cY pre.length (aW (C.map (bc L))),.tl [],.tl []])],pre++cm 3 (aW (C.map (bc L))),[]⟩⟩):
  W A az F420.body.two.two.two.two.two.two.two.one.two.aY ⟨[(1,.ptr 1 0),(2,.ptr 2 0),(5,V5),(11,.ptr 11 0),(15,.pv (.int .i64 0))],⟨[(1,[a1,a2,.pv (.aa t2 (aW C)),a4,a5]),(2,c2),(11,[.pv (.str nm),V0,.tl [],.tl [],.tl []])],pre,[]⟩⟩ Q:=by
 simp only[F420,rB,AC.one,AC.two,AC.aY]
 refine W.cD C.length (fun k=>⟨[(1,.ptr 1 0),(2,.ptr 2 0),(5,V5),(11,.ptr 11 0),(15,.pv (.int .i64 k))],⟨[(1,[a1,a2,.pv (.aa t2 (aW C)),a4,a5]),(2,c2),(11,[.pv (.str nm),V0,cY pre.length (aW ((C.map (bc L)).take k)),.tl [],.tl []])],pre++cm 3 (aW ((C.map (bc L)).take k)),[]⟩⟩) (fun _=>True) (by show _=(⟨_,⟨_,pre++[],[]⟩⟩:St); rw[Wj]; rfl) trivial fun k hk _=>?_
 simp(disch:=omega)only[go_sem]
 refine Br.aD (fun c=>?_) (fun c=>?_)
 .obtain⟨x,hx⟩:=get_some (l:=C) (k:=k) (by omega)
  obtain⟨q1,q2⟩:=hat x (Vz hx)
  rcases hV with rfl|⟨rfl,rfl⟩
  rotate_left
  .cases q1
  have e1:=fun t=>r454 t L x.nH q1 (by omega)
  have e2:=fun t=>r454 t L x.rep q2 (by omega)
  have hnx:aW ((C.map (bc L)).take (k+1))=aW ((C.map (bc L)).take k)++[[.str x.name,.int .i64 (di L x.nH),.int .i64 (di L x.rep)]]:=by
   rw[VT,VF,hx]
   simp[aW,bc,lC.c]
  have hql:(aW ((C.map (bc L)).take k)).length<=8:=by rw[pe,VH,VB]; omega
  have hg:=fun bx mp=>grow bx mp pre 3 (aW ((C.map (bc L)).take k)) (bc L x).c rfl (by omega)
  have hgt:=fun bx mp=>ek bx mp pre 3 (aW ((C.map (bc L)).take k)) (bc L x).c
  generalize aW ((C.map (bc L)).take k)=rows at *
  unfold bc lC.c at hg hgt
  dsimp only at hg hgt
  simp(disch:=omega)only[go_sem,hx,Option.map_some,lC.c,e1,e2,hg,hgt]
  refine .of (by omega) ?_ trivial
  rw[hnx]
  rfl
 .obtain rfl:k=C.length:=by omega
  have e:(C.map (bc L)).take C.length=C.map (bc L):=List.take_of_length_le (by simp)
  rw[e]
  simp(disch:=omega)only[go_sem,dc hV]
  exact hQ _
set_option maxHeartbeats 4000000 in
theorem Ve (a1 a2 a3 a4:V) (c2:List V) (nm:ByteArray) (t4:Nat) (C:List nc) (L:List Int) (V0 V1 V2 V5:V) (pre:List aL) (hV:KV V5 L) (hL:L.length<=100) (hC:C.length<=8)
  (hat:∀c∈C,c.ty∈L) (Q:Ex->St->Prop)
  (hQ:∀env,Q (.exit 14) ⟨(1,.ptr 1 0)::(2,.ptr 2 0)::(5,V5)::(11,.ptr 11 0)::env,⟨[(1,[a1,a2,a3,a4,.pv (.aa t4 (bo C))]),(2,c2),(11,[.pv (.str nm),V0,V1,V2,cY pre.length (bo (C.map (bp L)))])],pre++cm 2 (bo (C.map (bp L))),[]⟩⟩):
  W A az F420.body.two.two.two.two.two.two.two.two.two.one.two.aY ⟨[(1,.ptr 1 0),(2,.ptr 2 0),(5,V5),(11,.ptr 11 0),(20,.pv (.int .i64 0))],⟨[(1,[a1,a2,a3,a4,.pv (.aa t4 (bo C))]),(2,c2),(11,[.pv (.str nm),V0,V1,V2,.tl []])],pre,[]⟩⟩ Q:=by
 simp only[F420,rB,AC.one,AC.two,AC.aY]
 refine W.cD C.length (fun k=>⟨[(1,.ptr 1 0),(2,.ptr 2 0),(5,V5),(11,.ptr 11 0),(20,.pv (.int .i64 k))],⟨[(1,[a1,a2,a3,a4,.pv (.aa t4 (bo C))]),(2,c2),(11,[.pv (.str nm),V0,V1,V2,cY pre.length (bo ((C.map (bp L)).take k))])],pre++cm 2 (bo ((C.map (bp L)).take k)),[]⟩⟩) (fun _=>True) (by show _=(⟨_,⟨_,pre++[],[]⟩⟩:St); rw[Wj]; rfl) trivial fun k hk _=>?_
 simp(disch:=omega)only[go_sem]
 refine Br.aD (fun c=>?_) (fun c=>?_)
 .obtain⟨x,hx⟩:=get_some (l:=C) (k:=k) (by omega)
  have q1:=hat x (Vz hx)
  rcases hV with rfl|⟨rfl,rfl⟩
  rotate_left
  .cases q1
  have e1:=fun t=>r454 t L x.ty q1 (by omega)
  have hnx:bo ((C.map (bp L)).take (k+1))=bo ((C.map (bp L)).take k)++[[.str x.name,.int .i64 (di L x.ty)]]:=by
   rw[VT,VF,hx]
   simp[bo,bp,nc.c]
  have hql:(bo ((C.map (bp L)).take k)).length<=8:=by rw[tc,VH,VB]; omega
  have hg:=fun bx mp=>grow bx mp pre 2 (bo ((C.map (bp L)).take k)) (bp L x).c rfl (by omega)
  have hgt:=fun bx mp=>ek bx mp pre 2 (bo ((C.map (bp L)).take k)) (bp L x).c
  generalize bo ((C.map (bp L)).take k)=rows at *
  unfold bp nc.c at hg hgt
  dsimp only at hg hgt
  simp(disch:=omega)only[go_sem,hx,Option.map_some,nc.c,e1,hg,hgt]
  refine .of (by omega) ?_ trivial
  rw[hnx]
  rfl
 .obtain rfl:k=C.length:=by omega
  have e:(C.map (bp L)).take C.length=C.map (bp L):=List.take_of_length_le (by simp)
  rw[e]
  simp(disch:=omega)only[go_sem,dc hV]
  exact hQ _
theorem cT.cell {ar:List aL} {b k o:Nat} {v:V} {rows:List (List PV)} (h:cT ar b k v rows) (ho:o<b\/ar.length<=o):fu ar o v (.aa 0 rows):=by
 rcases h with⟨rfl,rfl⟩|⟨m,rfl,h1,_,h2⟩
 .exact .inr ⟨k,[],rfl,.inr (.inr rfl)⟩
 .have:=(Vy.1 h2).1
  exact .inr ⟨k,rows,rfl,.inr (.inl ⟨m,0,rfl,by omega,h2⟩)⟩
theorem cT.push {ar:List aL} {b k:Nat} {v:V} {rows:List (List PV)} (h:cT ar b k v rows) (x:List aL):cT (ar++x) b k v rows:=by
 rcases h with h|⟨m,h1,h2,h3,h4⟩
 .exact .inl h
 .exact .inr ⟨m,h1,h2,h3,by rw[VC (Vy.1 h4).1]; exact h4⟩
theorem cT.len {ar:List aL} {b k:Nat} {v:V} {rows:List (List PV)} (h:cT ar b k v rows) (g:af):fY g 0 v=some (rows.length,{}):=by
 rcases h with⟨rfl,rfl⟩|⟨m,rfl,_⟩<;>rfl
theorem zH (ar:List aL) (k:Nat) (rows:List (List PV)) (hf:∀r∈rows,r.length=k) (hm:rows.length<=2147483648):
  ∃mv T X,(∀bx,aJ ⟨bx,ar,[]⟩ k (.tl []) (.pv (.aa 0 rows))=some (mv,T))/\(∀bx,T.apply ⟨bx,ar,[]⟩=⟨bx,ar++X,[]⟩)/\cT (ar++X) ar.length k mv rows:=by
 have hfit:aP k (.inl rows)=true:=by simpa [aP]using hf
 by_cases h0:rows=[]
 .subst h0
  refine⟨.tl [],{},[],fun bx=>?_,fun bx=>by simp[Tn.apply],.inl ⟨rfl,rfl⟩⟩
  simp[aJ,bg,aP,aB]
 .have h1:¬rows.length=0:=fun e=>h0 (VJ e)
  refine⟨.own ar.length 0 0 rows.length,{ push:=[⟨0,k,.inl rows⟩],base:=ar.length },[⟨0,k,.inl rows⟩],fun bx=>?_,fun bx=>by simp[Tn.apply],.inr ⟨ar.length,rfl,Nat.le_refl _,h0,by simp⟩⟩
  unfold aJ
  rw[Ha]
  dsimp only
  rw[if_pos hfit]
  simp only[aB,aR,List.nil_append,List.length_nil,Nat.zero_add]
  rw[if_neg h1,if_pos ⟨hm,by rfl⟩]
set_option maxHeartbeats 4000000 in
theorem Ua (c1 c2 c11:List V) (k:Nat) (L:List Int) (V5:V) (hV:KV V5 L) (hL:L.length<=100) (x:dx) (hx1:x.msgs.length<=16) (ar:List aL) (mv:V) (b:Nat) (hmv:cT ar b 3 mv (msgs x.msgs))
  (hat:∀q∈x.msgs,q.ty∈L) (Q:Ex->St->Prop)
  (hQ:∀env ar2,(∀i,i<b->ar2[i]?=ar[i]?)->ar.length<=ar2.length->cT ar2 b 3 mv (msgs (x.msgs.map (gy L)))->Q (.exit 12) ⟨(1,.ptr 1 0)::(2,.ptr 2 0)::(5,V5)::(11,.ptr 11 0)::(17,.pv (.int .i64 k))::(18,.ptr 18 0)::env,⟨[(1,c1),(2,c2),(11,c11),(18,[.pv (.str x.name),mv,.pv (.int .i64 x.auto.ay),.pv (.int .i64 x.auto.start),.pv (.aa 0 (x.auto.aw.map Edge.c))])],ar2,[]⟩⟩):
  W A az F420.body.two.two.two.two.two.two.two.two.one.two.aY.aY.aY.two.one.aY.two.two.one.two.aY ⟨[(1,.ptr 1 0),(2,.ptr 2 0),(5,V5),(11,.ptr 11 0),(17,.pv (.int .i64 k)),(18,.ptr 18 0),(19,.pv (.int .i64 0))],⟨[(1,c1),(2,c2),(11,c11),(18,[.pv (.str x.name),mv,.pv (.int .i64 x.auto.ay),.pv (.int .i64 x.auto.start),.pv (.aa 0 (x.auto.aw.map Edge.c))])],ar,[]⟩⟩ Q:=by
 simp only[F420,rB,AC.one,AC.two,AC.aY]
 rcases hmv with⟨rfl,hm0⟩|⟨mi,rfl,hmi,hm0,hma⟩
 .have hm0:=W2.1 hm0
  rw[hm0]at hQ
  refine W.cD 0 (fun j=>⟨[(1,.ptr 1 0),(2,.ptr 2 0),(5,V5),(11,.ptr 11 0),(17,.pv (.int .i64 k)),(18,.ptr 18 0),(19,.pv (.int .i64 j))],⟨[(1,c1),(2,c2),(11,c11),(18,[.pv (.str x.name),.tl [],.pv (.int .i64 x.auto.ay),.pv (.int .i64 x.auto.start),.pv (.aa 0 (x.auto.aw.map Edge.c))])],ar,[]⟩⟩) (fun _=>True) rfl trivial fun j hj _=>?_
  simp(disch:=omega)only[go_sem]
  refine Br.aD (fun c=>?_) (fun c=>?_)
  .simp at c
   omega
  simp(disch:=omega)only[go_sem,dc hV]
  exact hQ _ ar (fun _ _=>rfl) (VI _) (.inl ⟨rfl,rfl⟩)
 .have hml2:(msgs x.msgs).length=x.msgs.length:=eV _
  have hmil:=(Vy.1 hma).1
  have gM:∀a,(ar.set mi a)[mi]?=some a:=fun a=>VY hmil
  rw[hml2]at hQ |-
  refine W.cD x.msgs.length (fun j=>⟨[(1,.ptr 1 0),(2,.ptr 2 0),(5,V5),(11,.ptr 11 0),(17,.pv (.int .i64 k)),(18,.ptr 18 0),(19,.pv (.int .i64 j))],⟨[(1,c1),(2,c2),(11,c11),(18,[.pv (.str x.name),.own mi 0 0 x.msgs.length,.pv (.int .i64 x.auto.ay),.pv (.int .i64 x.auto.start),.pv (.aa 0 (x.auto.aw.map Edge.c))])],ar.set mi ⟨0,3,.inl (msgs (nk (gy L) x.msgs j))⟩,[]⟩⟩) (fun _=>True) ?_ trivial fun j hj _=>?_
  .rw[we,km hma]
   rfl
  have hmj:=uk (gy L) x.msgs j
  simp(disch:=omega)only[go_sem]
  refine Br.aD (fun c=>?_) (fun c=>?_)
  .obtain⟨q,hq⟩:=get_some (l:=x.msgs) (k:=j) (by omega)
   have q1:=hat q (Vz hq)
   rcases hV with rfl|⟨rfl,rfl⟩
   rotate_left
   .cases q1
   have e1:=fun t=>r454 t L q.ty q1 (by omega)
   have hmg:=um (f:=gy L) hq
   have hst:=fun id=>uo (L:=L) hq id
   simp(disch:=omega)only[go_sem,gM,hmg,Option.map_some,eD.c,e1,hst,List.set_set]
   exact .of (by omega) rfl trivial
  .obtain rfl:j=x.msgs.length:=by omega
   rw[zG]
   simp(disch:=omega)only[go_sem,dc hV]
   refine hQ _ _ (fun i hi=>by rw[List.getElem?_set_ne (by omega)]) (by rw[List.length_set]; exact Nat.le_refl _) (.inr ⟨mi,by simp[msgs],hmi,by simpa [msgs]using hm0,gM _⟩)
theorem He {w:dx} {ar:List aL} {o b:Nat} {mv:V} (ho:o<b\/ar.length<=o) (hm:cT ar b 3 mv (msgs w.msgs)):dE ar o [.pv (.str w.name),mv,.pv (.int .i64 w.auto.ay),.pv (.int .i64 w.auto.start),.pv (.aa 0 (w.auto.aw.map Edge.c))] w.c:=by
 unfold dx.c
 exact .pure rfl rfl (.cons (hm.cell ho) (.pure rfl rfl (.pure rfl rfl (.pure rfl rfl (.nil _ _)))))
set_option maxHeartbeats 8000000 in
theorem Vf (a1 a2 a3 a5:V) (c2:List V) (nm:ByteArray) (t3:Nat) (C:List dx) (L:List Int) (V0 V1 V5:V) (pre:List aL) (hV:KV V5 L) (hL:L.length<=100) (hC:C.length<=8) (hsm:∀w∈C,w.msgs.length<=16/\w.auto.aw.length<=2000000000)
  (hat:∀w∈C,∀q∈w.msgs,q.ty∈L) (Q:Ex->St->Prop)
  (hQ:∀env ar V2,ar.take pre.length=pre->cg pre.length ar V2 5 ((C.map (bG L)).map dx.c)->Q (.exit 10) ⟨(1,.ptr 1 0)::(2,.ptr 2 0)::(5,V5)::(11,.ptr 11 0)::env,⟨[(1,[a1,a2,a3,.pv (.aa t3 (ax C)),a5]),(2,c2),(11,[.pv (.str nm),V0,V1,V2,.tl []])],ar,[]⟩⟩):
  W A az F420.body.two.two.two.two.two.two.two.two.one.two.aY ⟨[(1,.ptr 1 0),(2,.ptr 2 0),(5,V5),(11,.ptr 11 0),(17,.pv (.int .i64 0))],⟨[(1,[a1,a2,a3,.pv (.aa t3 (ax C)),a5]),(2,c2),(11,[.pv (.str nm),V0,V1,.tl [],.tl []])],pre,[]⟩⟩ Q:=by
 have s4b:=Ua [a1,a2,a3,.pv (.aa t3 (ax C)),a5] c2
 rw[show F420.body.two.two.two.two.two.two.two.two.one.two.aY=AC.loop (.mask [1,2,5,11,17] [1,2,11] (.seq F420.body.two.two.two.two.two.two.two.two.one.two.aY.aY.aY.one (.seq (.block 11 (.seq F420.body.two.two.two.two.two.two.two.two.one.two.aY.aY.aY.two.one.aY.one (.seq F420.body.two.two.two.two.two.two.two.two.one.two.aY.aY.aY.two.one.aY.two.one (.seq (.seq F420.body.two.two.two.two.two.two.two.two.one.two.aY.aY.aY.two.one.aY.two.two.one.one (.block 12 F420.body.two.two.two.two.two.two.two.two.one.two.aY.aY.aY.two.one.aY.two.two.one.two.aY)) F420.body.two.two.two.two.two.two.two.two.one.two.aY.aY.aY.two.one.aY.two.two.two)))) F420.body.two.two.two.two.two.two.two.two.one.two.aY.aY.aY.two.two))) from rfl]
 generalize F420.body.two.two.two.two.two.two.two.two.one.two.aY.aY.aY.two.one.aY.two.two.one.two.aY=E at s4b |-
 simp only[F420,rB,AC.one,AC.two,AC.aY]
 refine W.loop (α:=Nat×List aL×V) (fun x=>⟨[(1,.ptr 1 0),(2,.ptr 2 0),(5,V5),(11,.ptr 11 0),(17,.pv (.int .i64 x.1))],⟨[(1,[a1,a2,a3,.pv (.aa t3 (ax C)),a5]),(2,c2),(11,[.pv (.str nm),V0,V1,x.2.2,.tl []])],x.2.1,[]⟩⟩) (fun x=>x.1<=C.length/\x.2.1.take pre.length=pre/\pre.length<=x.2.1.length/\cg pre.length x.2.1 x.2.2 5 (((C.map (bG L)).take x.1).map dx.c)) (fun x=>C.length - x.1) (0,pre,.tl []) rfl ⟨V4 _,VW,VI _,.inl ⟨rfl,rfl⟩⟩ fun x hx=>?_
 obtain⟨k,ar,V2⟩:=x
 obtain⟨hk,hpre,hpl,hlist⟩:=hx
 dsimp only at hk hpre hpl hlist
 simp(disch:=omega)only[go_sem]
 refine Br.aD (fun c=>?_) (fun c=>?_)
 rotate_left
 .obtain rfl:k=C.length:=by omega
  have e:(C.map (bG L)).take C.length=C.map (bG L):=List.take_of_length_le (by simp)
  rw[e]at hlist
  simp(disch:=omega)only[go_sem,dc hV]
  exact hQ _ ar V2 hpre hlist
 obtain⟨x,hx⟩:=get_some (l:=C) (k:=k) (by omega)
 have hxm:=Vz hx
 obtain⟨hm16,hel⟩:=hsm x hxm
 have hax:=hat x hxm
 have hml:(msgs x.msgs).length=x.msgs.length:=eV _
 have hnx:((C.map (bG L)).take (k+1)).map dx.c=((C.map (bG L)).take k).map dx.c++[(bG L x).c]:=by
  rw[VT,VF,hx]
  simp
 have hcl:(((C.map (bG L)).take k).map dx.c).length<=8:=by rw[VB,VH,VB]; omega
 obtain⟨mv,T0,X,happ0,hT0,hmv⟩:=zH ar 3 (msgs x.msgs) (fun r hr=>by obtain⟨q,_,rfl⟩:=VP.1 hr; rfl) (by omega)
 have hmf:=hmv.flat
 have hlen:=hmv.len
 simp(disch:=omega)only[go_sem,hx,Option.map_some,dx.c,dc hV,show (x.msgs.map eD.c)=msgs x.msgs from rfl,happ0,hT0,hmf.1,hmf.2.2]
 refine s4b [.pv (.str nm),V0,V1,V2,.tl []] k L V5 hV hL x hm16 (ar++X) mv ar.length hmv hax _ fun env ar2 g1 g2 hmv2=>?_
 have hl2:cg pre.length ar2 V2 5 (((C.map (bG L)).take k).map dx.c):=hlist.move fun i hi=>by rw[g1 i hi,VC hi]
 have hpre2:ar2.take pre.length=pre:=by
  rw[<- hpre]
  rw[VH,Xe hpl]
  exact rk fun i hi=>by rw[g1 i (by omega),VC (by omega)]
 have hAl:(ar2.take ar.length).length=ar.length:=by rw[VH]; have:=g2; rw[VE]at this; omega
 have hA:cg pre.length (ar2.take ar.length) V2 5 (((C.map (bG L)).take k).map dx.c):=hlist.move fun i hi=>by rw[VN,if_pos hi,g1 i hi,VC hi]
 have hsplit:ar2.take ar.length++ar2.drop ar.length=ar2:=Wo _ _
 have fin:∀ar' V3,ar'.take pre.length=(ar2.take ar.length).take pre.length->pre.length<=ar'.length->cg pre.length ar' V3 5 (((C.map (bG L)).take k).map dx.c++[(bG L x).c])->((k+1,ar',V3):Nat×List aL×V).1<=C.length/\ar'.take pre.length=pre/\pre.length<=ar'.length/\cg pre.length ar' V3 5 (((C.map (bG L)).take (k+1)).map dx.c):=fun ar' V3 q1 q2 q3=>by
  refine⟨by dsimp only; omega,?_,q2,by rw[hnx]; exact q3⟩
  rw[q1,List.take_take,Xe hpl,hpre2]
 obtain⟨V3,T,ar',happ,hT,hc1,hc2,q1,q2,q3⟩:=xm (X0:=ar2.drop ar.length) (row:=[.pv (.str x.name),mv,.pv (.int .i64 x.auto.ay),.pv (.int .i64 x.auto.start),.pv (.aa 0 (x.auto.aw.map Edge.c))]) (n:=ar2.length) (cs:=(bG L x).c) hA (by omega) (by omega) rfl (by rw[hsplit]) fun o ho=>by
  rw[hsplit]
  exact He (w:=bG L x) (ar:=ar2++[⟨0,5,.inr [_]⟩]) (o:=o) (b:=ar.length) (mv:=mv) (by rw[VE,WV]; omega) (hmv2.push _)
 rw[hsplit]at happ hT
 rcases hmv2 with⟨rfl,hm0⟩|⟨mi,rfl,w1,w2,w3⟩
 .simp(disch:=omega)only[go_sem,happ,hT,hc1,hc2,dc hV]
  exact⟨(k+1,ar',V3),fin ar' V3 q1 q2 q3,by dsimp only; omega,rfl⟩
 .simp only[eV,List.length_map]at happ hT
  simp(disch:=omega)only[go_sem,happ,hT,hc1,hc2,dc hV]
  exact⟨(k+1,ar',V3),fin ar' V3 q1 q2 q3,by dsimp only; omega,rfl⟩
end Go.Pv
