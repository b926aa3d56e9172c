/-
 What the functions of the law give.
-/
import Derived.Test.YtpchfogcccagjaaGreatC6
set_option linter.unusedSimpArgs false
set_option linter.unusedVariables false
open List renaming getElem?_eq_some_iff → Pg, mem_of_getElem? → Ph, getElem?_append_left → Pl, length_map → Pm, getElem?_map → Pn, length_append → Pp, getD_eq_getElem?_getD → Pq, length_take → Pt, getElem?_take → Pw, getElem?_append_right → PA, mem_map → PB, getElem?_set_ne → PD, take_add_one → PF, append_assoc → PG, getElem?_set_self → PJ, getElem?_drop → PM, mem_append_left → PR, take_length → PU, ext_getElem? → PW, mem_append_right → P5, append_nil → P7, take_append_drop → Qj, map_eq_nil_iff → QL
open Nat renaming le_refl → Pu, zero_le → Qn, add_zero → QH
open Option renaming map_eq_some_iff → PQ
namespace Go.Pv
@[go_sem] theorem cw404 (vs:List V) (h:af) (K:V→Tn→Prop):CW A az 404 vs h K=CN A az false 404 vs h K:=cd vs h K
end Go.Pv
namespace Go.Pv
def iR (ar:List aK) (b k:Nat) (v:V) (rows:List (List PV)):Prop:=(v=.pv (.ae 0 [])∧rows=[])∨∃m,v=.own m 0 0 rows.length∧b≤m∧rows≠[]∧ar[m]?=some ⟨0,k,.inl rows⟩
set_option maxHeartbeats 4000000 in
theorem N4 (c1 c2 c13:List V) (n t3 m k:Nat) (S:List (List PV)) (x:dE) (hx1:x.msgs.length≤2147483648) (hx2:x.auto.aA.length≤2147483648) (ar:List aK) (Q:Ex→St→Prop)
  (hQ:∀env X mv ev,iR (ar++X) ar.length 3 mv (msgs x.msgs)→iR (ar++X) ar.length 4 ev (x.auto.aA.map Edge.c)→Q .normal ⟨(1,.ptr 1 0)::(2,.ptr 2 0)::(12,.own 1 0 0 n)::(13,.ptr 13 0)::(22,.ptr 22 0)::(224,.pv (.ae t3 S))::(225,.pv (.int .i64 m))::(226,.pv (.int .i64 k))::env,⟨[(1,c1),(2,c2),(13,c13),(22,[.pv (.str x.name),mv,.pv (.int .i64 x.auto.aw),.pv (.int .i64 x.auto.start),ev])],ar++X,[]⟩⟩):
  W A az F408.body.two.two.two.two.two.two.two.two.two.one.two.ca.ca.ca.two.two.one.ca.two.one ⟨[(1,.ptr 1 0),(2,.ptr 2 0),(12,.own 1 0 0 n),(13,.ptr 13 0),(22,.ptr 22 0),(224,.pv (.ae t3 S)),(225,.pv (.int .i64 m)),(226,.pv (.int .i64 k))],⟨[(1,c1),(2,c2),(13,c13),(22,x.c.map .pv)],ar,[]⟩⟩ Q:=by
 simp only[F408,AC.one,AC.two,AC.ca]
 try delta sS tT zZ nN gG bB pZ
 have h445:=r445 x hx1 hx2
 unfold GU at h445
 have hml:(msgs x.msgs).length=x.msgs.length:=iz _
 unfold dE.c at h445 ⊢
 by_cases em:msgs x.msgs=[]<;>by_cases ee:x.auto.aA.map Edge.c=[]
 ·rw[if_pos em,if_pos ee]at h445
  simp(disch:=omega)only[go_sem,List.map_cons,List.map_nil,h445]
  have:=hQ [] [] (.pv (.ae 0 [])) (.pv (.ae 0 [])) (.inl ⟨rfl,em⟩) (.inl ⟨rfl,ee⟩)
  rw[P7]at this
  exact this
 ·rw[if_pos em,if_neg ee]at h445
  simp(disch:=omega)only[go_sem,List.map_cons,List.map_nil,h445]
  exact hQ [] _ _ _ (.inl ⟨rfl,em⟩) (.inr ⟨ar.length,by simp,Nat.le_refl _,ee,by simp⟩)
 ·rw[if_neg em,if_pos ee]at h445
  simp(disch:=omega)only[go_sem,List.map_cons,List.map_nil,h445]
  exact hQ [] _ _ _ (.inr ⟨ar.length,by rw[hml],Nat.le_refl _,em,by simp⟩) (.inl ⟨rfl,ee⟩)
 ·rw[if_neg em,if_neg ee]at h445
  simp(disch:=omega)only[go_sem,List.map_cons,List.map_nil,h445]
  exact hQ [] _ _ _ (.inr ⟨ar.length,by rw[hml],Nat.le_refl _,em,by simp⟩) (.inr ⟨ar.length+1,by simp,by omega,ee,by simp⟩)
def mD {α:Type} (f:α→α) (l:List α) (j:Nat):List α:=(l.take j).map f++l.drop j
theorem Bb {α:Type} (f:α→α) (l:List α):mD f l 0=l:=by simp[mD]
theorem Da {α:Type} (f:α→α) (l:List α):mD f l l.length=l.map f:=by simp[mD]
theorem w8 {α:Type} (f:α→α) (l:List α) (j:Nat):(mD f l j).length=l.length:=by
 simp only[mD,List.length_append,List.length_map,List.length_take,List.length_drop]
 omega
theorem w9 {α:Type} {f:α→α} {l:List α} {j:Nat} {m:α} (h:l[j]?=some m):(mD f l j)[j]?=some m:=by
 have hj:=(Pg.1 h).1
 have hl:((l.take j).map f).length=j:=by simp; omega
 unfold mD
 rw[PA (by omega),hl,Nat.sub_self,PM,QH]
 exact h
theorem Db {α:Type} {f:α→α} {l:List α} {j:Nat} {m:α} (h:l[j]?=some m):(mD f l j).set j (f m)=mD f l (j+1):=by
 have hj:=(Pg.1 h).1
 have hl:((l.take j).map f).length=j:=by simp; omega
 unfold mD
 rw[List.set_append_right _ _ (by omega),hl,Nat.sub_self,wT h,List.set_cons_zero,PF,h]
 simp
theorem yJ {L:List Int} {l:List et} {j:Nat} {m:et} (h:l[j]?=some m) (id:Nat):dq id j 2 [.pv (.int .i64 (dI L m.ty))] ⟨0,3,.inl (msgs (mD (j7 L) l j))⟩=some { ar:=some (id,⟨0,3,.inl (msgs (mD (j7 L) l (j+1)))⟩) }:=by
 have hj:=(Pg.1 h).1
 rw[gK (l:=[.int .i64 (dI L m.ty)]) (by rw[iz,w8]; exact hj) rfl (by simp) rfl,← Db h]
 unfold uk msgs
 have hd:((mD (j7 L) l j).map et.c).getD j []=m.c:=by rw[Pq,Pn,w9 h]; rfl
 rw[hd,List.map_set]
 rfl
set_option maxHeartbeats 4000000 in
theorem N5 (c1 c2 c13:List V) (n t3 m k:Nat) (S:List (List PV)) (L at':List Int) (x:dE) (hx1:x.msgs.length≤16) (ar:List aK) (mv ev:V) (b:Nat) (hb:1<b) (hmv:iR ar b 3 mv (msgs x.msgs)) (h1:ar[1]?=some ⟨0,1,.inl (ints at')⟩) (hn:at'.length=n)
  (hat:∀q∈x.msgs,0≤q.ty∧q.ty<n∧at'[q.ty.toNat]?=some (dI L q.ty)) (env0:List (Nat×V)) (Q:Ex→St→Prop)
  (hQ:∀env ar2,(∀i,i<b→ar2[i]?=ar[i]?)→ar.length≤ar2.length→(∀i,(V.own i 0 0 x.msgs.length≠mv→ar2[i]?=ar[i]?))→iR ar2 b 3 mv (msgs (x.msgs.map (j7 L)))→Q (.exit 14) ⟨(1,.ptr 1 0)::(2,.ptr 2 0)::(12,.own 1 0 0 n)::(13,.ptr 13 0)::(22,.ptr 22 0)::(224,.pv (.ae t3 S))::(225,.pv (.int .i64 m))::(226,.pv (.int .i64 k))::env,⟨[(1,c1),(2,c2),(13,c13),(22,[.pv (.str x.name),mv,.pv (.int .i64 x.auto.aw),.pv (.int .i64 x.auto.start),ev])],ar2,[]⟩⟩):
  W A az F408.body.two.two.two.two.two.two.two.two.two.one.two.ca.ca.ca.two.two.one.ca.two.two.one.two.ca ⟨[(1,.ptr 1 0),(2,.ptr 2 0),(12,.own 1 0 0 n),(13,.ptr 13 0),(22,.ptr 22 0),(224,.pv (.ae t3 S)),(225,.pv (.int .i64 m)),(226,.pv (.int .i64 k)),(234,.pv (.int .i64 x.msgs.length)),(235,.pv (.int .i64 0))],⟨[(1,c1),(2,c2),(13,c13),(22,[.pv (.str x.name),mv,.pv (.int .i64 x.auto.aw),.pv (.int .i64 x.auto.start),ev])],ar,[]⟩⟩ Q:=by
 simp only[F408,AC.one,AC.two,AC.ca]
 try delta sS tT zZ nN gG bB pZ
 rcases hmv with⟨rfl,hm0⟩|⟨mi,rfl,hmi,hm0,hma⟩
 ·have hm0:=QL.1 hm0
  rw[hm0]at hQ ⊢
  refine W.dD 0 (fun j=>⟨[(1,.ptr 1 0),(2,.ptr 2 0),(12,.own 1 0 0 n),(13,.ptr 13 0),(22,.ptr 22 0),(224,.pv (.ae t3 S)),(225,.pv (.int .i64 m)),(226,.pv (.int .i64 k)),(234,.pv (.int .i64 (([]:List et).length:Nat))),(235,.pv (.int .i64 j))],⟨[(1,c1),(2,c2),(13,c13),(22,[.pv (.str x.name),.pv (.ae 0 []),.pv (.int .i64 x.auto.aw),.pv (.int .i64 x.auto.start),ev])],ar,[]⟩⟩) (fun _=>True) rfl trivial fun j hj _=>?_
  simp(disch:=omega)only[go_sem]
  refine Br.aG (fun c=>?_) (fun c=>?_)
  ·simp at c
   omega
  simp(disch:=omega)only[go_sem]
  exact hQ _ ar (fun _ _=>rfl) (Pu _) (fun _ _=>rfl) (.inl ⟨rfl,rfl⟩)
 ·have hml2:(msgs x.msgs).length=x.msgs.length:=iz _
  rw[hml2]at hQ
  have hmil:=(Pg.1 hma).1
  have gM:∀a,(ar.set mi a)[mi]?=some a:=fun a=>PJ hmil
  have g1:∀a,(ar.set mi a)[1]?=some ⟨0,1,.inl (ints at')⟩:=fun a=>by rw[PD (by omega)]; exact h1
  rw[hml2]
  refine W.dD x.msgs.length (fun j=>⟨[(1,.ptr 1 0),(2,.ptr 2 0),(12,.own 1 0 0 n),(13,.ptr 13 0),(22,.ptr 22 0),(224,.pv (.ae t3 S)),(225,.pv (.int .i64 m)),(226,.pv (.int .i64 k)),(234,.pv (.int .i64 x.msgs.length)),(235,.pv (.int .i64 j))],⟨[(1,c1),(2,c2),(13,c13),(22,[.pv (.str x.name),.own mi 0 0 x.msgs.length,.pv (.int .i64 x.auto.aw),.pv (.int .i64 x.auto.start),ev])],ar.set mi ⟨0,3,.inl (msgs (mD (j7 L) x.msgs j))⟩,[]⟩⟩) (fun _=>True) ?_ trivial fun j hj _=>?_
  ·rw[Bb,oZ hma]
   rfl
  have hmj:=w8 (j7 L) x.msgs j
  simp(disch:=omega)only[go_sem]
  refine Br.aG (fun c=>?_) (fun c=>?_)
  ·obtain⟨q,hq⟩:=get_some (l:=x.msgs) (k:=j) (by omega)
   obtain⟨q0,q1,q2⟩:=hat q (Ph hq)
   have hmg:=w9 (f:=j7 L) hq
   have hst:=fun id=>yJ (L:=L) hq id
   simp(disch:=omega)only[go_sem,g1,gM,hmg,Option.map_some,et.c,q2,hst,List.set_set]
   exact .of (by omega) rfl trivial
  ·obtain rfl:j=x.msgs.length:=by omega
   rw[Da]
   simp(disch:=omega)only[go_sem]
   refine hQ _ _ (fun i hi=>by rw[List.getElem?_set_ne (by omega)]) (by rw[List.length_set]; exact Nat.le_refl _) (fun i hi=>?_) (.inr ⟨mi,by simp[msgs],hmi,by simpa [msgs]using hm0,gM _⟩)
   rw[PD]
   rintro rfl
   exact hi rfl
end Go.Pv
namespace Go.Pv
theorem iR.cell {ar:List aK} {b k o:Nat} {v:V} {rows:List (List PV)} (h:iR ar b k v rows) (ho:o<b):fD ar o v (.ae 0 rows):=by
 rcases h with⟨rfl,rfl⟩|⟨m,rfl,h1,_,h2⟩
 ·exact .inl ⟨rfl,rfl⟩
 ·exact .inr ⟨k,rows,rfl,.inr (.inl ⟨m,0,rfl,by omega,h2⟩)⟩
theorem iR.Fs {ar:List aK} {b k o:Nat} {v:V} {rows:List (List PV)} (h:iR ar b k v rows) (ho:ar.length≤o):fD ar o v (.ae 0 rows):=by
 rcases h with⟨rfl,rfl⟩|⟨m,rfl,h1,_,h2⟩
 ·exact .inl ⟨rfl,rfl⟩
 ·have:=(Pg.1 h2).1
  exact .inr ⟨k,rows,rfl,.inr (.inl ⟨m,0,rfl,by omega,h2⟩)⟩
theorem zG {w:dE} {ar:List aK} {o b:Nat} {mv ev:V} (ho:o<b∨ar.length≤o) (hm:iR ar b 3 mv (msgs w.msgs)) (he:iR ar b 4 ev (w.auto.aA.map Edge.c)):dy ar o [.pv (.str w.name),mv,.pv (.int .i64 w.auto.aw),.pv (.int .i64 w.auto.start),ev] w.c:=by
 unfold dE.c
 have h1:fD ar o mv (.ae 0 (w.msgs.map et.c)):=by
  rcases ho with h|h
  ·exact hm.cell h
  ·exact hm.Fs h
 have h2:fD ar o ev (.ae 0 (w.auto.aA.map Edge.c)):=by
  rcases ho with h|h
  ·exact he.cell h
  ·exact he.Fs h
 exact .pure rfl rfl (.cons h1 (.pure rfl rfl (.pure rfl rfl (.cons h2 (.nil _ _)))))
theorem iR.push {ar:List aK} {b k:Nat} {v:V} {rows:List (List PV)} (h:iR ar b k v rows) (x:List aK):iR (ar++x) b k v rows:=by
 rcases h with h|⟨m,h1,h2,h3,h4⟩
 ·exact .inl h
 ·exact .inr ⟨m,h1,h2,h3,by rw[Pl (Pg.1 h4).1]; exact h4⟩
theorem xa {α:Type} {a b:List α} {n i:Nat} (h:a.take n=b.take n) (hi:i<n):a[i]?=b[i]?:=by
 have:=congrArg (fun l=>l[i]?) h
 simpa [List.getElem?_take,hi]using this
theorem xb {α:Type} {a b:List α} {n:Nat} (h:∀i,i<n→a[i]?=b[i]?):a.take n=b.take n:=by
 apply PW
 intro i
 rw[Pw,Pw]
 split
 ·exact h i (by assumption)
 ·rfl
theorem df.move {b:Nat} {ar ar':List aK} {V0:V} {k:Nat} {css:List (List PV)} (h:df b ar V0 k css) (hl:∀i,i<ar.length→ar'[i]?=ar[i]?):df b ar' V0 k css:=by
 rcases h with h|⟨o,aj,h1,h2,body,h3,h4⟩
 ·exact .inl h
 ·have ho:=(Pg.1 h3).1
  refine .inr ⟨o,aj,h1,h2,body,by rw[hl o ho]; exact h3,h4.len,fun i row cs g1 g2=>?_⟩
  obtain⟨r1,r2⟩:=h4.row i row cs g1 g2
  refine⟨r1,fun j v c j1 j2=>?_⟩
  rcases r2 j v c j1 j2 with h|⟨kk,rows,e,h|⟨id,vv,e1,e2,e3⟩|h⟩
  ·exact .inl h
  ·exact .inr ⟨kk,rows,e,.inl h⟩
  ·exact .inr ⟨kk,rows,e,.inr (.inl ⟨id,vv,e1,e2,by rw[hl id (Pg.1 e3).1]; exact e3⟩)⟩
  ·exact .inr ⟨kk,rows,e,.inr (.inr h)⟩
set_option maxHeartbeats 8000000 in
theorem OX (c1 c2:List V) (nm:ByteArray) (n t3:Nat) (C:List dE) (L at':List Int) (V0 V1:V) (pre:List aK) (hn:at'.length=n) (h1:pre[1]?=some ⟨0,1,.inl (ints at')⟩) (hC:C.length≤8) (hsm:∀w∈C,w.msgs.length≤16∧w.auto.aA.length≤2000000000)
  (hat:∀w∈C,∀q∈w.msgs,0≤q.ty∧q.ty<n∧at'[q.ty.toNat]?=some (dI L q.ty)) (Q:Ex→St→Prop)
  (hQ:∀env ar V2,ar.take pre.length=pre→df pre.length ar V2 5 ((C.map (c9 L)).map dE.c)→Q (.exit 12) ⟨(1,.ptr 1 0)::(2,.ptr 2 0)::(12,.own 1 0 0 n)::(13,.ptr 13 0)::env,⟨[(1,c1),(2,c2),(13,[.pv (.str nm),V0,V1,V2,.tl []])],ar,[]⟩⟩):
  W A az F408.body.two.two.two.two.two.two.two.two.two.one.two.ca ⟨[(1,.ptr 1 0),(2,.ptr 2 0),(12,.own 1 0 0 n),(13,.ptr 13 0),(224,.pv (.ae t3 (aE C))),(225,.pv (.int .i64 C.length)),(226,.pv (.int .i64 0))],⟨[(1,c1),(2,c2),(13,[.pv (.str nm),V0,V1,.tl [],.tl []])],pre,[]⟩⟩ Q:=by
 have s9a:=N4 c1 c2
 have s9b:=N5 c1 c2
 have hp1:=(Pg.1 h1).1
 rw[show F408.body.two.two.two.two.two.two.two.two.two.one.two.ca=AC.loop (.mask [1,2,12,13,224,225,226] [1,2,13] (.seq F408.body.two.two.two.two.two.two.two.two.two.one.two.ca.ca.ca.one (.seq F408.body.two.two.two.two.two.two.two.two.two.one.two.ca.ca.ca.two.one (.seq (.block 13 (.seq F408.body.two.two.two.two.two.two.two.two.two.one.two.ca.ca.ca.two.two.one.ca.one (.seq F408.body.two.two.two.two.two.two.two.two.two.one.two.ca.ca.ca.two.two.one.ca.two.one (.seq (.seq F408.body.two.two.two.two.two.two.two.two.two.one.two.ca.ca.ca.two.two.one.ca.two.two.one.one (.block 14 F408.body.two.two.two.two.two.two.two.two.two.one.two.ca.ca.ca.two.two.one.ca.two.two.one.two.ca)) F408.body.two.two.two.two.two.two.two.two.two.one.two.ca.ca.ca.two.two.one.ca.two.two.two)))) F408.body.two.two.two.two.two.two.two.two.two.one.two.ca.ca.ca.two.two.two)))) from rfl]
 generalize F408.body.two.two.two.two.two.two.two.two.two.one.two.ca.ca.ca.two.two.one.ca.two.one=D at s9a ⊢
 generalize F408.body.two.two.two.two.two.two.two.two.two.one.two.ca.ca.ca.two.two.one.ca.two.two.one.two.ca=E at s9b ⊢
 simp only[F408,AC.one,AC.two,AC.ca]
 try delta sS tT zZ nN gG bB pZ
 refine W.loop (α:=Nat×List aK×V) (fun x=>⟨[(1,.ptr 1 0),(2,.ptr 2 0),(12,.own 1 0 0 n),(13,.ptr 13 0),(224,.pv (.ae t3 (aE C))),(225,.pv (.int .i64 C.length)),(226,.pv (.int .i64 x.1))],⟨[(1,c1),(2,c2),(13,[.pv (.str nm),V0,V1,x.2.2,.tl []])],x.2.1,[]⟩⟩) (fun x=>x.1≤C.length∧x.2.1.take pre.length=pre∧pre.length≤x.2.1.length∧df pre.length x.2.1 x.2.2 5 (((C.map (c9 L)).take x.1).map dE.c)) (fun x=>C.length - x.1) (0,pre,.tl []) rfl ⟨Qn _,PU,Pu _,.inl ⟨rfl,rfl⟩⟩ fun x hx=>?_
 obtain⟨k,ar,V2⟩:=x
 obtain⟨hk,hpre,hpl,hlist⟩:=hx
 dsimp only at hk hpre hpl hlist
 simp(disch:=omega)only[go_sem]
 refine Br.aG (fun c=>?_) (fun c=>?_)
 rotate_left
 ·obtain rfl:k=C.length:=by omega
  have e:(C.map (c9 L)).take C.length=C.map (c9 L):=List.take_of_length_le (by simp)
  rw[e]at hlist
  simp(disch:=omega)only[go_sem]
  exact hQ _ ar V2 hpre hlist
 obtain⟨x,hx⟩:=get_some (l:=C) (k:=k) (by omega)
 have hxm:=Ph hx
 obtain⟨hm16,hel⟩:=hsm x hxm
 have hax:=hat x hxm
 have har1:ar[1]?=some ⟨0,1,.inl (ints at')⟩:=by
  have:ar[1]?=pre[1]?:=by rw[← hpre,Pw,if_pos hp1]
  rw[this,h1]
 have har1l:=(Pg.1 har1).1
 have hnx:((C.map (c9 L)).take (k+1)).map dE.c=((C.map (c9 L)).take k).map dE.c++[(c9 L x).c]:=by
  rw[PF,Pn,hx]
  simp
 have hcl:(((C.map (c9 L)).take k).map dE.c).length≤8:=by rw[Pm,Pt,Pm]; omega
 simp(disch:=omega)only[go_sem,hx,Option.map_some,dE.c]
 refine s9a [.pv (.str nm),V0,V1,V2,.tl []] n t3 C.length k (aE C) x (by omega) (by omega) ar _ fun env X mv ev hmv hev=>?_
 have hX1:(ar++X)[1]?=some ⟨0,1,.inl (ints at')⟩:=by rw[Pl har1l]; exact har1
 have hlen:gu ⟨[(1,c1),(2,c2),(13,[.pv (.str nm),V0,V1,V2,.tl []]),(22,[.pv (.str x.name),mv,.pv (.int .i64 x.auto.aw),.pv (.int .i64 x.auto.start),ev])],ar++X,[]⟩ 0 mv=some (x.msgs.length,{}):=by
  rcases hmv with⟨rfl,h⟩|⟨mi,rfl,_⟩
  ·rw[QL.1 h]
   rfl
  ·rw[iz]
   rfl
 simp(disch:=omega)only[go_sem,hlen]
 refine s9b [.pv (.str nm),V0,V1,V2,.tl []] n t3 C.length k (aE C) L at' x hm16 (ar++X) mv ev ar.length (by omega) hmv hX1 hn hax [] _ fun env ar2 g1 g2 g3 hmv2=>?_
 have hev2:iR ar2 ar.length 4 ev (x.auto.aA.map Edge.c):=by
  rcases hev with h|⟨mi,rfl,q1,q2,q3⟩
  ·exact .inl h
  ·refine .inr ⟨mi,rfl,q1,q2,?_⟩
   by_cases e:V.own mi 0 0 x.msgs.length=mv
   ·rcases hmv with⟨rfl,_⟩|⟨mj,rfl,_,_,q4⟩
    ·cases e
    ·injection e with e1
     subst e1
     rw[q3]at q4
     cases q4
   ·rw[g3 mi e]
    exact q3
 have hl2:df pre.length ar2 V2 5 (((C.map (c9 L)).take k).map dE.c):=hlist.move fun i hi=>by rw[g1 i hi,Pl hi]
 have hpre2:ar2.take pre.length=pre:=by
  rw[← hpre]
  rw[Pt,Nat.min_eq_left hpl]
  exact xb fun i hi=>by rw[g1 i (by omega),Pl (by omega)]
 have hAl:(ar2.take ar.length).length=ar.length:=by rw[Pt]; have:=g2; rw[Pp]at this; omega
 have hA:df pre.length (ar2.take ar.length) V2 5 (((C.map (c9 L)).take k).map dE.c):=hlist.move fun i hi=>by rw[Pw,if_pos hi,g1 i hi,Pl hi]
 have hsplit:ar2.take ar.length++ar2.drop ar.length=ar2:=Qj _ _
 have hmsgs:(c9 L x).msgs=x.msgs.map (j7 L):=rfl
 have fin:∀ar' V3,ar'.take pre.length=(ar2.take ar.length).take pre.length→pre.length≤ar'.length→df pre.length ar' V3 5 (((C.map (c9 L)).take k).map dE.c++[(c9 L x).c])→((k+1,ar',V3):Nat×List aK×V).1≤C.length∧ar'.take pre.length=pre∧pre.length≤ar'.length∧df pre.length ar' V3 5 (((C.map (c9 L)).take (k+1)).map dE.c):=fun ar' V3 q1 q2 q3=>by
  refine⟨by dsimp only; omega,?_,q2,by rw[hnx]; exact q3⟩
  rw[q1,List.take_take,Nat.min_eq_left hpl,hpre2]
 have lit:∀row,row=[.pv (.str x.name),mv,.pv (.int .i64 x.auto.aw),.pv (.int .i64 x.auto.start),ev]→∃V3 T ar',(∀bx,aU ⟨bx,ar2++[⟨0,5,.inr [row]⟩],[]⟩ 5 V2 (.own ar2.length 0 0 1)=some (V3,T))∧(∀bx,T.apply ⟨bx,ar2++[⟨0,5,.inr [row]⟩],[]⟩=⟨bx,ar',[]⟩)∧V3.cells=[V3]∧V3.calm=true∧ar'.take pre.length=(ar2.take ar.length).take pre.length∧pre.length≤ar'.length∧df pre.length ar' V3 5 (((C.map (c9 L)).take k).map dE.c++[(c9 L x).c]):=fun row hrow=>by
  have:=Ez (X0:=ar2.drop ar.length) (row:=row) (n:=ar2.length) (cs:=(c9 L x).c) hA (by omega) (by omega) rfl (by rw[hsplit]) fun o ho=>?_
  ·rw[hsplit]at this
   exact this
  ·rw[hsplit,hrow]
   have:=zG (w:=c9 L x) (ar:=ar2++[⟨0,5,.inr [row]⟩]) (o:=o) (b:=ar.length) (mv:=mv) (ev:=ev) (by rw[Pp,List.length_singleton]; omega) (hmv2.push _) (hev2.push _)
   rw[hrow]at this
   exact this
 rcases hmv2 with⟨rfl,hm0⟩|⟨mi,rfl,w1,w2,w3⟩<;>rcases hev2 with⟨rfl,he0⟩|⟨ei,rfl,z1,z2,z3⟩
 ·obtain⟨V3,T,ar',happ,hT,hc1,hc2,q1,q2,q3⟩:∃V3 T ar',(∀bx,aU ⟨bx,ar2,[]⟩ 5 V2 (.tl [[.str x.name,.ae 0 [],.int .i64 x.auto.aw,.int .i64 x.auto.start,.ae 0 []]])=some (V3,T))∧(∀bx,T.apply ⟨bx,ar2,[]⟩=⟨bx,ar',[]⟩)∧V3.cells=[V3]∧V3.calm=true∧ar'.take pre.length=(ar2.take ar.length).take pre.length∧pre.length≤ar'.length∧df pre.length ar' V3 5 (((C.map (c9 L)).take k).map dE.c++[(c9 L x).c]):=by
   have:=LI (X:=ar2.drop ar.length) (y:=.tl [[.str x.name,.ae 0 [],.int .i64 x.auto.aw,.int .i64 x.auto.start,.ae 0 []]]) (new:=.inl [[.str x.name,.ae 0 [],.int .i64 x.auto.aw,.int .i64 x.auto.start,.ae 0 []]]) (rd:=none) (row:=[.pv (.str x.name),.pv (.ae 0 []),.pv (.int .i64 x.auto.aw),.pv (.int .i64 x.auto.start),.pv (.ae 0 [])]) (cs:=(c9 L x).c) hA (by omega) (by omega) rfl (fun bx=>rfl) rfl (fun o h=>by cases h) fun o ho=>?_
   ·rw[hsplit]at this
    exact this
   ·rw[hsplit]at ho ⊢
    exact zG (w:=c9 L x) (b:=ar.length) (by omega) (.inl ⟨rfl,hm0⟩) (.inl ⟨rfl,he0⟩)
  simp(disch:=omega)only[go_sem,happ,hT,hc1,hc2]
  exact⟨(k+1,ar',V3),fin ar' V3 q1 q2 q3,by dsimp only; omega,rfl⟩
 ·simp only[iz,List.length_map]at lit
  obtain⟨V3,T,ar',happ,hT,hc1,hc2,q1,q2,q3⟩:=lit _ rfl
  simp(disch:=omega)only[go_sem,happ,hT,hc1,hc2]
  exact⟨(k+1,ar',V3),fin ar' V3 q1 q2 q3,by dsimp only; omega,rfl⟩
 ·simp only[iz,List.length_map]at lit
  obtain⟨V3,T,ar',happ,hT,hc1,hc2,q1,q2,q3⟩:=lit _ rfl
  simp(disch:=omega)only[go_sem,happ,hT,hc1,hc2]
  exact⟨(k+1,ar',V3),fin ar' V3 q1 q2 q3,by dsimp only; omega,rfl⟩
 ·simp only[iz,List.length_map]at lit
  obtain⟨V3,T,ar',happ,hT,hc1,hc2,q1,q2,q3⟩:=lit _ rfl
  simp(disch:=omega)only[go_sem,happ,hT,hc1,hc2]
  exact⟨(k+1,ar',V3),fin ar' V3 q1 q2 q3,by dsimp only; omega,rfl⟩
end Go.Pv
namespace Go.Pv
set_option maxHeartbeats 2000000 in
theorem N6 (c1 c2:List V) (nm:ByteArray) (n:Nat) (T:List aF) (L at':List Int) (ua:aK) (rows:List (List PV)) (hr:rows=L.map fun u=>(cW T u).c) (hts:∀t∈T,t.short) (hn:at'.length=n) (hT:∀u∈L,0≤u∧u<T.length∧1≤(cW T u).kind∧(cW T u).kind≤9) (hL:L.length≤100)
  (hat:∀u∈L,∀w∈bV (cW T u),0≤w∧w<n∧at'[w.toNat]?=some (dI L w)) (Q:Ex→St→Prop)
  (hQ:∀env ar V0,ar[1]?=some ⟨0,1,.inl (ints at')⟩→df 0 ar V0 10 (L.map fun u=>(jd L (cW T u)).c)→Q (.exit 6) ⟨(1,.ptr 1 0)::(2,.ptr 2 0)::(12,.own 1 0 0 n)::(13,.ptr 13 0)::env,⟨[(1,c1),(2,c2),(13,[.pv (.str nm),V0,.tl [],.tl [],.tl []])],ar,[]⟩⟩):
  W A az F408.body.two.two.two.two.two.two.two.one.two.ca ⟨[(1,.ptr 1 0),(2,.ptr 2 0),(12,.own 1 0 0 n),(13,.ptr 13 0),(100,.pv (.int .i64 rows.length)),(101,.pv (.int .i64 0))],⟨[(1,c1),(2,c2),(13,[.pv (.str nm),eu 2 rows,.tl [],.tl [],.tl []])],ua::⟨0,1,.inl (ints at')⟩::dY 10 rows,[]⟩⟩ Q:=by
 have hrl:rows.length=L.length:=by rw[hr,Pm]
 cases hLc:L with
 |nil=>
  subst hLc
  have hr0:rows=[]:=by rw[hr]; rfl
  rw[hr0]
  simp only[F408,AC.one,AC.two,AC.ca]
  try delta sS tT zZ nN gG bB pZ
  refine W.dD 0 (fun k=>⟨[(1,.ptr 1 0),(2,.ptr 2 0),(12,.own 1 0 0 n),(13,.ptr 13 0),(100,.pv (.int .i64 (([]:List (List PV)).length:Nat))),(101,.pv (.int .i64 k))],⟨[(1,c1),(2,c2),(13,[.pv (.str nm),.tl [],.tl [],.tl [],.tl []])],[ua,⟨0,1,.inl (ints at')⟩],[]⟩⟩) (fun _=>True) rfl trivial fun k hk _=>?_
  simp(disch:=omega)only[go_sem]
  refine Br.aG (fun c=>?_) (fun c=>?_)
  ·simp at c
   omega
  simp(disch:=omega)only[go_sem]
  exact hQ _ _ (.tl []) rfl (.inl ⟨rfl,rfl⟩)
 |cons u0 L0=>
  have hv:L.length=L0.length+1:=by rw[hLc]; rfl
  rw[nB (n:=L0.length) (by rw[hrl,hv]),jW (n:=L0.length) (by rw[hrl,hv]),hrl]
  have:=OV c1 c2 nm n T L at' [ua,⟨0,1,.inl (ints at')⟩,⟨L0.length,10,.inl rows⟩] hts hn hT hL hat L0.length hv ⟨Nat.zero_le _,rfl,.inl rows,rfl,by simp[bw,hrl],fun i row u h=>absurd h (Nat.not_lt_zero _),fun i _=>by simp[bw,hr,List.getElem?_map,Function.comp_def]⟩ Q fun env ar h=>hQ env ar (.own 2 L0.length 0 L.length) h.Pc ?_
  ·rw[← hv]
   exact this
  ·obtain⟨_,_,body,h2,hbl,hd,_⟩:=h
   refine .inr ⟨2,L0.length,by rw[Pm],Qn _,body,h2,by rw[hbl,Pm],fun i row cs g1 g2=>?_⟩
   rw[Pn]at g2
   obtain⟨u,hu,rfl⟩:=PQ.1 g2
   exact hd i row u (Pg.1 hu).1 g1 hu
theorem jw.roots {v:je} (h:jw v):(fg v).length≤1000:=by
 obtain⟨h1,h2,h3⟩:=h.Bq
 have:=ED fun w hw=>show w.msgs.length≤20 by have:=(h.uU w hw).Bq; omega
 have h7:=oY v.calls
 have h8:(rV v.aN).length=v.aN.length:=Pm _
 rw[fg,Pp,Pp]
 omega
theorem yK (bx:List (Nat×List V)) (mp:List (List (PV×PV))) (pre post:List aK) (k d:Nat) (rows:List (List PV)):aX ⟨bx,pre++(dY k rows++post),mp⟩ (d+1) (eu pre.length rows)=some (.ae 0 rows):=by
 cases rows with
 |nil=>rfl
 |cons x q=>
  have:=yd bx mp pre post k x q
  simp[eu,hD,this,ej,aI]
theorem r408 (t1 t2 t3 t4:Nat) (v:je) (hv:kZ v):res A az 408 [.agg (gN t1 t2 t3 t4 v)]=some (if uS v=0 then [.agg (gN 0 0 0 0 (uW v)),.int .i64 0] else [.agg [.str ⟨#[]⟩,.ae 0 [],.ae 0 [],.ae 0 [],.ae 0 []],.int .i64 (uS v)]):=by
 have h407:=r407 t1 t2 t3 t4 v hv
 refine aq a408 rfl rfl ?_
 simp only[F408,gN]at h407 ⊢
 try delta sS tT zZ nN gG bB pZ at h407 ⊢
 simp(disch:=omega)only[go_sem,h407]
 refine Br.aG (fun c=>?_) (fun c=>?_)
 rotate_left
 ·rw[if_neg c]
  simp(disch:=omega)only[go_sem]
 rw[if_pos c]
 have hG:=AS c
 have h8:=hG.Bq
 have hvv:=hG.valid
 have h32:=(bU hvv).len
 have hroot:=hG.root
 have hrl:(fg v).length≤1000:=hG.roots
 have h417:=r417 t1 t2 t3 t4 v (by omega) (by omega) (by omega) (by omega) (fun w hw=>(hv.ss w hw).2.1)
 simp only[gN]at h417
 simp(disch:=omega)only[go_sem,h417]
 refine OT t1 t2 t3 t4 v hv hvv _ (fun r hr=>hroot r (tG.1 hr)) (by have:=Ax (fg v); omega) _ fun env=>?_
 simp(disch:=omega)only[go_sem]
 refine OU t1 t2 t3 t4 v h32 _ (tU _ _) _ fun env=>?_
 simp(disch:=omega)only[go_sem]
 have hUl:=A3 v
 have hUd:pL v.types (tF (fg v))=kg v:=rfl
 have hKd:jy (kg v) v.types.length=bO v:=rfl
 rw[hUd]
 have hkr:jz v.types (kg v) v.types.length=(bO v).map fun u=>(cW v.types u).c:=by
  unfold jz bO jy
  rw[List.map_map]
  rfl
 have hnl:=wZ (kg v) v.types.length v.types.length
 have hus:∀u,Used v u→0≤u∧u<v.types.length∧(lJ (kg v) v.types.length v.types.length)[u.toNat]?=some (dI (bO v) u):=fun u h=>⟨h.1,h.2.1,C6 h.1 h.2.1 h.2.2⟩
 have hur:=A4 hvv hroot
 have hsane:=bU hvv
 have hkd:∀u:Int,0≤u→u<v.types.length→1≤(cW v.types u).kind∧(cW v.types u).kind≤9:=fun u h0 h1=>(rA hv.to hvv).2.2 _ (Ph (ju h0 h1))
 have hLl:(bO v).length≤100:=by
  unfold bO jy
  rw[Pm]
  have:=tX (kg v) v.types.length
  omega
 have hsv:uW v=⟨v.name,(bO v).map fun u=>jd (bO v) (cW v.types u),v.calls.map (cj (bO v)),v.aE.map (c9 (bO v)),v.aN.map (dh (bO v))⟩:=rfl
 generalize lJ (kg v) v.types.length v.types.length=at' at *
 refine N6 _ _ v.name v.types.length v.types (bO v) at' _ _ hkr hv.ts hnl (fun u hu=>?_) hLl (fun u hu w hw=>hus w (A5 (tY.1 hu) hw)) _ fun env ar V0 ha1 hV0=>?_
 ·obtain⟨g0,g1,_⟩:=tY.1 hu
  exact⟨g0,g1,hkd u g0 g1⟩
 have hq0:=hV0.quiet
 simp(disch:=omega)only[go_sem,hq0.1,hq0.2]
 refine OW _ _ _ _ _ v.name v.types.length t2 v.calls (bO v) at' V0 ar hnl ha1 (by omega) (fun c hc=>?_) _ fun env=>?_
 ·have h1:c.qj∈fg v:=List.mem_append_left _ (List.mem_append_left _ (List.mem_flatMap.2 ⟨c,hc,by simp⟩))
  have h2:c.rep∈fg v:=List.mem_append_left _ (List.mem_append_left _ (List.mem_flatMap.2 ⟨c,hc,by simp⟩))
  exact⟨hus _ (hur _ h1),hus _ (hur _ h2)⟩
 simp(disch:=omega)only[go_sem,hq0.1,hq0.2]
 have har1l:=(Pg.1 ha1).1
 have hp1:(ar++dY 3 (bQ (v.calls.map (cj (bO v)))))[1]?=some ⟨0,1,.inl (ints at')⟩:=by rw[Pl har1l]; exact ha1
 refine OX _ _ v.name v.types.length t3 v.aE (bO v) at' V0 (eu ar.length (bQ (v.calls.map (cj (bO v))))) (ar++dY 3 (bQ (v.calls.map (cj (bO v))))) hnl hp1 (by omega) (fun w hw=>⟨(hG.uU w hw).Bq,(hv.ss w hw).2.2.2⟩) (fun w hw q hq=>?_) _ fun env ar3 V2 ht hV2=>?_
 ·have h1:q.ty∈fg v:=PR _ (P5 _ (List.mem_flatMap.2 ⟨w,hw,PB.2 ⟨q,hq,rfl⟩⟩))
  exact hus _ (hur _ h1)
 have hq2:=hV2.quiet
 have h31:ar3[1]?=some ⟨0,1,.inl (ints at')⟩:=by
  have:=xa (i:=1) (n:=(ar++dY 3 (bQ (v.calls.map (cj (bO v))))).length) (a:=ar3) (b:=ar++dY 3 (bQ (v.calls.map (cj (bO v))))) (by rw[ht,PU]) (by rw[Pp]; omega)
  rw[this,hp1]
 simp(disch:=omega)only[go_sem,hq0.1,hq0.2,hq2.1,hq2.2]
 refine N3 _ v.name v.types.length t4 v.aN (bO v) at' V0 (eu ar.length (bQ (v.calls.map (cj (bO v))))) V2 ar3 hnl h31 (by omega) (fun c hc=>hus _ (hur _ (P5 _ (PB.2 ⟨c,hc,rfl⟩)))) _ fun env=>?_
 have k0:∀bx,aX ⟨bx,ar3++dY 2 (ct (v.aN.map (dh (bO v)))),[]⟩ 4 V0=some (.ae 0 ((bO v).map fun u=>(jd (bO v) (cW v.types u)).c)):=fun bx=>by
  have h1:df 0 ar3 V0 10 ((bO v).map fun u=>(jd (bO v) (cW v.types u)).c):=hV0.move fun i hi=>by
   have:=xa (i:=i) (n:=(ar++dY 3 (bQ (v.calls.map (cj (bO v))))).length) (a:=ar3) (b:=ar++dY 3 (bQ (v.calls.map (cj (bO v))))) (by rw[ht,PU]) (by rw[Pp]; omega)
   rw[this,Pl hi]
  exact(h1.push _).bW bx []
 have k1:∀bx,aX ⟨bx,ar3++dY 2 (ct (v.aN.map (dh (bO v)))),[]⟩ 4 (eu ar.length (bQ (v.calls.map (cj (bO v)))))=some (.ae 0 (bQ (v.calls.map (cj (bO v))))):=fun bx=>by
  have h1:ar3=(ar++dY 3 (bQ (v.calls.map (cj (bO v)))))++ar3.drop (ar++dY 3 (bQ (v.calls.map (cj (bO v))))).length:=by
   have:=Qj (ar++dY 3 (bQ (v.calls.map (cj (bO v))))).length ar3
   rw[ht]at this
   exact this.symm
  rw[h1,PG,PG]
  exact yK bx [] ar _ 3 3 _
 have k2:∀bx,aX ⟨bx,ar3++dY 2 (ct (v.aN.map (dh (bO v)))),[]⟩ 4 V2=some (.ae 0 ((v.aE.map (c9 (bO v))).map dE.c)):=fun bx=>(hV2.push _).bW bx []
 have k3:∀bx,aX ⟨bx,ar3++dY 2 (ct (v.aN.map (dh (bO v)))),[]⟩ 4 (eu ar3.length (ct (v.aN.map (dh (bO v)))))=some (.ae 0 (ct (v.aN.map (dh (bO v))))):=fun bx=>wm bx [] ar3 2 3 _
 simp(disch:=omega)only[go_sem,hq0.1,hq0.2,hq2.1,hq2.2,k0,k1,k2,k3]
 rw[hsv]
 dsimp only
 unfold aE
 rw[List.map_map (l:=bO v)]
 rfl
end Go.Pv
namespace Go.Pv
set_option maxHeartbeats 4000000 in
theorem r409 (v:je) (ht:v.types.length≤2147483648) (ho:∀t∈v.types,t.ok) (hc:v.calls.length≤1000) (hs:v.aE.length≤1000) (hss:∀w∈v.aE,w.msgs.length≤2^63 - 1∧w.auto.aA.length≤2^63 - 1) (hp:v.aN.length≤1000):res A az 409 [.agg (gN 0 0 0 0 v),.agg (gN 0 0 0 0 v)]=some [.bool true]:=by
 have h277:=fun t u=>r277 t u v.types v.types (by omega) (by omega) ho ho
 rw[eF]at h277
 refine aq a409 rfl rfl ?_
 simp only[F409,gN]
 try delta sS tT zZ nN gG bB pZ
 have bx:∀k:Nat,True:=fun _=>trivial
 simp(disch:=omega)only[go_sem,h277]
 refine W.dD v.calls.length (fun k=>⟨[(2,.ptr 2 0),(3,.ptr 3 0),(5,.pv (.int .i64 k))],⟨[(2,[.pv (.str v.name),.pv (.ae 0 (v.types.map aF.c)),.pv (.ae 0 (bQ v.calls)),.pv (.ae 0 (aE v.aE)),.pv (.ae 0 (ct v.aN))]),(3,[.pv (.str v.name),.pv (.ae 0 (v.types.map aF.c)),.pv (.ae 0 (bQ v.calls)),.pv (.ae 0 (aE v.aE)),.pv (.ae 0 (ct v.aN))])],[],[]⟩⟩) (fun _=>True) rfl trivial fun k hk _=>?_
 simp(disch:=omega)only[go_sem]
 refine Br.aG (fun c=>?_) (fun c=>?_)
 ·obtain⟨x,hx⟩:=get_some (l:=v.calls) (k:=k) (by omega)
  simp(disch:=omega)only[go_sem,hx,Option.map_some,mG.c,decide_true,Bool.and_true]
  exact .of (by omega) rfl trivial
 simp(disch:=omega)only[go_sem]
 refine W.dD v.aE.length (fun k=>⟨[(2,.ptr 2 0),(3,.ptr 3 0),(6,.pv (.int .i64 k))],⟨[(2,[.pv (.str v.name),.pv (.ae 0 (v.types.map aF.c)),.pv (.ae 0 (bQ v.calls)),.pv (.ae 0 (aE v.aE)),.pv (.ae 0 (ct v.aN))]),(3,[.pv (.str v.name),.pv (.ae 0 (v.types.map aF.c)),.pv (.ae 0 (bQ v.calls)),.pv (.ae 0 (aE v.aE)),.pv (.ae 0 (ct v.aN))])],[],[]⟩⟩) (fun _=>True) rfl trivial fun k hk _=>?_
 simp(disch:=omega)only[go_sem]
 refine Br.aG (fun c=>?_) (fun c=>?_)
 ·obtain⟨x,hx⟩:=get_some (l:=v.aE) (k:=k) (by omega)
  have h416:=r416 x (hss x (Ph hx)).1 (hss x (Ph hx)).2
  simp only[dE.c]at h416
  simp(disch:=omega)only[go_sem,hx,Option.map_some,dE.c,h416]
  exact .of (by omega) rfl trivial
 simp(disch:=omega)only[go_sem]
 refine W.dD v.aN.length (fun k=>⟨[(2,.ptr 2 0),(3,.ptr 3 0),(7,.pv (.int .i64 k))],⟨[(2,[.pv (.str v.name),.pv (.ae 0 (v.types.map aF.c)),.pv (.ae 0 (bQ v.calls)),.pv (.ae 0 (aE v.aE)),.pv (.ae 0 (ct v.aN))]),(3,[.pv (.str v.name),.pv (.ae 0 (v.types.map aF.c)),.pv (.ae 0 (bQ v.calls)),.pv (.ae 0 (aE v.aE)),.pv (.ae 0 (ct v.aN))])],[],[]⟩⟩) (fun _=>True) rfl trivial fun k hk _=>?_
 simp(disch:=omega)only[go_sem]
 refine Br.aG (fun c=>?_) (fun c=>?_)
 ·obtain⟨x,hx⟩:=get_some (l:=v.aN) (k:=k) (by omega)
  simp(disch:=omega)only[go_sem,hx,Option.map_some,nA.c,decide_true,Bool.and_true]
  exact .of (by omega) rfl trivial
 simp(disch:=omega)only[go_sem]
def pM:je:=⟨⟨#[]⟩,[],[],[],[]⟩
theorem yL {v:je} (hf:A8 v=true) (hn:bh v.name) (ho:∀t∈v.types,t.ok) (hs:∀t∈v.types,t.short) (htl:v.types.length≤2147483648) (hc:∀c∈v.calls,bh c.name) (hw:∀w∈v.aE,bh w.name∧∀m∈w.msgs,bh m.name) (hp:∀c∈v.aN,bh c.name):kZ v:=by
 obtain⟨f1,f2,f3,f4,f5,f6⟩:=A9 hf
 exact⟨hn,htl,ho,hs,by omega,hc,by omega,fun w h=>⟨(hw w h).1,by have:=f6 w h; omega,(hw w h).2,by have:=f6 w h; omega⟩,by omega,hp⟩
set_option maxRecDepth 20000 in
set_option maxHeartbeats 8000000 in
theorem r396 (r404:res A az 404 []=some [.bool true]) (v:je) (ho:∀t∈v.types,t.ok) (hs:∀t∈v.types,t.short) (htl:v.types.length≤2147483648) (h1:v.aE.length≤2^63 - 1) (hn:bh v.name) (hc:∀c∈v.calls,bh c.name) (hw:∀w∈v.aE,bh w.name∧∀m∈w.msgs,bh m.name) (hp:∀c∈v.aN,bh c.name):res A az 396 [.agg (gN 0 0 0 0 v)]=some [.bool true]:=by
 refine aq a396 rfl rfl ?_
 simp only[F396]; try delta sS tT zZ nN gG bB pZ
 have h405:=r405 0 0 0 0 v ho h1
 cases hf:A8 v with
 |false=>
  rw[hf]at h405
  simp only[gN]at h405 ⊢
  simp(disch:=omega)only[go_sem,r404,h405]
 |true=>
  rw[hf]at h405
  have hv:=yL hf hn ho hs htl hc hw hp
  have h406:=r406 0 0 0 0 v hv
  have h407:=r407 0 0 0 0 v hv
  have h408:=r408 0 0 0 0 v hv
  have h409:=r409 pM (by simp[pM]) (fun t h=>by simp[pM]at h) (by simp[pM]) (by simp[pM]) (fun t h=>by simp[pM]at h) (by simp[pM])
  generalize uW v=sv at *
  generalize uS v=e at *
  simp only[gN,pM,List.map_nil]at *
  have e0:bQ []=[]:=rfl
  have e1:aE []=[]:=rfl
  have e2:ct []=[]:=rfl
  rw[e0,e1,e2]at h409
  by_cases c:e=0
  ·rw[if_pos c]at h408
   subst c
   simp(disch:=omega)only[go_sem,r404,h405,h406,h407,h408]
  ·rw[if_neg c]at h408
   have c1:decide (e=0)=false:=decide_eq_false c
   simp(disch:=omega)only[go_sem,r404,h405,h406,h407,h408,h409,c1]
end Go.Pv
namespace Go.Pv
theorem r404:res A az 404 []=some [.bool true]:=jk.2 ⟨3000,by kernel_rfl⟩
end Go.Pv
namespace Go.Pv
variable {P:Program}
def mG.ok (x:mG):Prop:=bh x.name∧fZ x.qj∧fZ x.rep
def nA.ok (x:nA):Prop:=bh x.name∧fZ x.ty
def et.ok (x:et):Prop:=fZ x.id∧bh x.name∧fZ x.ty
def dE.ok (x:dE):Prop:=bh x.name∧(cu x.msgs∧∀m∈x.msgs,m.ok)∧x.auto.r64
def je.ok (v:je):Prop:=bh v.name∧(cu v.types∧∀t∈v.types,t.ok)∧(cu v.calls∧∀c∈v.calls,c.ok)∧(cu v.aE∧∀w∈v.aE,w.ok)∧cu v.aN∧∀c∈v.aN,c.ok
structure xc (P:Program) (aj sch lc cl ls ss lm mg lp tp au le ed ti tx tb:TypeId):Prop where
 i:P.underlying ti=some (.int .i64)
 b:P.underlying tb=some .bool
 x:P.underlying tx=some .string
 v:∃fs,P.underlying aj=some (.struct fs)∧fs.toList.map (·.type)=[tx,sch,lc,ls,lp]
 lc:P.underlying lc=some (.slice cl)
 c:∃fs,P.underlying cl=some (.struct fs)∧fs.toList.map (·.type)=[tx,ti,ti]
 ls:P.underlying ls=some (.slice ss)
 s:∃fs,P.underlying ss=some (.struct fs)∧fs.toList.map (·.type)=[tx,lm,au]
 lm:P.underlying lm=some (.slice mg)
 m:∃fs,P.underlying mg=some (.struct fs)∧fs.toList.map (·.type)=[ti,tx,ti]
 lp:P.underlying lp=some (.slice tp)
 t:∃fs,P.underlying tp=some (.struct fs)∧fs.toList.map (·.type)=[tx,ti]
 a:∃fs,P.underlying au=some (.struct fs)∧fs.toList.map (·.type)=[ti,ti,le]
 le:P.underlying le=some (.slice ed)
 e:∃fs,P.underlying ed=some (.struct fs)∧fs.toList.map (·.type)=[ti,tb,ti,ti]
section
variable {aj sch lc cl ls ss lm mg lp tp au le ed ti tx tb:TypeId}
theorem Bc (T:xc P aj sch lc cl ls ss lm mg lp tp au le ed ti tx tb) {n:Nat} {cs:List PV} (h:typed P n cl cs):∃x:mG,cs=x.c∧x.ok:=by
 cases n with
 |zero=>exact h.elim
 |succ n=>
  obtain⟨fs,hu,hts⟩:=T.c
  obtain⟨r0,q0,rfl,h0,r1,q1,rfl,h1,r2,q2,rfl,h2,rfl⟩:=bJ hu hts h
  obtain⟨s,rfl,hs⟩:=jc T.x h0
  obtain⟨a,rfl,ha⟩:=dr T.i h1
  obtain⟨b,rfl,hb⟩:=dr T.i h2
  exact⟨⟨s,a,b⟩,rfl,hs,ha,hb⟩
theorem Bd (T:xc P aj sch lc cl ls ss lm mg lp tp au le ed ti tx tb) {n:Nat} {cs:List PV} (h:typed P n tp cs):∃x:nA,cs=x.c∧x.ok:=by
 cases n with
 |zero=>exact h.elim
 |succ n=>
  obtain⟨fs,hu,hts⟩:=T.t
  obtain⟨r0,q0,rfl,h0,r1,q1,rfl,h1,rfl⟩:=bJ hu hts h
  obtain⟨s,rfl,hs⟩:=jc T.x h0
  obtain⟨a,rfl,ha⟩:=dr T.i h1
  exact⟨⟨s,a⟩,rfl,hs,ha⟩
theorem Be (T:xc P aj sch lc cl ls ss lm mg lp tp au le ed ti tx tb) {n:Nat} {cs:List PV} (h:typed P n mg cs):∃x:et,cs=x.c∧x.ok:=by
 cases n with
 |zero=>exact h.elim
 |succ n=>
  obtain⟨fs,hu,hts⟩:=T.m
  obtain⟨r0,q0,rfl,h0,r1,q1,rfl,h1,r2,q2,rfl,h2,rfl⟩:=bJ hu hts h
  obtain⟨a,rfl,ha⟩:=dr T.i h0
  obtain⟨s,rfl,hs⟩:=jc T.x h1
  obtain⟨b,rfl,hb⟩:=dr T.i h2
  exact⟨⟨a,s,b⟩,rfl,ha,hs,hb⟩
theorem Bf (T:xc P aj sch lc cl ls ss lm mg lp tp au le ed ti tx tb) {n:Nat} {cs:List PV} (h:typed P n ed cs):∃x:Edge,cs=x.c∧x.r64:=by
 cases n with
 |zero=>exact h.elim
 |succ n=>
  obtain⟨fs,hu,hts⟩:=T.e
  obtain⟨r0,q0,rfl,h0,r1,q1,rfl,h1,r2,q2,rfl,h2,r3,q3,rfl,h3,rfl⟩:=bJ hu hts h
  obtain⟨a,rfl,ha⟩:=dr T.i h0
  obtain⟨d,rfl⟩:=nS T.b h1
  obtain⟨b,rfl,hb⟩:=dr T.i h2
  obtain⟨c,rfl,hc⟩:=dr T.i h3
  unfold fZ at ha hb hc
  exact⟨⟨a,d,b,c⟩,rfl,ha,hb,hc⟩
theorem Bg (T:xc P aj sch lc cl ls ss lm mg lp tp au le ed ti tx tb) {n:Nat} {cs:List PV} (h:typed P n au cs):∃a:bF,cs=[.int .i64 a.aw,.int .i64 a.start,.ae 0 (a.aA.map Edge.c)]∧a.r64:=by
 cases n with
 |zero=>exact h.elim
 |succ n=>
  obtain⟨fs,hu,hts⟩:=T.a
  obtain⟨r0,q0,rfl,h0,r1,q1,rfl,h1,r2,q2,rfl,h2,rfl⟩:=bJ hu hts h
  obtain⟨a,rfl,ha⟩:=dr T.i h0
  obtain⟨b,rfl,hb⟩:=dr T.i h1
  obtain⟨l,rfl,hl,ho⟩:=fA T.le (fun m cs _ h=>Bf T h) h2
  unfold fZ at ha hb
  exact⟨⟨a,b,l⟩,rfl,ha,hb,by simpa [cu,maxLen]using hl,ho⟩
theorem Bh (T:xc P aj sch lc cl ls ss lm mg lp tp au le ed ti tx tb) {n:Nat} {cs:List PV} (h:typed P n ss cs):∃x:dE,cs=x.c∧x.ok:=by
 cases n with
 |zero=>exact h.elim
 |succ n=>
  obtain⟨fs,hu,hts⟩:=T.s
  obtain⟨r0,q0,rfl,h0,r1,q1,rfl,h1,r2,q2,rfl,h2,rfl⟩:=bJ hu hts h
  obtain⟨s,rfl,hs⟩:=jc T.x h0
  obtain⟨l,rfl,hl,ho⟩:=fA T.lm (fun m cs _ h=>Be T h) h1
  obtain⟨a,rfl,ha⟩:=Bg T h2
  exact⟨⟨s,l,a⟩,rfl,hs,⟨hl,ho⟩,ha⟩
theorem Bi (T:xc P aj sch lc cl ls ss lm mg lp tp au le ed ti tx tb) {typ sym mem val raw lt lsym lmem lval lraw t64:TypeId} (U:wQ P sch typ sym mem val raw lt lsym lmem lval lraw tx ti t64 tb) {n:Nat} {cs:List PV} (h:typed P n aj cs):∃v:je,cs=[.str v.name,.ae 0 (v.types.map aF.c),.ae 0 (bQ v.calls),.ae 0 (aE v.aE),.ae 0 (ct v.aN)]∧v.ok:=by
 cases n with
 |zero=>exact h.elim
 |succ n=>
  obtain⟨fs,hu,hts⟩:=T.v
  obtain⟨r0,q0,rfl,h0,r1,q1,rfl,h1,r2,q2,rfl,h2,r3,q3,rfl,h3,r4,q4,rfl,h4,rfl⟩:=bJ hu hts h
  obtain⟨s,rfl,hs⟩:=jc T.x h0
  obtain⟨l,rfl,hl,ho⟩:=AH U h1
  obtain⟨c,rfl,hc,hco⟩:=fA T.lc (fun m cs _ h=>Bc T h) h2
  obtain⟨w,rfl,hw,hwo⟩:=fA T.ls (fun m cs _ h=>Bh T h) h3
  obtain⟨p,rfl,hp,hpo⟩:=fA T.lp (fun m cs _ h=>Bd T h) h4
  exact⟨⟨s,l,c,w,p⟩,rfl,hs,⟨hl,ho⟩,⟨hc,hco⟩,⟨hw,hwo⟩,hp,hpo⟩
end
end Go.Pv
namespace Go.Pv
theorem Bj {v:je} (h:∀c∈[PV.str v.name,.ae 0 (v.types.map aF.c),.ae 0 (bQ v.calls),.ae 0 (aE v.aE),.ae 0 (ct v.aN)],Small 1048576 c):v.types.length≤1048576∧∀t∈v.types,t.short:=AJ fun c hc=>h c (by rw[List.mem_singleton]at hc; rw[hc]; simp)
end Go.Pv
