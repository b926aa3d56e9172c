/-
 What the functions of the law give.
-/
import Derived.Test.YtpchfogcccagjaaGreatC2
set_option linter.unusedSimpArgs false
set_option linter.unusedVariables false
open List renaming getElem?_eq_some_iff → V9, mem_of_getElem? → Wa, getElem?_eq_getElem → Wb, mem_iff_getElem? → Wd, getElem?_append_left → We, getElem?_map → Wf, length_map → Wg, mem_map → Wk, getElem?_append_right → Wn, pairwise_cons → Wv, findIdx?_eq_some_iff_getElem → Ww, getElem?_take → Wy, length_append → Wz, map_append → WC, mem_cons → WG, mem_range → WJ, append_assoc → WK, take_add_one → WL, getElem?_set_self → WU, take_length → WV, ext_getElem? → WW, any_eq_false → WY, mem_filterMap → W4, length_take → W8, getElem_mem → Xc, pairwise_iff_getElem → Xd, getElem_of_mem → Xg, append_nil → Xh, getElem?_set_ne → Xk, mem_filter → Xl, find?_eq_none → Xn, foldl_cons → Xp, range_succ → Xq, getElem?_range → Xr, map_map → Xw, pairwise_singleton → XC, take_append_drop → XG, find?_some → XH
open Nat renaming lt_or_ge → Wh, le_refl → Wj, mod_lt → Wt, zero_le → WA, le_trans → WM, lt_of_lt_of_le → W6, not_lt_zero → Xo
open Int renaming toNat_natCast → WX
open Bool renaming eq_false_iff → Xz
namespace Go.Pv
def sP (ar:List aL) (V0:V) (ts:List aH):Prop:=(V0=.tl []/\ts=[])\/∃o ax,V0=.own o ax 0 ts.length/\Ap ar o ax ts
theorem Mq {ar X:List aL} {V0 y:V} {ts:List aH} {t:aH} {new:Sum (List (List PV)) (List (List V))} {rd:Option Nat} {row:List V} (hO:sP ar V0 ts) (hm:ts.length+1<=2147483648)
  (hs:∀bx,aW ⟨bx,ar++X,[]⟩ y=some (new,rd)) (hn:dX new=[row]) (hrd:∀o,rd=some o->ar.length<=o) (hr:∀o,o<ar.length\/(ar++X).length<=o->lu (ar++X) o row t):
  ∃V1 T ar',(∀bx,aK ⟨bx,ar++X,[]⟩ 10 V0 y=some (V1,T))/\(∀bx,T.apply ⟨bx,ar++X,[]⟩=⟨bx,ar',[]⟩)/\V1.cells=[V1]/\V1.calm=true/\sP ar' V1 (ts++[t]):=by
 have hrow:row.length=10:=(hr _ (.inr (Wj _))).len
 rcases hO with⟨rfl,rfl⟩|⟨o,ax,rfl,hrep⟩
 .refine⟨_,_,(ar++X)++[⟨0,10,aU (.inl []) new⟩],fun bx=>CM (hs bx) hn hrow,fun bx=>?_,rfl,rfl,.inr ⟨(ar++X).length,0,rfl,?_⟩⟩
  .simp[Tn.apply]
  .refine⟨by simp,aU (.inl []) new,by simp,?_⟩
   rw[l7,hn]
   have h1:lx ((ar++X)++[⟨0,10,aU (.inl []) new⟩]) (ar++X).length (dX (.inl [])) []:=⟨rfl,fun i r u h1 _=>by simp[dX]at h1⟩
   exact h1.snoc ((hr _ (.inr (Wj _))).push _)
 .obtain⟨body,hb1,hb2⟩:=hrep.it
  have hol:=(V9.1 hb1).1
  have hb1':(ar++X)[o]?=some ⟨ax,10,body⟩:=by rw[We hol]; exact hb1
  have hbl:aD body=ts.length:=by rw[<- im]; exact hb2.len
  have happ:=fun bx=>EP (bx:=bx) (mp:=[]) (hs bx) hn hrow hb1' hbl (fun e=>by have:=hrd o e; omega) hm
  rw[BH (ax:=ax) hbl rfl]at happ
  refine⟨_,_,(ar++X).set o ⟨ax+1,10,aU body new⟩,happ,fun bx=>?_,rfl,rfl,.inr ⟨o,ax+1,by simp,?_⟩⟩
  .simp[Tn.apply]
  .refine⟨by simp,aU body new,?_,?_⟩
   .rw[WU (by rw[Wz]; omega)]
   .rw[l7,hn]
    exact(((hb2.push X).set _).snoc ((hr o (.inl hol)).set _))
theorem uW {ar X0:List aL} {V0:V} {ts:List aH} {t:aH} {row:List V} {n:Nat} (hO:sP ar V0 ts) (hm:ts.length+1<=2147483648) (hl:(ar++X0).length=n)
  (hr:∀o,o<ar.length\/n+1<=o->lu (ar++X0++[⟨0,10,.inr [row]⟩]) o row t):
  ∃V1 T ar',(∀bx,aK ⟨bx,ar++X0++[⟨0,10,.inr [row]⟩],[]⟩ 10 V0 (.own n 0 0 1)=some (V1,T))/\(∀bx,T.apply ⟨bx,ar++X0++[⟨0,10,.inr [row]⟩],[]⟩=⟨bx,ar',[]⟩)/\V1.cells=[V1]/\V1.calm=true/\sP ar' V1 (ts++[t]):=by
 rw[WK]at hr |-
 refine Mq (X:=X0++[⟨0,10,.inr [row]⟩]) (new:=.inr [row]) (rd:=some n) hO hm (fun bx=>?_) rfl (fun o ho=>?_) (fun o ho=>hr o ?_)
 .have hg:(ar++(X0++[⟨0,10,.inr [row]⟩]))[n]?=some ⟨0,10,.inr [row]⟩:=by
   rw[<- WK,<- hl]
   simp
  simp[aW,aB,hg,az]
 .injection ho with ho
  rw[<- ho,<- hl,Wz]
  omega
 .rcases ho with ho|ho
  .exact .inl ho
  .rw[<- WK,Wz,hl]at ho
   exact .inr ho
theorem sP.keep {ar:List aL} {V0:V} {ts:List aH} (h:sP ar V0 ts) (bx:List (Nat×List V)) (mp:List (List (PV×PV))):aY ⟨bx,ar,mp⟩ 4 V0=some (.aq 0 (ts.map aH.c)):=by
 rcases h with⟨rfl,rfl⟩|⟨o,ax,rfl,hrep⟩
 .rfl
 .exact hrep.keep bx mp
theorem gD {ar:List aL} {o:Nat} {t:aH} (hs:t.syms=[]) (hm:t.bc=[]):lu ar o [.pv (.int .i64 t.kind),.pv (.str t.name),.pv (.int .i64 t.low),.pv (.int .i64 t.high),.pv (.int .i64 t.max),.tl [],.tl [],.pv (.int .i64 t.key),.pv (.int .i64 t.elem),.pv (.bool t.jO)] t:=
 ⟨.tl [],.tl [],rfl,.inr (.inr (by rw[hs]; rfl)),.inr (.inr (by rw[hm]; rfl))⟩
theorem mem_row {ar:List aL} {o:Nat} {t:aH} (hs:t.syms=[]):lu ar o [.pv (.int .i64 t.kind),.pv (.str t.name),.pv (.int .i64 t.low),.pv (.int .i64 t.high),.pv (.int .i64 t.max),.tl [],.pv (.aq 0 (t.bc.map Mem.c)),.pv (.int .i64 t.key),.pv (.int .i64 t.elem),.pv (.bool t.jO)] t:=
 ⟨.tl [],_,rfl,.inr (.inr (by rw[hs]; rfl)),.inl rfl⟩
theorem sP.quiet {ar:List aL} {V0:V} {ts:List aH} (h:sP ar V0 ts):V0.calm=true/\V0.cells=[V0]:=by
 rcases h with⟨rfl,rfl⟩|⟨o,ax,rfl,_⟩<;>exact⟨rfl,rfl⟩
theorem jt {ar:List aL} {V0:V} {ts:List aH} {t:aH} {row:List V} (hO:sP ar V0 ts) (hm:ts.length+1<=2147483648) (hr:∀ar o,lu ar o row t):
  ∃V1 T ar',(∀bx,aK ⟨bx,ar++[⟨0,10,.inr [row]⟩],[]⟩ 10 V0 (.own ar.length 0 0 1)=some (V1,T))/\(∀bx,T.apply ⟨bx,ar++[⟨0,10,.inr [row]⟩],[]⟩=⟨bx,ar',[]⟩)/\V1.cells=[V1]/\V1.calm=true/\sP ar' V1 (ts++[t]):=by
 have:=uW (X0:=[]) (row:=row) (n:=ar.length) hO hm (by simp) (fun o _=>hr _ o)
 simpa only[List.append_nil]using this
def aX (k:Int) (nm:ByteArray):aH:=⟨k,nm,0,0,0,[],[],0,0,false⟩
def cC (i:Nat):ByteArray:=Utf8.encode (65+(i:Int))
def nc (n:Nat):Sym:=⟨n,⟨#[115]⟩++Utf8.encode (97+(n:Int))⟩
def iU (a:Nat):List Sym:=(fP a).map nc
theorem CP {n:Nat} (h:n<=12):(Utf8.encode (97+(n:Int))).size=1:=by
 have:∀k:Fin 13,(Utf8.encode (97+((k.val:Nat):Int))).size=1:=by decide
 exact this ⟨n,by omega⟩
theorem EV {n:Nat} (h:n<=12):cB .add (.pv (.str ⟨#[115]⟩)) (.pv (.str (Utf8.encode (97+(n:Int)))))=some (.pv (.str (nc n).name)):=by
 have h1:(⟨#[115]⟩:ByteArray).size=1:=rfl
 have h2:(1:Nat)+1<=1099511627776:=by omega
 simp only[cB,kI,h1,CP h,h2,if_true,Option.map_some]
 rfl
theorem ki {a n:Nat} (h:n∈fP a):1<=n/\n<=6:=by
 unfold fP at h
 split at h
 .simp at h
  omega
 .obtain⟨m,hm,rfl⟩:=Wk.1 h
  unfold iS at hm
  have:=WJ.1 (Xl.1 hm).1
  omega
def EW (n:Nat):List PV:=[.int .i64 n,.str (nc n).name]
def fW (l:List Nat) (j:Nat):List (List PV):=(l.take j).map EW
theorem As {l:List Nat} {j n:Nat} (h:l[j]?=some n):fW l (j+1)=fW l j++[EW n]:=by
 unfold fW
 rw[WL,h,WC]
 rfl
theorem EX {ar X:List aL} {o:Nat} {l:List Nat} (hl:l≠[]) (ho:o<ar.length\/ar.length+2<=o):Home (ar++cK 2 (fW l l.length)++X) o 2 (dh ar.length (fW l l.length)) ((l.map nc).map Sym.c):=by
 have e:fW l l.length=(l.map nc).map Sym.c:=by
  unfold fW
  rw[WV,Xw]
  rfl
 rw[e]
 cases l with
 |nil=>exact absurd rfl hl
 |cons n l=>
  refine .inr (.inl ⟨ar.length,((l.map nc).map Sym.c).length,rfl,by omega,.whole ?_⟩)
  rw[WK,Wn (Wj _),Nat.sub_self]
  rfl
def aS (d:List Node) (i:Nat):aH:=
 if aI d i=2 then { aX 2 ⟨#[]⟩ with low:=jD (nodeAt d i),high:=lq (nodeAt d i) }
 else if aI d i=3 then { aX 3 ⟨#[]⟩ with max:=((nodeAt d i).a%4:Nat) }
 else if aI d i=4 then { aX 4 (cC i)with syms:=iU (nodeAt d i).a,jO:=decide ((nodeAt d i).b%2=1) }
 else if aI d i=5 then { aX 5 (cC i)with bc:=bL d i true (nodeAt d i).parts 12 }
 else if aI d i=6 then (if (bL d i false (nodeAt d i).parts 12).length=0 then aX 5 (cC i) else { aX 6 (cC i)with bc:=bL d i false (nodeAt d i).parts 12,jO:=decide ((nodeAt d i).b%2=1) })
 else if aI d i=7 then { aX 7 ⟨#[]⟩ with max:=((nodeAt d i).a%4:Nat),elem:=((nodeAt d i).c%d.length:Nat) }
 else if aI d i=8 then (if js d (nodeAt d i).b=none then { aX 7 ⟨#[]⟩ with max:=((nodeAt d i).a%4:Nat),elem:=((nodeAt d i).c%d.length:Nat) } else { aX 8 ⟨#[]⟩ with max:=((nodeAt d i).a%4:Nat),key:=fH (js d (nodeAt d i).b),elem:=((nodeAt d i).c%d.length:Nat) })
 else if aI d i=9 then { aX 9 ⟨#[]⟩ with elem:=((nodeAt d i).c%d.length:Nat) }
 else aX 1 ⟨#[]⟩
def qR (d:List Node):List aH×Bool:=if d.length<1\/5<d.length then ([],false) else ((List.range d.length).map (aS d),true)
set_option maxHeartbeats 4000000 in
theorem r279 (t:Nat) (d:List Node) (hok:∀y∈d,y.ok) (hll:bP d):res A aA 279 [.agg [.aq t (d.map Node.cs)]]=some [.agg [.aq 0 ((qR d).1.map aH.c)],.bool (qR d).2]:=by
 refine aw a279 rfl rfl ?_
 simp only[F279,Ky]
 unfold bP at hll
 simp(disch:=omega)only[go_sem]
 unfold qR
 refine Br.aJ (fun c=>?_) (fun c=>?_)<;>simp(disch:=omega)only[go_sem,c]
 .rw[if_pos (.inl (by omega))]
  rfl
 refine Br.aJ (fun c2=>?_) (fun c2=>?_)<;>simp(disch:=omega)only[go_sem,c2]
 .rw[if_pos (.inr (by omega))]
  rfl
 rw[if_neg (by omega)]
 refine W.loop (α:=Nat×List aL×V) (fun y=>⟨[(1,.ptr 1 0),(2,.ptr 2 0),(4,.pv (.int .i64 d.length)),(5,.ptr 5 0),(6,.pv (.int .i64 y.1))],⟨[(1,[.pv (.aq t (d.map Node.cs))]),(2,[.tl []]),(5,[y.2.2])],y.2.1,[]⟩⟩)
  (fun y=>y.1<=d.length/\sP y.2.1 y.2.2 ((List.range y.1).map (aS d))) (fun y=>d.length - y.1) (0,[],.tl []) rfl ⟨WA _,.inl ⟨rfl,rfl⟩⟩ fun y hy=>?_
 obtain⟨i,ar,V0⟩:=y
 obtain⟨hi,hO⟩:=hy
 dsimp only at hi hO
 simp(disch:=omega)only[go_sem]
 refine Br.aJ (fun c3=>?_) (fun c3=>?_)
 rotate_left
 .obtain rfl:i=d.length:=by omega
  have hkeep:=fun bx=>hO.keep bx []
  obtain⟨hq1,hq2⟩:=hO.quiet
  simp(disch:=omega)only[go_sem,hkeep,hq1]
 have hx:d[i]?=some (nodeAt d i):=by
  unfold nodeAt
  rw[Wb (by omega)]
  rfl
 have hidx:jx 5 t (d.map Node.cs) (some (i:Int))=some (V.pv (.ro t [.int .u8 (nodeAt d i).kind,.int .u8 (nodeAt d i).a,.int .u8 (nodeAt d i).b,.int .u8 (nodeAt d i).c,.aq 0 ((nodeAt d i).parts.map Part.c)])):=oy (t:=t) hx
 have h298:=fun t=>r298 t d i (by omega)
 have h286:=r286 (aI d i:Int)
 obtain⟨k1,k9⟩:=dt d i
 have hk0:(aI d i:Int)=1\/(aI d i:Int)=2\/(aI d i:Int)=3\/(aI d i:Int)=4\/(aI d i:Int)=5\/(aI d i:Int)=6\/(aI d i:Int)=7\/(aI d i:Int)=8\/(aI d i:Int)=9:=by omega
 have hnext:(List.range (i+1)).map (aS d)=(List.range i).map (aS d)++[aS d i]:=by
  rw[Xq,WC]
  rfl
 have hml:((List.range i).map (aS d)).length+1<=2147483648:=by simp; omega
 have hxo:=hok _ (Wa hx)
 obtain⟨⟨_,xa,xb,xc⟩,_⟩:=hxo
 have hcn:(nodeAt d i).c%d.length<d.length:=Wt _ (by omega)
 have hrn:=gN (k:=.i64) (a:=(nodeAt d i).c) (n:=d.length) (by omega)
 have h4:(nodeAt d i).a%4<4:=Wt _ (by decide)
 have h299:=r299 (nodeAt d i)
 have h300:=r300 (nodeAt d i)
 have h301:=r301 (nodeAt d i)
 have h302:=fun t fl=>r302 t d i fl _ hx (by omega) (by omega) hok
 have h303:=fun t=>r303 t d (nodeAt d i).b (by omega) (by omega) xb
 unfold Node.cs at h299 h300 h301
 simp(disch:=omega)only[go_sem,hidx,h298,h286]
 rcases hk0 with hk|hk|hk|hk|hk|hk|hk|hk|hk
 all_goals simp(disch:=omega)only[go_sem,hk,Hz,Hy,hrn,h299,h300,h301,h302,h303,yF,wrap_i32,RW]
 .have e:aI d i=1:=by omega
  have hty:aS d i=aX 1 ⟨#[]⟩:=by simp only[aS,e]; rfl
  have hb:=jt (t:=aX 1 ⟨#[]⟩) hO hml (fun ar o=>gD rfl rfl)
  obtain⟨V1,T,ar',happ,hT,hc1,hc2,hO'⟩:=hb
  dsimp only[aX,cC]at happ hT
  simp(disch:=omega)only[go_sem,happ,hT,hc1,hc2]
  refine⟨(i+1,ar',V1),⟨by dsimp only; omega,by dsimp only; rw[hnext,hty]; exact hO'⟩,by dsimp only; omega,rfl⟩
 .have e:aI d i=2:=by omega
  have hty:aS d i={ aX 2 ⟨#[]⟩ with low:=jD (nodeAt d i),high:=lq (nodeAt d i) }:=by simp only[aS,e]; rfl
  have hb:=jt (t:={ aX 2 ⟨#[]⟩ with low:=jD (nodeAt d i),high:=lq (nodeAt d i) }) hO hml (fun ar o=>gD rfl rfl)
  obtain⟨V1,T,ar',happ,hT,hc1,hc2,hO'⟩:=hb
  dsimp only[aX,cC]at happ hT
  simp(disch:=omega)only[go_sem,happ,hT,hc1,hc2]
  refine⟨(i+1,ar',V1),⟨by dsimp only; omega,by dsimp only; rw[hnext,hty]; exact hO'⟩,by dsimp only; omega,rfl⟩
 .have e:aI d i=3:=by omega
  have hty:aS d i={ aX 3 ⟨#[]⟩ with max:=((nodeAt d i).a%4:Nat) }:=by simp only[aS,e]; rfl
  have hb:=jt (t:={ aX 3 ⟨#[]⟩ with max:=((nodeAt d i).a%4:Nat) }) hO hml (fun ar o=>gD rfl rfl)
  obtain⟨V1,T,ar',happ,hT,hc1,hc2,hO'⟩:=hb
  dsimp only[aX,cC]at happ hT
  simp(disch:=omega)only[go_sem,happ,hT,hc1,hc2]
  refine⟨(i+1,ar',V1),⟨by dsimp only; omega,by dsimp only; rw[hnext,hty]; exact hO'⟩,by dsimp only; omega,rfl⟩
 .have e:aI d i=4:=by omega
  have hty:aS d i={ aX 4 (cC i)with syms:=iU (nodeAt d i).a,jO:=decide ((nodeAt d i).b%2=1) }:=by simp only[aS,e]; rfl
  obtain⟨n0,n6⟩:=jJ (nodeAt d i).a
  have hir:=fun n (h:n∈fP (nodeAt d i).a)=>ki h
  have hne:fP (nodeAt d i).a≠[]:=List.length_pos_iff.1 n0
  unfold iU at hty
  generalize fP (nodeAt d i).a=l at *
  have hnl:(tX l).length=l.length:=Wg _
  refine W.fv l.length (fun j=>⟨[(1,.ptr 1 0),(2,.ptr 2 0),(4,.pv (.int .i64 d.length)),(5,.ptr 5 0),(6,.pv (.int .i64 i)),(8,.ptr 8 0),(9,.pv (.aq 0 (ints (tX l)))),(10,.pv (.int .i64 (j:Nat)))],⟨[(1,[.pv (.aq t (d.map Node.cs))]),(2,[.tl []]),(5,[V0]),(8,[.pv (.int .i64 4),.pv (.str (Utf8.encode (65+(i:Int)))),.pv (.int .i64 0),.pv (.int .i64 0),.pv (.int .i64 0),dh ar.length (fW l j),.tl [],.pv (.int .i64 0),.pv (.int .i64 0),.pv (.bool (decide ((nodeAt d i).b%2=1)))])],ar++cK 2 (fW l j),[]⟩⟩) (fun _=>True) ?_ trivial (fun j hj _=>?_)
  .have e0:fW l 0=[]:=rfl
   rw[e0,BJ,BK,Xh]
   rfl
  simp(disch:=omega)only[go_sem]
  refine Br.aJ (fun cj=>?_) (fun cj=>?_)
  .have hgj:=Wb (l:=l) (i:=j) (by omega)
   generalize l[j]'(by omega)=n at hgj
   obtain⟨g1,g6⟩:=hir n (Wa hgj)
   have hat:(tX l)[j]?=some ((n:Nat):Int):=by
    rw[BL (by omega),hgj]
    rfl
   have hadd:=EV (n:=n) (by omega)
   have hrl:(fW l j).length<=6:=by unfold fW; simp; omega
   have hgrow:=fun bx=>grow bx [] ar 2 (fW l j) (EW n) rfl (by omega)
   have hgt:=fun bx=>ik bx [] ar 2 (fW l j) (EW n)
   rw[<- As hgj]at hgrow hgt
   unfold EW at hgrow hgt
   simp(disch:=omega)only[go_sem,hat,wrap_i32,hadd,hgrow,hgt]
   exact .of (by omega) rfl trivial
  .obtain rfl:j=l.length:=by omega
   have hga:(cK 2 (fW l l.length)).length=1:=by
    cases l with
    |nil=>exact absurd rfl hne
    |cons x l=>rfl
   have hb:=uW (t:={ aX 4 (cC i)with syms:=l.map nc,jO:=decide ((nodeAt d i).b%2=1) }) (X0:=cK 2 (fW l l.length)) (n:=ar.length+(cK 2 (fW l l.length)).length) hO hml (by rw[Wz]) (fun o ho=>⟨dh ar.length (fW l l.length),.tl [],rfl,EX hne (by omega),.inr (.inr rfl)⟩)
   obtain⟨V1,T,ar',happ,hT,hc1,hc2,hO'⟩:=hb
   dsimp only[aX,cC]at happ hT
   simp(disch:=omega)only[go_sem,happ,hT,hc1,hc2]
   refine⟨(i+1,ar',V1),⟨by dsimp only; omega,by dsimp only; rw[hnext,hty]; exact hO'⟩,by dsimp only; omega,rfl⟩
 .have e:aI d i=5:=by omega
  have hty:aS d i={ aX 5 (cC i)with bc:=bL d i true (nodeAt d i).parts 12 }:=by simp only[aS,e]; rfl
  have hb:=jt (t:={ aX 5 (cC i)with bc:=bL d i true (nodeAt d i).parts 12 }) hO hml (fun ar o=>mem_row rfl)
  obtain⟨V1,T,ar',happ,hT,hc1,hc2,hO'⟩:=hb
  dsimp only[aX,cC]at happ hT
  simp(disch:=omega)only[go_sem,happ,hT,hc1,hc2]
  refine⟨(i+1,ar',V1),⟨by dsimp only; omega,by dsimp only; rw[hnext,hty]; exact hO'⟩,by dsimp only; omega,rfl⟩
 .have e:aI d i=6:=by omega
  have hty0:aS d i=if (bL d i false (nodeAt d i).parts 12).length=0 then aX 5 (cC i) else { aX 6 (cC i)with bc:=bL d i false (nodeAt d i).parts 12,jO:=decide ((nodeAt d i).b%2=1) }:=by simp only[aS,e]; rfl
  refine Br.aJ (fun c6=>?_) (fun c6=>?_)<;>simp(disch:=omega)only[go_sem]
  .have hty:aS d i=aX 5 (cC i):=by rw[hty0,if_pos (by omega)]
   have hb:=jt (t:=aX 5 (cC i)) hO hml (fun ar o=>gD rfl rfl)
   obtain⟨V1,T,ar',happ,hT,hc1,hc2,hO'⟩:=hb
   dsimp only[aX,cC]at happ hT
   simp(disch:=omega)only[go_sem,happ,hT,hc1,hc2]
   refine⟨(i+1,ar',V1),⟨by dsimp only; omega,by dsimp only; rw[hnext,hty]; exact hO'⟩,by dsimp only; omega,rfl⟩
  .have hty:aS d i={ aX 6 (cC i)with bc:=bL d i false (nodeAt d i).parts 12,jO:=decide ((nodeAt d i).b%2=1) }:=by rw[hty0,if_neg (by omega)]
   have hb:=jt (t:={ aX 6 (cC i)with bc:=bL d i false (nodeAt d i).parts 12,jO:=decide ((nodeAt d i).b%2=1) }) hO hml (fun ar o=>mem_row rfl)
   obtain⟨V1,T,ar',happ,hT,hc1,hc2,hO'⟩:=hb
   dsimp only[aX,cC]at happ hT
   simp(disch:=omega)only[go_sem,happ,hT,hc1,hc2]
   refine⟨(i+1,ar',V1),⟨by dsimp only; omega,by dsimp only; rw[hnext,hty]; exact hO'⟩,by dsimp only; omega,rfl⟩
 .have e:aI d i=7:=by omega
  have hty:aS d i={ aX 7 ⟨#[]⟩ with max:=((nodeAt d i).a%4:Nat),elem:=((nodeAt d i).c%d.length:Nat) }:=by simp only[aS,e]; rfl
  have hb:=jt (t:={ aX 7 ⟨#[]⟩ with max:=((nodeAt d i).a%4:Nat),elem:=((nodeAt d i).c%d.length:Nat) }) hO hml (fun ar o=>gD rfl rfl)
  obtain⟨V1,T,ar',happ,hT,hc1,hc2,hO'⟩:=hb
  dsimp only[aX,cC]at happ hT
  simp(disch:=omega)only[go_sem,happ,hT,hc1,hc2]
  refine⟨(i+1,ar',V1),⟨by dsimp only; omega,by dsimp only; rw[hnext,hty]; exact hO'⟩,by dsimp only; omega,rfl⟩
 .have e:aI d i=8:=by omega
  have hty0:aS d i=if js d (nodeAt d i).b=none then { aX 7 ⟨#[]⟩ with max:=((nodeAt d i).a%4:Nat),elem:=((nodeAt d i).c%d.length:Nat) } else { aX 8 ⟨#[]⟩ with max:=((nodeAt d i).a%4:Nat),key:=fH (js d (nodeAt d i).b),elem:=((nodeAt d i).c%d.length:Nat) }:=by simp only[aS,e]; rfl
  refine Br.aJ (fun c8=>?_) (fun c8=>?_)<;>simp(disch:=omega)only[go_sem]
  .have hty:aS d i={ aX 7 ⟨#[]⟩ with max:=((nodeAt d i).a%4:Nat),elem:=((nodeAt d i).c%d.length:Nat) }:=by rw[hty0,if_pos c8]
   have hb:=jt (t:={ aX 7 ⟨#[]⟩ with max:=((nodeAt d i).a%4:Nat),elem:=((nodeAt d i).c%d.length:Nat) }) hO hml (fun ar o=>gD rfl rfl)
   obtain⟨V1,T,ar',happ,hT,hc1,hc2,hO'⟩:=hb
   dsimp only[aX,cC]at happ hT
   simp(disch:=omega)only[go_sem,happ,hT,hc1,hc2]
   refine⟨(i+1,ar',V1),⟨by dsimp only; omega,by dsimp only; rw[hnext,hty]; exact hO'⟩,by dsimp only; omega,rfl⟩
  .have hty:aS d i={ aX 8 ⟨#[]⟩ with max:=((nodeAt d i).a%4:Nat),key:=fH (js d (nodeAt d i).b),elem:=((nodeAt d i).c%d.length:Nat) }:=by rw[hty0,if_neg c8]
   have hb:=jt (t:={ aX 8 ⟨#[]⟩ with max:=((nodeAt d i).a%4:Nat),key:=fH (js d (nodeAt d i).b),elem:=((nodeAt d i).c%d.length:Nat) }) hO hml (fun ar o=>gD rfl rfl)
   obtain⟨V1,T,ar',happ,hT,hc1,hc2,hO'⟩:=hb
   dsimp only[aX,cC]at happ hT
   simp(disch:=omega)only[go_sem,happ,hT,hc1,hc2]
   refine⟨(i+1,ar',V1),⟨by dsimp only; omega,by dsimp only; rw[hnext,hty]; exact hO'⟩,by dsimp only; omega,rfl⟩
 .have e:aI d i=9:=by omega
  have hty:aS d i={ aX 9 ⟨#[]⟩ with elem:=((nodeAt d i).c%d.length:Nat) }:=by simp only[aS,e]; rfl
  have hb:=jt (t:={ aX 9 ⟨#[]⟩ with elem:=((nodeAt d i).c%d.length:Nat) }) hO hml (fun ar o=>gD rfl rfl)
  obtain⟨V1,T,ar',happ,hT,hc1,hc2,hO'⟩:=hb
  dsimp only[aX,cC]at happ hT
  simp(disch:=omega)only[go_sem,happ,hT,hc1,hc2]
  refine⟨(i+1,ar',V1),⟨by dsimp only; omega,by dsimp only; rw[hnext,hty]; exact hO'⟩,by dsimp only; omega,rfl⟩
theorem wC:∀k:Fin 13,isName (gS k.val)=true:=by decide
theorem CQ:∀j k:Fin 13,gS j.val=gS k.val->j=k:=by decide
theorem yG:∀k:Fin 13,isName (nc k.val).name=true:=by decide
theorem EY:∀j k:Fin 13,(nc j.val).name=(nc k.val).name->j=k:=by decide
theorem oz:∀k:Fin 5,isName (cC k.val)=true:=by decide
theorem CS:∀j k:Fin 5,cC j.val=cC k.val->j=k:=by decide
theorem sQ {L:List Nat} {f:Nat->ByteArray} (hp:L.Pairwise (·<·)) (h1:∀n∈L,1<=n/\n<=12) (hf:∀m n,m<=12->n<=12->f m=f n->m=n) (hn:∀n,n<=12->isName (f n)=true):mw (L.map fun(n:Nat)=>((n:Int),f n))=true:=by
 unfold mw
 rw[Bool.not_eq_true',WY]
 intro k hk
 have hkl:k<L.length:=by simpa using hk
 have hg:=Wb hkl
 obtain⟨g1,g2⟩:=h1 _ (Xc hkl)
 have e:uQ (L.map fun(n:Nat)=>((n:Int),f n)) k=jg (L.map fun(n:Nat)=>((n:Int),f n)) k ((L[k]:Int),f L[k]):=by
  unfold uQ
  rw[Wf,hg]
  rfl
 rw[e]
 have d1:decide (((L[k]:Nat):Int)<1)=false:=by simp; omega
 have d2:decide (1000<((L[k]:Nat):Int))=false:=by simp; omega
 have d3:(decide (0<k)&&decide (((L[k]:Nat):Int)<=oo (L.map fun(n:Nat)=>((n:Int),f n)) k))=false:=by
  by_cases h0:0<k
  .have hlt:=Xd.1 hp (k - 1) k (by omega) hkl (by omega)
   have hq:oo (L.map fun(n:Nat)=>((n:Int),f n)) k=((L[k - 1]'(by omega):Nat):Int):=by
    unfold oo
    rw[Wf,Wb (show k - 1<L.length by omega)]
    rfl
   rw[hq]
   simp
   omega
  .simp[h0]
 have d4:cY (((L.map fun(n:Nat)=>((n:Int),f n)).map (·.2)).take k) (f L[k])=false:=by
  rw[Xz]
  intro h
  rw[eI,Xw,<- List.map_take]at h
  obtain⟨m,hm,he⟩:=Wk.1 h
  obtain⟨j,hj⟩:=Wd.1 hm
  rw[Wy]at hj
  split at hj
  .rename_i hjk
   obtain⟨hjl,hjm⟩:=V9.1 hj
   have hlt:=Xd.1 hp j k hjl hkl hjk
   obtain⟨m1,m2⟩:=h1 m (Wa hj)
   have:=hf m L[k] m2 g2 he
   omega
  .cases hj
 unfold jg
 rw[d1,d2,d3,d4,hn _ g2]
 simp
theorem EZ (a:Nat):pM (iU a)=true:=by
 have hp:(fP a).Pairwise (·<·):=by
  unfold fP
  split
  .exact XC _ _
  .rw[List.pairwise_map]
   unfold iS
   exact((List.pairwise_lt_range).filter _).imp (fun h=>by omega)
 obtain⟨n0,n6⟩:=jJ a
 have hi:=sQ (f:=fun n=>(nc n).name) hp (fun n hn=>by have:=ki hn; omega) (fun m n h1 h2 h=>by have:=EY ⟨m,by omega⟩ ⟨n,by omega⟩ h; simpa using this) (fun n h=>yG ⟨n,by omega⟩)
 have e:(iU a).map Sym.nm=(fP a).map fun(n:Nat)=>((n:Int),(nc n).name):=by
  unfold iU
  rw[Xw]
  rfl
 have el:(iU a).length=(fP a).length:=Wg _
 unfold pM
 rw[e,hi,el]
 simp
 omega
theorem yH {d:List Node} {i:Nat} {fl:Bool} {ps:List Part} {id:Nat} {m:Mem} (h:mz d i fl ps id=some m):∃p,dC d i fl id p=m/\mY d i id p=true/\p∈ps:=by
 unfold mz at h
 cases hf:ps.find? (mY d i id)with
 |none=>simp[hf]at h
 |some p=>
  rw[hf]at h
  exact⟨p,by simpa using h,List.find?_some hf,List.mem_of_find?_eq_some hf⟩
theorem E0 {k:Nat} {x:Node} {code:Nat} (h:(dQ k x code).2=false):(dQ k x code).1=bl:=by
 unfold dQ at h |-
 repeat' split at h
 all_goals first
  |(cases h; done)
  |skip
 rename_i h1 h2 h3 h4 h5
 rw[if_neg h1,if_neg h2,if_neg h3,if_neg h4,if_pos h5]
theorem Au (d:List Node) (i:Nat) (fl:Bool) (id:Nat) (p:Part):ke fl (dC d i fl id p)=false:=by
 cases fl with
 |false=>simp[ke,dC,eqv]
 |true=>
  unfold ke dC
  dsimp only
  simp only[Bool.true_and,Bool.not_true,Bool.false_and,Bool.false_or]
  by_cases h1:p.flag%4=1
  .simp[h1,eqv]
  by_cases h2:2<=p.flag%4
  .cases hv:(lz d ((cJ d i p.type).getD 0) p).2 with
   |true=>simp[h1,h2]
   |false=>
    have:=E0 hv
    have e:(lz d ((cJ d i p.type).getD 0) p).1=bl:=this
    simp[h1,h2,eqv,e]
  .simp[h1,h2,eqv]
theorem BM {g:Nat->Option Mem} (h:∀j m,g j=some m->m.nm=(((j+1:Nat):Int),gS (j+1))):∀xs:List Nat,(xs.filterMap g).map Mem.nm=(((xs.filter fun j=>(g j).isSome).map (·+1)).map fun(n:Nat)=>((n:Int),gS n))
 |[]=>rfl
 |x::xs=>by
  have ih:=BM h xs
  cases hg:g x with
  |none=>simp[hg,ih]
  |some m=>
   have:=h x m hg
   simp[hg,ih,this]
theorem E1 {d:List Node} {i:Nat} {fl:Bool} {ps:List Part} {id:Nat} {m:Mem} (h:mz d i fl ps id=some m):m.nm=((id:Int),gS id):=by
 obtain⟨p,rfl,_⟩:=yH h
 rfl
theorem kj {d:List Node} {i:Nat} {fl:Bool} {ps:List Part} {k:Nat} {m:Mem} (h:m∈bL d i fl ps k):∃id p,dC d i fl id p=m/\mY d i id p=true/\p∈ps/\1<=id/\id<=k:=by
 unfold bL at h
 obtain⟨j,hj,hm⟩:=W4.1 h
 obtain⟨p,h1,h2,h3⟩:=yH hm
 exact⟨j+1,p,h1,h2,h3,by omega,by have:=WJ.1 hj; omega⟩
theorem uX (d:List Node) (i:Nat) (fl:Bool) (ps:List Part) (h:fl=true\/(bL d i fl ps 12).length≠0):fK fl (bL d i fl ps 12)=true:=by
 have hl:=mZ d i fl ps 12
 have e1:(bL d i fl ps 12).any (ke fl)=false:=by
  rw[WY]
  intro m hm
  obtain⟨id,p,rfl,_⟩:=kj hm
  rw[Au]
  simp
 have e2:=BM (g:=fun j=>mz d i fl ps (j+1)) (fun j m h=>E1 h) (List.range 12)
 have e3:mw ((bL d i fl ps 12).map Mem.nm)=true:=by
  unfold bL
  rw[e2]
  refine sQ ?_ (fun n hn=>?_) (fun m n h1 h2 h=>by have:=CQ ⟨m,by omega⟩ ⟨n,by omega⟩ h; simpa using this) (fun n h=>wC ⟨n,by omega⟩)
  .rw[List.pairwise_map]
   exact((List.pairwise_lt_range).filter _).imp (fun h=>by omega)
  .obtain⟨m,hm,rfl⟩:=Wk.1 hn
   have:=WJ.1 (Xl.1 hm).1
   omega
 unfold fK
 rw[e1,e3]
 rcases h with rfl|h
 .simp
  omega
 .simp
  omega
theorem pQ {d:List Node} {code q:Nat} (h0:0<d.length) (h:js d code=some q):q<d.length/\aI d q<=4:=by
 unfold js at h
 cases hf:(List.range d.length).find? (fun k=>decide (aI d ((code+k)%d.length)<=4))with
 |none=>simp[hf]at h
 |some k=>
  rw[hf]at h
  have hq:(code+k)%d.length=q:=by simpa using h
  have:=XH hf
  rw[hq]at this
  exact⟨by rw[<- hq]; exact Nat.mod_lt _ h0,by simpa using this⟩
theorem E2 (d:List Node) (i:Nat) (hi:i<5):dO (aS d i)=true:=by
 obtain⟨k1,k9⟩:=dt d i
 have hb6:(nodeAt d i).b%6<6:=Wt _ (by decide)
 have h4:(nodeAt d i).a%4<4:=Wt _ (by decide)
 have hhi:jD (nodeAt d i)<=lq (nodeAt d i):=by unfold lq; omega
 have hn:=oz ⟨i,hi⟩
 dsimp only at hn
 have hs:=EZ (nodeAt d i).a
 have p1:=uX d i true (nodeAt d i).parts (.inl rfl)
 have p2:=uX d i false (nodeAt d i).parts
 have hk0:aI d i=1\/aI d i=2\/aI d i=3\/aI d i=4\/aI d i=5\/aI d i=6\/aI d i=7\/aI d i=8\/aI d i=9:=by omega
 rcases hk0 with hk|hk|hk|hk|hk|hk|hk|hk|hk
 .simp[aS,hk,dO,aX,ez,cp,eqv,kindOk]
 .simp[aS,hk,dO,aX,ez,cp,eqv,kindOk,hhi]
 .simp[aS,hk,dO,aX,ez,cp,eqv,kindOk]
  omega
 .simp[aS,hk,dO,aX,ez,cp,eqv,kindOk,hn,hs]
 .simp[aS,hk,dO,aX,ez,cp,eqv,kindOk,hn,p1]
 .have e:aS d i=if (bL d i false (nodeAt d i).parts 12).length=0 then aX 5 (cC i) else { aX 6 (cC i)with bc:=bL d i false (nodeAt d i).parts 12,jO:=decide ((nodeAt d i).b%2=1) }:=by simp only[aS,hk]; rfl
  rw[e]
  split
  .have em:fK true []=true:=by simp[fK,mw]
   simp[dO,aX,ez,cp,eqv,kindOk,hn,em]
  .rename_i h0
   have:=p2 (.inr h0)
   simp[dO,aX,ez,cp,eqv,kindOk,hn,this]
 .simp[aS,hk,dO,aX,ez,cp,eqv,kindOk]
  omega
 .simp only[aS,hk]
  simp
  split
  .simp[dO,aX,ez,cp,eqv,kindOk]
   omega
  .simp[dO,aX,ez,cp,eqv,kindOk]
   omega
 .simp[aS,hk,dO,aX,ez,cp,eqv,kindOk]
theorem lA {d:List Node} {i:Nat} (hk:aI d i=6):aS d i=if (bL d i false (nodeAt d i).parts 12).length=0 then aX 5 (cC i) else { aX 6 (cC i)with bc:=bL d i false (nodeAt d i).parts 12,jO:=decide ((nodeAt d i).b%2=1) }:=by simp only[aS,hk]; rfl
theorem nf {d:List Node} {i:Nat} (hk:aI d i=8):aS d i=if js d (nodeAt d i).b=none then { aX 7 ⟨#[]⟩ with max:=((nodeAt d i).a%4:Nat),elem:=((nodeAt d i).c%d.length:Nat) } else { aX 8 ⟨#[]⟩ with max:=((nodeAt d i).a%4:Nat),key:=fH (js d (nodeAt d i).b),elem:=((nodeAt d i).c%d.length:Nat) }:=by simp only[aS,hk]; rfl
theorem dG (d:List Node) (i:Nat):aI d i=1\/aI d i=2\/aI d i=3\/aI d i=4\/aI d i=5\/aI d i=6\/aI d i=7\/aI d i=8\/aI d i=9:=by
 have:=dt d i
 omega
theorem uY (d:List Node) (i:Nat):(aS d i).name=⟨#[]⟩\/(aS d i).name=cC i:=by
 rcases dG d i with hk|hk|hk|hk|hk|hk|hk|hk|hk
 case inr.inr.inr.inr.inr.inl=>
  rw[lA hk]
  split<;>simp[aX]
 case inr.inr.inr.inr.inr.inr.inr.inl=>
  rw[nf hk]
  split<;>simp[aX]
 all_goals simp[aS,hk,aX]
theorem CT {d:List Node} {i:Nat} (h:aI d i<=4):(aS d i).kind=aI d i:=by
 have:=dt d i
 have hk:aI d i=1\/aI d i=2\/aI d i=3\/aI d i=4:=by omega
 rcases hk with hk|hk|hk|hk<;>simp[aS,hk,aX]
theorem yI {d:List Node} {i:Nat} {fl:Bool} {ps:List Part} {k:Nat} (h0:0<d.length) (hi:i<d.length) {m:Mem} (h:m∈bL d i fl ps k):0<=m.type/\m.type<d.length:=by
 obtain⟨id,p,rfl,hh,_⟩:=kj h
 unfold mY at hh
 cases ht:cJ d i p.type with
 |none=>simp[ht]at hh
 |some u=>
  have:=kh h0 hi ht
  show 0<=fH (cJ d i p.type)/\fH (cJ d i p.type)<d.length
  rw[ht]
  unfold fH
  dsimp only
  omega
theorem CU {d:List Node} {i:Nat} (h0:0<d.length) (hi:i<d.length):∀u∈cT (aS d i),0<=u/\u<d.length:=by
 have hc:(nodeAt d i).c%d.length<d.length:=Wt _ h0
 have hp:=fun fl m (h:m∈bL d i fl (nodeAt d i).parts 12)=>yI h0 hi h
 have hm:∀fl,∀u:Int,u∈(bL d i fl (nodeAt d i).parts 12).map (·.type)->0<=u/\u<d.length:=fun fl u hu=>by
  obtain⟨m,hm,rfl⟩:=Wk.1 hu
  exact hp fl m hm
 intro u hu
 rcases dG d i with hk|hk|hk|hk|hk|hk|hk|hk|hk
 case inr.inr.inr.inr.inr.inl=>
  rw[lA hk]at hu
  split at hu
  .simp[cT,jF,gM,aX]at hu
  .refine hm false u ?_
   simpa [cT,jF,gM,aX]using hu
 case inr.inr.inr.inr.inl=>
  refine hm true u ?_
  simpa [aS,hk,cT,jF,gM,aX]using hu
 case inr.inr.inr.inr.inr.inr.inr.inl=>
  rw[nf hk]at hu
  split at hu
  .simp only[cT,jF,gM,aX]at hu
   simp at hu
   omega
  .rename_i hq
   cases hkey:js d (nodeAt d i).b with
   |none=>exact absurd hkey hq
   |some q=>
    have:=pQ h0 hkey
    rw[hkey]at hu
    simp only[cT,jF,gM,aX,fH]at hu
    simp at hu
    omega
 case inr.inr.inr.inr.inr.inr.inl=>
  simp only[aS,hk,cT,jF,gM,aX]at hu
  simp at hu
  omega
 case inr.inr.inr.inr.inr.inr.inr.inr=>
  simp only[aS,hk,cT,jF,gM,aX]at hu
  simp at hu
  omega
 all_goals simp[aS,hk,cT,jF,gM,aX]at hu
theorem E3 {d:List Node} {i:Nat} (h0:0<d.length) (h:(aS d i).kind=8):∃q:Nat,(aS d i).key=q/\q<d.length/\aI d q<=4:=by
 rcases dG d i with hk|hk|hk|hk|hk|hk|hk|hk|hk
 case inr.inr.inr.inr.inr.inl=>
  rw[lA hk]at h
  split at h<;>simp[aX]at h
 case inr.inr.inr.inr.inr.inr.inr.inl=>
  rw[nf hk]at h |-
  split at h
  .simp[aX]at h
  .rename_i hq
   rw[if_neg hq]
   cases hkey:js d (nodeAt d i).b with
   |none=>exact absurd hkey hq
   |some q=>exact⟨q,rfl,pQ h0 hkey⟩
 all_goals simp[aS,hk,aX]at h
theorem CV {d:List Node} (h0:0<d.length) (h5:d.length<=5):cS ((List.range d.length).map (aS d))=0:=by
 have hlen:((List.range d.length).map (aS d)).length=d.length:=by simp
 have hget:∀k,k<d.length->((List.range d.length).map (aS d))[k]?=some (aS d k):=fun k hk=>by
  rw[Wf,Xr hk]
  rfl
 unfold cS
 rw[if_neg (by omega)]
 have hz:∀k∈List.range ((List.range d.length).map (aS d)).length,¬decide (eY ((List.range d.length).map (aS d)) k≠0)=true:=by
  intro k hk
  have hk:k<d.length:=by rw[hlen]at hk; simpa using hk
  have e1:=E2 d k (by omega)
  have e2:lZ ((List.range d.length).map (aS d)) k (aS d k)=false:=by
   unfold lZ
   rcases uY d k with hn|hn
   .rw[hn]
    simp
   .have:cY ((((List.range d.length).map (aS d)).take k).map (·.name)) (aS d k).name=false:=by
     rw[Xz]
     intro h
     rw[eI]at h
     obtain⟨t,ht,he⟩:=Wk.1 h
     rw[<- List.map_take]at ht
     obtain⟨j,hj,rfl⟩:=Wk.1 ht
     rw[List.take_range]at hj
     have hj:=WJ.1 hj
     rw[hn]at he
     rcases uY d j with hm|hm
     .rw[hm]at he
      have:=CL (oz ⟨k,by omega⟩)
      exact this he.symm
     .rw[hm]at he
      have:=CS ⟨j,by omega⟩ ⟨k,by omega⟩ he
      simp at this
      omega
    rw[this]
    simp
  have e3:(cT (aS d k)).any (dP ((List.range d.length).map (aS d)).length)=false:=by
   rw[WY]
   intro u hu
   have:=CU h0 hk u hu
   rw[hlen]
   simp[dP]
   omega
  have e4:eX ((List.range d.length).map (aS d)) (aS d k)=false:=by
   unfold eX
   by_cases h8:(aS d k).kind=8
   .obtain⟨q,hq1,hq2,hq3⟩:=E3 h0 h8
    have:kf ((List.range d.length).map (aS d)) (aS d k).key=aI d q:=by
     unfold kf
     rw[hq1,WX,hget q hq2,<- CT hq3]
     rfl
    have hr:=dt d q
    have d1:decide ((1:Int)<=aI d q)=true:=by simp; omega
    have d2:decide ((aI d q:Int)<=4)=true:=by simp; omega
    rw[this,d1,d2]
    simp
   .simp[h8]
  have e5:eY ((List.range d.length).map (aS d)) k=0:=by
   simp only[eY,hget k hk,gR,e1,e2,e3,e4]
   rfl
  rw[e5]
  decide
 rw[Xn.2 hz]
 rfl
theorem Av:∀k:Fin 13,(gS k.val).size<=8:=by decide
theorem CX:∀k:Fin 13,(nc k.val).name.size<=8:=by decide
theorem Aw:∀k:Fin 5,(cC k.val).size<=8:=by decide
theorem HA (a code:Nat):yE a code<=6:=by
 unfold yE
 cases h:(fP a)[code%(fP a).length]? with
 |none=>simp
 |some n=>exact(ki (Wa h)).2
theorem BN (x:Node): -3<=jD x/\jD x<=3:=by
 have:x.a%7<7:=Wt _ (by decide)
 unfold jD
 omega
theorem yJ (k:Nat) (hk:k<=9) (x:Node) (code:Nat):mu 1 (dQ k x code).1.c:=by
 have hlo:=BN x
 have hm:code%(x.b%6+1)<6+1:=W6 (Wt _ (by omega)) (by have:x.b%6<6:=Wt _ (by decide); omega)
 have hid:=HA x.a code
 refine⟨(dQ k x code).1,rfl,?_,?_,?_,?_,?_⟩
 all_goals unfold dQ
 all_goals generalize code%(x.b%6+1)=r at hm |-
 all_goals repeat' split
 all_goals simp[bl,eH,bC,bP,ByteArray.size]
 all_goals first
  |omega
  |(split<;>simp; done)
  |skip
theorem Ax:mu 1 bl.c:=by
 refine⟨bl,rfl,?_,?_,?_,?_,?_⟩<;>simp[bl,eH,bC,bP,ByteArray.size]
theorem E4 (d:List Node) (u:Nat) (p:Part):mu 1 (lz d u p).1.c:=by
 refine yJ _ ?_ _ _
 have:=dt d u
 unfold initK
 split<;>omega
theorem E5 {d:List Node} {i:Nat} {fl:Bool} {id:Nat} {p:Part} (h0:0<d.length) (h5:d.length<=5) (hi:i<d.length) (h1:id<=12) (hh:mY d i id p=true):(dC d i fl id p).ok:=by
 have hs:=Av ⟨id,by omega⟩
 dsimp only at hs
 refine⟨?_,?_,?_,1,?_⟩
 .show eH (id:Int)
  unfold eH
  omega
 .show bC (gS id)
  unfold bC
  omega
 .show eH (fH (cJ d i p.type))
  unfold mY at hh
  cases ht:cJ d i p.type with
  |none=>simp[ht]at hh
  |some u=>
   have:=kh h0 hi ht
   unfold eH fH
   dsimp only
   omega
 .unfold dC
  dsimp only
  split
  .exact E4 _ _ _
  .exact Ax
theorem eh {k:Int} {nm:ByteArray} {lo hi mx key el:Int} {sy:List Sym} {ms:List Mem} {op:Bool} (h1:eH k) (h2:bC nm) (h3:eH lo) (h4:eH hi) (h5:eH mx) (h6:eH key) (h7:eH el) (h8:bP sy) (h9:bP ms) (h10:∀s∈sy,s.ok) (h11:∀m∈ms,m.ok):(⟨k,nm,lo,hi,mx,sy,ms,key,el,op⟩:aH).ok:=⟨⟨h1,h2,h3,h4,h5,h6,h7⟩,⟨h8,h9⟩,h10,h11⟩
theorem BO {d:List Node} {i:Nat} (h0:0<d.length) (h5:d.length<=5) (hi:i<d.length):(aS d i).ok/\(aS d i).short:=by
 have hlo:=BN (nodeAt d i)
 have hb6:(nodeAt d i).b%6<6:=Wt _ (by decide)
 have hhi:lq (nodeAt d i)=jD (nodeAt d i)+(((nodeAt d i).b%6:Nat):Int):=rfl
 have hc:(nodeAt d i).c%d.length<d.length:=Wt _ h0
 have h4:(nodeAt d i).a%4<4:=Wt _ (by decide)
 have hnm:=Aw ⟨i,by omega⟩
 dsimp only at hnm
 have hT:bC (cC i):=by unfold bC; omega
 have hE:bC ⟨#[]⟩:=by unfold bC; exact WA _
 have z:eH 0:=by unfold eH; omega
 have kk:∀k:Int,0<=k->k<=9->eH k:=fun k _ _=>by unfold eH; omega
 have iL:eH (jD (nodeAt d i)):=by unfold eH; omega
 have iH:eH (lq (nodeAt d i)):=by unfold eH; omega
 have iC:eH (((nodeAt d i).c%d.length:Nat):Int):=by unfold eH; omega
 have iA:eH (((nodeAt d i).a%4:Nat):Int):=by unfold eH; omega
 have iK:eH (fH (js d (nodeAt d i).b)):=by
  cases hk:js d (nodeAt d i).b with
  |none=>unfold eH fH; dsimp only; omega
  |some q=>
   have:=pQ h0 hk
   unfold eH fH
   dsimp only
   omega
 have n1:bP ([]:List Sym):=by unfold bP; simp
 have n2:bP ([]:List Mem):=by unfold bP; simp
 have n3:∀s∈([]:List Sym),s.ok:=fun s hs=>by simp at hs
 have n4:∀s∈([]:List Mem),s.ok:=fun s hs=>by simp at hs
 have hsl:(iU (nodeAt d i).a).length<=6:=by
  unfold iU
  rw[Wg]
  exact(jJ _).2
 have sl:bP (iU (nodeAt d i).a):=by unfold bP; omega
 have so:∀s∈iU (nodeAt d i).a,s.ok:=fun s hs=>by
  obtain⟨n,hn,rfl⟩:=Wk.1 hs
  have h6:=ki hn
  have hz:=CX ⟨n,by omega⟩
  dsimp only at hz
  refine⟨?_,?_⟩
  .show eH (n:Int)
   unfold eH
   omega
  .unfold bC
   omega
 have hml:=fun fl=>mZ d i fl (nodeAt d i).parts 12
 have ml:∀fl,bP (bL d i fl (nodeAt d i).parts 12):=fun fl=>by have:=hml fl; unfold bP; omega
 have mo:∀fl,∀m∈bL d i fl (nodeAt d i).parts 12,m.ok:=fun fl m hm=>by
  obtain⟨id,p,rfl,hh,_,_,h12⟩:=kj hm
  exact E5 h0 h5 hi h12 hh
 have hs0:∀t:aH,t.syms.length<=12->t.bc.length<=12->t.short:=fun t a b=>⟨by omega,by omega⟩
 rcases dG d i with hk|hk|hk|hk|hk|hk|hk|hk|hk
 case inr.inr.inr.inr.inr.inl=>
  rw[lA hk]
  split<;>dsimp only[aX]
  .exact⟨eh (kk 5 (by decide) (by decide)) hT z z z z z n1 n2 n3 n4,hs0 _ (WA _) (WA _)⟩
  .exact⟨eh (kk 6 (by decide) (by decide)) hT z z z z z n1 (ml false) n3 (mo false),hs0 _ (WA _) (hml false)⟩
 case inr.inr.inr.inr.inr.inr.inr.inl=>
  rw[nf hk]
  split<;>dsimp only[aX]
  .exact⟨eh (kk 7 (by decide) (by decide)) hE z z iA z iC n1 n2 n3 n4,hs0 _ (WA _) (WA _)⟩
  .exact⟨eh (kk 8 (by decide) (by decide)) hE z z iA iK iC n1 n2 n3 n4,hs0 _ (WA _) (WA _)⟩
 all_goals simp only[aS,hk]
 all_goals dsimp -failIfUnchanged [aX]
 .exact⟨eh (kk 1 (by decide) (by decide)) hE z z z z z n1 n2 n3 n4,hs0 _ (WA _) (WA _)⟩
 .exact⟨eh (kk 2 (by decide) (by decide)) hE iL iH z z z n1 n2 n3 n4,hs0 _ (WA _) (WA _)⟩
 .exact⟨eh (kk 3 (by decide) (by decide)) hE z z iA z z n1 n2 n3 n4,hs0 _ (WA _) (WA _)⟩
 .exact⟨eh (kk 4 (by decide) (by decide)) hT z z z z z sl n2 so n4,hs0 _ (WM hsl (by decide)) (WA _)⟩
 .exact⟨eh (kk 5 (by decide) (by decide)) hT z z z z z n1 (ml true) n3 (mo true),hs0 _ (WA _) (hml true)⟩
 .exact⟨eh (kk 7 (by decide) (by decide)) hE z z iA z iC n1 n2 n3 n4,hs0 _ (WA _) (WA _)⟩
 .exact⟨eh (kk 9 (by decide) (by decide)) hE z z z z iC n1 n2 n3 n4,hs0 _ (WA _) (WA _)⟩
theorem Mr {d:List Node} (h0:0<d.length) (h5:d.length<=5):(∀t∈(List.range d.length).map (aS d),t.ok)/\∀t∈(List.range d.length).map (aS d),t.short:=by
 constructor<;>intro t ht<;>obtain⟨i,hi,rfl⟩:=Wk.1 ht
 .exact(BO h0 h5 (WJ.1 hi)).1
 .exact(BO h0 h5 (WJ.1 hi)).2
section
variable {α:Type} [Inhabited α]
def oV (lt:α->α->Bool) (x y:α):Prop:=lt x y=true\/lt y x=true
omit [Inhabited α] in
theorem oV.symm {lt:α->α->Bool} {x y:α} (h:oV lt x y):oV lt y x:=h.elim .inr .inl
def uZ (lt:α->α->Bool) (x:α) (l:List α):Nat->Nat
 |0=>0
 |p+1=>if lt x (l.getD p default)=true then uZ lt x l p else p+1
def kE (x:α) (l:List α) (p:Nat):List α:=l.take p++x::l.drop p
def tY (lt:α->α->Bool) (x:α) (l:List α):List α:=kE x l (uZ lt x l l.length)
theorem Ay (lt:α->α->Bool) (x:α) (l:List α):∀q,uZ lt x l q<=q
 |0=>Wj _
 |q+1=>by
  have:=Ay lt x l q
  unfold uZ
  split<;>omega
omit [Inhabited α] in
theorem sR (x:α) (l:List α) (p:Nat) (h:p<=l.length):(kE x l p).length=l.length+1:=by simp[kE]; omega
theorem yK (lt:α->α->Bool) (x:α) (l:List α):(tY lt x l).length=l.length+1:=sR x l _ (Ay lt x l _)
omit [Inhabited α] in
theorem BP (x:α) (l:List α) (p:Nat) (h:p<=l.length):(kE x l p)[p]?=some x:=by
 unfold kE
 rw[List.getElem?_append_right (by simp; omega)]
 simp[Nat.min_eq_left h]
theorem Az (x:α) (l:List α) (p:Nat) (h:p<l.length):(kE x l (p+1))[p]?=some (l.getD p default):=by
 unfold kE
 rw[List.getElem?_append_left (by simp; omega),List.getElem?_take,if_pos (by omega)]
 simp[h]
theorem CY (x:α) (l:List α) (p:Nat) (h:p<l.length):((kE x l (p+1)).set (p+1) (l.getD p default)).set p x=kE x l p:=by
 apply WW
 intro i
 have h1:=sR x l (p+1) (by omega)
 by_cases ip:i=p
 .subst ip
  rw[BP x l i (by omega),List.getElem?_set_self (by simp[h1]; omega)]
 .rw[Xk (Ne.symm ip)]
  by_cases iq:i=p+1
  .subst iq
   rw[WU (by rw[h1]; omega)]
   unfold kE
   rw[List.getElem?_append_right (by simp; omega)]
   simp[Nat.min_eq_left (Nat.le_of_lt h),h]
  .rw[Xk (Ne.symm iq)]
   unfold kE
   rcases Wh i p with hi|hi
   .rw[List.getElem?_append_left (by simp; omega),List.getElem?_append_left (by simp; omega),List.getElem?_take,List.getElem?_take,if_pos (by omega),if_pos hi]
   .rw[List.getElem?_append_right (by simp; omega),List.getElem?_append_right (by simp; omega)]
    obtain⟨q,rfl⟩:∃q,i=p+2+q:=⟨i - (p+2),by omega⟩
    simp only[List.length_take,Nat.min_eq_left (Nat.le_of_lt h),Nat.min_eq_left (Nat.succ_le_of_lt h)]
    rw[show p+2+q - (p+1)=q+1 by omega,show p+2+q - p=q+2 by omega]
    simp only[List.getElem?_cons_succ,List.getElem?_drop]
    congr 1
    omega
omit [Inhabited α] in
theorem CZ (x:α) (l:List α) (p:Nat):(kE x l p).Perm (x::l):=by
 unfold kE
 refine(List.perm_middle).trans ?_
 rw[XG]
theorem u0 (lt:α->α->Bool) (x:α) (l:List α):(tY lt x l).Perm (x::l):=CZ x l _
theorem u5 (lt:α->α->Bool) (x:α) (l:List α):∀q j,uZ lt x l q<=j->j<q->lt x (l.getD j default)=true
 |0,j,_,h=>absurd h (Xo _)
 |q+1,j,h1,h2=>by
  unfold uZ at h1
  split at h1
  .rename_i h
   rcases Wh j q with h3|h3
   .exact u5 lt x l q j h1 h3
   .obtain rfl:j=q:=by omega
    exact h
  .omega
theorem yL (lt:α->α->Bool) (x:α) (l:List α):∀q p,uZ lt x l q=p+1->lt x (l.getD p default)=false
 |0,p,h=>by simp[uZ]at h
 |q+1,p,h=>by
  unfold uZ at h
  split at h
  .exact yL lt x l q p h
  .rename_i hn
   obtain rfl:p=q:=by omega
   simpa using hn
theorem yM {lt:α->α->Bool} (tr:∀x y z,lt x y=true->lt y z=true->lt x z=true) {x:α} {l:List α} (hl:l.Pairwise (fun a b=>lt a b=true)) (hx:∀y∈l,oV lt x y):(tY lt x l).Pairwise (fun a b=>lt a b=true):=by
 have hle:=Ay lt x l l.length
 have hup:∀y∈l.drop (uZ lt x l l.length),lt x y=true:=fun y hy=>by
  obtain⟨j,hj,rfl⟩:=Xg hy
  rw[List.length_drop]at hj
  have:=u5 lt x l l.length (uZ lt x l l.length+j) (by omega) (by omega)
  rw[List.getElem_drop]
  simpa [show uZ lt x l l.length+j<l.length by omega]using this
 have hlo:∀y∈l.take (uZ lt x l l.length),lt y x=true:=fun y hy=>by
  obtain⟨j,hj,rfl⟩:=Xg hy
  rw[W8]at hj
  obtain⟨p,hp⟩:∃p,uZ lt x l l.length=p+1:=⟨uZ lt x l l.length - 1,by omega⟩
  have hst:=yL lt x l _ _ hp
  have hpl:p<l.length:=by omega
  have e1:l.getD p default=l[p]:=by simp[hpl]
  rw[e1]at hst
  have h1:lt l[p] x=true:=(hx l[p] (List.getElem_mem _)).resolve_left (by simp[hst])
  rw[List.getElem_take]
  rcases Wh j p with h|h
  .exact tr _ _ _ (Xd.1 hl j p (by omega) hpl h) h1
  .obtain rfl:j=p:=by omega
   exact h1
 unfold tY kE
 rw[List.pairwise_append,Wv]
 refine⟨hl.sublist (List.take_sublist _ _),⟨hup,hl.sublist (List.drop_sublist _ _)⟩,fun a ha b hb=>?_⟩
 rcases WG.1 hb with rfl|hb
 .exact hlo a ha
 .exact tr _ _ _ (hlo a ha) (hup b hb)
def mA (lt:α->α->Bool) (l:List α):List α:=l.foldl (fun o x=>tY lt x o) []
theorem sS (lt:α->α->Bool):∀(l o:List α),(l.foldl (fun o x=>tY lt x o) o).Perm (o++l)
 |[],o=>by simp
 |x::l,o=>by
  rw[Xp]
  refine(sS lt l _).trans ?_
  refine((u0 lt x o).append_right l).trans ?_
  exact(List.perm_middle (a:=x) (l₁:=o) (l₂:=l)).symm
theorem kl (lt:α->α->Bool) (l:List α):(mA lt l).Perm l:=sS lt l []
theorem oA {lt:α->α->Bool} (tr:∀x y z,lt x y=true->lt y z=true->lt x z=true):∀{l o:List α},o.Pairwise (fun a b=>lt a b=true)->l.Pairwise (oV lt)->(∀x∈l,∀y∈o,oV lt x y)->(l.foldl (fun o x=>tY lt x o) o).Pairwise (fun a b=>lt a b=true)
 |[],_,h,_,_=>h
 |x::l,o,h,hl,hx=>by
  rw[Wv]at hl
  rw[Xp]
  refine oA tr (yM tr h (hx x (by simp))) hl.2 fun z hz y hy=>?_
  rcases WG.1 ((u0 lt x o).subset hy)with rfl|hy
  .exact(hl.1 z hz).symm
  .exact hx z (by simp[hz]) y hy
theorem oB {lt:α->α->Bool} (tr:∀x y z,lt x y=true->lt y z=true->lt x z=true) {l:List α} (hl:l.Pairwise (oV lt)):(mA lt l).Pairwise (fun a b=>lt a b=true):=oA tr List.Pairwise.nil hl (fun _ _ _ h=>absurd h (by simp))
omit [Inhabited α] in
theorem E6 {lt:α->α->Bool} (tr:∀x y z,lt x y=true->lt y z=true->lt x z=true) {x:α}:∀{l:List α},l.Pairwise (fun a b=>lt a b=true)->(∀y∈l,oV lt x y)->(ins lt x l).Pairwise (fun a b=>lt a b=true)
 |[],_,_=>XC _ _
 |y::r,h,hx=>by
  obtain⟨h1,h2⟩:=Wv.1 h
  unfold ins
  split
  .rename_i hc
   refine List.pairwise_cons.2 ⟨fun z hz=>?_,E6 tr h2 (fun z hz=>hx z (by simp[hz]))⟩
   rcases WG.1 ((oe lt x r).subset hz)with rfl|hz
   .exact hc
   .exact h1 z hz
  .rename_i hc
   have hxy:lt x y=true:=(hx y (by simp)).resolve_right (by simpa using hc)
   refine Wv.2 ⟨fun z hz=>?_,h⟩
   rcases WG.1 hz with rfl|hz
   .exact hxy
   .exact tr _ _ _ hxy (h1 z hz)
omit [Inhabited α] in
theorem oC {lt:α->α->Bool} (tr:∀x y z,lt x y=true->lt y z=true->lt x z=true):∀{l:List α},l.Pairwise (oV lt)->(dp lt l).Pairwise (fun a b=>lt a b=true)
 |[],_=>List.Pairwise.nil
 |x::l,h=>by
  obtain⟨h1,h2⟩:=Wv.1 h
  exact E6 tr (oC tr h2) fun y hy=>h1 y ((dc lt l).subset hy)
omit [Inhabited α] in
theorem u6 {lt:α->α->Bool}:∀{l:List α},l.Pairwise (fun a b=>lt a b=true)->rising lt l=true
 |[],_=>rfl
 |[_],_=>rfl
 |x::y::r,h=>by
  obtain⟨h1,h2⟩:=Wv.1 h
  simp only[rising,Bool.and_eq_true]
  exact⟨h1 y (by simp),u6 h2⟩
omit [Inhabited α] in
theorem BQ {lt:α->α->Bool} (irr:∀x,lt x x=false) (tr:∀x y z,lt x y=true->lt y z=true->lt x z=true) {l m:List α} (hl:l.Pairwise (fun a b=>lt a b=true)) (hm:m.Pairwise (fun a b=>lt a b=true)) (h:∀x,x∈l↔x∈m):l=m:=
 EN (r:=fun a b=>lt a b=true) (fun x=>by simp[irr x]) tr hl hm h
theorem yN {lt:α->α->Bool} (irr:∀x,lt x x=false) (tr:∀x y z,lt x y=true->lt y z=true->lt x z=true) {l:List α} (hl:l.Pairwise (oV lt)):mA lt l=dp lt l:=
 BQ irr tr (oB tr hl) (oC tr hl) fun _=>((kl lt l).trans (dc lt l).symm).mem_iff
end
end Go.Pv
namespace Go.Pv
theorem r66 {Pr:bm} (x:Int):res A Pr 66 [.int .i64 x]=some [.bool false]:=by
 refine aw a66 rfl rfl ?_
 simp only[F66,Uw]
 simp(disch:=omega)only[go_sem]
theorem r60 {Pr:bm} (hp:Pr 66=none) (x y:Int):res A Pr 60 [.int .i64 x,.int .i64 y]=some [.int .i64 (hU x y)]:=by
 refine aw a60 rfl rfl ?_
 simp only[F60,Uu]
 simp(disch:=omega)only[go_sem,yb (by kernel_rfl) hp UC,r66]
 unfold hU
 refine Br.aJ (fun h=>?_) (fun h=>?_)<;>simp(disch:=omega)only[go_sem,h]
 refine Br.aJ (fun h2=>?_) (fun h2=>?_)<;>simp(disch:=omega)only[go_sem,h,h2]
theorem r58 {Pr:bm} (a:Edge):res A Pr 58 [.agg a.c]=some [.int .i64 a.side]:=by
 refine aw a58 rfl rfl ?_
 simp only[F58,Us]
 simp(disch:=omega)only[go_sem]
 unfold Edge.side
 refine Br.of (fun h=>?_) (fun h=>?_)<;>simp(disch:=omega)only[go_sem,h]
def E7:List Int->Int
 |[]=>0
 |x::r=>if x≠0 then x else E7 r
theorem fL {α:Type} {l:List α} {k:Nat} {x:α} (h:l[k]?=some x):l.drop k=x::l.drop (k+1):=by
 obtain⟨h1,h2⟩:=V9.1 h
 rw[List.drop_eq_getElem_cons h1,h2]
theorem get_at {α:Type} {l:List α} {k:Nat} (h:k<l.length):∃x,l[k]?=some x:=⟨_,Wb h⟩
theorem jK {α:Type} {l:List α} {k:Nat} (h:¬(k:Int)<l.length):l.drop k=[]:=List.drop_eq_nil_of_le (by omega)
theorem r59 {Pr:bm} (t:Nat) (l:List Int) (hl:l.length<1000):res A Pr 59 [.aq t (ints l)]=some [.int .i64 (E7 l)]:=by
 refine aw a59 rfl rfl ?_
 simp only[F59,Ut]
 simp(disch:=omega)only[go_sem]
 refine W.fv l.length (fun k=>⟨[(3,.pv (.int .i64 0)),(6,.pv (.aq t (ints l))),(7,.pv (.int .i64 l.length)),(8,.pv (.int .i64 k))],⟨[],[],[]⟩⟩) (fun k=>E7 l=E7 (l.drop k)) rfl rfl fun k hk hi=>?_
 simp(disch:=omega)only[go_sem]
 refine Br.aJ (fun h=>?_) (fun h=>?_)
 .obtain⟨x,hx⟩:=get_at (l:=l) (k:=k) (by omega)
  rw[fL hx,E7]at hi
  simp(disch:=omega)only[go_sem,hx]
  refine Br.aJ (fun h1=>?_) (fun h1=>?_)<;>simp(disch:=omega)only[go_sem]
  .exact .of (by omega) rfl (by simpa [h1]using hi)
  .simp[hi,h1]
 .simp(disch:=omega)only[go_sem]
  simp[hi,jK h,E7]
theorem r47 {Pr:bm} (h66:Pr 66=none) (h60:Pr 60=none) (h59:Pr 59=none) (h58:Pr 58=none) (a b:Edge):res A Pr 47 [.agg a.c,.agg b.c]=some [.int .i64 (Edge.cmp a b)]:=by
 refine aw a47 rfl rfl ?_
 simp only[F47,Ul]
 have e59:=fun x y z=>r59 (Pr:=Pr) 0 [x,y,z] (by simp)
 simp only[ints,List.map_cons,List.map_nil]at e59
 have e58:=fun x=>r58 (Pr:=Pr) x
 simp only[Edge.c]at e58
 simp(disch:=omega)only[go_sem,yb (by kernel_rfl) h60 UB,yb (by kernel_rfl) h59 UA,yb (by kernel_rfl) h58 Uz,r60 h66,e58 a,e58 b,e59]
 by_cases h:hU a.label b.label=0<;>simp[E7,Edge.cmp,h]
@[go_sem] theorem r44 (a b:Edge):res A aA 44 [.agg [.int .i64 a.fr,.bool a.send,.int .i64 a.label,.int .i64 a.to],.agg [.int .i64 b.fr,.bool b.send,.int .i64 b.label,.int .i64 b.to]]=some [.bool (Edge.lt a b)]:=by
 refine aw a44 rfl rfl ?_
 simp only[F44,Ui]
 simp(disch:=omega)only[go_sem]
 unfold Edge.lt
 by_cases h:a.fr=b.fr<;>by_cases h2:a.send=b.send<;>simp(disch:=omega)only[go_sem,h,h2,ne_eq,not_true_eq_false,not_false_eq_true]
theorem aP.E8 {a:aP} (h1:a.aj<=12) (h2:a.af.length<=100) (h3:0<=a.start/\a.start<a.aj):a.err=if sF a.aj none a.af=true then 0 else 1:=by
 unfold aP.err
 rw[if_neg (by omega),if_pos h3]
theorem aP.l8 {a:aP} (h1:a.aj<=12) (h2:a.af.length<=100) (h3:¬(0<=a.start/\a.start<a.aj)):a.err=1:=by
 unfold aP.err
 rw[if_neg (by omega),if_neg h3]
theorem aP.l9 {a:aP} (h:12<a.aj\/100<a.af.length):a.err=3:=by
 unfold aP.err
 rw[if_pos h]
theorem E9 {n:Int} {p:Option Edge} {e:Edge} {r:List Edge} (h:e.fits n=false):sF n p (e::r)=false:=by simp[sF,h]
set_option maxHeartbeats 1000000 in
@[go_sem] theorem r26 (t:Nat) (a:aP) (hl:a.af.length<=2^63 - 1):res A aA 26 [.agg [.int .i64 a.aj,.int .i64 a.start,.aq t (a.af.map Edge.c)]]=some [.int .i64 a.err]:=by
 refine aw a26 rfl rfl ?_
 simp only[F26,Ua]
 simp(disch:=omega)only[go_sem]
 refine Br.aJ (fun h1=>?_) (fun h1=>?_)<;>simp(disch:=omega)only[go_sem,h1]
 .rw[aP.l9 (.inl h1)]
 refine Br.aJ (fun h2=>?_) (fun h2=>?_)<;>simp(disch:=omega)only[go_sem,h2]
 .rw[aP.l9 (.inr (by omega))]
 refine Br.aJ (fun h3=>?_) (fun h3=>?_)<;>simp(disch:=omega)only[go_sem,h3]
 .rw[aP.l8 (by omega) (by omega) (by omega)]
 refine Br.aJ (fun h4=>?_) (fun h4=>?_)<;>simp(disch:=omega)only[go_sem,h4]
 .rw[aP.l8 (by omega) (by omega) (by omega)]
 refine Br.aJ (fun h5=>?_) (fun h5=>?_)<;>simp(disch:=omega)only[go_sem,h5]
 .rw[aP.l8 (by omega) (by omega) (by omega)]
 rw[aP.E8 (by omega) (by omega) (by omega)]
 refine W.fv a.af.length (fun k=>⟨[(1,.ptr 1 0),(3,.pv (.int .i64 k))],⟨[(1,[.pv (.int .i64 a.aj),.pv (.int .i64 a.start),.pv (.aq t (a.af.map Edge.c))])],[],[]⟩⟩) (fun k=>sF a.aj none a.af=sF a.aj (pI a.af k) (a.af.drop k)) rfl rfl fun k hk hi=>?_
 simp(disch:=omega)only[go_sem]
 refine Br.aJ (fun h=>?_) (fun h=>?_)
 .obtain⟨e,he⟩:=get_at (l:=a.af) (k:=k) (by omega)
  rw[fL he]at hi
  have bad:e.fits a.aj=false->sF a.aj none a.af=false:=fun hb=>hi.trans (E9 hb)
  simp(disch:=omega)only[go_sem,he]
  refine Br.aJ (fun g1=>?_) (fun g1=>?_)<;>simp(disch:=omega)only[go_sem,g1]
  .rw[bad (by simp[Edge.fits]; omega)]; rfl
  refine Br.aJ (fun g2=>?_) (fun g2=>?_)<;>simp(disch:=omega)only[go_sem,g2]
  .rw[bad (by simp[Edge.fits]; omega)]; rfl
  refine Br.aJ (fun g3=>?_) (fun g3=>?_)<;>simp(disch:=omega)only[go_sem,g3]
  .rw[bad (by simp[Edge.fits]; omega)]; rfl
  refine Br.aJ (fun g4=>?_) (fun g4=>?_)<;>simp(disch:=omega)only[go_sem,g4]
  .rw[bad (by simp[Edge.fits]; omega)]; rfl
  refine Br.aJ (fun g5=>?_) (fun g5=>?_)<;>simp(disch:=omega)only[go_sem,g5]
  .rw[bad (by simp[Edge.fits]; omega)]; rfl
  refine Br.aJ (fun g6=>?_) (fun g6=>?_)<;>simp(disch:=omega)only[go_sem,g6]
  .rw[bad (by simp[Edge.fits]; omega)]; rfl
  have fit:e.fits a.aj=true:=by simp[Edge.fits]; omega
  refine Br.aJ (fun g7=>?_) (fun g7=>?_)<;>simp(disch:=omega)only[go_sem,g7]
  .obtain⟨j,rfl⟩:∃j,k=j+1:=⟨k - 1,by omega⟩
   obtain⟨d,hd⟩:=get_at (l:=a.af) (k:=j) (by omega)
   have hj:((j+1:Nat):Int) - 1=(j:Int):=by omega
   rw[fp,hd]at hi
   simp(disch:=omega)only[go_sem,hj,hd]
   refine Br.of (fun g8=>?_) (fun g8=>?_)<;>simp(disch:=omega)only[go_sem]
   .exact .of (by omega) rfl (by rw[hi,fp,he]; simp[sF,fit,g8])
   .rw[hi]; simp[sF,g8]
  .obtain rfl:k=0:=by omega
   exact .of (by omega) rfl (by rw[hi,fp,he]; simp[sF,fit,pI])
 .simp(disch:=omega)only[go_sem]
  rw[hi,jK h]
  rfl
@[go_sem] theorem r47a (a b:Edge):res A aA 47 [.agg [.int .i64 a.fr,.bool a.send,.int .i64 a.label,.int .i64 a.to],.agg [.int .i64 b.fr,.bool b.send,.int .i64 b.label,.int .i64 b.to]]=some [.int .i64 (Edge.cmp a b)]:=
 r47 (by kernel_rfl) (by kernel_rfl) (by kernel_rfl) (by kernel_rfl) a b
@[go_sem] theorem r46 (n s:Int) (t:Nat) (cs:List PV):res A aA 46 [.int .i64 n,.ro t (.int .i64 s::cs)]=some [.bool (decide (0<=n)&&decide (n<s))]:=by
 refine aw a46 rfl rfl ?_
 simp only[F46,Uk]
 simp(disch:=omega)only[go_sem]
 refine Br.aJ (fun h1=>?_) (fun h1=>?_)<;>simp(disch:=omega)only[go_sem,h1]
theorem BR {e:Edge} {n:Int}:e.fits n=(((decide (0<=e.fr)&&decide (e.fr<n))&&(decide (0<=e.to)&&decide (e.to<n)))&&(decide (1<=e.label)&&decide (e.label<=1000))):=by
 simp[Edge.fits,Bool.and_assoc]
set_option maxHeartbeats 2000000 in
@[go_sem] theorem r29 (t:Nat) (a:aP) (hl:a.af.length<=2^63 - 1):res A aA 29 [.agg [.int .i64 a.aj,.int .i64 a.start,.aq t (a.af.map Edge.c)]]=some [.int .i64 a.err]:=by
 refine aw a29 rfl rfl ?_
 simp only[F29,Ub]
 simp(disch:=omega)only[go_sem]
 refine Br.aJ (fun h1=>?_) (fun h1=>?_)<;>simp(disch:=omega)only[go_sem,h1]
 .rw[aP.l9 (.inl h1)]
 refine Br.aJ (fun h2=>?_) (fun h2=>?_)<;>simp(disch:=omega)only[go_sem,h2]
 .rw[aP.l9 (.inr (by omega))]
 refine Br.of (fun h3=>?_) (fun h3=>?_)<;>simp at h3<;>simp(disch:=omega)only[go_sem]
 case refine_2=>rw[aP.l8 (by omega) (by omega) (by omega)]
 rw[aP.E8 (by omega) (by omega) (by omega)]
 refine W.fv a.af.length (fun k=>⟨[(1,.ptr 1 0),(3,.func 46 [.ptr 1 0]),(22,.pv (.aq t (a.af.map Edge.c))),(23,.pv (.int .i64 a.af.length)),(24,.pv (.int .i64 k))],⟨[(1,[.pv (.int .i64 a.aj),.pv (.int .i64 a.start),.pv (.aq t (a.af.map Edge.c))])],[],[]⟩⟩) (fun k=>sF a.aj none a.af=sF a.aj (pI a.af k) (a.af.drop k)) rfl rfl fun k hk hi=>?_
 simp(disch:=omega)only[go_sem]
 refine Br.aJ (fun h=>?_) (fun h=>?_)
 .obtain⟨e,he⟩:=get_at (l:=a.af) (k:=k) (by omega)
  rw[fL he]at hi
  have bad:e.fits a.aj=false->sF a.aj none a.af=false:=fun hb=>hi.trans (E9 hb)
  rw[BR]at bad
  simp(disch:=omega)only[go_sem,he]
  refine Br.of (fun g1=>?_) (fun g1=>?_)<;>simp(disch:=omega)only[go_sem,g1]
  case refine_2=>rw[bad (by rw[g1]; rfl)]; rfl
  refine Br.of (fun g2=>?_) (fun g2=>?_)<;>simp(disch:=omega)only[go_sem,g2]
  case refine_2=>rw[bad (by rw[g1,g2]; rfl)]; rfl
  refine Br.aJ (fun g3=>?_) (fun g3=>?_)<;>simp(disch:=omega)only[go_sem,g3]
  .rw[bad (by simp; omega)]; rfl
  refine Br.aJ (fun g4=>?_) (fun g4=>?_)<;>simp(disch:=omega)only[go_sem,g4]
  .rw[bad (by simp; omega)]; rfl
  have fit:e.fits a.aj=true:=by rw[BR,g1,g2]; simp; omega
  refine Br.aJ (fun g7=>?_) (fun g7=>?_)<;>simp(disch:=omega)only[go_sem,g7]
  .obtain⟨j,rfl⟩:∃j,k=j+1:=⟨k - 1,by omega⟩
   obtain⟨d,hd⟩:=get_at (l:=a.af) (k:=j) (by omega)
   have hj:((j+1:Nat):Int) - 1=(j:Int):=by omega
   rw[fp,hd]at hi
   simp(disch:=omega)only[go_sem,hj,hd,Edge.Kv]
   refine Br.of (fun g8=>?_) (fun g8=>?_)<;>simp(disch:=omega)only[go_sem]
   .exact .of (by omega) rfl (by rw[hi,fp,he]; simp[sF,fit,g8])
   .rw[hi]; simp[sF,g8]
  .obtain rfl:k=0:=by omega
   exact .of (by omega) rfl (by rw[hi,fp,he]; simp[sF,fit,pI])
 .simp(disch:=omega)only[go_sem]
  rw[hi,jK h]
  rfl
def cO (s:Int) (d:Bool) (x:Int):List Edge->Option Int
 |[]=>none
 |e::r=>if e.fr=s/\e.send=d/\e.label=x then some e.to else cO s d x r
@[go_sem] theorem r45 (t:Nat) (a:aP) (s:Int) (d:Bool) (x:Int) (hl:a.af.length<=2^63 - 1):
  res A aA 45 [.agg [.int .i64 a.aj,.int .i64 a.start,.aq t (a.af.map Edge.c)],.int .i64 s,.bool d,.int .i64 x]=some [.int .i64 ((cO s d x a.af).getD 0),.bool (cO s d x a.af).isSome]:=by
 refine aw a45 rfl rfl ?_
 simp only[F45,Uj]
 simp(disch:=omega)only[go_sem]
 refine W.fv a.af.length (fun k=>⟨[(1,.pv (.int .i64 s)),(2,.pv (.bool d)),(3,.pv (.int .i64 x)),(13,.pv (.aq t (a.af.map Edge.c))),(14,.pv (.int .i64 a.af.length)),(15,.pv (.int .i64 k))],⟨[],[],[]⟩⟩) (fun k=>cO s d x a.af=cO s d x (a.af.drop k)) rfl rfl fun k hk hi=>?_
 simp(disch:=omega)only[go_sem]
 refine Br.aJ (fun h=>?_) (fun h=>?_)
 .obtain⟨e,he⟩:=get_at (l:=a.af) (k:=k) (by omega)
  rw[fL he]at hi
  have no:¬(e.fr=s/\e.send=d/\e.label=x)->cO s d x a.af=cO s d x (a.af.drop (k+1)):=fun hn=>hi.trans (by simp only[cO,if_neg hn])
  have yes:(e.fr=s/\e.send=d/\e.label=x)->cO s d x a.af=some e.to:=fun hn=>hi.trans (by simp only[cO,if_pos hn])
  simp(disch:=omega)only[go_sem,he]
  refine Br.aJ (fun g1=>?_) (fun g1=>?_)<;>simp(disch:=omega)only[go_sem,g1]
  .refine Br.aJ (fun g2=>?_) (fun g2=>?_)<;>simp(disch:=omega)only[go_sem,g2]
   .refine Br.aJ (fun g3=>?_) (fun g3=>?_)<;>simp(disch:=omega)only[go_sem,g3]
    .rw[yes ⟨g1,g2,g3⟩]
     rfl
    .exact .of (by omega) rfl (no (fun hn=>g3 hn.2.2))
   .exact .of (by omega) rfl (no (fun hn=>g2 hn.2.1))
  .exact .of (by omega) rfl (no (fun hn=>g1 hn.1))
 .simp(disch:=omega)only[go_sem]
  rw[hi,jK h]
  rfl
@[go_sem] theorem r39 (t:Nat) (a:aP) (s:Int) (d:Bool) (x:Int) (hl:a.af.length<=2^63 - 1):
  res A aA 39 [.agg [.int .i64 a.aj,.int .i64 a.start,.aq t (a.af.map Edge.c)],.int .i64 s,.bool d,.int .i64 x]=some [.int .i64 ((cO s d x a.af).getD 0),.bool (cO s d x a.af).isSome]:=by
 refine aw a39 rfl rfl ?_
 simp only[F39,Ug]
 simp(disch:=omega)only[go_sem]
 refine W.fv a.af.length (fun k=>⟨[(1,.pv (.int .i64 s)),(2,.pv (.bool d)),(3,.pv (.int .i64 x)),(4,.ptr 4 0),(10,.pv (.int .i64 k))],⟨[(4,[.pv (.int .i64 a.aj),.pv (.int .i64 a.start),.pv (.aq t (a.af.map Edge.c))])],[],[]⟩⟩) (fun k=>cO s d x a.af=cO s d x (a.af.drop k)) rfl rfl fun k hk hi=>?_
 simp(disch:=omega)only[go_sem]
 refine Br.aJ (fun h=>?_) (fun h=>?_)
 .obtain⟨e,he⟩:=get_at (l:=a.af) (k:=k) (by omega)
  rw[fL he]at hi
  have no:¬(e.fr=s/\e.send=d/\e.label=x)->cO s d x a.af=cO s d x (a.af.drop (k+1)):=fun hn=>hi.trans (by simp only[cO,if_neg hn])
  have yes:(e.fr=s/\e.send=d/\e.label=x)->cO s d x a.af=some e.to:=fun hn=>hi.trans (by simp only[cO,if_pos hn])
  simp(disch:=omega)only[go_sem,he]
  refine Br.aJ (fun g1=>?_) (fun g1=>?_)<;>simp(disch:=omega)only[go_sem,g1]
  .refine Br.aJ (fun g2=>?_) (fun g2=>?_)<;>simp(disch:=omega)only[go_sem,g2]
   .refine Br.aJ (fun g3=>?_) (fun g3=>?_)<;>simp(disch:=omega)only[go_sem,g3]
    .rw[yes ⟨g1,g2,g3⟩]
     rfl
    .exact .of (by omega) rfl (no (fun hn=>g3 hn.2.2))
   .exact .of (by omega) rfl (no (fun hn=>g2 hn.2.1))
  .exact .of (by omega) rfl (no (fun hn=>g1 hn.1))
 .simp(disch:=omega)only[go_sem]
  rw[hi,jK h]
  rfl
def Fa (s:Int):List Edge->Bool
 |[]=>true
 |e::r=>if e.fr=s then false else Fa s r
def AA (es:List Edge):Nat->List Int
 |0=>[]
 |k+1=>if Fa k es then AA es k++[(k:Int)] else AA es k
def aP.ends (a:aP):List Int:=if a.aj<=12 then AA a.af a.aj.toNat else []
def ei (x:Int):Nat->List Int->Int
 |_,[]=> -1
 |k,y::r=>if y=x then k else ei x (k+1) r
def jM (x:Int) (l:List Int):Int:=ei x 0 l
@[go_sem] theorem r53 (t:Nat) (l:List Int) (x:Int) (hl:l.length<=2^63 - 1):res A aA 53 [.aq t (ints l),.int .i64 x]=some [.int .i64 (jM x l)]:=by
 refine aw a53 rfl rfl ?_
 simp only[F53,Uo]
 simp(disch:=omega)only[go_sem]
 refine W.fv l.length (fun k=>⟨[(0,.pv (.aq t (ints l))),(1,.pv (.int .i64 x)),(5,.pv (.int .i64 k))],⟨[],[],[]⟩⟩) (fun k=>jM x l=ei x k (l.drop k)) rfl rfl fun k hk hi=>?_
 simp(disch:=omega)only[go_sem]
 refine Br.aJ (fun h=>?_) (fun h=>?_)
 .obtain⟨y,hy⟩:=get_at (l:=l) (k:=k) (by omega)
  rw[fL hy]at hi
  simp(disch:=omega)only[go_sem,hy]
  refine Br.aJ (fun g1=>?_) (fun g1=>?_)<;>simp(disch:=omega)only[go_sem,g1]
  .rw[hi]
   simp only[ei,if_pos g1]
  .exact .of (by omega) rfl (hi.trans (by simp only[ei,if_neg g1]))
 .simp(disch:=omega)only[go_sem]
  rw[hi,jK h]
  rfl
@[go_sem] theorem Ms (a b c d:Nat):distinct (dT [.own a b c d])=true:=rfl
inductive AB where
 |e
 |a (x:Int) (l:List Int)
 |b (x:Int) (l:List Int)
 |ab (x:Int) (l:List Int) (y:Int) (r:List Int)
 |ba (x:Int) (l:List Int) (y:Int) (r:List Int)
def ow (i:Nat) (l:List Int):V:=.own i l.length 0 (l.length+1)
def ao (x:Int) (l:List Int):aL:=⟨l.length,1,.inl (ints (x::l))⟩
def AB.v0:AB->V
 |.e|.b _ _=>.tl []
 |.a _ l|.ab _ l _ _=>ow 0 l
 |.ba _ l _ _=>ow 1 l
def AB.v1:AB->V
 |.e|.a _ _=>.tl []
 |.b _ l|.ba _ _ _ l=>ow 0 l
 |.ab _ _ _ r=>ow 1 r
def AB.ar:AB->List aL
 |.e=>[]
 |.a x l|.b x l=>[ao x l]
 |.ab x l y r=>[ao x l,ao y r]
 |.ba x l y r=>[ao y r,ao x l]
def AB.l0:AB->List Int
 |.e|.b _ _=>[]
 |.a x l|.ab x l _ _|.ba x l _ _=>x::l
def AB.l1:AB->List Int
 |.e|.a _ _=>[]
 |.b x l|.ab _ _ x l|.ba _ _ x l=>x::l
def AB.put (s:Bool) (z:Int):AB->AB
 |.e=>if s then .b z [] else .a z []
 |.a x l=>if s then .ab x l z [] else .a x (l++[z])
 |.b x l=>if s then .b x (l++[z]) else .ba z [] x l
 |.ab x l y r=>if s then .ab x l y (r++[z]) else .ab x (l++[z]) y r
 |.ba x l y r=>if s then .ba x l y (r++[z]) else .ba x (l++[z]) y r
def AB.len (t:AB):Nat:=t.l0.length+t.l1.length
@[go_sem] theorem Pc (h:aa):gL [.tl []] h=some (.dy [],{}):=rfl
def BS (id ax len:Nat) (a:aL):Option (List PV×Option (Nat×aL)):=
 if a.size=len/\a.k≠0 then (match a.body with
   |.inl rows=>some ([.fr a.k rows],some (id,⟨ax+1,0,.inl []⟩))
   |.inr _=>none) else none
theorem sT {x:Int}:∀{l:List Int} {k:Nat},ei x k l<0↔x∉l
 |[],k=>by simp[ei]
 |y::r,k=>by
  unfold ei
  split
  .rename_i h
   subst h
   simp
  .rename_i h
   rw[sT]
   simp only[List.mem_cons,not_or]
   exact⟨fun h2=>⟨fun e=>h e.symm,h2⟩,fun h2=>h2.2⟩
theorem oD {x:Int} {l:List Int}:jM x l<0↔x∉l:=sT
theorem rp {x:Int} {l:List Int}:0<=jM x l↔x∈l:=by
 rw[<- Int.not_lt,oD]
 simp
def BT (l:List mi):List Int:=l.flatMap fun c=>[c.ud,c.rep]
def UP (l:List gI):List Int:=l.map (·.ty)
def HB (l:List eE):List Int:=l.flatMap fun w=>UP w.msgs
def HC (l:List mj):List Int:=l.map (·.ty)
@[go_sem] theorem Pd (g:bJ->V) (h:aa) (k t:Nat) (rows:List (List PV)) (hi:bJ):
  di g h k (.pv (.aq t rows)) none (some hi) none=if aO k (.inl rows)=true then (intOf (g hi)).bind fun i=>Ah i rows.length (.pv (.aq t (rows.take i.toNat)),{}) else none:=by
 cases hf:aO k (.inl rows)with
 |false=>simp[di,hf]
 |true=>
  cases hj:intOf (g hi)with
  |none=>simp[di,hf,bounds,bound,hj]
  |some i=>by_cases h0:0<=i/\i<=rows.length<;>simp[di,hf,bounds,bound,hj,h0,Ah]
def lB (t u x y:Nat) (v:ij):List PV:=[.str v.name,.aq t (v.types.map aH.c),.aq u (ch v.calls),.aq x (aG v.aG),.aq y (df v.aT)]
theorem r447 (t:Nat) (w:mi) (nm:ByteArray):res A aA 447 [.agg w.c,.ro t [.str nm]]=some [.bool (decide (w.name=nm))]:=by
 refine aw a447 rfl rfl ?_
 simp only[F447,Ll]
 simp(disch:=omega)only[go_sem]
theorem r446 (t u:Nat) (l:List mi) (nm:ByteArray) (hl:l.length<=2^63 - 1):res A aA 446 [.aq t (ch l),.func 447 [.ro u [.str nm]]]=some [.int .i64 (qO (fun w=>decide (w.name=nm)) l)]:=by
 refine aw a446 rfl rfl ?_
 simp only[F446,Lk]
 simp(disch:=omega)only[go_sem]
 refine W.fv l.length (fun k=>⟨[(0,.pv (.aq t (ch l))),(1,.pv (.func 447 [.ro u [.str nm]])),(7,.pv (.int .i64 l.length)),(8,.pv (.int .i64 k))],⟨[],[],[]⟩⟩) (fun k=>∀(i:Nat) (w:mi),i<k->l[i]?=some w->decide (w.name=nm)=false) rfl (fun i w hi=>absurd hi (by omega)) fun k hk hi=>?_
 simp(disch:=omega)only[go_sem]
 refine Br.aJ (fun c1=>?_) (fun c1=>?_)
 .obtain⟨w,hw⟩:=get_some (l:=l) (k:=k) (by omega)
  have h447:=fun t=>r447 t w nm
  simp only[mi.c]at h447
  cases hd:decide (w.name=nm)with
  |true=>
   rw[hd]at h447
   simp(disch:=omega)only[go_sem,hw,Option.map_some,h447]
   unfold qO
   rw[wv hw hd hi]
  |false=>
   rw[hd]at h447
   simp(disch:=omega)only[go_sem,hw,Option.map_some,h447]
   exact .of (by omega) rfl (sH hw hi hd)
 .simp(disch:=omega)only[go_sem]
  unfold qO
  rw[wx (pJ (k:=k) (by omega) hi)]
def Mt (o:Option mi):List PV:=match o with
 |some w=>[.agg w.c,.bool true]
 |none=>[.agg [.str ⟨#[]⟩,.int .i64 0,.int .i64 0],.bool false]
theorem r410 (t u x y:Nat) (v:ij) (nm:ByteArray) (hl:v.calls.length<=2^63 - 1):res A aA 410 [.agg (lB t u x y v),.str nm]=some (Mt (jf (fun w=>decide (w.name=nm)) v.calls)):=by
 refine aw a410 rfl rfl ?_
 simp only[F410,K9,lB]
 have h446:=fun t u=>r446 t u v.calls nm hl
 unfold qO at h446
 unfold jf
 cases hj:v.calls.findIdx? fun w=>decide (w.name=nm)with
 |none=>
  rw[hj]at h446
  have e0:decide ((0:Int)<= -1)=false:=rfl
  simp(disch:=omega)only[go_sem,h446]
  rfl
 |some j=>
  rw[hj]at h446
  have hjl:=(Ww.1 hj).1
  obtain⟨w,hw⟩:=get_some hjl
  have e0:decide ((0:Int)<=(j:Int))=true:=decide_eq_true (by omega)
  simp(disch:=omega)only[go_sem,h446,e0,hw,Option.map_some,Option.bind_some]
  rfl
theorem r449 (t:Nat) (w:eE) (nm:ByteArray):res A aA 449 [.agg w.c,.ro t [.str nm]]=some [.bool (decide (w.name=nm))]:=by
 refine aw a449 rfl rfl ?_
 simp only[F449,Lm]
 simp(disch:=omega)only[go_sem]
theorem r448 (t u:Nat) (l:List eE) (nm:ByteArray) (hl:l.length<=2^63 - 1):res A aA 448 [.aq t (aG l),.func 449 [.ro u [.str nm]]]=some [.int .i64 (qO (fun w=>decide (w.name=nm)) l)]:=by
 refine aw a448 rfl rfl ?_
 simp only[F448,Hp]
 simp(disch:=omega)only[go_sem]
 refine W.fv l.length (fun k=>⟨[(0,.pv (.aq t (aG l))),(1,.pv (.func 449 [.ro u [.str nm]])),(7,.pv (.int .i64 l.length)),(8,.pv (.int .i64 k))],⟨[],[],[]⟩⟩) (fun k=>∀(i:Nat) (w:eE),i<k->l[i]?=some w->decide (w.name=nm)=false) rfl (fun i w hi=>absurd hi (by omega)) fun k hk hi=>?_
 simp(disch:=omega)only[go_sem]
 refine Br.aJ (fun c1=>?_) (fun c1=>?_)
 .obtain⟨w,hw⟩:=get_some (l:=l) (k:=k) (by omega)
  have h449:=fun t=>r449 t w nm
  simp only[eE.c]at h449
  cases hd:decide (w.name=nm)with
  |true=>
   rw[hd]at h449
   simp(disch:=omega)only[go_sem,hw,Option.map_some,h449]
   unfold qO
   rw[wv hw hd hi]
  |false=>
   rw[hd]at h449
   simp(disch:=omega)only[go_sem,hw,Option.map_some,h449]
   exact .of (by omega) rfl (sH hw hi hd)
 .simp(disch:=omega)only[go_sem]
  unfold qO
  rw[wx (pJ (k:=k) (by omega) hi)]
def AD (o:Option eE):List PV:=match o with
 |some w=>[.agg w.c,.bool true]
 |none=>[.agg [.str ⟨#[]⟩,.aq 0 [],.int .i64 0,.int .i64 0,.aq 0 []],.bool false]
def Mu (k:Nat) (rows:List (List PV)):PV:=if rows=[] then .aq 0 [] else .fr k rows
theorem Fb {α:Type} {c:α->List PV} {k:Nat} (hc:∀x,(c x).length=k) (l:List α) (hm:l.length<=2147483648):(l=[]/\∀h,aZ k [.pv (.aq 0 (l.map c))] h=some (.tl [],{}))\/(l≠[]/\∀h,aZ k [.pv (.aq 0 (l.map c))] h=some (.own h.ar.length 0 0 l.length,{ push:=[⟨0,k,.inl (l.map c)⟩],base:=h.ar.length })):=by
 have hf:aO k (.inl (l.map c))=true:=by simp[aO,hc]
 cases l with
 |nil=>exact .inl ⟨rfl,fun h=>by simp[aZ,aW,aO]⟩
 |cons x l=>
  refine .inr ⟨by simp,fun h=>?_⟩
  have hl:((x::l).map c).length=(x::l).length:=Wg _
  have h0:¬((x::l).map c).length=0:=by simp
  unfold aZ
  simp only[aW]
  rw[if_pos (by omega:0<=1)]
  dsimp only
  rw[if_pos ⟨hf,by unfold aN; rw[hl]; omega⟩,if_neg h0,hl]
theorem r445 (x:eE) (h1:x.msgs.length<=2147483648) (h2:x.auto.af.length<=2147483648):res A aA 445 [.agg x.c]=some [.agg [.str x.name,Mu 3 (msgs x.msgs),.int .i64 x.auto.aj,.int .i64 x.auto.start,Mu 4 (x.auto.af.map Edge.c)]]:=by
 refine aw a445 rfl rfl ?_
 simp only[F445,Lj,eE.c]
 have k1:(x.msgs.map gI.c).take x.msgs.length=x.msgs.map gI.c:=List.take_of_length_le (by simp)
 have k2:(x.auto.af.map Edge.c).take x.auto.af.length=x.auto.af.map Edge.c:=List.take_of_length_le (by simp)
 rcases Fb (c:=gI.c) (k:=3) (fun _=>rfl) x.msgs h1 with⟨h3,h4⟩|⟨h3,h4⟩<;>rcases Fb (c:=Edge.c) (k:=4) (fun _=>rfl) x.auto.af h2 with⟨h5,h6⟩|⟨h5,h6⟩
 .simp only[h3,h5,List.map_nil]at h4 h6 |-
  simp(disch:=omega)only[go_sem,h4,h6]
  refine Eq.trans (if_pos (by rfl)) ?_
  simp[keep,ay,eM,aY,PV.perm,Mu,msgs,h3,h5]
 .simp only[h3,List.map_nil]at h4 |-
  simp(disch:=omega)only[go_sem,h4,h6]
  refine Eq.trans (if_pos (by rfl)) ?_
  simp[keep,ay,eM,aB,aY,PV.perm,Mu,msgs,h3,h5,k2]
 .simp only[h5,List.map_nil]at h6 |-
  simp(disch:=omega)only[go_sem,h4,h6]
  refine Eq.trans (if_pos (by rfl)) ?_
  simp[keep,ay,eM,aB,aY,PV.perm,Mu,msgs,h3,h5,k1]
 .simp(disch:=omega)only[go_sem,h4,h6]
  refine Eq.trans (if_pos (by rfl)) ?_
  simp[keep,ay,eM,aB,aY,PV.perm,Mu,msgs,h3,h5,k1,k2]
theorem r412 (t u x y:Nat) (v:ij) (nm:ByteArray) (hl:v.aG.length<=2^63 - 1) (hs:∀w∈v.aG,w.msgs.length<=2147483648/\w.auto.af.length<=2147483648):res A aA 412 [.agg (lB t u x y v),.str nm]=some (AD (jf (fun w=>decide (w.name=nm)) v.aG)):=by
 refine aw a412 rfl rfl ?_
 simp only[F412,La,lB]
 have h448:=fun t u=>r448 t u v.aG nm hl
 unfold qO at h448
 unfold jf
 cases hj:v.aG.findIdx? fun w=>decide (w.name=nm)with
 |none=>
  rw[hj]at h448
  have e0:decide ((0:Int)<= -1)=false:=rfl
  simp(disch:=omega)only[go_sem,h448]
  rfl
 |some j=>
  rw[hj]at h448
  have hjl:=(Ww.1 hj).1
  obtain⟨w,hw⟩:=get_some hjl
  have e0:decide ((0:Int)<=(j:Int))=true:=decide_eq_true (by omega)
  have hsw:=hs w (Wa hw)
  have h445:=r445 w hsw.1 hsw.2
  have k1:(w.msgs.map gI.c).take w.msgs.length=w.msgs.map gI.c:=List.take_of_length_le (by simp)
  have k2:(w.auto.af.map Edge.c).take w.auto.af.length=w.auto.af.map Edge.c:=List.take_of_length_le (by simp)
  unfold Mu msgs eE.c at h445
  by_cases h3:w.msgs=[]<;>by_cases h5:w.auto.af=[]
  .simp only[h3,h5,List.map_nil,if_true]at h445
   simp(disch:=omega)only[go_sem,h448,e0,hw,Option.map_some,Option.bind_some,h3,h5,List.map_nil,h445]
   simp[AD,eE.c,h3,h5]
  .simp only[h3,h5,List.map_nil,if_true,List.map_eq_nil_iff,if_false]at h445
   simp(disch:=omega)only[go_sem,h448,e0,hw,Option.map_some,Option.bind_some,h3,List.map_nil,h445]
   simp[AD,eE.c,k2,h3]
  .simp only[h3,h5,List.map_nil,if_true,List.map_eq_nil_iff,if_false]at h445
   simp(disch:=omega)only[go_sem,h448,e0,hw,Option.map_some,Option.bind_some,h5,List.map_nil,h445]
   simp[AD,eE.c,k1,h5]
  .simp only[h3,h5,List.map_eq_nil_iff,if_false]at h445
   simp(disch:=omega)only[go_sem,h448,e0,hw,Option.map_some,Option.bind_some,h445]
   simp[AD,eE.c,k1,k2]
theorem r451 (t:Nat) (w:mj) (nm:ByteArray):res A aA 451 [.agg w.c,.ro t [.str nm]]=some [.bool (decide (w.name=nm))]:=by
 refine aw a451 rfl rfl ?_
 simp only[F451,Lo]
 simp(disch:=omega)only[go_sem]
theorem r450 (t u:Nat) (l:List mj) (nm:ByteArray) (hl:l.length<=2^63 - 1):res A aA 450 [.aq t (df l),.func 451 [.ro u [.str nm]]]=some [.int .i64 (qO (fun w=>decide (w.name=nm)) l)]:=by
 refine aw a450 rfl rfl ?_
 simp only[F450,Ln]
 simp(disch:=omega)only[go_sem]
 refine W.fv l.length (fun k=>⟨[(0,.pv (.aq t (df l))),(1,.pv (.func 451 [.ro u [.str nm]])),(7,.pv (.int .i64 l.length)),(8,.pv (.int .i64 k))],⟨[],[],[]⟩⟩) (fun k=>∀(i:Nat) (w:mj),i<k->l[i]?=some w->decide (w.name=nm)=false) rfl (fun i w hi=>absurd hi (by omega)) fun k hk hi=>?_
 simp(disch:=omega)only[go_sem]
 refine Br.aJ (fun c1=>?_) (fun c1=>?_)
 .obtain⟨w,hw⟩:=get_some (l:=l) (k:=k) (by omega)
  have h451:=fun t=>r451 t w nm
  simp only[mj.c]at h451
  cases hd:decide (w.name=nm)with
  |true=>
   rw[hd]at h451
   simp(disch:=omega)only[go_sem,hw,Option.map_some,h451]
   unfold qO
   rw[wv hw hd hi]
  |false=>
   rw[hd]at h451
   simp(disch:=omega)only[go_sem,hw,Option.map_some,h451]
   exact .of (by omega) rfl (sH hw hi hd)
 .simp(disch:=omega)only[go_sem]
  unfold qO
  rw[wx (pJ (k:=k) (by omega) hi)]
def Mw (o:Option mj):List PV:=match o with
 |some w=>[.agg w.c,.bool true]
 |none=>[.agg [.str ⟨#[]⟩,.int .i64 0],.bool false]
theorem r414 (t u x y:Nat) (v:ij) (nm:ByteArray) (hl:v.aT.length<=2^63 - 1):res A aA 414 [.agg (lB t u x y v),.str nm]=some (Mw (jf (fun w=>decide (w.name=nm)) v.aT)):=by
 refine aw a414 rfl rfl ?_
 simp only[F414,Lb,lB]
 have h450:=fun t u=>r450 t u v.aT nm hl
 unfold qO at h450
 unfold jf
 cases hj:v.aT.findIdx? fun w=>decide (w.name=nm)with
 |none=>
  rw[hj]at h450
  have e0:decide ((0:Int)<= -1)=false:=rfl
  simp(disch:=omega)only[go_sem,h450]
  rfl
 |some j=>
  rw[hj]at h450
  have hjl:=(Ww.1 hj).1
  obtain⟨w,hw⟩:=get_some hjl
  have e0:decide ((0:Int)<=(j:Int))=true:=decide_eq_true (by omega)
  simp(disch:=omega)only[go_sem,h450,e0,hw,Option.map_some,Option.bind_some]
  rfl
end Go.Pv
