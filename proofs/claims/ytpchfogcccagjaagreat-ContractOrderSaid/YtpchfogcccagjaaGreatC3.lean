/-
 What the functions of the law give.
-/
import Derived.Test.YtpchfogcccagjaaGreatC2
set_option linter.unusedSimpArgs false
set_option linter.unusedVariables false
open List renaming getElem?_eq_some_iff → Wq, mem_of_getElem? → Wr, getElem?_eq_getElem → Ws, mem_iff_getElem? → Wt, length_map → Wu, getElem?_map → Wv, getElem?_append_left → Ww, mem_map → Wz, mem_cons → WC, getElem?_append_right → WG, pairwise_cons → WH, findIdx?_eq_some_iff_getElem → WM, length_append → WX, map_append → WZ, getElem?_take → W0, append_assoc → W2, mem_range → W4, take_add_one → W5, getElem?_set_self → W8, ext_getElem? → Xa, any_eq_false → Xc, take_length → Xf, mem_filterMap → Xh, length_take → Xm, getElem_mem → Xq, pairwise_iff_getElem → Xs, getElem_of_mem → Xt, append_nil → Xv, getElem?_set_ne → Xw, mem_filter → Xx, foldl_cons → Xy, find?_eq_none → XC, range_succ → XH, getElem?_range → XI, map_map → XM, pairwise_singleton → XR, find?_some → XV, take_append_drop → Yb
open Nat renaming lt_or_ge → Wx, le_refl → Wy, mod_lt → WV, zero_le → WY, le_trans → Xg, lt_of_lt_of_le → Xl, not_lt_zero → XG
open Int renaming toNat_natCast → Xb
open Bool renaming eq_false_iff → XP
namespace Go.Pv
def s8 (ar:List aN) (V0:V) (ts:List aI):Prop:=(V0=.tl []/\ts=[])\/∃o ax,V0=.own o ax 0 ts.length/\Ay ar o ax ts
theorem MR {ar X:List aN} {V0 y:V} {ts:List aI} {t:aI} {new:Sum (List (List PV)) (List (List V))} {rd:Option Nat} {row:List V} (hO:s8 ar V0 ts) (hm:ts.length+1<=2147483648)
  (hs:∀bx,aW ⟨bx,ar++X,[]⟩ y=some (new,rd)) (hn:dX new=[row]) (hrd:∀o,rd=some o->ar.length<=o) (hr:∀o,o<ar.length\/(ar++X).length<=o->lB (ar++X) o row t):
  ∃V1 T ar',(∀bx,aM ⟨bx,ar++X,[]⟩ 10 V0 y=some (V1,T))/\(∀bx,T.apply ⟨bx,ar++X,[]⟩=⟨bx,ar',[]⟩)/\V1.cells=[V1]/\V1.calm=true/\s8 ar' V1 (ts++[t]):=by
 have hrow:row.length=10:=(hr _ (.inr (Wy _))).len
 rcases hO with⟨rfl,rfl⟩|⟨o,ax,rfl,hrep⟩
 .refine⟨_,_,(ar++X)++[⟨0,10,aV (.inl []) new⟩],fun bx=>CY (hs bx) hn hrow,fun bx=>?_,rfl,rfl,.inr ⟨(ar++X).length,0,rfl,?_⟩⟩
  .simp[Tn.apply]
  .refine⟨by simp,aV (.inl []) new,by simp,?_⟩
   rw[ma,hn]
   have h1:lC ((ar++X)++[⟨0,10,aV (.inl []) new⟩]) (ar++X).length (dX (.inl [])) []:=⟨rfl,fun i r u h1 _=>by simp[dX]at h1⟩
   exact h1.snoc ((hr _ (.inr (Wy _))).push _)
 .obtain⟨body,hb1,hb2⟩:=hrep.it
  have hol:=(Wq.1 hb1).1
  have hb1':(ar++X)[o]?=some ⟨ax,10,body⟩:=by rw[Ww hol]; exact hb1
  have hbl:aD body=ts.length:=by rw[<- il]; exact hb2.len
  have happ:=fun bx=>E4 (bx:=bx) (mp:=[]) (hs bx) hn hrow hb1' hbl (fun e=>by have:=hrd o e; omega) hm
  rw[BT (ax:=ax) hbl rfl]at happ
  refine⟨_,_,(ar++X).set o ⟨ax+1,10,aV body new⟩,happ,fun bx=>?_,rfl,rfl,.inr ⟨o,ax+1,by simp,?_⟩⟩
  .simp[Tn.apply]
  .refine⟨by simp,aV body new,?_,?_⟩
   .rw[W8 (by rw[WX]; omega)]
   .rw[ma,hn]
    exact(((hb2.push X).set _).snoc ((hr o (.inl hol)).set _))
theorem vk {ar X0:List aN} {V0:V} {ts:List aI} {t:aI} {row:List V} {n:Nat} (hO:s8 ar V0 ts) (hm:ts.length+1<=2147483648) (hl:(ar++X0).length=n)
  (hr:∀o,o<ar.length\/n+1<=o->lB (ar++X0++[⟨0,10,.inr [row]⟩]) o row t):
  ∃V1 T ar',(∀bx,aM ⟨bx,ar++X0++[⟨0,10,.inr [row]⟩],[]⟩ 10 V0 (.own n 0 0 1)=some (V1,T))/\(∀bx,T.apply ⟨bx,ar++X0++[⟨0,10,.inr [row]⟩],[]⟩=⟨bx,ar',[]⟩)/\V1.cells=[V1]/\V1.calm=true/\s8 ar' V1 (ts++[t]):=by
 rw[W2]at hr |-
 refine MR (X:=X0++[⟨0,10,.inr [row]⟩]) (new:=.inr [row]) (rd:=some n) hO hm (fun bx=>?_) rfl (fun o ho=>?_) (fun o ho=>hr o ?_)
 .have hg:(ar++(X0++[⟨0,10,.inr [row]⟩]))[n]?=some ⟨0,10,.inr [row]⟩:=by
   rw[<- W2,<- hl]
   simp
  simp[aW,aB,hg,aA]
 .injection ho with ho
  rw[<- ho,<- hl,WX]
  omega
 .rcases ho with ho|ho
  .exact .inl ho
  .rw[<- W2,WX,hl]at ho
   exact .inr ho
theorem s8.bW {ar:List aN} {V0:V} {ts:List aI} (h:s8 ar V0 ts) (bx:List (Nat×List V)) (mp:List (List (PV×PV))):aY ⟨bx,ar,mp⟩ 4 V0=some (.aq 0 (ts.map aI.c)):=by
 rcases h with⟨rfl,rfl⟩|⟨o,ax,rfl,hrep⟩
 .rfl
 .exact hrep.bW bx mp
theorem gG {ar:List aN} {o:Nat} {t:aI} (hs:t.syms=[]) (hm:t.bc=[]):lB ar o [.pv (.int .i64 t.kind),.pv (.str t.name),.pv (.int .i64 t.low),.pv (.int .i64 t.high),.pv (.int .i64 t.max),.tl [],.tl [],.pv (.int .i64 t.key),.pv (.int .i64 t.elem),.pv (.bool t.jR)] t:=
 ⟨.tl [],.tl [],rfl,.inr (.inr (by rw[hs]; rfl)),.inr (.inr (by rw[hm]; rfl))⟩
theorem mem_row {ar:List aN} {o:Nat} {t:aI} (hs:t.syms=[]):lB ar o [.pv (.int .i64 t.kind),.pv (.str t.name),.pv (.int .i64 t.low),.pv (.int .i64 t.high),.pv (.int .i64 t.max),.tl [],.pv (.aq 0 (t.bc.map Mem.c)),.pv (.int .i64 t.key),.pv (.int .i64 t.elem),.pv (.bool t.jR)] t:=
 ⟨.tl [],_,rfl,.inr (.inr (by rw[hs]; rfl)),.inl rfl⟩
theorem s8.quiet {ar:List aN} {V0:V} {ts:List aI} (h:s8 ar V0 ts):V0.calm=true/\V0.cells=[V0]:=by
 rcases h with⟨rfl,rfl⟩|⟨o,ax,rfl,_⟩<;>exact⟨rfl,rfl⟩
theorem js {ar:List aN} {V0:V} {ts:List aI} {t:aI} {row:List V} (hO:s8 ar V0 ts) (hm:ts.length+1<=2147483648) (hr:∀ar o,lB ar o row t):
  ∃V1 T ar',(∀bx,aM ⟨bx,ar++[⟨0,10,.inr [row]⟩],[]⟩ 10 V0 (.own ar.length 0 0 1)=some (V1,T))/\(∀bx,T.apply ⟨bx,ar++[⟨0,10,.inr [row]⟩],[]⟩=⟨bx,ar',[]⟩)/\V1.cells=[V1]/\V1.calm=true/\s8 ar' V1 (ts++[t]):=by
 have:=vk (X0:=[]) (row:=row) (n:=ar.length) hO hm (by simp) (fun o _=>hr _ o)
 simpa only[List.append_nil]using this
def aX (k:Int) (nm:ByteArray):aI:=⟨k,nm,0,0,0,[],[],0,0,false⟩
def cB (i:Nat):ByteArray:=Utf8.encode (65+(i:Int))
def ni (n:Nat):Sym:=⟨n,⟨#[115]⟩++Utf8.encode (97+(n:Int))⟩
def iU (a:Nat):List Sym:=(fP a).map ni
theorem C0 {n:Nat} (h:n<=12):(Utf8.encode (97+(n:Int))).size=1:=by
 have:∀k:Fin 13,(Utf8.encode (97+((k.val:Nat):Int))).size=1:=by decide
 exact this ⟨n,by omega⟩
theorem E9 {n:Nat} (h:n<=12):cA .add (.pv (.str ⟨#[115]⟩)) (.pv (.str (Utf8.encode (97+(n:Int)))))=some (.pv (.str (ni n).name)):=by
 have h1:(⟨#[115]⟩:ByteArray).size=1:=rfl
 have h2:(1:Nat)+1<=1099511627776:=by omega
 simp only[cA,kO,h1,C0 h,h2,if_true,Option.map_some]
 rfl
theorem ko {a n:Nat} (h:n∈fP a):1<=n/\n<=6:=by
 unfold fP at h
 split at h
 .simp at h
  omega
 .obtain⟨m,hm,rfl⟩:=Wz.1 h
  unfold iS at hm
  have:=W4.1 (Xx.1 hm).1
  omega
def Fa (n:Nat):List PV:=[.int .i64 n,.str (ni n).name]
def fW (l:List Nat) (j:Nat):List (List PV):=(l.take j).map Fa
theorem AB {l:List Nat} {j n:Nat} (h:l[j]?=some n):fW l (j+1)=fW l j++[Fa n]:=by
 unfold fW
 rw[W5,h,WZ]
 rfl
theorem Fb {ar X:List aN} {o:Nat} {l:List Nat} (hl:l≠[]) (ho:o<ar.length\/ar.length+2<=o):Home (ar++cJ 2 (fW l l.length)++X) o 2 (dc ar.length (fW l l.length)) ((l.map ni).map Sym.c):=by
 have e:fW l l.length=(l.map ni).map Sym.c:=by
  unfold fW
  rw[Xf,XM]
  rfl
 rw[e]
 cases l with
 |nil=>exact absurd rfl hl
 |cons n l=>
  refine .inr (.inl ⟨ar.length,((l.map ni).map Sym.c).length,rfl,by omega,?_⟩)
  rw[W2,WG (Wy _),Nat.sub_self]
  rfl
def aU (d:List Node) (i:Nat):aI:=
 if aK d i=2 then { aX 2 ⟨#[]⟩ with low:=jF (nodeAt d i),high:=lA (nodeAt d i) }
 else if aK d i=3 then { aX 3 ⟨#[]⟩ with max:=((nodeAt d i).a%4:Nat) }
 else if aK d i=4 then { aX 4 (cB i)with syms:=iU (nodeAt d i).a,jR:=decide ((nodeAt d i).b%2=1) }
 else if aK d i=5 then { aX 5 (cB i)with bc:=bK d i true (nodeAt d i).parts 12 }
 else if aK d i=6 then (if (bK d i false (nodeAt d i).parts 12).length=0 then aX 5 (cB i) else { aX 6 (cB i)with bc:=bK d i false (nodeAt d i).parts 12,jR:=decide ((nodeAt d i).b%2=1) })
 else if aK d i=7 then { aX 7 ⟨#[]⟩ with max:=((nodeAt d i).a%4:Nat),elem:=((nodeAt d i).c%d.length:Nat) }
 else if aK d i=8 then (if jr d (nodeAt d i).b=none then { aX 7 ⟨#[]⟩ with max:=((nodeAt d i).a%4:Nat),elem:=((nodeAt d i).c%d.length:Nat) } else { aX 8 ⟨#[]⟩ with max:=((nodeAt d i).a%4:Nat),key:=fI (jr d (nodeAt d i).b),elem:=((nodeAt d i).c%d.length:Nat) })
 else if aK d i=9 then { aX 9 ⟨#[]⟩ with elem:=((nodeAt d i).c%d.length:Nat) }
 else aX 1 ⟨#[]⟩
def rf (d:List Node):List aI×Bool:=if d.length<1\/5<d.length then ([],false) else ((List.range d.length).map (aU d),true)
set_option maxHeartbeats 4000000 in
theorem r279 (t:Nat) (d:List Node) (hok:∀y∈d,y.ok) (hll:bN d):res A az 279 [.agg [.aq t (d.map Node.cs)]]=some [.agg [.aq 0 ((rf d).1.map aI.c)],.bool (rf d).2]:=by
 refine aw a279 rfl rfl ?_
 simp only[F279,KY]
 unfold bN at hll
 simp(disch:=omega)only[go_sem]
 unfold rf
 refine Br.aJ (fun c=>?_) (fun c=>?_)<;>simp(disch:=omega)only[go_sem,c]
 .rw[if_pos (.inl (by omega))]
  rfl
 refine Br.aJ (fun c2=>?_) (fun c2=>?_)<;>simp(disch:=omega)only[go_sem,c2]
 .rw[if_pos (.inr (by omega))]
  rfl
 rw[if_neg (by omega)]
 refine W.loop (α:=Nat×List aN×V) (fun y=>⟨[(1,.ptr 1 0),(2,.ptr 2 0),(4,.pv (.int .i64 d.length)),(5,.ptr 5 0),(6,.pv (.int .i64 y.1))],⟨[(1,[.pv (.aq t (d.map Node.cs))]),(2,[.tl []]),(5,[y.2.2])],y.2.1,[]⟩⟩)
  (fun y=>y.1<=d.length/\s8 y.2.1 y.2.2 ((List.range y.1).map (aU d))) (fun y=>d.length - y.1) (0,[],.tl []) rfl ⟨WY _,.inl ⟨rfl,rfl⟩⟩ fun y hy=>?_
 obtain⟨i,ar,V0⟩:=y
 obtain⟨hi,hO⟩:=hy
 dsimp only at hi hO
 simp(disch:=omega)only[go_sem]
 refine Br.aJ (fun c3=>?_) (fun c3=>?_)
 rotate_left
 .obtain rfl:i=d.length:=by omega
  have hkeep:=fun bx=>hO.bW bx []
  obtain⟨hq1,hq2⟩:=hO.quiet
  simp(disch:=omega)only[go_sem,hkeep,hq1]
 have hx:d[i]?=some (nodeAt d i):=by
  unfold nodeAt
  rw[Ws (by omega)]
  rfl
 have hidx:jx 5 t (d.map Node.cs) (some (i:Int))=some (V.pv (.ro t [.int .u8 (nodeAt d i).kind,.int .u8 (nodeAt d i).a,.int .u8 (nodeAt d i).b,.int .u8 (nodeAt d i).c,.aq 0 ((nodeAt d i).parts.map Part.c)])):=oE (t:=t) hx
 have h298:=fun t=>r298 t d i (by omega)
 have h286:=r286 (aK d i:Int)
 obtain⟨k1,k9⟩:=dn d i
 have hk0:(aK d i:Int)=1\/(aK d i:Int)=2\/(aK d i:Int)=3\/(aK d i:Int)=4\/(aK d i:Int)=5\/(aK d i:Int)=6\/(aK d i:Int)=7\/(aK d i:Int)=8\/(aK d i:Int)=9:=by omega
 have hnext:(List.range (i+1)).map (aU d)=(List.range i).map (aU d)++[aU d i]:=by
  rw[XH,WZ]
  rfl
 have hml:((List.range i).map (aU d)).length+1<=2147483648:=by simp; omega
 have hxo:=hok _ (Wr hx)
 obtain⟨⟨_,xa,xb,xc⟩,_⟩:=hxo
 have hcn:(nodeAt d i).c%d.length<d.length:=WV _ (by omega)
 have hrn:=gO (k:=.i64) (a:=(nodeAt d i).c) (n:=d.length) (by omega)
 have h4:(nodeAt d i).a%4<4:=WV _ (by decide)
 have h299:=r299 (nodeAt d i)
 have h300:=r300 (nodeAt d i)
 have h301:=r301 (nodeAt d i)
 have h302:=fun t fl=>r302 t d i fl _ hx (by omega) (by omega) hok
 have h303:=fun t=>r303 t d (nodeAt d i).b (by omega) (by omega) xb
 unfold Node.cs at h299 h300 h301
 simp(disch:=omega)only[go_sem,hidx,h298,h286]
 rcases hk0 with hk|hk|hk|hk|hk|hk|hk|hk|hk
 all_goals simp(disch:=omega)only[go_sem,hk,HZ,HY,hrn,h299,h300,h301,h302,h303,yN,wrap_i32,Sc]
 .have e:aK d i=1:=by omega
  have hty:aU d i=aX 1 ⟨#[]⟩:=by simp only[aU,e]; rfl
  have hb:=js (t:=aX 1 ⟨#[]⟩) hO hml (fun ar o=>gG rfl rfl)
  obtain⟨V1,T,ar',happ,hT,hc1,hc2,hO'⟩:=hb
  dsimp only[aX,cB]at happ hT
  simp(disch:=omega)only[go_sem,happ,hT,hc1,hc2]
  refine⟨(i+1,ar',V1),⟨by dsimp only; omega,by dsimp only; rw[hnext,hty]; exact hO'⟩,by dsimp only; omega,rfl⟩
 .have e:aK d i=2:=by omega
  have hty:aU d i={ aX 2 ⟨#[]⟩ with low:=jF (nodeAt d i),high:=lA (nodeAt d i) }:=by simp only[aU,e]; rfl
  have hb:=js (t:={ aX 2 ⟨#[]⟩ with low:=jF (nodeAt d i),high:=lA (nodeAt d i) }) hO hml (fun ar o=>gG rfl rfl)
  obtain⟨V1,T,ar',happ,hT,hc1,hc2,hO'⟩:=hb
  dsimp only[aX,cB]at happ hT
  simp(disch:=omega)only[go_sem,happ,hT,hc1,hc2]
  refine⟨(i+1,ar',V1),⟨by dsimp only; omega,by dsimp only; rw[hnext,hty]; exact hO'⟩,by dsimp only; omega,rfl⟩
 .have e:aK d i=3:=by omega
  have hty:aU d i={ aX 3 ⟨#[]⟩ with max:=((nodeAt d i).a%4:Nat) }:=by simp only[aU,e]; rfl
  have hb:=js (t:={ aX 3 ⟨#[]⟩ with max:=((nodeAt d i).a%4:Nat) }) hO hml (fun ar o=>gG rfl rfl)
  obtain⟨V1,T,ar',happ,hT,hc1,hc2,hO'⟩:=hb
  dsimp only[aX,cB]at happ hT
  simp(disch:=omega)only[go_sem,happ,hT,hc1,hc2]
  refine⟨(i+1,ar',V1),⟨by dsimp only; omega,by dsimp only; rw[hnext,hty]; exact hO'⟩,by dsimp only; omega,rfl⟩
 .have e:aK d i=4:=by omega
  have hty:aU d i={ aX 4 (cB i)with syms:=iU (nodeAt d i).a,jR:=decide ((nodeAt d i).b%2=1) }:=by simp only[aU,e]; rfl
  obtain⟨n0,n6⟩:=jM (nodeAt d i).a
  have hir:=fun n (h:n∈fP (nodeAt d i).a)=>ko h
  have hne:fP (nodeAt d i).a≠[]:=List.length_pos_iff.1 n0
  unfold iU at hty
  generalize fP (nodeAt d i).a=l at *
  have hnl:(um l).length=l.length:=Wu _
  refine W.eG l.length (fun j=>⟨[(1,.ptr 1 0),(2,.ptr 2 0),(4,.pv (.int .i64 d.length)),(5,.ptr 5 0),(6,.pv (.int .i64 i)),(8,.ptr 8 0),(9,.pv (.aq 0 (ints (um l)))),(10,.pv (.int .i64 (j:Nat)))],⟨[(1,[.pv (.aq t (d.map Node.cs))]),(2,[.tl []]),(5,[V0]),(8,[.pv (.int .i64 4),.pv (.str (Utf8.encode (65+(i:Int)))),.pv (.int .i64 0),.pv (.int .i64 0),.pv (.int .i64 0),dc ar.length (fW l j),.tl [],.pv (.int .i64 0),.pv (.int .i64 0),.pv (.bool (decide ((nodeAt d i).b%2=1)))])],ar++cJ 2 (fW l j),[]⟩⟩) (fun _=>True) ?_ trivial (fun j hj _=>?_)
  .have e0:fW l 0=[]:=rfl
   rw[e0,BV,BW,Xv]
   rfl
  simp(disch:=omega)only[go_sem]
  refine Br.aJ (fun cj=>?_) (fun cj=>?_)
  .have hgj:=Ws (l:=l) (i:=j) (by omega)
   generalize l[j]'(by omega)=n at hgj
   obtain⟨g1,g6⟩:=hir n (Wr hgj)
   have hat:(um l)[j]?=some ((n:Nat):Int):=by
    rw[BX (by omega),hgj]
    rfl
   have hadd:=E9 (n:=n) (by omega)
   have hrl:(fW l j).length<=6:=by unfold fW; simp; omega
   have hgrow:=fun bx=>grow bx [] ar 2 (fW l j) (Fa n) rfl (by omega)
   have hgt:=fun bx=>ij bx [] ar 2 (fW l j) (Fa n)
   rw[<- AB hgj]at hgrow hgt
   unfold Fa at hgrow hgt
   simp(disch:=omega)only[go_sem,hat,wrap_i32,hadd,hgrow,hgt]
   exact .of (by omega) rfl trivial
  .obtain rfl:j=l.length:=by omega
   have hga:(cJ 2 (fW l l.length)).length=1:=by
    cases l with
    |nil=>exact absurd rfl hne
    |cons x l=>rfl
   have hb:=vk (t:={ aX 4 (cB i)with syms:=l.map ni,jR:=decide ((nodeAt d i).b%2=1) }) (X0:=cJ 2 (fW l l.length)) (n:=ar.length+(cJ 2 (fW l l.length)).length) hO hml (by rw[WX]) (fun o ho=>⟨dc ar.length (fW l l.length),.tl [],rfl,Fb hne (by omega),.inr (.inr rfl)⟩)
   obtain⟨V1,T,ar',happ,hT,hc1,hc2,hO'⟩:=hb
   dsimp only[aX,cB]at happ hT
   simp(disch:=omega)only[go_sem,happ,hT,hc1,hc2]
   refine⟨(i+1,ar',V1),⟨by dsimp only; omega,by dsimp only; rw[hnext,hty]; exact hO'⟩,by dsimp only; omega,rfl⟩
 .have e:aK d i=5:=by omega
  have hty:aU d i={ aX 5 (cB i)with bc:=bK d i true (nodeAt d i).parts 12 }:=by simp only[aU,e]; rfl
  have hb:=js (t:={ aX 5 (cB i)with bc:=bK d i true (nodeAt d i).parts 12 }) hO hml (fun ar o=>mem_row rfl)
  obtain⟨V1,T,ar',happ,hT,hc1,hc2,hO'⟩:=hb
  dsimp only[aX,cB]at happ hT
  simp(disch:=omega)only[go_sem,happ,hT,hc1,hc2]
  refine⟨(i+1,ar',V1),⟨by dsimp only; omega,by dsimp only; rw[hnext,hty]; exact hO'⟩,by dsimp only; omega,rfl⟩
 .have e:aK d i=6:=by omega
  have hty0:aU d i=if (bK d i false (nodeAt d i).parts 12).length=0 then aX 5 (cB i) else { aX 6 (cB i)with bc:=bK d i false (nodeAt d i).parts 12,jR:=decide ((nodeAt d i).b%2=1) }:=by simp only[aU,e]; rfl
  refine Br.aJ (fun c6=>?_) (fun c6=>?_)<;>simp(disch:=omega)only[go_sem]
  .have hty:aU d i=aX 5 (cB i):=by rw[hty0,if_pos (by omega)]
   have hb:=js (t:=aX 5 (cB i)) hO hml (fun ar o=>gG rfl rfl)
   obtain⟨V1,T,ar',happ,hT,hc1,hc2,hO'⟩:=hb
   dsimp only[aX,cB]at happ hT
   simp(disch:=omega)only[go_sem,happ,hT,hc1,hc2]
   refine⟨(i+1,ar',V1),⟨by dsimp only; omega,by dsimp only; rw[hnext,hty]; exact hO'⟩,by dsimp only; omega,rfl⟩
  .have hty:aU d i={ aX 6 (cB i)with bc:=bK d i false (nodeAt d i).parts 12,jR:=decide ((nodeAt d i).b%2=1) }:=by rw[hty0,if_neg (by omega)]
   have hb:=js (t:={ aX 6 (cB i)with bc:=bK d i false (nodeAt d i).parts 12,jR:=decide ((nodeAt d i).b%2=1) }) hO hml (fun ar o=>mem_row rfl)
   obtain⟨V1,T,ar',happ,hT,hc1,hc2,hO'⟩:=hb
   dsimp only[aX,cB]at happ hT
   simp(disch:=omega)only[go_sem,happ,hT,hc1,hc2]
   refine⟨(i+1,ar',V1),⟨by dsimp only; omega,by dsimp only; rw[hnext,hty]; exact hO'⟩,by dsimp only; omega,rfl⟩
 .have e:aK d i=7:=by omega
  have hty:aU d i={ aX 7 ⟨#[]⟩ with max:=((nodeAt d i).a%4:Nat),elem:=((nodeAt d i).c%d.length:Nat) }:=by simp only[aU,e]; rfl
  have hb:=js (t:={ aX 7 ⟨#[]⟩ with max:=((nodeAt d i).a%4:Nat),elem:=((nodeAt d i).c%d.length:Nat) }) hO hml (fun ar o=>gG rfl rfl)
  obtain⟨V1,T,ar',happ,hT,hc1,hc2,hO'⟩:=hb
  dsimp only[aX,cB]at happ hT
  simp(disch:=omega)only[go_sem,happ,hT,hc1,hc2]
  refine⟨(i+1,ar',V1),⟨by dsimp only; omega,by dsimp only; rw[hnext,hty]; exact hO'⟩,by dsimp only; omega,rfl⟩
 .have e:aK d i=8:=by omega
  have hty0:aU d i=if jr d (nodeAt d i).b=none then { aX 7 ⟨#[]⟩ with max:=((nodeAt d i).a%4:Nat),elem:=((nodeAt d i).c%d.length:Nat) } else { aX 8 ⟨#[]⟩ with max:=((nodeAt d i).a%4:Nat),key:=fI (jr d (nodeAt d i).b),elem:=((nodeAt d i).c%d.length:Nat) }:=by simp only[aU,e]; rfl
  refine Br.aJ (fun c8=>?_) (fun c8=>?_)<;>simp(disch:=omega)only[go_sem]
  .have hty:aU d i={ aX 7 ⟨#[]⟩ with max:=((nodeAt d i).a%4:Nat),elem:=((nodeAt d i).c%d.length:Nat) }:=by rw[hty0,if_pos c8]
   have hb:=js (t:={ aX 7 ⟨#[]⟩ with max:=((nodeAt d i).a%4:Nat),elem:=((nodeAt d i).c%d.length:Nat) }) hO hml (fun ar o=>gG rfl rfl)
   obtain⟨V1,T,ar',happ,hT,hc1,hc2,hO'⟩:=hb
   dsimp only[aX,cB]at happ hT
   simp(disch:=omega)only[go_sem,happ,hT,hc1,hc2]
   refine⟨(i+1,ar',V1),⟨by dsimp only; omega,by dsimp only; rw[hnext,hty]; exact hO'⟩,by dsimp only; omega,rfl⟩
  .have hty:aU d i={ aX 8 ⟨#[]⟩ with max:=((nodeAt d i).a%4:Nat),key:=fI (jr d (nodeAt d i).b),elem:=((nodeAt d i).c%d.length:Nat) }:=by rw[hty0,if_neg c8]
   have hb:=js (t:={ aX 8 ⟨#[]⟩ with max:=((nodeAt d i).a%4:Nat),key:=fI (jr d (nodeAt d i).b),elem:=((nodeAt d i).c%d.length:Nat) }) hO hml (fun ar o=>gG rfl rfl)
   obtain⟨V1,T,ar',happ,hT,hc1,hc2,hO'⟩:=hb
   dsimp only[aX,cB]at happ hT
   simp(disch:=omega)only[go_sem,happ,hT,hc1,hc2]
   refine⟨(i+1,ar',V1),⟨by dsimp only; omega,by dsimp only; rw[hnext,hty]; exact hO'⟩,by dsimp only; omega,rfl⟩
 .have e:aK d i=9:=by omega
  have hty:aU d i={ aX 9 ⟨#[]⟩ with elem:=((nodeAt d i).c%d.length:Nat) }:=by simp only[aU,e]; rfl
  have hb:=js (t:={ aX 9 ⟨#[]⟩ with elem:=((nodeAt d i).c%d.length:Nat) }) hO hml (fun ar o=>gG rfl rfl)
  obtain⟨V1,T,ar',happ,hT,hc1,hc2,hO'⟩:=hb
  dsimp only[aX,cB]at happ hT
  simp(disch:=omega)only[go_sem,happ,hT,hc1,hc2]
  refine⟨(i+1,ar',V1),⟨by dsimp only; omega,by dsimp only; rw[hnext,hty]; exact hO'⟩,by dsimp only; omega,rfl⟩
theorem wM:∀k:Fin 13,isName (gS k.val)=true:=by decide
theorem C1:∀j k:Fin 13,gS j.val=gS k.val->j=k:=by decide
theorem yO:∀k:Fin 13,isName (ni k.val).name=true:=by decide
theorem Fc:∀j k:Fin 13,(ni j.val).name=(ni k.val).name->j=k:=by decide
theorem oF:∀k:Fin 5,isName (cB k.val)=true:=by decide
theorem C2:∀j k:Fin 5,cB j.val=cB k.val->j=k:=by decide
theorem s9 {L:List Nat} {f:Nat->ByteArray} (hp:L.Pairwise (·<·)) (h1:∀n∈L,1<=n/\n<=12) (hf:∀m n,m<=12->n<=12->f m=f n->m=n) (hn:∀n,n<=12->isName (f n)=true):mD (L.map fun(n:Nat)=>((n:Int),f n))=true:=by
 unfold mD
 rw[Bool.not_eq_true',Xc]
 intro k hk
 have hkl:k<L.length:=by simpa using hk
 have hg:=Ws hkl
 obtain⟨g1,g2⟩:=h1 _ (Xq hkl)
 have e:ve (L.map fun(n:Nat)=>((n:Int),f n)) k=jf (L.map fun(n:Nat)=>((n:Int),f n)) k ((L[k]:Int),f L[k]):=by
  unfold ve
  rw[Wv,hg]
  rfl
 rw[e]
 have d1:decide (((L[k]:Nat):Int)<1)=false:=by simp; omega
 have d2:decide (1000<((L[k]:Nat):Int))=false:=by simp; omega
 have d3:(decide (0<k)&&decide (((L[k]:Nat):Int)<=oy (L.map fun(n:Nat)=>((n:Int),f n)) k))=false:=by
  by_cases h0:0<k
  .have hlt:=Xs.1 hp (k - 1) k (by omega) hkl (by omega)
   have hq:oy (L.map fun(n:Nat)=>((n:Int),f n)) k=((L[k - 1]'(by omega):Nat):Int):=by
    unfold oy
    rw[Wv,Ws (show k - 1<L.length by omega)]
    rfl
   rw[hq]
   simp
   omega
  .simp[h0]
 have d4:cX (((L.map fun(n:Nat)=>((n:Int),f n)).map (·.2)).take k) (f L[k])=false:=by
  rw[XP]
  intro h
  rw[eJ,XM,<- List.map_take]at h
  obtain⟨m,hm,he⟩:=Wz.1 h
  obtain⟨j,hj⟩:=Wt.1 hm
  rw[W0]at hj
  split at hj
  .rename_i hjk
   obtain⟨hjl,hjm⟩:=Wq.1 hj
   have hlt:=Xs.1 hp j k hjl hkl hjk
   obtain⟨m1,m2⟩:=h1 m (Wr hj)
   have:=hf m L[k] m2 g2 he
   omega
  .cases hj
 unfold jf
 rw[d1,d2,d3,d4,hn _ g2]
 simp
theorem Fe (a:Nat):pW (iU a)=true:=by
 have hp:(fP a).Pairwise (·<·):=by
  unfold fP
  split
  .exact XR _ _
  .rw[List.pairwise_map]
   unfold iS
   exact((List.pairwise_lt_range).filter _).imp (fun h=>by omega)
 obtain⟨n0,n6⟩:=jM a
 have hi:=s9 (f:=fun n=>(ni n).name) hp (fun n hn=>by have:=ko hn; omega) (fun m n h1 h2 h=>by have:=Fc ⟨m,by omega⟩ ⟨n,by omega⟩ h; simpa using this) (fun n h=>yO ⟨n,by omega⟩)
 have e:(iU a).map Sym.nm=(fP a).map fun(n:Nat)=>((n:Int),(ni n).name):=by
  unfold iU
  rw[XM]
  rfl
 have el:(iU a).length=(fP a).length:=Wu _
 unfold pW
 rw[e,hi,el]
 simp
 omega
theorem yP {d:List Node} {i:Nat} {fl:Bool} {ps:List Part} {id:Nat} {m:Mem} (h:mF d i fl ps id=some m):∃p,dA d i fl id p=m/\ng d i id p=true/\p∈ps:=by
 unfold mF at h
 cases hf:ps.find? (ng d i id)with
 |none=>simp[hf]at h
 |some p=>
  rw[hf]at h
  exact⟨p,by simpa using h,List.find?_some hf,List.mem_of_find?_eq_some hf⟩
theorem Ff {k:Nat} {x:Node} {code:Nat} (h:(dP k x code).2=false):(dP k x code).1=bm:=by
 unfold dP at h |-
 repeat' split at h
 all_goals first
  |(cases h; done)
  |skip
 rename_i h1 h2 h3 h4 h5
 rw[if_neg h1,if_neg h2,if_neg h3,if_neg h4,if_pos h5]
theorem AD (d:List Node) (i:Nat) (fl:Bool) (id:Nat) (p:Part):ki fl (dA d i fl id p)=false:=by
 cases fl with
 |false=>simp[ki,dA,eqv]
 |true=>
  unfold ki dA
  dsimp only
  simp only[Bool.true_and,Bool.not_true,Bool.false_and,Bool.false_or]
  by_cases h1:p.flag%4=1
  .simp[h1,eqv]
  by_cases h2:2<=p.flag%4
  .cases hv:(lD d ((cI d i p.type).getD 0) p).2 with
   |true=>simp[h1,h2]
   |false=>
    have:=Ff hv
    have e:(lD d ((cI d i p.type).getD 0) p).1=bm:=this
    simp[h1,h2,eqv,e]
  .simp[h1,h2,eqv]
theorem BY {g:Nat->Option Mem} (h:∀j m,g j=some m->m.nm=(((j+1:Nat):Int),gS (j+1))):∀xs:List Nat,(xs.filterMap g).map Mem.nm=(((xs.filter fun j=>(g j).isSome).map (·+1)).map fun(n:Nat)=>((n:Int),gS n))
 |[]=>rfl
 |x::xs=>by
  have ih:=BY h xs
  cases hg:g x with
  |none=>simp[hg,ih]
  |some m=>
   have:=h x m hg
   simp[hg,ih,this]
theorem Fg {d:List Node} {i:Nat} {fl:Bool} {ps:List Part} {id:Nat} {m:Mem} (h:mF d i fl ps id=some m):m.nm=((id:Int),gS id):=by
 obtain⟨p,rfl,_⟩:=yP h
 rfl
theorem kr {d:List Node} {i:Nat} {fl:Bool} {ps:List Part} {k:Nat} {m:Mem} (h:m∈bK d i fl ps k):∃id p,dA d i fl id p=m/\ng d i id p=true/\p∈ps/\1<=id/\id<=k:=by
 unfold bK at h
 obtain⟨j,hj,hm⟩:=Xh.1 h
 obtain⟨p,h1,h2,h3⟩:=yP hm
 exact⟨j+1,p,h1,h2,h3,by omega,by have:=W4.1 hj; omega⟩
theorem vn (d:List Node) (i:Nat) (fl:Bool) (ps:List Part) (h:fl=true\/(bK d i fl ps 12).length≠0):fK fl (bK d i fl ps 12)=true:=by
 have hl:=nh d i fl ps 12
 have e1:(bK d i fl ps 12).any (ki fl)=false:=by
  rw[Xc]
  intro m hm
  obtain⟨id,p,rfl,_⟩:=kr hm
  rw[AD]
  simp
 have e2:=BY (g:=fun j=>mF d i fl ps (j+1)) (fun j m h=>Fg h) (List.range 12)
 have e3:mD ((bK d i fl ps 12).map Mem.nm)=true:=by
  unfold bK
  rw[e2]
  refine s9 ?_ (fun n hn=>?_) (fun m n h1 h2 h=>by have:=C1 ⟨m,by omega⟩ ⟨n,by omega⟩ h; simpa using this) (fun n h=>wM ⟨n,by omega⟩)
  .rw[List.pairwise_map]
   exact((List.pairwise_lt_range).filter _).imp (fun h=>by omega)
  .obtain⟨m,hm,rfl⟩:=Wz.1 hn
   have:=W4.1 (Xx.1 hm).1
   omega
 unfold fK
 rw[e1,e3]
 rcases h with rfl|h
 .simp
  omega
 .simp
  omega
theorem p4 {d:List Node} {code q:Nat} (h0:0<d.length) (h:jr d code=some q):q<d.length/\aK d q<=4:=by
 unfold jr at h
 cases hf:(List.range d.length).find? (fun k=>decide (aK d ((code+k)%d.length)<=4))with
 |none=>simp[hf]at h
 |some k=>
  rw[hf]at h
  have hq:(code+k)%d.length=q:=by simpa using h
  have:=XV hf
  rw[hq]at this
  exact⟨by rw[<- hq]; exact Nat.mod_lt _ h0,by simpa using this⟩
theorem Fh (d:List Node) (i:Nat) (hi:i<5):dN (aU d i)=true:=by
 obtain⟨k1,k9⟩:=dn d i
 have hb6:(nodeAt d i).b%6<6:=WV _ (by decide)
 have h4:(nodeAt d i).a%4<4:=WV _ (by decide)
 have hhi:jF (nodeAt d i)<=lA (nodeAt d i):=by unfold lA; omega
 have hn:=oF ⟨i,hi⟩
 dsimp only at hn
 have hs:=Fe (nodeAt d i).a
 have p1:=vn d i true (nodeAt d i).parts (.inl rfl)
 have p2:=vn d i false (nodeAt d i).parts
 have hk0:aK d i=1\/aK d i=2\/aK d i=3\/aK d i=4\/aK d i=5\/aK d i=6\/aK d i=7\/aK d i=8\/aK d i=9:=by omega
 rcases hk0 with hk|hk|hk|hk|hk|hk|hk|hk|hk
 .simp[aU,hk,dN,aX,ez,cp,eqv,kindOk]
 .simp[aU,hk,dN,aX,ez,cp,eqv,kindOk,hhi]
 .simp[aU,hk,dN,aX,ez,cp,eqv,kindOk]
  omega
 .simp[aU,hk,dN,aX,ez,cp,eqv,kindOk,hn,hs]
 .simp[aU,hk,dN,aX,ez,cp,eqv,kindOk,hn,p1]
 .have e:aU d i=if (bK d i false (nodeAt d i).parts 12).length=0 then aX 5 (cB i) else { aX 6 (cB i)with bc:=bK d i false (nodeAt d i).parts 12,jR:=decide ((nodeAt d i).b%2=1) }:=by simp only[aU,hk]; rfl
  rw[e]
  split
  .have em:fK true []=true:=by simp[fK,mD]
   simp[dN,aX,ez,cp,eqv,kindOk,hn,em]
  .rename_i h0
   have:=p2 (.inr h0)
   simp[dN,aX,ez,cp,eqv,kindOk,hn,this]
 .simp[aU,hk,dN,aX,ez,cp,eqv,kindOk]
  omega
 .simp only[aU,hk]
  simp
  split
  .simp[dN,aX,ez,cp,eqv,kindOk]
   omega
  .simp[dN,aX,ez,cp,eqv,kindOk]
   omega
 .simp[aU,hk,dN,aX,ez,cp,eqv,kindOk]
theorem lE {d:List Node} {i:Nat} (hk:aK d i=6):aU d i=if (bK d i false (nodeAt d i).parts 12).length=0 then aX 5 (cB i) else { aX 6 (cB i)with bc:=bK d i false (nodeAt d i).parts 12,jR:=decide ((nodeAt d i).b%2=1) }:=by simp only[aU,hk]; rfl
theorem nj {d:List Node} {i:Nat} (hk:aK d i=8):aU d i=if jr d (nodeAt d i).b=none then { aX 7 ⟨#[]⟩ with max:=((nodeAt d i).a%4:Nat),elem:=((nodeAt d i).c%d.length:Nat) } else { aX 8 ⟨#[]⟩ with max:=((nodeAt d i).a%4:Nat),key:=fI (jr d (nodeAt d i).b),elem:=((nodeAt d i).c%d.length:Nat) }:=by simp only[aU,hk]; rfl
theorem dF (d:List Node) (i:Nat):aK d i=1\/aK d i=2\/aK d i=3\/aK d i=4\/aK d i=5\/aK d i=6\/aK d i=7\/aK d i=8\/aK d i=9:=by
 have:=dn d i
 omega
theorem vo (d:List Node) (i:Nat):(aU d i).name=⟨#[]⟩\/(aU d i).name=cB i:=by
 rcases dF d i with hk|hk|hk|hk|hk|hk|hk|hk|hk
 case inr.inr.inr.inr.inr.inl=>
  rw[lE hk]
  split<;>simp[aX]
 case inr.inr.inr.inr.inr.inr.inr.inl=>
  rw[nj hk]
  split<;>simp[aX]
 all_goals simp[aU,hk,aX]
theorem C3 {d:List Node} {i:Nat} (h:aK d i<=4):(aU d i).kind=aK d i:=by
 have:=dn d i
 have hk:aK d i=1\/aK d i=2\/aK d i=3\/aK d i=4:=by omega
 rcases hk with hk|hk|hk|hk<;>simp[aU,hk,aX]
theorem yQ {d:List Node} {i:Nat} {fl:Bool} {ps:List Part} {k:Nat} (h0:0<d.length) (hi:i<d.length) {m:Mem} (h:m∈bK d i fl ps k):0<=m.type/\m.type<d.length:=by
 obtain⟨id,p,rfl,hh,_⟩:=kr h
 unfold ng at hh
 cases ht:cI d i p.type with
 |none=>simp[ht]at hh
 |some u=>
  have:=km h0 hi ht
  show 0<=fI (cI d i p.type)/\fI (cI d i p.type)<d.length
  rw[ht]
  unfold fI
  dsimp only
  omega
theorem C4 {d:List Node} {i:Nat} (h0:0<d.length) (hi:i<d.length):∀u∈cR (aU d i),0<=u/\u<d.length:=by
 have hc:(nodeAt d i).c%d.length<d.length:=WV _ h0
 have hp:=fun fl m (h:m∈bK d i fl (nodeAt d i).parts 12)=>yQ h0 hi h
 have hm:∀fl,∀u:Int,u∈(bK d i fl (nodeAt d i).parts 12).map (·.type)->0<=u/\u<d.length:=fun fl u hu=>by
  obtain⟨m,hm,rfl⟩:=Wz.1 hu
  exact hp fl m hm
 intro u hu
 rcases dF d i with hk|hk|hk|hk|hk|hk|hk|hk|hk
 case inr.inr.inr.inr.inr.inl=>
  rw[lE hk]at hu
  split at hu
  .simp[cR,jI,gN,aX]at hu
  .refine hm false u ?_
   simpa [cR,jI,gN,aX]using hu
 case inr.inr.inr.inr.inl=>
  refine hm true u ?_
  simpa [aU,hk,cR,jI,gN,aX]using hu
 case inr.inr.inr.inr.inr.inr.inr.inl=>
  rw[nj hk]at hu
  split at hu
  .simp only[cR,jI,gN,aX]at hu
   simp at hu
   omega
  .rename_i hq
   cases hkey:jr d (nodeAt d i).b with
   |none=>exact absurd hkey hq
   |some q=>
    have:=p4 h0 hkey
    rw[hkey]at hu
    simp only[cR,jI,gN,aX,fI]at hu
    simp at hu
    omega
 case inr.inr.inr.inr.inr.inr.inl=>
  simp only[aU,hk,cR,jI,gN,aX]at hu
  simp at hu
  omega
 case inr.inr.inr.inr.inr.inr.inr.inr=>
  simp only[aU,hk,cR,jI,gN,aX]at hu
  simp at hu
  omega
 all_goals simp[aU,hk,cR,jI,gN,aX]at hu
theorem Fi {d:List Node} {i:Nat} (h0:0<d.length) (h:(aU d i).kind=8):∃q:Nat,(aU d i).key=q/\q<d.length/\aK d q<=4:=by
 rcases dF d i with hk|hk|hk|hk|hk|hk|hk|hk|hk
 case inr.inr.inr.inr.inr.inl=>
  rw[lE hk]at h
  split at h<;>simp[aX]at h
 case inr.inr.inr.inr.inr.inr.inr.inl=>
  rw[nj hk]at h |-
  split at h
  .simp[aX]at h
  .rename_i hq
   rw[if_neg hq]
   cases hkey:jr d (nodeAt d i).b with
   |none=>exact absurd hkey hq
   |some q=>exact⟨q,rfl,p4 h0 hkey⟩
 all_goals simp[aU,hk,aX]at h
theorem C5 {d:List Node} (h0:0<d.length) (h5:d.length<=5):cP ((List.range d.length).map (aU d))=0:=by
 have hlen:((List.range d.length).map (aU d)).length=d.length:=by simp
 have hget:∀k,k<d.length->((List.range d.length).map (aU d))[k]?=some (aU d k):=fun k hk=>by
  rw[Wv,XI hk]
  rfl
 unfold cP
 rw[if_neg (by omega)]
 have hz:∀k∈List.range ((List.range d.length).map (aU d)).length,¬decide (e9 ((List.range d.length).map (aU d)) k≠0)=true:=by
  intro k hk
  have hk:k<d.length:=by rw[hlen]at hk; simpa using hk
  have e1:=Fh d k (by omega)
  have e2:l8 ((List.range d.length).map (aU d)) k (aU d k)=false:=by
   unfold l8
   rcases vo d k with hn|hn
   .rw[hn]
    simp
   .have:cX ((((List.range d.length).map (aU d)).take k).map (·.name)) (aU d k).name=false:=by
     rw[XP]
     intro h
     rw[eJ]at h
     obtain⟨t,ht,he⟩:=Wz.1 h
     rw[<- List.map_take]at ht
     obtain⟨j,hj,rfl⟩:=Wz.1 ht
     rw[List.take_range]at hj
     have hj:=W4.1 hj
     rw[hn]at he
     rcases vo d j with hm|hm
     .rw[hm]at he
      have:=CX (oF ⟨k,by omega⟩)
      exact this he.symm
     .rw[hm]at he
      have:=C2 ⟨j,by omega⟩ ⟨k,by omega⟩ he
      simp at this
      omega
    rw[this]
    simp
  have e3:(cR (aU d k)).any (dO ((List.range d.length).map (aU d)).length)=false:=by
   rw[Xc]
   intro u hu
   have:=C4 h0 hk u hu
   rw[hlen]
   simp[dO]
   omega
  have e4:eZ ((List.range d.length).map (aU d)) (aU d k)=false:=by
   unfold eZ
   by_cases h8:(aU d k).kind=8
   .obtain⟨q,hq1,hq2,hq3⟩:=Fi h0 h8
    have:kj ((List.range d.length).map (aU d)) (aU d k).key=aK d q:=by
     unfold kj
     rw[hq1,Xb,hget q hq2,<- C3 hq3]
     rfl
    have hr:=dn d q
    have d1:decide ((1:Int)<=aK d q)=true:=by simp; omega
    have d2:decide ((aK d q:Int)<=4)=true:=by simp; omega
    rw[this,d1,d2]
    simp
   .simp[h8]
  have e5:e9 ((List.range d.length).map (aU d)) k=0:=by
   simp only[e9,hget k hk,gR,e1,e2,e3,e4]
   rfl
  rw[e5]
  decide
 rw[XC.2 hz]
 rfl
theorem AE:∀k:Fin 13,(gS k.val).size<=8:=by decide
theorem C6:∀k:Fin 13,(ni k.val).name.size<=8:=by decide
theorem AF:∀k:Fin 5,(cB k.val).size<=8:=by decide
theorem H0 (a code:Nat):yM a code<=6:=by
 unfold yM
 cases h:(fP a)[code%(fP a).length]? with
 |none=>simp
 |some n=>exact(ko (Wr h)).2
theorem BZ (x:Node): -3<=jF x/\jF x<=3:=by
 have:x.a%7<7:=WV _ (by decide)
 unfold jF
 omega
theorem yR (k:Nat) (hk:k<=9) (x:Node) (code:Nat):mC 1 (dP k x code).1.c:=by
 have hlo:=BZ x
 have hm:code%(x.b%6+1)<6+1:=Xl (WV _ (by omega)) (by have:x.b%6<6:=WV _ (by decide); omega)
 have hid:=H0 x.a code
 refine⟨(dP k x code).1,rfl,?_,?_,?_,?_,?_⟩
 all_goals unfold dP
 all_goals generalize code%(x.b%6+1)=r at hm |-
 all_goals repeat' split
 all_goals simp[bm,eI,bu,bN,ByteArray.size]
 all_goals first
  |omega
  |(split<;>simp; done)
  |skip
theorem AG:mC 1 bm.c:=by
 refine⟨bm,rfl,?_,?_,?_,?_,?_⟩<;>simp[bm,eI,bu,bN,ByteArray.size]
theorem Fj (d:List Node) (u:Nat) (p:Part):mC 1 (lD d u p).1.c:=by
 refine yR _ ?_ _ _
 have:=dn d u
 unfold initK
 split<;>omega
theorem Fk {d:List Node} {i:Nat} {fl:Bool} {id:Nat} {p:Part} (h0:0<d.length) (h5:d.length<=5) (hi:i<d.length) (h1:id<=12) (hh:ng d i id p=true):(dA d i fl id p).ok:=by
 have hs:=AE ⟨id,by omega⟩
 dsimp only at hs
 refine⟨?_,?_,?_,1,?_⟩
 .show eI (id:Int)
  unfold eI
  omega
 .show bu (gS id)
  unfold bu
  omega
 .show eI (fI (cI d i p.type))
  unfold ng at hh
  cases ht:cI d i p.type with
  |none=>simp[ht]at hh
  |some u=>
   have:=km h0 hi ht
   unfold eI fI
   dsimp only
   omega
 .unfold dA
  dsimp only
  split
  .exact Fj _ _ _
  .exact AG
theorem ej {k:Int} {nm:ByteArray} {lo hi mx key el:Int} {sy:List Sym} {ms:List Mem} {op:Bool} (h1:eI k) (h2:bu nm) (h3:eI lo) (h4:eI hi) (h5:eI mx) (h6:eI key) (h7:eI el) (h8:bN sy) (h9:bN ms) (h10:∀s∈sy,s.ok) (h11:∀m∈ms,m.ok):(⟨k,nm,lo,hi,mx,sy,ms,key,el,op⟩:aI).ok:=⟨⟨h1,h2,h3,h4,h5,h6,h7⟩,⟨h8,h9⟩,h10,h11⟩
theorem B1 {d:List Node} {i:Nat} (h0:0<d.length) (h5:d.length<=5) (hi:i<d.length):(aU d i).ok/\(aU d i).short:=by
 have hlo:=BZ (nodeAt d i)
 have hb6:(nodeAt d i).b%6<6:=WV _ (by decide)
 have hhi:lA (nodeAt d i)=jF (nodeAt d i)+(((nodeAt d i).b%6:Nat):Int):=rfl
 have hc:(nodeAt d i).c%d.length<d.length:=WV _ h0
 have h4:(nodeAt d i).a%4<4:=WV _ (by decide)
 have hnm:=AF ⟨i,by omega⟩
 dsimp only at hnm
 have hT:bu (cB i):=by unfold bu; omega
 have hE:bu ⟨#[]⟩:=by unfold bu; exact WY _
 have z:eI 0:=by unfold eI; omega
 have kk:∀k:Int,0<=k->k<=9->eI k:=fun k _ _=>by unfold eI; omega
 have iL:eI (jF (nodeAt d i)):=by unfold eI; omega
 have iH:eI (lA (nodeAt d i)):=by unfold eI; omega
 have iC:eI (((nodeAt d i).c%d.length:Nat):Int):=by unfold eI; omega
 have iA:eI (((nodeAt d i).a%4:Nat):Int):=by unfold eI; omega
 have iK:eI (fI (jr d (nodeAt d i).b)):=by
  cases hk:jr d (nodeAt d i).b with
  |none=>unfold eI fI; dsimp only; omega
  |some q=>
   have:=p4 h0 hk
   unfold eI fI
   dsimp only
   omega
 have n1:bN ([]:List Sym):=by unfold bN; simp
 have n2:bN ([]:List Mem):=by unfold bN; simp
 have n3:∀s∈([]:List Sym),s.ok:=fun s hs=>by simp at hs
 have n4:∀s∈([]:List Mem),s.ok:=fun s hs=>by simp at hs
 have hsl:(iU (nodeAt d i).a).length<=6:=by
  unfold iU
  rw[Wu]
  exact(jM _).2
 have sl:bN (iU (nodeAt d i).a):=by unfold bN; omega
 have so:∀s∈iU (nodeAt d i).a,s.ok:=fun s hs=>by
  obtain⟨n,hn,rfl⟩:=Wz.1 hs
  have h6:=ko hn
  have hz:=C6 ⟨n,by omega⟩
  dsimp only at hz
  refine⟨?_,?_⟩
  .show eI (n:Int)
   unfold eI
   omega
  .unfold bu
   omega
 have hml:=fun fl=>nh d i fl (nodeAt d i).parts 12
 have ml:∀fl,bN (bK d i fl (nodeAt d i).parts 12):=fun fl=>by have:=hml fl; unfold bN; omega
 have mo:∀fl,∀m∈bK d i fl (nodeAt d i).parts 12,m.ok:=fun fl m hm=>by
  obtain⟨id,p,rfl,hh,_,_,h12⟩:=kr hm
  exact Fk h0 h5 hi h12 hh
 have hs0:∀t:aI,t.syms.length<=12->t.bc.length<=12->t.short:=fun t a b=>⟨by omega,by omega⟩
 rcases dF d i with hk|hk|hk|hk|hk|hk|hk|hk|hk
 case inr.inr.inr.inr.inr.inl=>
  rw[lE hk]
  split<;>dsimp only[aX]
  .exact⟨ej (kk 5 (by decide) (by decide)) hT z z z z z n1 n2 n3 n4,hs0 _ (WY _) (WY _)⟩
  .exact⟨ej (kk 6 (by decide) (by decide)) hT z z z z z n1 (ml false) n3 (mo false),hs0 _ (WY _) (hml false)⟩
 case inr.inr.inr.inr.inr.inr.inr.inl=>
  rw[nj hk]
  split<;>dsimp only[aX]
  .exact⟨ej (kk 7 (by decide) (by decide)) hE z z iA z iC n1 n2 n3 n4,hs0 _ (WY _) (WY _)⟩
  .exact⟨ej (kk 8 (by decide) (by decide)) hE z z iA iK iC n1 n2 n3 n4,hs0 _ (WY _) (WY _)⟩
 all_goals simp only[aU,hk]
 all_goals dsimp -failIfUnchanged [aX]
 .exact⟨ej (kk 1 (by decide) (by decide)) hE z z z z z n1 n2 n3 n4,hs0 _ (WY _) (WY _)⟩
 .exact⟨ej (kk 2 (by decide) (by decide)) hE iL iH z z z n1 n2 n3 n4,hs0 _ (WY _) (WY _)⟩
 .exact⟨ej (kk 3 (by decide) (by decide)) hE z z iA z z n1 n2 n3 n4,hs0 _ (WY _) (WY _)⟩
 .exact⟨ej (kk 4 (by decide) (by decide)) hT z z z z z sl n2 so n4,hs0 _ (Xg hsl (by decide)) (WY _)⟩
 .exact⟨ej (kk 5 (by decide) (by decide)) hT z z z z z n1 (ml true) n3 (mo true),hs0 _ (WY _) (hml true)⟩
 .exact⟨ej (kk 7 (by decide) (by decide)) hE z z iA z iC n1 n2 n3 n4,hs0 _ (WY _) (WY _)⟩
 .exact⟨ej (kk 9 (by decide) (by decide)) hE z z z z iC n1 n2 n3 n4,hs0 _ (WY _) (WY _)⟩
theorem MS {d:List Node} (h0:0<d.length) (h5:d.length<=5):(∀t∈(List.range d.length).map (aU d),t.ok)/\∀t∈(List.range d.length).map (aU d),t.short:=by
 constructor<;>intro t ht<;>obtain⟨i,hi,rfl⟩:=Wz.1 ht
 .exact(B1 h0 h5 (W4.1 hi)).1
 .exact(B1 h0 h5 (W4.1 hi)).2
section
variable {α:Type} [Inhabited α]
def mw (lt:α->α->Bool) (x y:α):Prop:=lt x y=true\/lt y x=true
omit [Inhabited α] in
theorem mw.symm {lt:α->α->Bool} {x y:α} (h:mw lt x y):mw lt y x:=h.elim .inr .inl
def vp (lt:α->α->Bool) (x:α) (l:List α):Nat->Nat
 |0=>0
 |p+1=>if lt x (l.getD p default)=true then vp lt x l p else p+1
def kK (x:α) (l:List α) (p:Nat):List α:=l.take p++x::l.drop p
def uo (lt:α->α->Bool) (x:α) (l:List α):List α:=kK x l (vp lt x l l.length)
theorem AH (lt:α->α->Bool) (x:α) (l:List α):∀q,vp lt x l q<=q
 |0=>Wy _
 |q+1=>by
  have:=AH lt x l q
  unfold vp
  split<;>omega
omit [Inhabited α] in
theorem ta (x:α) (l:List α) (p:Nat) (h:p<=l.length):(kK x l p).length=l.length+1:=by simp[kK]; omega
theorem yS (lt:α->α->Bool) (x:α) (l:List α):(uo lt x l).length=l.length+1:=ta x l _ (AH lt x l _)
omit [Inhabited α] in
theorem B2 (x:α) (l:List α) (p:Nat) (h:p<=l.length):(kK x l p)[p]?=some x:=by
 unfold kK
 rw[List.getElem?_append_right (by simp; omega)]
 simp[Nat.min_eq_left h]
theorem AI (x:α) (l:List α) (p:Nat) (h:p<l.length):(kK x l (p+1))[p]?=some (l.getD p default):=by
 unfold kK
 rw[List.getElem?_append_left (by simp; omega),List.getElem?_take,if_pos (by omega)]
 simp[h]
theorem C7 (x:α) (l:List α) (p:Nat) (h:p<l.length):((kK x l (p+1)).set (p+1) (l.getD p default)).set p x=kK x l p:=by
 apply Xa
 intro i
 have h1:=ta x l (p+1) (by omega)
 by_cases ip:i=p
 .subst ip
  rw[B2 x l i (by omega),List.getElem?_set_self (by simp[h1]; omega)]
 .rw[Xw (Ne.symm ip)]
  by_cases iq:i=p+1
  .subst iq
   rw[W8 (by rw[h1]; omega)]
   unfold kK
   rw[List.getElem?_append_right (by simp; omega)]
   simp[Nat.min_eq_left (Nat.le_of_lt h),h]
  .rw[Xw (Ne.symm iq)]
   unfold kK
   rcases Wx i p with hi|hi
   .rw[List.getElem?_append_left (by simp; omega),List.getElem?_append_left (by simp; omega),List.getElem?_take,List.getElem?_take,if_pos (by omega),if_pos hi]
   .rw[List.getElem?_append_right (by simp; omega),List.getElem?_append_right (by simp; omega)]
    obtain⟨q,rfl⟩:∃q,i=p+2+q:=⟨i - (p+2),by omega⟩
    simp only[List.length_take,Nat.min_eq_left (Nat.le_of_lt h),Nat.min_eq_left (Nat.succ_le_of_lt h)]
    rw[show p+2+q - (p+1)=q+1 by omega,show p+2+q - p=q+2 by omega]
    simp only[List.getElem?_cons_succ,List.getElem?_drop]
    congr 1
    omega
omit [Inhabited α] in
theorem C8 (x:α) (l:List α) (p:Nat):(kK x l p).Perm (x::l):=by
 unfold kK
 refine(List.perm_middle).trans ?_
 rw[Yb]
theorem vu (lt:α->α->Bool) (x:α) (l:List α):(uo lt x l).Perm (x::l):=C8 x l _
theorem vw (lt:α->α->Bool) (x:α) (l:List α):∀q j,vp lt x l q<=j->j<q->lt x (l.getD j default)=true
 |0,j,_,h=>absurd h (XG _)
 |q+1,j,h1,h2=>by
  unfold vp at h1
  split at h1
  .rename_i h
   rcases Wx j q with h3|h3
   .exact vw lt x l q j h1 h3
   .obtain rfl:j=q:=by omega
    exact h
  .omega
theorem yT (lt:α->α->Bool) (x:α) (l:List α):∀q p,vp lt x l q=p+1->lt x (l.getD p default)=false
 |0,p,h=>by simp[vp]at h
 |q+1,p,h=>by
  unfold vp at h
  split at h
  .exact yT lt x l q p h
  .rename_i hn
   obtain rfl:p=q:=by omega
   simpa using hn
theorem yU {lt:α->α->Bool} (tr:∀x y z,lt x y=true->lt y z=true->lt x z=true) {x:α} {l:List α} (hl:l.Pairwise (fun a b=>lt a b=true)) (hx:∀y∈l,mw lt x y):(uo lt x l).Pairwise (fun a b=>lt a b=true):=by
 have hle:=AH lt x l l.length
 have hup:∀y∈l.drop (vp lt x l l.length),lt x y=true:=fun y hy=>by
  obtain⟨j,hj,rfl⟩:=Xt hy
  rw[List.length_drop]at hj
  have:=vw lt x l l.length (vp lt x l l.length+j) (by omega) (by omega)
  rw[List.getElem_drop]
  simpa [show vp lt x l l.length+j<l.length by omega]using this
 have hlo:∀y∈l.take (vp lt x l l.length),lt y x=true:=fun y hy=>by
  obtain⟨j,hj,rfl⟩:=Xt hy
  rw[Xm]at hj
  obtain⟨p,hp⟩:∃p,vp lt x l l.length=p+1:=⟨vp lt x l l.length - 1,by omega⟩
  have hst:=yT lt x l _ _ hp
  have hpl:p<l.length:=by omega
  have e1:l.getD p default=l[p]:=by simp[hpl]
  rw[e1]at hst
  have h1:lt l[p] x=true:=(hx l[p] (List.getElem_mem _)).resolve_left (by simp[hst])
  rw[List.getElem_take]
  rcases Wx j p with h|h
  .exact tr _ _ _ (Xs.1 hl j p (by omega) hpl h) h1
  .obtain rfl:j=p:=by omega
   exact h1
 unfold uo kK
 rw[List.pairwise_append,WH]
 refine⟨hl.sublist (List.take_sublist _ _),⟨hup,hl.sublist (List.drop_sublist _ _)⟩,fun a ha b hb=>?_⟩
 rcases WC.1 hb with rfl|hb
 .exact hlo a ha
 .exact tr _ _ _ (hlo a ha) (hup b hb)
def mG (lt:α->α->Bool) (l:List α):List α:=l.foldl (fun o x=>uo lt x o) []
theorem tc (lt:α->α->Bool):∀(l o:List α),(l.foldl (fun o x=>uo lt x o) o).Perm (o++l)
 |[],o=>by simp
 |x::l,o=>by
  rw[Xy]
  refine(tc lt l _).trans ?_
  refine((vu lt x o).append_right l).trans ?_
  exact(List.perm_middle (a:=x) (l₁:=o) (l₂:=l)).symm
theorem ku (lt:α->α->Bool) (l:List α):(mG lt l).Perm l:=tc lt l []
theorem oG {lt:α->α->Bool} (tr:∀x y z,lt x y=true->lt y z=true->lt x z=true):∀{l o:List α},o.Pairwise (fun a b=>lt a b=true)->l.Pairwise (mw lt)->(∀x∈l,∀y∈o,mw lt x y)->(l.foldl (fun o x=>uo lt x o) o).Pairwise (fun a b=>lt a b=true)
 |[],_,h,_,_=>h
 |x::l,o,h,hl,hx=>by
  rw[WH]at hl
  rw[Xy]
  refine oG tr (yU tr h (hx x (by simp))) hl.2 fun z hz y hy=>?_
  rcases WC.1 ((vu lt x o).subset hy)with rfl|hy
  .exact(hl.1 z hz).symm
  .exact hx z (by simp[hz]) y hy
theorem oH {lt:α->α->Bool} (tr:∀x y z,lt x y=true->lt y z=true->lt x z=true) {l:List α} (hl:l.Pairwise (mw lt)):(mG lt l).Pairwise (fun a b=>lt a b=true):=oG tr List.Pairwise.nil hl (fun _ _ _ h=>absurd h (by simp))
omit [Inhabited α] in
theorem Fl {lt:α->α->Bool} (tr:∀x y z,lt x y=true->lt y z=true->lt x z=true) {x:α}:∀{l:List α},l.Pairwise (fun a b=>lt a b=true)->(∀y∈l,mw lt x y)->(ins lt x l).Pairwise (fun a b=>lt a b=true)
 |[],_,_=>XR _ _
 |y::r,h,hx=>by
  obtain⟨h1,h2⟩:=WH.1 h
  unfold ins
  split
  .rename_i hc
   refine List.pairwise_cons.2 ⟨fun z hz=>?_,Fl tr h2 (fun z hz=>hx z (by simp[hz]))⟩
   rcases WC.1 ((ou lt x r).subset hz)with rfl|hz
   .exact hc
   .exact h1 z hz
  .rename_i hc
   have hxy:lt x y=true:=(hx y (by simp)).resolve_right (by simpa using hc)
   refine WH.2 ⟨fun z hz=>?_,h⟩
   rcases WC.1 hz with rfl|hz
   .exact hxy
   .exact tr _ _ _ hxy (h1 z hz)
omit [Inhabited α] in
theorem oI {lt:α->α->Bool} (tr:∀x y z,lt x y=true->lt y z=true->lt x z=true):∀{l:List α},l.Pairwise (mw lt)->(dm lt l).Pairwise (fun a b=>lt a b=true)
 |[],_=>List.Pairwise.nil
 |x::l,h=>by
  obtain⟨h1,h2⟩:=WH.1 h
  exact Fl tr (oI tr h2) fun y hy=>h1 y ((db lt l).subset hy)
omit [Inhabited α] in
theorem vz {lt:α->α->Bool}:∀{l:List α},l.Pairwise (fun a b=>lt a b=true)->rising lt l=true
 |[],_=>rfl
 |[_],_=>rfl
 |x::y::r,h=>by
  obtain⟨h1,h2⟩:=WH.1 h
  simp only[rising,Bool.and_eq_true]
  exact⟨h1 y (by simp),vz h2⟩
omit [Inhabited α] in
theorem B3 {lt:α->α->Bool} (irr:∀x,lt x x=false) (tr:∀x y z,lt x y=true->lt y z=true->lt x z=true) {l m:List α} (hl:l.Pairwise (fun a b=>lt a b=true)) (hm:m.Pairwise (fun a b=>lt a b=true)) (h:∀x,x∈l↔x∈m):l=m:=
 E2 (r:=fun a b=>lt a b=true) (fun x=>by simp[irr x]) tr hl hm h
theorem yV {lt:α->α->Bool} (irr:∀x,lt x x=false) (tr:∀x y z,lt x y=true->lt y z=true->lt x z=true) {l:List α} (hl:l.Pairwise (mw lt)):mG lt l=dm lt l:=
 B3 irr tr (oH tr hl) (oI tr hl) fun _=>((ku lt l).trans (db lt l).symm).mem_iff
end
end Go.Pv
namespace Go.Pv
theorem r66 {Pr:bn} (x:Int):res A Pr 66 [.int .i64 x]=some [.bool false]:=by
 refine aw a66 rfl rfl ?_
 simp only[F66,UL]
 simp(disch:=omega)only[go_sem]
theorem r60 {Pr:bn} (hp:Pr 66=none) (x y:Int):res A Pr 60 [.int .i64 x,.int .i64 y]=some [.int .i64 (hC x y)]:=by
 refine aw a60 rfl rfl ?_
 simp only[F60,UJ]
 simp(disch:=omega)only[go_sem,yl (by kernel_rfl) hp UR,r66]
 unfold hC
 refine Br.aJ (fun h=>?_) (fun h=>?_)<;>simp(disch:=omega)only[go_sem,h]
 refine Br.aJ (fun h2=>?_) (fun h2=>?_)<;>simp(disch:=omega)only[go_sem,h,h2]
theorem r58 {Pr:bn} (a:Edge):res A Pr 58 [.agg a.c]=some [.int .i64 a.side]:=by
 refine aw a58 rfl rfl ?_
 simp only[F58,UH]
 simp(disch:=omega)only[go_sem]
 unfold Edge.side
 refine Br.of (fun h=>?_) (fun h=>?_)<;>simp(disch:=omega)only[go_sem,h]
def Fm:List Int->Int
 |[]=>0
 |x::r=>if x≠0 then x else Fm r
theorem fL {α:Type} {l:List α} {k:Nat} {x:α} (h:l[k]?=some x):l.drop k=x::l.drop (k+1):=by
 obtain⟨h1,h2⟩:=Wq.1 h
 rw[List.drop_eq_getElem_cons h1,h2]
theorem get_at {α:Type} {l:List α} {k:Nat} (h:k<l.length):∃x,l[k]?=some x:=⟨_,Ws h⟩
theorem jN {α:Type} {l:List α} {k:Nat} (h:¬(k:Int)<l.length):l.drop k=[]:=List.drop_eq_nil_of_le (by omega)
theorem r59 {Pr:bn} (t:Nat) (l:List Int) (hl:l.length<1000):res A Pr 59 [.aq t (ints l)]=some [.int .i64 (Fm l)]:=by
 refine aw a59 rfl rfl ?_
 simp only[F59,UI]
 simp(disch:=omega)only[go_sem]
 refine W.eG l.length (fun k=>⟨[(3,.pv (.int .i64 0)),(6,.pv (.aq t (ints l))),(7,.pv (.int .i64 l.length)),(8,.pv (.int .i64 k))],⟨[],[],[]⟩⟩) (fun k=>Fm l=Fm (l.drop k)) rfl rfl fun k hk hi=>?_
 simp(disch:=omega)only[go_sem]
 refine Br.aJ (fun h=>?_) (fun h=>?_)
 .obtain⟨x,hx⟩:=get_at (l:=l) (k:=k) (by omega)
  rw[fL hx,Fm]at hi
  simp(disch:=omega)only[go_sem,hx]
  refine Br.aJ (fun h1=>?_) (fun h1=>?_)<;>simp(disch:=omega)only[go_sem]
  .exact .of (by omega) rfl (by simpa [h1]using hi)
  .simp[hi,h1]
 .simp(disch:=omega)only[go_sem]
  simp[hi,jN h,Fm]
theorem r47 {Pr:bn} (h66:Pr 66=none) (h60:Pr 60=none) (h59:Pr 59=none) (h58:Pr 58=none) (a b:Edge):res A Pr 47 [.agg a.c,.agg b.c]=some [.int .i64 (Edge.cmp a b)]:=by
 refine aw a47 rfl rfl ?_
 simp only[F47,UA]
 have e59:=fun x y z=>r59 (Pr:=Pr) 0 [x,y,z] (by simp)
 simp only[ints,List.map_cons,List.map_nil]at e59
 have e58:=fun x=>r58 (Pr:=Pr) x
 simp only[Edge.c]at e58
 simp(disch:=omega)only[go_sem,yl (by kernel_rfl) h60 UQ,yl (by kernel_rfl) h59 UP,yl (by kernel_rfl) h58 UO,r60 h66,e58 a,e58 b,e59]
 by_cases h:hC a.label b.label=0<;>simp[Fm,Edge.cmp,h]
@[go_sem] theorem r44 (a b:Edge):res A az 44 [.agg [.int .i64 a.fr,.bool a.send,.int .i64 a.label,.int .i64 a.to],.agg [.int .i64 b.fr,.bool b.send,.int .i64 b.label,.int .i64 b.to]]=some [.bool (Edge.lt a b)]:=by
 refine aw a44 rfl rfl ?_
 simp only[F44,Ux]
 simp(disch:=omega)only[go_sem]
 unfold Edge.lt
 by_cases h:a.fr=b.fr<;>by_cases h2:a.send=b.send<;>simp(disch:=omega)only[go_sem,h,h2,ne_eq,not_true_eq_false,not_false_eq_true]
theorem aL.Fo {a:aL} (h1:a.ai<=12) (h2:a.aa.length<=100) (h3:0<=a.start/\a.start<a.ai):a.err=if sS a.ai none a.aa=true then 0 else 1:=by
 unfold aL.err
 rw[if_neg (by omega),if_pos h3]
theorem aL.mb {a:aL} (h1:a.ai<=12) (h2:a.aa.length<=100) (h3:¬(0<=a.start/\a.start<a.ai)):a.err=1:=by
 unfold aL.err
 rw[if_neg (by omega),if_neg h3]
theorem aL.mc {a:aL} (h:12<a.ai\/100<a.aa.length):a.err=3:=by
 unfold aL.err
 rw[if_pos h]
theorem Fp {n:Int} {p:Option Edge} {e:Edge} {r:List Edge} (h:e.fits n=false):sS n p (e::r)=false:=by simp[sS,h]
set_option maxHeartbeats 1000000 in
@[go_sem] theorem r26 (t:Nat) (a:aL) (hl:a.aa.length<=2^63 - 1):res A az 26 [.agg [.int .i64 a.ai,.int .i64 a.start,.aq t (a.aa.map Edge.c)]]=some [.int .i64 a.err]:=by
 refine aw a26 rfl rfl ?_
 simp only[F26,Up]
 simp(disch:=omega)only[go_sem]
 refine Br.aJ (fun h1=>?_) (fun h1=>?_)<;>simp(disch:=omega)only[go_sem,h1]
 .rw[aL.mc (.inl h1)]
 refine Br.aJ (fun h2=>?_) (fun h2=>?_)<;>simp(disch:=omega)only[go_sem,h2]
 .rw[aL.mc (.inr (by omega))]
 refine Br.aJ (fun h3=>?_) (fun h3=>?_)<;>simp(disch:=omega)only[go_sem,h3]
 .rw[aL.mb (by omega) (by omega) (by omega)]
 refine Br.aJ (fun h4=>?_) (fun h4=>?_)<;>simp(disch:=omega)only[go_sem,h4]
 .rw[aL.mb (by omega) (by omega) (by omega)]
 refine Br.aJ (fun h5=>?_) (fun h5=>?_)<;>simp(disch:=omega)only[go_sem,h5]
 .rw[aL.mb (by omega) (by omega) (by omega)]
 rw[aL.Fo (by omega) (by omega) (by omega)]
 refine W.eG a.aa.length (fun k=>⟨[(1,.ptr 1 0),(3,.pv (.int .i64 k))],⟨[(1,[.pv (.int .i64 a.ai),.pv (.int .i64 a.start),.pv (.aq t (a.aa.map Edge.c))])],[],[]⟩⟩) (fun k=>sS a.ai none a.aa=sS a.ai (pS a.aa k) (a.aa.drop k)) rfl rfl fun k hk hi=>?_
 simp(disch:=omega)only[go_sem]
 refine Br.aJ (fun h=>?_) (fun h=>?_)
 .obtain⟨e,he⟩:=get_at (l:=a.aa) (k:=k) (by omega)
  rw[fL he]at hi
  have bad:e.fits a.ai=false->sS a.ai none a.aa=false:=fun hb=>hi.trans (Fp hb)
  simp(disch:=omega)only[go_sem,he]
  refine Br.aJ (fun g1=>?_) (fun g1=>?_)<;>simp(disch:=omega)only[go_sem,g1]
  .rw[bad (by simp[Edge.fits]; omega)]; rfl
  refine Br.aJ (fun g2=>?_) (fun g2=>?_)<;>simp(disch:=omega)only[go_sem,g2]
  .rw[bad (by simp[Edge.fits]; omega)]; rfl
  refine Br.aJ (fun g3=>?_) (fun g3=>?_)<;>simp(disch:=omega)only[go_sem,g3]
  .rw[bad (by simp[Edge.fits]; omega)]; rfl
  refine Br.aJ (fun g4=>?_) (fun g4=>?_)<;>simp(disch:=omega)only[go_sem,g4]
  .rw[bad (by simp[Edge.fits]; omega)]; rfl
  refine Br.aJ (fun g5=>?_) (fun g5=>?_)<;>simp(disch:=omega)only[go_sem,g5]
  .rw[bad (by simp[Edge.fits]; omega)]; rfl
  refine Br.aJ (fun g6=>?_) (fun g6=>?_)<;>simp(disch:=omega)only[go_sem,g6]
  .rw[bad (by simp[Edge.fits]; omega)]; rfl
  have fit:e.fits a.ai=true:=by simp[Edge.fits]; omega
  refine Br.aJ (fun g7=>?_) (fun g7=>?_)<;>simp(disch:=omega)only[go_sem,g7]
  .obtain⟨j,rfl⟩:∃j,k=j+1:=⟨k - 1,by omega⟩
   obtain⟨d,hd⟩:=get_at (l:=a.aa) (k:=j) (by omega)
   have hj:((j+1:Nat):Int) - 1=(j:Int):=by omega
   rw[fq,hd]at hi
   simp(disch:=omega)only[go_sem,hj,hd]
   refine Br.of (fun g8=>?_) (fun g8=>?_)<;>simp(disch:=omega)only[go_sem]
   .exact .of (by omega) rfl (by rw[hi,fq,he]; simp[sS,fit,g8])
   .rw[hi]; simp[sS,g8]
  .obtain rfl:k=0:=by omega
   exact .of (by omega) rfl (by rw[hi,fq,he]; simp[sS,fit,pS])
 .simp(disch:=omega)only[go_sem]
  rw[hi,jN h]
  rfl
@[go_sem] theorem r47a (a b:Edge):res A az 47 [.agg [.int .i64 a.fr,.bool a.send,.int .i64 a.label,.int .i64 a.to],.agg [.int .i64 b.fr,.bool b.send,.int .i64 b.label,.int .i64 b.to]]=some [.int .i64 (Edge.cmp a b)]:=
 r47 (by kernel_rfl) (by kernel_rfl) (by kernel_rfl) (by kernel_rfl) a b
@[go_sem] theorem r46 (n s:Int) (t:Nat) (cs:List PV):res A az 46 [.int .i64 n,.ro t (.int .i64 s::cs)]=some [.bool (decide (0<=n)&&decide (n<s))]:=by
 refine aw a46 rfl rfl ?_
 simp only[F46,Uz]
 simp(disch:=omega)only[go_sem]
 refine Br.aJ (fun h1=>?_) (fun h1=>?_)<;>simp(disch:=omega)only[go_sem,h1]
theorem B4 {e:Edge} {n:Int}:e.fits n=(((decide (0<=e.fr)&&decide (e.fr<n))&&(decide (0<=e.to)&&decide (e.to<n)))&&(decide (1<=e.label)&&decide (e.label<=1000))):=by
 simp[Edge.fits,Bool.and_assoc]
set_option maxHeartbeats 2000000 in
@[go_sem] theorem r29 (t:Nat) (a:aL) (hl:a.aa.length<=2^63 - 1):res A az 29 [.agg [.int .i64 a.ai,.int .i64 a.start,.aq t (a.aa.map Edge.c)]]=some [.int .i64 a.err]:=by
 refine aw a29 rfl rfl ?_
 simp only[F29,Uq]
 simp(disch:=omega)only[go_sem]
 refine Br.aJ (fun h1=>?_) (fun h1=>?_)<;>simp(disch:=omega)only[go_sem,h1]
 .rw[aL.mc (.inl h1)]
 refine Br.aJ (fun h2=>?_) (fun h2=>?_)<;>simp(disch:=omega)only[go_sem,h2]
 .rw[aL.mc (.inr (by omega))]
 refine Br.of (fun h3=>?_) (fun h3=>?_)<;>simp at h3<;>simp(disch:=omega)only[go_sem]
 case refine_2=>rw[aL.mb (by omega) (by omega) (by omega)]
 rw[aL.Fo (by omega) (by omega) (by omega)]
 refine W.eG a.aa.length (fun k=>⟨[(1,.ptr 1 0),(3,.func 46 [.ptr 1 0]),(22,.pv (.aq t (a.aa.map Edge.c))),(23,.pv (.int .i64 a.aa.length)),(24,.pv (.int .i64 k))],⟨[(1,[.pv (.int .i64 a.ai),.pv (.int .i64 a.start),.pv (.aq t (a.aa.map Edge.c))])],[],[]⟩⟩) (fun k=>sS a.ai none a.aa=sS a.ai (pS a.aa k) (a.aa.drop k)) rfl rfl fun k hk hi=>?_
 simp(disch:=omega)only[go_sem]
 refine Br.aJ (fun h=>?_) (fun h=>?_)
 .obtain⟨e,he⟩:=get_at (l:=a.aa) (k:=k) (by omega)
  rw[fL he]at hi
  have bad:e.fits a.ai=false->sS a.ai none a.aa=false:=fun hb=>hi.trans (Fp hb)
  rw[B4]at bad
  simp(disch:=omega)only[go_sem,he]
  refine Br.of (fun g1=>?_) (fun g1=>?_)<;>simp(disch:=omega)only[go_sem,g1]
  case refine_2=>rw[bad (by rw[g1]; rfl)]; rfl
  refine Br.of (fun g2=>?_) (fun g2=>?_)<;>simp(disch:=omega)only[go_sem,g2]
  case refine_2=>rw[bad (by rw[g1,g2]; rfl)]; rfl
  refine Br.aJ (fun g3=>?_) (fun g3=>?_)<;>simp(disch:=omega)only[go_sem,g3]
  .rw[bad (by simp; omega)]; rfl
  refine Br.aJ (fun g4=>?_) (fun g4=>?_)<;>simp(disch:=omega)only[go_sem,g4]
  .rw[bad (by simp; omega)]; rfl
  have fit:e.fits a.ai=true:=by rw[B4,g1,g2]; simp; omega
  refine Br.aJ (fun g7=>?_) (fun g7=>?_)<;>simp(disch:=omega)only[go_sem,g7]
  .obtain⟨j,rfl⟩:∃j,k=j+1:=⟨k - 1,by omega⟩
   obtain⟨d,hd⟩:=get_at (l:=a.aa) (k:=j) (by omega)
   have hj:((j+1:Nat):Int) - 1=(j:Int):=by omega
   rw[fq,hd]at hi
   simp(disch:=omega)only[go_sem,hj,hd,Edge.KV]
   refine Br.of (fun g8=>?_) (fun g8=>?_)<;>simp(disch:=omega)only[go_sem]
   .exact .of (by omega) rfl (by rw[hi,fq,he]; simp[sS,fit,g8])
   .rw[hi]; simp[sS,g8]
  .obtain rfl:k=0:=by omega
   exact .of (by omega) rfl (by rw[hi,fq,he]; simp[sS,fit,pS])
 .simp(disch:=omega)only[go_sem]
  rw[hi,jN h]
  rfl
def bh (s:Int) (d:Bool) (x:Int):List Edge->Option Int
 |[]=>none
 |e::r=>if e.fr=s/\e.send=d/\e.label=x then some e.to else bh s d x r
@[go_sem] theorem r45 (t:Nat) (a:aL) (s:Int) (d:Bool) (x:Int) (hl:a.aa.length<=2^63 - 1):
  res A az 45 [.agg [.int .i64 a.ai,.int .i64 a.start,.aq t (a.aa.map Edge.c)],.int .i64 s,.bool d,.int .i64 x]=some [.int .i64 ((bh s d x a.aa).getD 0),.bool (bh s d x a.aa).isSome]:=by
 refine aw a45 rfl rfl ?_
 simp only[F45,Uy]
 simp(disch:=omega)only[go_sem]
 refine W.eG a.aa.length (fun k=>⟨[(1,.pv (.int .i64 s)),(2,.pv (.bool d)),(3,.pv (.int .i64 x)),(13,.pv (.aq t (a.aa.map Edge.c))),(14,.pv (.int .i64 a.aa.length)),(15,.pv (.int .i64 k))],⟨[],[],[]⟩⟩) (fun k=>bh s d x a.aa=bh s d x (a.aa.drop k)) rfl rfl fun k hk hi=>?_
 simp(disch:=omega)only[go_sem]
 refine Br.aJ (fun h=>?_) (fun h=>?_)
 .obtain⟨e,he⟩:=get_at (l:=a.aa) (k:=k) (by omega)
  rw[fL he]at hi
  have no:¬(e.fr=s/\e.send=d/\e.label=x)->bh s d x a.aa=bh s d x (a.aa.drop (k+1)):=fun hn=>hi.trans (by simp only[bh,if_neg hn])
  have yes:(e.fr=s/\e.send=d/\e.label=x)->bh s d x a.aa=some e.to:=fun hn=>hi.trans (by simp only[bh,if_pos hn])
  simp(disch:=omega)only[go_sem,he]
  refine Br.aJ (fun g1=>?_) (fun g1=>?_)<;>simp(disch:=omega)only[go_sem,g1]
  .refine Br.aJ (fun g2=>?_) (fun g2=>?_)<;>simp(disch:=omega)only[go_sem,g2]
   .refine Br.aJ (fun g3=>?_) (fun g3=>?_)<;>simp(disch:=omega)only[go_sem,g3]
    .rw[yes ⟨g1,g2,g3⟩]
     rfl
    .exact .of (by omega) rfl (no (fun hn=>g3 hn.2.2))
   .exact .of (by omega) rfl (no (fun hn=>g2 hn.2.1))
  .exact .of (by omega) rfl (no (fun hn=>g1 hn.1))
 .simp(disch:=omega)only[go_sem]
  rw[hi,jN h]
  rfl
@[go_sem] theorem r39 (t:Nat) (a:aL) (s:Int) (d:Bool) (x:Int) (hl:a.aa.length<=2^63 - 1):
  res A az 39 [.agg [.int .i64 a.ai,.int .i64 a.start,.aq t (a.aa.map Edge.c)],.int .i64 s,.bool d,.int .i64 x]=some [.int .i64 ((bh s d x a.aa).getD 0),.bool (bh s d x a.aa).isSome]:=by
 refine aw a39 rfl rfl ?_
 simp only[F39,Uv]
 simp(disch:=omega)only[go_sem]
 refine W.eG a.aa.length (fun k=>⟨[(1,.pv (.int .i64 s)),(2,.pv (.bool d)),(3,.pv (.int .i64 x)),(4,.ptr 4 0),(10,.pv (.int .i64 k))],⟨[(4,[.pv (.int .i64 a.ai),.pv (.int .i64 a.start),.pv (.aq t (a.aa.map Edge.c))])],[],[]⟩⟩) (fun k=>bh s d x a.aa=bh s d x (a.aa.drop k)) rfl rfl fun k hk hi=>?_
 simp(disch:=omega)only[go_sem]
 refine Br.aJ (fun h=>?_) (fun h=>?_)
 .obtain⟨e,he⟩:=get_at (l:=a.aa) (k:=k) (by omega)
  rw[fL he]at hi
  have no:¬(e.fr=s/\e.send=d/\e.label=x)->bh s d x a.aa=bh s d x (a.aa.drop (k+1)):=fun hn=>hi.trans (by simp only[bh,if_neg hn])
  have yes:(e.fr=s/\e.send=d/\e.label=x)->bh s d x a.aa=some e.to:=fun hn=>hi.trans (by simp only[bh,if_pos hn])
  simp(disch:=omega)only[go_sem,he]
  refine Br.aJ (fun g1=>?_) (fun g1=>?_)<;>simp(disch:=omega)only[go_sem,g1]
  .refine Br.aJ (fun g2=>?_) (fun g2=>?_)<;>simp(disch:=omega)only[go_sem,g2]
   .refine Br.aJ (fun g3=>?_) (fun g3=>?_)<;>simp(disch:=omega)only[go_sem,g3]
    .rw[yes ⟨g1,g2,g3⟩]
     rfl
    .exact .of (by omega) rfl (no (fun hn=>g3 hn.2.2))
   .exact .of (by omega) rfl (no (fun hn=>g2 hn.2.1))
  .exact .of (by omega) rfl (no (fun hn=>g1 hn.1))
 .simp(disch:=omega)only[go_sem]
  rw[hi,jN h]
  rfl
def Fq (s:Int):List Edge->Bool
 |[]=>true
 |e::r=>if e.fr=s then false else Fq s r
def AJ (es:List Edge):Nat->List Int
 |0=>[]
 |k+1=>if Fq k es then AJ es k++[(k:Int)] else AJ es k
def aL.ends (a:aL):List Int:=if a.ai<=12 then AJ a.aa a.ai.toNat else []
def ek (x:Int):Nat->List Int->Int
 |_,[]=> -1
 |k,y::r=>if y=x then k else ek x (k+1) r
def jP (x:Int) (l:List Int):Int:=ek x 0 l
@[go_sem] theorem r53 (t:Nat) (l:List Int) (x:Int) (hl:l.length<=2^63 - 1):res A az 53 [.aq t (ints l),.int .i64 x]=some [.int .i64 (jP x l)]:=by
 refine aw a53 rfl rfl ?_
 simp only[F53,UD]
 simp(disch:=omega)only[go_sem]
 refine W.eG l.length (fun k=>⟨[(0,.pv (.aq t (ints l))),(1,.pv (.int .i64 x)),(5,.pv (.int .i64 k))],⟨[],[],[]⟩⟩) (fun k=>jP x l=ek x k (l.drop k)) rfl rfl fun k hk hi=>?_
 simp(disch:=omega)only[go_sem]
 refine Br.aJ (fun h=>?_) (fun h=>?_)
 .obtain⟨y,hy⟩:=get_at (l:=l) (k:=k) (by omega)
  rw[fL hy]at hi
  simp(disch:=omega)only[go_sem,hy]
  refine Br.aJ (fun g1=>?_) (fun g1=>?_)<;>simp(disch:=omega)only[go_sem,g1]
  .rw[hi]
   simp only[ek,if_pos g1]
  .exact .of (by omega) rfl (hi.trans (by simp only[ek,if_neg g1]))
 .simp(disch:=omega)only[go_sem]
  rw[hi,jN h]
  rfl
@[go_sem] theorem MT (a b c d:Nat):distinct (dS [.own a b c d])=true:=rfl
inductive AK where
 |e
 |a (x:Int) (l:List Int)
 |b (x:Int) (l:List Int)
 |ab (x:Int) (l:List Int) (y:Int) (r:List Int)
 |ba (x:Int) (l:List Int) (y:Int) (r:List Int)
def ow (i:Nat) (l:List Int):V:=.own i l.length 0 (l.length+1)
def ao (x:Int) (l:List Int):aN:=⟨l.length,1,.inl (ints (x::l))⟩
def AK.v0:AK->V
 |.e|.b _ _=>.tl []
 |.a _ l|.ab _ l _ _=>ow 0 l
 |.ba _ l _ _=>ow 1 l
def AK.v1:AK->V
 |.e|.a _ _=>.tl []
 |.b _ l|.ba _ _ _ l=>ow 0 l
 |.ab _ _ _ r=>ow 1 r
def AK.ar:AK->List aN
 |.e=>[]
 |.a x l|.b x l=>[ao x l]
 |.ab x l y r=>[ao x l,ao y r]
 |.ba x l y r=>[ao y r,ao x l]
def AK.l0:AK->List Int
 |.e|.b _ _=>[]
 |.a x l|.ab x l _ _|.ba x l _ _=>x::l
def AK.l1:AK->List Int
 |.e|.a _ _=>[]
 |.b x l|.ab _ _ x l|.ba _ _ x l=>x::l
def AK.put (s:Bool) (z:Int):AK->AK
 |.e=>if s then .b z [] else .a z []
 |.a x l=>if s then .ab x l z [] else .a x (l++[z])
 |.b x l=>if s then .b x (l++[z]) else .ba z [] x l
 |.ab x l y r=>if s then .ab x l y (r++[z]) else .ab x (l++[z]) y r
 |.ba x l y r=>if s then .ba x l y (r++[z]) else .ba x (l++[z]) y r
def AK.len (t:AK):Nat:=t.l0.length+t.l1.length
@[go_sem] theorem Pw (h:ae):gM [.tl []] h=some (.dv [],{}):=rfl
def B5 (id ax len:Nat) (a:aN):Option (List PV×Option (Nat×aN)):=
 if a.size=len/\a.k≠0 then (match a.body with
   |.inl rows=>some ([.fr a.k rows],some (id,⟨ax+1,0,.inl []⟩))
   |.inr _=>none) else none
theorem td {x:Int}:∀{l:List Int} {k:Nat},ek x k l<0↔x∉l
 |[],k=>by simp[ek]
 |y::r,k=>by
  unfold ek
  split
  .rename_i h
   subst h
   simp
  .rename_i h
   rw[td]
   simp only[List.mem_cons,not_or]
   exact⟨fun h2=>⟨fun e=>h e.symm,h2⟩,fun h2=>h2.2⟩
theorem oJ {x:Int} {l:List Int}:jP x l<0↔x∉l:=td
theorem rG {x:Int} {l:List Int}:0<=jP x l↔x∈l:=by
 rw[<- Int.not_lt,oJ]
 simp
def B6 (l:List jG):List Int:=l.flatMap fun c=>[c.rn,c.rep]
def U5 (l:List gF):List Int:=l.map (·.ty)
def H2 (l:List dW):List Int:=l.flatMap fun w=>U5 w.msgs
def H3 (l:List jH):List Int:=l.map (·.ty)
@[go_sem] theorem Px (g:bI->V) (h:ae) (k t:Nat) (rows:List (List PV)) (hi:bI):
  df g h k (.pv (.aq t rows)) none (some hi) none=if aP k (.inl rows)=true then (intOf (g hi)).bind fun i=>Ap i rows.length (.pv (.aq t (rows.take i.toNat)),{}) else none:=by
 cases hf:aP k (.inl rows)with
 |false=>simp[df,hf]
 |true=>
  cases hj:intOf (g hi)with
  |none=>simp[df,hf,bounds,bound,hj]
  |some i=>by_cases h0:0<=i/\i<=rows.length<;>simp[df,hf,bounds,bound,hj,h0,Ap]
def lF (t u x y:Nat) (v:iY):List PV:=[.str v.name,.aq t (v.types.map aI.c),.aq u (cg v.calls),.aq x (aF v.aF),.aq y (cQ v.aS)]
theorem r447 (t:Nat) (w:jG) (nm:ByteArray):res A az 447 [.agg w.c,.ro t [.str nm]]=some [.bool (decide (w.name=nm))]:=by
 refine aw a447 rfl rfl ?_
 simp only[F447,LO]
 simp(disch:=omega)only[go_sem]
theorem r446 (t u:Nat) (l:List jG) (nm:ByteArray) (hl:l.length<=2^63 - 1):res A az 446 [.aq t (cg l),.func 447 [.ro u [.str nm]]]=some [.int .i64 (qZ (fun w=>decide (w.name=nm)) l)]:=by
 refine aw a446 rfl rfl ?_
 simp only[F446,LN]
 simp(disch:=omega)only[go_sem]
 refine W.eG l.length (fun k=>⟨[(0,.pv (.aq t (cg l))),(1,.pv (.func 447 [.ro u [.str nm]])),(7,.pv (.int .i64 l.length)),(8,.pv (.int .i64 k))],⟨[],[],[]⟩⟩) (fun k=>∀(i:Nat) (w:jG),i<k->l[i]?=some w->decide (w.name=nm)=false) rfl (fun i w hi=>absurd hi (by omega)) fun k hk hi=>?_
 simp(disch:=omega)only[go_sem]
 refine Br.aJ (fun c1=>?_) (fun c1=>?_)
 .obtain⟨w,hw⟩:=get_some (l:=l) (k:=k) (by omega)
  have h447:=fun t=>r447 t w nm
  simp only[jG.c]at h447
  cases hd:decide (w.name=nm)with
  |true=>
   rw[hd]at h447
   simp(disch:=omega)only[go_sem,hw,Option.map_some,h447]
   unfold qZ
   rw[wG hw hd hi]
  |false=>
   rw[hd]at h447
   simp(disch:=omega)only[go_sem,hw,Option.map_some,h447]
   exact .of (by omega) rfl (sU hw hi hd)
 .simp(disch:=omega)only[go_sem]
  unfold qZ
  rw[wH (pT (k:=k) (by omega) hi)]
def MU (o:Option jG):List PV:=match o with
 |some w=>[.agg w.c,.bool true]
 |none=>[.agg [.str ⟨#[]⟩,.int .i64 0,.int .i64 0],.bool false]
theorem r410 (t u x y:Nat) (v:iY) (nm:ByteArray) (hl:v.calls.length<=2^63 - 1):res A az 410 [.agg (lF t u x y v),.str nm]=some (MU (ei (fun w=>decide (w.name=nm)) v.calls)):=by
 refine aw a410 rfl rfl ?_
 simp only[F410,LA,lF]
 have h446:=fun t u=>r446 t u v.calls nm hl
 unfold qZ at h446
 unfold ei
 cases hj:v.calls.findIdx? fun w=>decide (w.name=nm)with
 |none=>
  rw[hj]at h446
  have e0:decide ((0:Int)<= -1)=false:=rfl
  simp(disch:=omega)only[go_sem,h446]
  rfl
 |some j=>
  rw[hj]at h446
  have hjl:=(WM.1 hj).1
  obtain⟨w,hw⟩:=get_some hjl
  have e0:decide ((0:Int)<=(j:Int))=true:=decide_eq_true (by omega)
  simp(disch:=omega)only[go_sem,h446,e0,hw,Option.map_some,Option.bind_some]
  rfl
theorem r449 (t:Nat) (w:dW) (nm:ByteArray):res A az 449 [.agg w.c,.ro t [.str nm]]=some [.bool (decide (w.name=nm))]:=by
 refine aw a449 rfl rfl ?_
 simp only[F449,LP]
 simp(disch:=omega)only[go_sem]
theorem r448 (t u:Nat) (l:List dW) (nm:ByteArray) (hl:l.length<=2^63 - 1):res A az 448 [.aq t (aF l),.func 449 [.ro u [.str nm]]]=some [.int .i64 (qZ (fun w=>decide (w.name=nm)) l)]:=by
 refine aw a448 rfl rfl ?_
 simp only[F448,HN]
 simp(disch:=omega)only[go_sem]
 refine W.eG l.length (fun k=>⟨[(0,.pv (.aq t (aF l))),(1,.pv (.func 449 [.ro u [.str nm]])),(7,.pv (.int .i64 l.length)),(8,.pv (.int .i64 k))],⟨[],[],[]⟩⟩) (fun k=>∀(i:Nat) (w:dW),i<k->l[i]?=some w->decide (w.name=nm)=false) rfl (fun i w hi=>absurd hi (by omega)) fun k hk hi=>?_
 simp(disch:=omega)only[go_sem]
 refine Br.aJ (fun c1=>?_) (fun c1=>?_)
 .obtain⟨w,hw⟩:=get_some (l:=l) (k:=k) (by omega)
  have h449:=fun t=>r449 t w nm
  simp only[dW.c]at h449
  cases hd:decide (w.name=nm)with
  |true=>
   rw[hd]at h449
   simp(disch:=omega)only[go_sem,hw,Option.map_some,h449]
   unfold qZ
   rw[wG hw hd hi]
  |false=>
   rw[hd]at h449
   simp(disch:=omega)only[go_sem,hw,Option.map_some,h449]
   exact .of (by omega) rfl (sU hw hi hd)
 .simp(disch:=omega)only[go_sem]
  unfold qZ
  rw[wH (pT (k:=k) (by omega) hi)]
def AL (o:Option dW):List PV:=match o with
 |some w=>[.agg w.c,.bool true]
 |none=>[.agg [.str ⟨#[]⟩,.aq 0 [],.int .i64 0,.int .i64 0,.aq 0 []],.bool false]
def MV (k:Nat) (rows:List (List PV)):PV:=if rows=[] then .aq 0 [] else .fr k rows
theorem Fs {α:Type} {c:α->List PV} {k:Nat} (hc:∀x,(c x).length=k) (l:List α) (hm:l.length<=2147483648):(l=[]/\∀h,aZ k [.pv (.aq 0 (l.map c))] h=some (.tl [],{}))\/(l≠[]/\∀h,aZ k [.pv (.aq 0 (l.map c))] h=some (.own h.ar.length 0 0 l.length,{ push:=[⟨0,k,.inl (l.map c)⟩],base:=h.ar.length })):=by
 have hf:aP k (.inl (l.map c))=true:=by simp[aP,hc]
 cases l with
 |nil=>exact .inl ⟨rfl,fun h=>by simp[aZ,aW,aP]⟩
 |cons x l=>
  refine .inr ⟨by simp,fun h=>?_⟩
  have hl:((x::l).map c).length=(x::l).length:=Wu _
  have h0:¬((x::l).map c).length=0:=by simp
  unfold aZ
  simp only[aW]
  rw[if_pos (by omega:0<=1)]
  dsimp only
  rw[if_pos ⟨hf,by unfold aQ; rw[hl]; omega⟩,if_neg h0,hl]
theorem r445 (x:dW) (h1:x.msgs.length<=2147483648) (h2:x.auto.aa.length<=2147483648):res A az 445 [.agg x.c]=some [.agg [.str x.name,MV 3 (msgs x.msgs),.int .i64 x.auto.ai,.int .i64 x.auto.start,MV 4 (x.auto.aa.map Edge.c)]]:=by
 refine aw a445 rfl rfl ?_
 simp only[F445,LM,dW.c]
 have k1:(x.msgs.map gF.c).take x.msgs.length=x.msgs.map gF.c:=List.take_of_length_le (by simp)
 have k2:(x.auto.aa.map Edge.c).take x.auto.aa.length=x.auto.aa.map Edge.c:=List.take_of_length_le (by simp)
 rcases Fs (c:=gF.c) (k:=3) (fun _=>rfl) x.msgs h1 with⟨h3,h4⟩|⟨h3,h4⟩<;>rcases Fs (c:=Edge.c) (k:=4) (fun _=>rfl) x.auto.aa h2 with⟨h5,h6⟩|⟨h5,h6⟩
 .simp only[h3,h5,List.map_nil]at h4 h6 |-
  simp(disch:=omega)only[go_sem,h4,h6]
  refine Eq.trans (if_pos (by rfl)) ?_
  simp[bW,ay,eO,aY,PV.perm,MV,msgs,h3,h5]
 .simp only[h3,List.map_nil]at h4 |-
  simp(disch:=omega)only[go_sem,h4,h6]
  refine Eq.trans (if_pos (by rfl)) ?_
  simp[bW,ay,eO,aB,aY,PV.perm,MV,msgs,h3,h5,k2]
 .simp only[h5,List.map_nil]at h6 |-
  simp(disch:=omega)only[go_sem,h4,h6]
  refine Eq.trans (if_pos (by rfl)) ?_
  simp[bW,ay,eO,aB,aY,PV.perm,MV,msgs,h3,h5,k1]
 .simp(disch:=omega)only[go_sem,h4,h6]
  refine Eq.trans (if_pos (by rfl)) ?_
  simp[bW,ay,eO,aB,aY,PV.perm,MV,msgs,h3,h5,k1,k2]
theorem r412 (t u x y:Nat) (v:iY) (nm:ByteArray) (hl:v.aF.length<=2^63 - 1) (hs:∀w∈v.aF,w.msgs.length<=2147483648/\w.auto.aa.length<=2147483648):res A az 412 [.agg (lF t u x y v),.str nm]=some (AL (ei (fun w=>decide (w.name=nm)) v.aF)):=by
 refine aw a412 rfl rfl ?_
 simp only[F412,LB,lF]
 have h448:=fun t u=>r448 t u v.aF nm hl
 unfold qZ at h448
 unfold ei
 cases hj:v.aF.findIdx? fun w=>decide (w.name=nm)with
 |none=>
  rw[hj]at h448
  have e0:decide ((0:Int)<= -1)=false:=rfl
  simp(disch:=omega)only[go_sem,h448]
  rfl
 |some j=>
  rw[hj]at h448
  have hjl:=(WM.1 hj).1
  obtain⟨w,hw⟩:=get_some hjl
  have e0:decide ((0:Int)<=(j:Int))=true:=decide_eq_true (by omega)
  have hsw:=hs w (Wr hw)
  have h445:=r445 w hsw.1 hsw.2
  have k1:(w.msgs.map gF.c).take w.msgs.length=w.msgs.map gF.c:=List.take_of_length_le (by simp)
  have k2:(w.auto.aa.map Edge.c).take w.auto.aa.length=w.auto.aa.map Edge.c:=List.take_of_length_le (by simp)
  unfold MV msgs dW.c at h445
  by_cases h3:w.msgs=[]<;>by_cases h5:w.auto.aa=[]
  .simp only[h3,h5,List.map_nil,if_true]at h445
   simp(disch:=omega)only[go_sem,h448,e0,hw,Option.map_some,Option.bind_some,h3,h5,List.map_nil,h445]
   simp[AL,dW.c,h3,h5]
  .simp only[h3,h5,List.map_nil,if_true,List.map_eq_nil_iff,if_false]at h445
   simp(disch:=omega)only[go_sem,h448,e0,hw,Option.map_some,Option.bind_some,h3,List.map_nil,h445]
   simp[AL,dW.c,k2,h3]
  .simp only[h3,h5,List.map_nil,if_true,List.map_eq_nil_iff,if_false]at h445
   simp(disch:=omega)only[go_sem,h448,e0,hw,Option.map_some,Option.bind_some,h5,List.map_nil,h445]
   simp[AL,dW.c,k1,h5]
  .simp only[h3,h5,List.map_eq_nil_iff,if_false]at h445
   simp(disch:=omega)only[go_sem,h448,e0,hw,Option.map_some,Option.bind_some,h445]
   simp[AL,dW.c,k1,k2]
theorem r451 (t:Nat) (w:jH) (nm:ByteArray):res A az 451 [.agg w.c,.ro t [.str nm]]=some [.bool (decide (w.name=nm))]:=by
 refine aw a451 rfl rfl ?_
 simp only[F451,LR]
 simp(disch:=omega)only[go_sem]
theorem r450 (t u:Nat) (l:List jH) (nm:ByteArray) (hl:l.length<=2^63 - 1):res A az 450 [.aq t (cQ l),.func 451 [.ro u [.str nm]]]=some [.int .i64 (qZ (fun w=>decide (w.name=nm)) l)]:=by
 refine aw a450 rfl rfl ?_
 simp only[F450,LQ]
 simp(disch:=omega)only[go_sem]
 refine W.eG l.length (fun k=>⟨[(0,.pv (.aq t (cQ l))),(1,.pv (.func 451 [.ro u [.str nm]])),(7,.pv (.int .i64 l.length)),(8,.pv (.int .i64 k))],⟨[],[],[]⟩⟩) (fun k=>∀(i:Nat) (w:jH),i<k->l[i]?=some w->decide (w.name=nm)=false) rfl (fun i w hi=>absurd hi (by omega)) fun k hk hi=>?_
 simp(disch:=omega)only[go_sem]
 refine Br.aJ (fun c1=>?_) (fun c1=>?_)
 .obtain⟨w,hw⟩:=get_some (l:=l) (k:=k) (by omega)
  have h451:=fun t=>r451 t w nm
  simp only[jH.c]at h451
  cases hd:decide (w.name=nm)with
  |true=>
   rw[hd]at h451
   simp(disch:=omega)only[go_sem,hw,Option.map_some,h451]
   unfold qZ
   rw[wG hw hd hi]
  |false=>
   rw[hd]at h451
   simp(disch:=omega)only[go_sem,hw,Option.map_some,h451]
   exact .of (by omega) rfl (sU hw hi hd)
 .simp(disch:=omega)only[go_sem]
  unfold qZ
  rw[wH (pT (k:=k) (by omega) hi)]
def MW (o:Option jH):List PV:=match o with
 |some w=>[.agg w.c,.bool true]
 |none=>[.agg [.str ⟨#[]⟩,.int .i64 0],.bool false]
theorem r414 (t u x y:Nat) (v:iY) (nm:ByteArray) (hl:v.aS.length<=2^63 - 1):res A az 414 [.agg (lF t u x y v),.str nm]=some (MW (ei (fun w=>decide (w.name=nm)) v.aS)):=by
 refine aw a414 rfl rfl ?_
 simp only[F414,LC,lF]
 have h450:=fun t u=>r450 t u v.aS nm hl
 unfold qZ at h450
 unfold ei
 cases hj:v.aS.findIdx? fun w=>decide (w.name=nm)with
 |none=>
  rw[hj]at h450
  have e0:decide ((0:Int)<= -1)=false:=rfl
  simp(disch:=omega)only[go_sem,h450]
  rfl
 |some j=>
  rw[hj]at h450
  have hjl:=(WM.1 hj).1
  obtain⟨w,hw⟩:=get_some hjl
  have e0:decide ((0:Int)<=(j:Int))=true:=decide_eq_true (by omega)
  simp(disch:=omega)only[go_sem,h450,e0,hw,Option.map_some,Option.bind_some]
  rfl
end Go.Pv
