/-
 What the functions of the law give.
-/
import Derived.Test.YtpchfogcccagjaaGreatC4
set_option linter.unusedSimpArgs false
set_option linter.unusedVariables false
open List renaming mem_of_getElem? → Wa, getElem?_eq_some_iff → V9, getElem?_eq_getElem → Wb, mem_iff_getElem? → Wd, getElem?_append_left → We, length_map → Wg, getElem?_map → Wf, length_append → Wz, take_of_length_le → Wq, getD_eq_getElem?_getD → Ws, length_take → W8, eq_nil_of_length_eq_zero → Wp, getElem?_take → Wy, take_add_one → WL, getElem?_set_self → WU, length_range → WI, append_assoc → WK, getElem?_set_ne → Xk, findIdx?_eq_some_iff_getElem → Ww, map_append → WC, ext_getElem? → WW, length_set → Xx, any_eq_false → WY, getElem_mem → Xc, getElem?_range → Xr, length_replicate → XV, any_eq_true → Xm, any_map → abr, foldl_cons → Xp, find?_eq_none → Xn, mem_range → WJ, length_filter_le → XW, find?_some → XH, mem_of_find?_eq_some → afu
open Nat renaming le_refl → Wj, lt_or_ge → Wh, eq_zero_or_pos → Xi
open Bool renaming eq_iff_iff → Xb
open Int renaming toNat_natCast → WX, eq_ofNat_of_zero_le → XB
namespace Go.Pv
@[go_sem] theorem MA (l:List Edge) (f:Int) (d:Bool) (x t:Int):bF l++[[.int .i64 f,.bool d,.int .i64 x,.int .i64 t]]=bF (l++[⟨f,d,x,t⟩]):=by simp[bF,Edge.c]
theorem Fo (e:Edge):(⟨e.fr,e.send,e.label,e.to⟩:Edge)=e:=rfl
@[go_sem] theorem MB {id row ax:Nat} {f x t:Int} {d:Bool} {l:List Edge} (h1:row<l.length):eG id row 0 [.pv (.int .i64 f),.pv (.bool d),.pv (.int .i64 x),.pv (.int .i64 t)] ⟨ax,4,.inl (bF l)⟩=some { ar:=some (id,⟨ax,4,.inl (bF (l.set row ⟨f,d,x,t⟩))⟩) }:=by
 rw[n9 (l:=[.int .i64 f,.bool d,.int .i64 x,.int .i64 t]) (by rw[bN]; exact h1) rfl (by simp) rfl]
 have:over row 0 [.int .i64 f,.bool d,.int .i64 x,.int .i64 t] (bF l)=bF (l.set row ⟨f,d,x,t⟩):=by
  unfold over bF
  rw[List.map_set]
  congr 1
  obtain⟨e,he⟩:∃e,l[row]?=some e:=⟨l[row],by simp[h1]⟩
  simp[he,Edge.c]
 rw[this]
set_option maxHeartbeats 2000000 in
@[go_sem] theorem r43 (t:Nat) (a:aP) (hl:a.af.length<=2000000000):
  res A aA 43 [.agg [.int .i64 a.aj,.int .i64 a.start,.aq t (a.af.map Edge.c)]]=some [.agg [.int .i64 a.aj,.int .i64 a.start,.aq 0 (bF (mA Edge.lt a.af))]]:=by
 refine aw a43 rfl rfl ?_
 simp only[F43,Uh]
 simp(disch:=omega)only[go_sem]
 refine W.fold a.af (fun o x=>tY Edge.lt x o) [] (fun k o=>⟨[(1,.ptr 1 0),(2,.ptr 2 0),(3,.ptr 3 0),(4,.pv (.int .i64 k))],⟨[(1,[.pv (.int .i64 a.aj),.pv (.int .i64 a.start),.pv (.aq t (a.af.map Edge.c))]),(2,[.pv (.int .i64 0),.pv (.int .i64 0),.tl []]),(3,[.pv (.int .i64 a.aj),.pv (.int .i64 a.start),dh 0 (bF o)])],cK 4 (bF o),[]⟩⟩) (fun k o=>o.length=k) rfl rfl (fun k e o he hk _ hi=>?_) (fun o ho hi=>?_)
 .simp(disch:=omega)only[go_sem]
  refine Br.aJ (fun h=>?_) (fun h=>(h (by omega)).elim)
  simp(disch:=omega)only[go_sem,he]
  have hlen:(bF (o++[e])).length=o.length+1:=by simp[bF]
  refine W.fv o.length (fun j=>⟨[(1,.ptr 1 0),(2,.ptr 2 0),(3,.ptr 3 0),(4,.pv (.int .i64 k)),(5,.pv (.int .i64 (o.length - j:Nat)))],⟨[(1,[.pv (.int .i64 a.aj),.pv (.int .i64 a.start),.pv (.aq t (a.af.map Edge.c))]),(2,[.pv (.int .i64 0),.pv (.int .i64 0),.tl []]),(3,[.pv (.int .i64 a.aj),.pv (.int .i64 a.start),.own 0 o.length 0 (o.length+1)])],[⟨o.length,4,.inl (bF (kE e o (o.length - j)))⟩],[]⟩⟩)
   (fun j=>uZ Edge.lt e o o.length=uZ Edge.lt e o (o.length - j)) ?_ rfl fun j hj hq=>?_
  .rw[rn hlen,lU hlen,show (((o.length+1:Nat):Int) - 1)=((o.length - 0:Nat):Int) by omega]
   simp[kE]
  have hpl:=sR e o (o.length - j) (by omega)
  have hp0:=BP e o (o.length - j) (by omega)
  simp(disch:=omega)only[go_sem]
  have fin:uZ Edge.lt e o o.length=o.length - j->tY Edge.lt e o=kE e o (o.length - j):=fun hb=>by unfold tY; rw[hb]
  refine Br.aJ (fun f1=>?_) (fun f1=>?_)
  .obtain⟨p,hp⟩:∃p,o.length - j=p+1:=⟨o.length - j - 1,by omega⟩
   have hpb:=Az e o p (by omega)
   have hpd:=CY e o p (by omega)
   have e1:((p+1:Nat):Int) - 1=(p:Int):=by omega
   have e2:o.length - (j+1)=p:=by omega
   rw[hp]at hq hpl hp0 fin
   have f2:(0:Int)<((p+1:Nat):Int):=by omega
   have hpl2:((kE e o (p+1)).set (p+1) (o.getD p default)).length=o.length+1:=by rw[Xx]; exact hpl
   simp(disch:=omega)only[go_sem,hp,hp0,f2,e1,hpb]
   refine Br.of (fun f3=>?_) (fun f3=>?_)<;>simp(disch:=omega)only[go_sem,f3,hp0,e1,hpb,hpd,Fo]
   .refine .of (by omega) ?_ ?_
    .show _=St.mk _ _
     rw[e2]
    .rw[hq,e2]
     simp only[uZ,f3,if_true]
   .refine cW.of ?_ ?_
    .show _=St.mk _ _
     rw[fin (by rw[hq]; simp only[uZ,f3,Bool.false_eq_true,if_false]),rn (by rw[bN]; exact hpl),lU (by rw[bN]; exact hpl)]
     rfl
    .rw[yK]
     omega
  .have h0:o.length - j=0:=by omega
   simp(disch:=omega)only[go_sem,f1]
   rw[h0]at hq hpl hp0 fin |-
   refine cW.of ?_ ?_
   .show _=St.mk _ _
    rw[fin hq,rn (by rw[bN]; exact hpl),lU (by rw[bN]; exact hpl)]
    rfl
   .rw[yK]
    omega
 .simp(disch:=omega)only[go_sem]
  rw[ho]
  rfl
theorem fold_filter {α β:Type} (p:α->Bool) (f:α->β):∀(l:List α) (o:List β),l.foldl (fun o x=>if p x=true then o++[f x] else o) o=o++(l.filter p).map f
 |[],o=>by simp
 |x::l,o=>by
  rw[Xp,fold_filter p f l]
  by_cases h:p x=true<;>simp[h]
@[go_sem] theorem r43e (t:Nat) (n s:Int) (l:List Edge) (hl:l.length<=2000000000):res A aA 43 [.agg [.int .i64 n,.int .i64 s,.aq t (bF l)]]=some [.agg [.int .i64 n,.int .i64 s,.aq 0 (bF (mA Edge.lt l))]]:=r43 t ⟨n,s,l⟩ hl
theorem qA (h:aa) (t:Nat) (l:List Edge) (ht:t<=1) (hl:l.length<=2147483648):aZ 4 [.pv (.aq t (l.map Edge.c))] h=some (if l.length=0 then (.tl [],{}) else (.own h.ar.length 0 0 l.length,{ push:=[⟨0,4,.inl (bF l)⟩],base:=h.ar.length })):=by
 have h1:((l.map Edge.c).all fun x=>x.length==4)=true:=by simp[Edge.c]
 have h2:l.length<=aN:=hl
 by_cases h0:l.length=0<;>simp[aZ,aW,aO,ht,h1,h2,h0,bF]
theorem Fp (l:List Edge):ay Edge.dec (bF l)=some l:=by
 induction l with
 |nil=>rfl
 |cons x l ih=>
  show ay Edge.dec (x.c::bF l)=_
  have:Edge.dec x.c=some x:=rfl
  simp only[ay,this,ih]
theorem AI {h:aa} {id ax n:Nat} {l:List Edge} (hn:n=l.length) (ho:aB h id ax=some ⟨ax,4,.inl (bF l)⟩) (h0:l.length≠0) (hm:l.length<=2147483648) (hap:l.Pairwise (oV Edge.lt)):
  jC 4 (gC Edge.c Edge.dec Edge.lt) 47 [.own id ax 0 n,.func 47 []] h=some (.dy [],{ ar:=some (id,⟨ax,4,.inl (bF (dp Edge.lt l))⟩) }):=by
 subst hn
 have e1:(bF l).length=l.length:=bN l
 have hr:=u6 (oC Edge.u9 hap)
 simp[jC,ho,h0,e1,aN,hm,gC,Fp,hr,List.take_of_length_le (Nat.le_of_eq e1),List.drop_eq_nil_of_le (Nat.le_of_eq e1)]
 rfl
theorem aeg {a b:Edge} (h1:a.fr=b.fr) (h2:a.send=b.send) (h3:a.label=b.label) (h4:a.to=b.to):a=b:=by
 cases a; cases b; simp_all
theorem aeh (a b:Edge):(decide (a.fr=b.fr)&&(decide (a.send=b.send)&&(decide (a.label=b.label)&&decide (a.to=b.to))))=decide (a=b):=by
 by_cases h:a=b
 .subst h; simp
 .have:¬(a.fr=b.fr/\a.send=b.send/\a.label=b.label/\a.to=b.to):=fun⟨h1,h2,h3,h4⟩=>h (aeg h1 h2 h3 h4)
  simp only[h,decide_false,Bool.and_eq_false_iff,decide_eq_false_iff_not]
  by_cases h1:a.fr=b.fr<;>by_cases h2:a.send=b.send<;>by_cases h3:a.label=b.label<;>by_cases h4:a.to=b.to<;>simp_all
set_option maxHeartbeats 1000000 in
@[go_sem] theorem r15 (t u:Nat) (a b:aP) (ha:a.af.length<=2^63 - 1) (hb:b.af.length<=2^63 - 1):res A aA 15 [.agg [.int .i64 a.aj,.int .i64 a.start,.aq t (a.af.map Edge.c)],.agg [.int .i64 b.aj,.int .i64 b.start,.aq u (b.af.map Edge.c)]]=some [.bool (decide (a=b))]:=by
 refine aw a15 rfl rfl ?_
 simp only[F15,c15]
 simp(disch:=omega)only[go_sem]
 refine Br.aJ (fun h1=>?_) (fun h1=>?_)<;>simp(disch:=omega)only[go_sem,h1]
 case refine_2=>
  have:¬a=b:=fun e=>h1 (by rw[e])
  simp[this]
 refine Br.aJ (fun h2=>?_) (fun h2=>?_)<;>simp(disch:=omega)only[go_sem,h2]
 case refine_2=>
  have:¬a=b:=fun e=>h2 (by rw[e])
  simp[this]
 refine Br.aJ (fun h3=>?_) (fun h3=>?_)<;>simp(disch:=omega)only[go_sem,h3]
 case refine_2=>
  have:¬a=b:=fun e=>h3 (by rw[e])
  simp[this]
 refine W.fv a.af.length (fun k=>⟨[(2,.ptr 2 0),(3,.ptr 3 0),(5,.pv (.int .i64 k))],⟨[(2,[.pv (.int .i64 b.aj),.pv (.int .i64 b.start),.pv (.aq t (a.af.map Edge.c))]),(3,[.pv (.int .i64 b.aj),.pv (.int .i64 b.start),.pv (.aq u (b.af.map Edge.c))])],[],[]⟩⟩) (fun k=>a.af.take k=b.af.take k) rfl rfl fun k hk hi=>?_
 simp(disch:=omega)only[go_sem]
 refine Br.aJ (fun g=>?_) (fun g=>?_)
 .obtain⟨x,hx⟩:=get_at (l:=a.af) (k:=k) (by omega)
  obtain⟨y,hy⟩:=get_at (l:=b.af) (k:=k) (by omega)
  simp(disch:=omega)only[go_sem,hx,hy,aeh]
  refine Br.aJ (fun f=>?_) (fun f=>?_)<;>simp(disch:=omega)only[go_sem,f]
  .exact .of (by omega) rfl (adZ hx hy hi f)
  .have:¬a=b:=fun e=>f (by rw[e,hy]at hx; exact(Option.some.inj hx).symm)
   simp[this]
 .simp(disch:=omega)only[go_sem]
  have h4:=ad0 (k:=k) (by omega) (by omega) hi
  have:a=b:=by cases a; cases b; simp_all
  simp[this]
structure vb where
 fr:Int
 act:Int
 to:Int
 deriving DecidableEq,Inhabited
structure ej where
 n:Int
 gH:List vb
 deriving DecidableEq,Inhabited
def vb.c (x:vb):List PV:=[.int .u8 x.fr,.int .u8 x.act,.int .u8 x.to]
def vb.ok (x:vb):Prop:=(0<=x.fr/\x.fr<=255)/\(0<=x.act/\x.act<=255)/\(0<=x.to/\x.to<=255)
def ej.ok (d:ej):Prop:=(0<=d.n/\d.n<=255)/\d.gH.length<=2^63 - 1/\∀x∈d.gH,x.ok
def vb.pV (st:Int) (x:vb):Edge:=⟨x.fr%st,decide (x.act%2=1),1+x.act/2%3,x.to%st⟩
def nk (es:List Edge) (e:Edge):List Edge:=if (cO e.fr e.send e.label es).isSome=true then es else es++[e]
def ej.raw (d:ej):List Edge:=(d.gH.take 12).foldl (fun es x=>nk es (x.pV (1+d.n%4))) []
def ej.auto (d:ej):aP:=⟨1+d.n%4,0,mA Edge.lt d.raw⟩
attribute [go_sem] wrap_u8
theorem vc (es:List Edge) (v:Int):∀o:List Int,es.foldl (fun o e=>if e.fr=v then fw o e.to else o) o=sM o (outs es v):=by
 induction es with
 |nil=>intro o; rfl
 |cons e es ih=>
  intro o
  rw[Xp,ih]
  by_cases h:e.fr=v
  .rw[if_pos h]
   simp[outs,h,il]
  .rw[if_neg h]
   simp[outs,h]
theorem oK {n b:Nat} {o:List Int} {x:Int} (h:b<=o.length):tW n b (ints (o++[x]))=.own n (o.length - b) 0 (o.length+1):=by
 rw[<- lV,EF (by rw[bt]; exact h),bt]
theorem oL {b:Nat} {o:List Int} {x:Int} (h:b<=o.length):CI 1 b (ints (o++[x]))=[⟨o.length - b,1,.inl (ints (o++[x]))⟩]:=by
 rw[<- lV,EG (by rw[bt]; exact h),bt]
theorem cn (l:List Int):(ints l).length=l.length:=bt l
set_option maxHeartbeats 4000000 in
@[go_sem] theorem r52 (t:Nat) (a:aP) (hg:a.Good):
  res A aA 52 [.agg [.int .i64 a.aj,.int .i64 a.start,.aq t (a.af.map Edge.c)]]=some [.aq 0 (ints a.order)]:=by
 refine aw a52 rfl rfl ?_
 simp only[F52,Un]
 obtain⟨g1,g2,g3,g4,g5⟩:=hg
 have hg:a.Good:=⟨g1,g2,g3,g4,g5⟩
 simp(disch:=omega)only[go_sem]
 refine W.loop (α:=Nat×List Int) (fun x=>⟨[(1,.ptr 1 0),(3,tW 0 1 (ints x.2)),(4,.pv (.int .i64 x.1))],⟨[(1,[.pv (.int .i64 a.aj),.pv (.int .i64 a.start),.pv (.aq t (a.af.map Edge.c))])],CI 1 1 (ints x.2),[]⟩⟩)
  (fun x=>x.2.Nodup/\(∀v∈x.2,a.inr v)/\1<=x.2.length/\x.1<=x.2.length/\pO (outs a.af) (a.aj.toNat - x.1) x.1 x.2=a.order) (fun x=>a.aj.toNat - x.1) (0,[a.start]) rfl ⟨by simp,fun w hw=>(List.mem_singleton.1 hw) ▸ hg.st,by simp,by simp,rfl⟩ fun x hx=>?_
 obtain⟨i,o⟩:=x
 obtain⟨hd,hin,h1,h2,hb⟩:=hx
 dsimp only at hd hin h1 h2 hb
 have hlen:=a.bound o hd hin
 simp(disch:=omega)only[go_sem]
 refine Br.aJ (fun h=>?_) (fun h=>?_)
 .obtain⟨v,hv⟩:=get_at (l:=o) (k:=i) (by omega)
  simp(disch:=omega)only[go_sem]
  refine W.fold a.af (fun o e=>if e.fr=v then fw o e.to else o) o (fun k o=>⟨[(1,.ptr 1 0),(3,tW 0 1 (ints o)),(4,.pv (.int .i64 i)),(5,.pv (.int .i64 k))],⟨[(1,[.pv (.int .i64 a.aj),.pv (.int .i64 a.start),.pv (.aq t (a.af.map Edge.c))])],CI 1 1 (ints o),[]⟩⟩)
   (fun _ o=>o.Nodup/\(∀v∈o,a.inr v)/\1<=o.length/\o[i]?=some v) rfl ⟨hd,hin,h1,hv⟩ (fun k e o he hk _ hi=>?_) (fun o ho hi=>?_)
  .obtain⟨hd,hin,h1,hv⟩:=hi
   have hlen:=a.bound o hd hin
   have hef:=fG.1 (g4 e (Wa he))
   have hto:a.inr e.to:=⟨hef.2.2.1,hef.2.2.2.1⟩
   have hI:(if e.fr=v then fw o e.to else o).Nodup/\(∀w∈(if e.fr=v then fw o e.to else o),a.inr w)/\1<=(if e.fr=v then fw o e.to else o).length/\(if e.fr=v then fw o e.to else o)[i]?=some v:=by
    split
    .obtain⟨r,hr⟩:=sL o e.to
     have hil:=(V9.1 hv).1
     refine⟨mX hd,fun x hx=>(ov.1 hx).elim (hin x) (fun q=>q ▸ hto),by rw[<- hr,Wz]; omega,by rw[<- hr,We hil]; exact hv⟩
    .exact⟨hd,hin,h1,hv⟩
   have hstay:e.fr=v->¬jM e.to o<0->(if e.fr=v then fw o e.to else o)=o:=fun h1 h2=>by rw[if_pos h1,fw,if_pos (rp.1 (by omega))]
   have hmore:e.fr=v->jM e.to o<0->(if e.fr=v then fw o e.to else o)=o++[e.to]:=fun h1 h2=>by rw[if_pos h1,fw,if_neg (oD.1 h2)]
   rcases yq (b:=1) (rows:=ints o)with hc|⟨m,hc⟩
   .rw[lW hc,lX hc]
    rw[cn]at hc
    simp(disch:=omega)only[go_sem]
    refine Br.aJ (fun h=>?_) (fun h=>(h (by omega)).elim)
    simp(disch:=omega)only[go_sem,he,hv]
    refine Br.aJ (fun f1=>?_) (fun f1=>?_)<;>simp(disch:=omega)only[go_sem,f1]
    .refine Br.aJ (fun f2=>?_) (fun f2=>?_)<;>simp(disch:=omega)only[go_sem,f2]
     .refine cW.of ?_ hI
      show _=St.mk _ _
      rw[hmore f1 f2,oK h1,oL h1,show o.length - 1=0 by omega]
      rfl
     .refine cW.of ?_ hI
      show _=St.mk _ _
      rw[hstay f1 f2,lW (by rw[cn]; exact hc),lX (by rw[cn]; exact hc)]
      rfl
    .refine cW.of ?_ hI
     show _=St.mk _ _
     rw[if_neg f1,lW (by rw[cn]; exact hc),lX (by rw[cn]; exact hc)]
     rfl
   .rw[j9 hc,ka hc]
    rw[cn]at hc
    have hil:=(V9.1 hv).1
    have ht:o.take (1+m+1)=o:=Wq (by omega)
    have hi0:(0:Int)<=(i:Int):=by omega
    simp(disch:=omega)only[go_sem]
    refine Br.aJ (fun h=>?_) (fun h=>(h (by omega)).elim)
    simp(disch:=omega)only[go_sem,he,hv]
    refine Br.aJ (fun f1=>?_) (fun f1=>?_)<;>simp(disch:=omega)only[go_sem,f1,ht]
    .refine Br.aJ (fun f2=>?_) (fun f2=>?_)<;>simp(disch:=omega)only[go_sem,f2]
     .refine cW.of ?_ hI
      show _=St.mk _ _
      rw[hmore f1 f2,oK h1,oL h1,show o.length - 1=m+1 by omega,hc]
      rfl
     .refine cW.of ?_ hI
      show _=St.mk _ _
      rw[hstay f1 f2,j9 (by rw[cn]; exact hc),ka (by rw[cn]; exact hc)]
      rfl
    .refine cW.of ?_ hI
     show _=St.mk _ _
     rw[if_neg f1,j9 (by rw[cn]; exact hc),ka (by rw[cn]; exact hc)]
     rfl
  .rw[vc]at ho
   simp(disch:=omega)only[go_sem]
   obtain⟨hd',hin',h1',hv'⟩:=hi
   have hl':=a.bound o hd' hin'
   have hil:=(V9.1 hv').1
   refine⟨(i+1,o),⟨hd',hin',h1',hil,?_⟩,by dsimp only; omega,rfl⟩
   dsimp only
   rw[<- hb,ho]
   obtain⟨q,hq⟩:∃q,a.aj.toNat - i=q+1:=⟨a.aj.toNat - i - 1,by omega⟩
   rw[hq,yz hv]
   congr 1
   omega
 .simp(disch:=omega)only[go_sem]
  rw[l6 (by omega)]at hb
  rw[hb]
def jw (x y:Int) (n k:Nat):List Int:=List.replicate k x++List.replicate (n - k) y
theorem AJ {x y:Int} {n k:Nat} (h:k<=n):(jw x y n k).length=n:=by simp[jw]; omega
theorem yZ (x y:Int) (n:Nat):jw x y n 0=List.replicate n y:=by simp[jw]
theorem AK (x y:Int) (n:Nat):jw x y n n=List.replicate n x:=by simp[jw]
theorem y3 {x y:Int} {n k:Nat} (h:k<n):(jw x y n k).set k x=jw x y n (k+1):=by
 unfold jw
 rw[List.set_append_right _ _ (by simp)]
 obtain⟨m,hm⟩:∃m,n - k=m+1:=⟨n - k - 1,by omega⟩
 have:n - (k+1)=m:=by omega
 rw[hm,this,List.replicate_succ' (n:=k),WK]
 simp[List.replicate_succ]
def abP (n:Nat) (o:List Int):List Int:=(List.range n).map fun(v:Nat)=>jM (v:Int) o
theorem fb (n:Nat) (o:List Int):(abP n o).length=n:=by simp[abP]
theorem gj {n:Nat} {o:List Int} {v:Int} (h:0<=v/\v<n):(abP n o)[v.toNat]?=some (jM v o):=by
 unfold abP
 rw[Wf,Xr (by omega)]
 simp only[Option.map_some]
 rw[show ((v.toNat:Nat):Int)=v by omega]
theorem qB {x y:Int}:∀{l:List Int} {k:Nat},x∉l->abH y k (l++[x])=if y∈l then abH y k l else if y=x then ((k+l.length:Nat):Int) else -1
 |[],k,_=>by
  simp only[List.nil_append,abH,List.not_mem_nil,if_false,List.length_nil,Nat.add_zero]
  by_cases h:x=y
  .simp[h]
  .have:¬y=x:=fun e=>h e.symm
   simp[h,this]
 |z::l,k,hx=>by
  simp only[List.mem_cons,not_or]at hx
  simp only[List.cons_append,abH]
  by_cases h:z=y
  .simp[h]
  .have hz:¬y=z:=fun e=>h e.symm
   rw[if_neg h,qB hx.2]
   simp only[List.mem_cons,hz,false_or,List.length_cons]
   split
   .rfl
   .split
    .congr 1
     omega
    .rfl
theorem Fs {x y:Int} {l:List Int} (hx:x∉l):jM y (l++[x])=if y∈l then jM y l else if y=x then (l.length:Int) else -1:=by
 unfold jM
 rw[qB hx]
 simp
theorem Ft {x:Int} {l:List Int} (h:x∉l):jM x l= -1:=by
 have:∀{l:List Int} {k:Nat},x∉l->abH x k l= -1:=by
  intro l
  induction l with
  |nil=>intro k _; rfl
  |cons y l ih=>
   intro k h
   simp only[List.mem_cons,not_or]at h
   unfold abH
   rw[if_neg (fun e=>h.1 e.symm),ih h.2]
 exact this h
theorem lF {n:Nat} {o:List Int} {x:Int} (hx:x∉o) (h:0<=x/\x<n):(abP n o).set x.toNat (o.length:Int)=abP n (o++[x]):=by
 apply WW
 intro i
 rcases Wh i n with hi|hi
 .have e1:=gj (n:=n) (o:=o++[x]) (v:=(i:Int)) (by omega)
  rw[WX]at e1
  rw[e1,Fs hx]
  by_cases hix:x.toNat=i
  .have:(i:Int)=x:=by omega
   rw[hix,WU (by rw[fb]; exact hi),if_neg (by rw[this]; exact hx),if_pos this]
  .have hne:¬(i:Int)=x:=by omega
   have e2:=gj (n:=n) (o:=o) (v:=(i:Int)) (by omega)
   rw[WX]at e2
   rw[Xk hix,e2]
   split
   .rfl
   .rename_i hno
    first
     |rw[Ft hno]
     |rw[if_neg hne,Ft hno]
 .rw[List.getElem?_eq_none (by simp[fb,hi]),List.getElem?_eq_none (by simp[fb,hi])]
theorem AL (n:Nat):abP n []=List.replicate n (-1):=by
 apply WW
 intro i
 rcases Wh i n with hi|hi
 .have e1:=gj (n:=n) (o:=[]) (v:=(i:Int)) (by omega)
  rw[WX]at e1
  rw[e1]
  simp[hi]
  rfl
 .rw[List.getElem?_eq_none (by simp[fb,hi]),List.getElem?_eq_none (by simp[hi])]
set_option maxHeartbeats 4000000 in
@[go_sem] theorem r50 (t:Nat) (a:aP) (hg:a.Good):
  res A aA 50 [.agg [.int .i64 a.aj,.int .i64 a.start,.aq t (a.af.map Edge.c)]]=some [.aq 0 (ints a.order),.aq 0 (ints (abP a.aj.toNat a.order))]:=by
 refine aw a50 rfl rfl ?_
 simp only[F50,Um]
 obtain⟨g1,g2,g3,g4,g5⟩:=hg
 have hg:a.Good:=⟨g1,g2,g3,g4,g5⟩
 simp(disch:=omega)only[go_sem]
 refine W.fv a.aj.toNat (fun k=>⟨[(1,.ptr 1 0),(4,.own 0 0 0 a.aj.toNat),(14,.pv (.int .i64 a.aj.toNat)),(15,.pv (.int .i64 k))],⟨[(1,[.pv (.int .i64 a.aj),.pv (.int .i64 a.start),.pv (.aq t (a.af.map Edge.c))])],[⟨0,1,.inl (ints (jw (-1) 0 a.aj.toNat k))⟩],[]⟩⟩) (fun _=>True) (by rw[yZ]; rfl) trivial fun k hk _=>?_
 simp(disch:=omega)only[go_sem]
 refine Br.aJ (fun h=>?_) (fun h=>?_)
 .have ho:=AJ (x:= -1) (y:=0) (n:=a.aj.toNat) (k:=k) (by omega)
  simp(disch:=omega)only[go_sem,y3 (show k<a.aj.toNat by omega)]
  exact .of (by omega) rfl trivial
 obtain rfl:k=a.aj.toNat:=by omega
 clear h hk
 have hn:(List.replicate a.aj.toNat (-1:Int)).length=a.aj.toNat:=XV
 have hp0:=lF (n:=a.aj.toNat) (o:=[]) (x:=a.start) (by simp) (by omega)
 rw[AL]at hp0
 simp only[List.length_nil,List.nil_append]at hp0
 have hp0':(List.replicate a.aj.toNat (-1:Int)).set a.start.toNat 0=abP a.aj.toNat [a.start]:=hp0
 simp(disch:=omega)only[go_sem,AK,hp0']
 refine W.loop (α:=Nat×List Int) (fun x=>⟨[(1,.ptr 1 0),(4,.own 0 0 0 a.aj.toNat),(6,tW 1 1 (ints x.2)),(7,.pv (.int .i64 x.1))],⟨[(1,[.pv (.int .i64 a.aj),.pv (.int .i64 a.start),.pv (.aq t (a.af.map Edge.c))])],⟨0,1,.inl (ints (abP a.aj.toNat x.2))⟩::CI 1 1 (ints x.2),[]⟩⟩)
  (fun x=>x.2.Nodup/\(∀v∈x.2,a.inr v)/\1<=x.2.length/\x.1<=x.2.length/\pO (outs a.af) (a.aj.toNat - x.1) x.1 x.2=a.order) (fun x=>a.aj.toNat - x.1) (0,[a.start]) rfl ⟨by simp,fun w hw=>(List.mem_singleton.1 hw) ▸ hg.st,by simp,by simp,rfl⟩ fun x hx=>?_
 obtain⟨i,o⟩:=x
 obtain⟨hd,hin,h1,h2,hb⟩:=hx
 dsimp only at hd hin h1 h2 hb
 have hlen:=a.bound o hd hin
 simp(disch:=omega)only[go_sem]
 refine Br.aJ (fun h=>?_) (fun h=>?_)
 .obtain⟨v,hv⟩:=get_at (l:=o) (k:=i) (by omega)
  simp(disch:=omega)only[go_sem]
  refine W.fold a.af (fun o e=>if e.fr=v then fw o e.to else o) o (fun k o=>⟨[(1,.ptr 1 0),(4,.own 0 0 0 a.aj.toNat),(6,tW 1 1 (ints o)),(7,.pv (.int .i64 i)),(36,.pv (.aq t (a.af.map Edge.c))),(37,.pv (.int .i64 a.af.length)),(38,.pv (.int .i64 k))],⟨[(1,[.pv (.int .i64 a.aj),.pv (.int .i64 a.start),.pv (.aq t (a.af.map Edge.c))])],⟨0,1,.inl (ints (abP a.aj.toNat o))⟩::CI 1 1 (ints o),[]⟩⟩)
   (fun _ o=>o.Nodup/\(∀v∈o,a.inr v)/\1<=o.length/\o[i]?=some v) rfl ⟨hd,hin,h1,hv⟩ (fun k e o he hk _ hi=>?_) (fun o ho hi=>?_)
  .obtain⟨hd,hin,h1,hv⟩:=hi
   have hlen:=a.bound o hd hin
   have hef:=fG.1 (g4 e (Wa he))
   have hto:a.inr e.to:=⟨hef.2.2.1,hef.2.2.2.1⟩
   have hI:(if e.fr=v then fw o e.to else o).Nodup/\(∀w∈(if e.fr=v then fw o e.to else o),a.inr w)/\1<=(if e.fr=v then fw o e.to else o).length/\(if e.fr=v then fw o e.to else o)[i]?=some v:=by
    split
    .obtain⟨r,hr⟩:=sL o e.to
     have hil:=(V9.1 hv).1
     refine⟨mX hd,fun x hx=>(ov.1 hx).elim (hin x) (fun q=>q ▸ hto),by rw[<- hr,Wz]; omega,by rw[<- hr,We hil]; exact hv⟩
    .exact⟨hd,hin,h1,hv⟩
   have hstay:e.fr=v->¬jM e.to o<0->(if e.fr=v then fw o e.to else o)=o:=fun h1 h2=>by rw[if_pos h1,fw,if_pos (rp.1 (by omega))]
   have hmore:e.fr=v->jM e.to o<0->(if e.fr=v then fw o e.to else o)=o++[e.to]:=fun h1 h2=>by rw[if_pos h1,fw,if_neg (oD.1 h2)]
   have hpl:=fb a.aj.toNat o
   have hpg:=gj (n:=a.aj.toNat) (o:=o) (v:=e.to) (by omega)
   rcases yq (b:=1) (rows:=ints o)with hc|⟨m,hc⟩
   .rw[lW hc,lX hc]
    rw[cn]at hc
    simp(disch:=omega)only[go_sem]
    refine Br.aJ (fun h=>?_) (fun h=>(h (by omega)).elim)
    simp(disch:=omega)only[go_sem,he,hv]
    refine Br.aJ (fun f1=>?_) (fun f1=>?_)<;>simp(disch:=omega)only[go_sem,f1,hpg]
    .refine Br.aJ (fun f2=>?_) (fun f2=>?_)<;>simp(disch:=omega)only[go_sem,f2]
     .refine cW.of ?_ hI
      show _=St.mk _ _
      rw[hmore f1 f2,oK h1,oL h1,show o.length - 1=0 by omega,<- lF (oD.1 f2) (by omega)]
      rfl
     .refine cW.of ?_ hI
      show _=St.mk _ _
      rw[hstay f1 f2,lW (by rw[cn]; exact hc),lX (by rw[cn]; exact hc)]
      rfl
    .refine cW.of ?_ hI
     show _=St.mk _ _
     rw[if_neg f1,lW (by rw[cn]; exact hc),lX (by rw[cn]; exact hc)]
     rfl
   .rw[j9 hc,ka hc]
    rw[cn]at hc
    have hil:=(V9.1 hv).1
    have ht:o.take (1+m+1)=o:=Wq (by omega)
    have hi0:(0:Int)<=(i:Int):=by omega
    simp(disch:=omega)only[go_sem]
    refine Br.aJ (fun h=>?_) (fun h=>(h (by omega)).elim)
    simp(disch:=omega)only[go_sem,he,hv]
    refine Br.aJ (fun f1=>?_) (fun f1=>?_)<;>simp(disch:=omega)only[go_sem,f1,hpg]
    .refine Br.aJ (fun f2=>?_) (fun f2=>?_)<;>simp(disch:=omega)only[go_sem,f2]
     .refine cW.of ?_ hI
      show _=St.mk _ _
      rw[hmore f1 f2,oK h1,oL h1,<- lF (oD.1 f2) (by omega),show o.length - 1=m+1 by omega,hc]
      rfl
     .refine cW.of ?_ hI
      show _=St.mk _ _
      rw[hstay f1 f2,j9 (by rw[cn]; exact hc),ka (by rw[cn]; exact hc)]
      rfl
    .refine cW.of ?_ hI
     show _=St.mk _ _
     rw[if_neg f1,j9 (by rw[cn]; exact hc),ka (by rw[cn]; exact hc)]
     rfl
  .rw[vc]at ho
   simp(disch:=omega)only[go_sem]
   obtain⟨hd',hin',h1',hv'⟩:=hi
   have hl':=a.bound o hd' hin'
   have hil:=(V9.1 hv').1
   refine⟨(i+1,o),⟨hd',hin',h1',hil,?_⟩,by dsimp only; omega,rfl⟩
   dsimp only
   rw[<- hb,ho]
   obtain⟨q,hq⟩:∃q,a.aj.toNat - i=q+1:=⟨a.aj.toNat - i - 1,by omega⟩
   rw[hq,yz hv]
   congr 1
   omega
 .simp(disch:=omega)only[go_sem]
  rw[l6 (by omega)]at hb
  rw[hb,Wq (by rw[fb]; exact Wj _)]
theorem ve (o:List Int) (es:List Edge):es.foldl (fun r e=>if 0<=jM e.fr o then r++[e.GC o] else r) []=kept o es:=by
 have h:=fold_filter (fun e:Edge=>decide (e.fr∈o)) (Edge.GC o) es []
 rw[List.nil_append]at h
 rw[<- show _=kept o es from h]
 congr 1
 funext r e
 by_cases hc:e.fr∈o
 .simp[hc,rp]
 .simp[hc,rp]
theorem y4 (o:List Int) (es:List Edge):(kept o es).length<=es.length:=by
 unfold kept
 rw[Wg]
 exact XW _ _
set_option maxHeartbeats 2000000 in
@[go_sem] theorem r33 (t:Nat) (a:aP) (hl:a.af.length<=2000000000):
  res A aA 33 [.agg [.int .i64 a.aj,.int .i64 a.start,.aq t (a.af.map Edge.c)]]=some (if a.err=0 then [.agg [.int .i64 a.order.length,.int .i64 0,.aq 0 (bF (mA Edge.lt (kept a.order a.af)))],.int .i64 0] else [.agg [.int .i64 0,.int .i64 0,.aq 0 []],.int .i64 a.err]):=by
 refine aw a33 rfl rfl ?_
 simp only[F33,Ud]
 simp(disch:=omega)only[go_sem]
 refine Br.aJ (fun h1=>?_) (fun h1=>?_)<;>simp(disch:=omega)only[go_sem,h1]
 have hg:=aP.iV.1 h1
 have hol:=hg.lE hg.st
 have hmx:=hg.mx
 have hol':a.order.length<=12:=by unfold aP.order; omega
 have hkl:=y4 a.order a.af
 simp(disch:=omega)only[go_sem,r52 t a hg]
 refine W.fold a.af (fun r e=>if 0<=jM e.fr a.order then r++[e.GC a.order] else r) [] (fun k r=>⟨[(1,.ptr 1 0),(2,.ptr 2 0),(5,.pv (.aq 0 (ints a.order))),(6,.ptr 6 0),(7,.pv (.int .i64 k))],⟨[(1,[.pv (.int .i64 a.aj),.pv (.int .i64 a.start),.pv (.aq t (a.af.map Edge.c))]),(2,[.pv (.int .i64 0),.pv (.int .i64 0),.tl []]),(6,[.pv (.int .i64 a.order.length),.pv (.int .i64 0),dh 0 (bF r)])],cK 4 (bF r),[]⟩⟩) (fun k r=>r.length<=k) rfl (Wj _) (fun k e r he hk _ hi=>?_) (fun r hr hi=>?_)
 .simp(disch:=omega)only[go_sem]
  refine Br.aJ (fun h=>?_) (fun h=>(h (by omega)).elim)
  simp(disch:=omega)only[go_sem,he]
  refine Br.aJ (fun f=>?_) (fun f=>?_)<;>simp(disch:=omega)only[go_sem,f]
  .refine cW.of ?_ (by rw[if_pos f]; simp; omega)
   show _=St.mk _ _
   rw[if_pos f]
   rfl
  .refine cW.of ?_ (by rw[if_neg f]; omega)
   show _=St.mk _ _
   rw[if_neg f]
   rfl
 .rw[ve]at hr
  subst hr
  simp(disch:=omega)only[go_sem]
  rw[if_pos h1]
def C7 (l:List Edge):Tn:=if l.length=0 then {} else { ar:=some (0,⟨l.length - 1,4,.inl (bF (dp Edge.lt l))⟩) }
theorem Fu {bx:List (Nat×List V)} {mp:List (List (PV×PV))} {l:List Edge} (hm:l.length<=2147483648) (hap:l.Pairwise (oV Edge.lt)):
  jC 4 (gC Edge.c Edge.dec Edge.lt) 47 [dh 0 (bF l),.func 47 []] ⟨bx,cK 4 (bF l),mp⟩=some (.dy [],C7 l):=by
 rcases Xi l.length with h|h
 .have:l=[]:=Wp h
  subst this
  simp[C7,bF,dh,jC]
 .obtain⟨m,hm'⟩:∃m,(bF l).length=m+1:=⟨l.length - 1,by rw[bN]; omega⟩
  rw[rn hm',lU hm']
  rw[bN]at hm'
  rw[AI (l:=l) hm'.symm (by simp[aB]) (by omega) hm hap,C7,if_neg (by omega),hm']
  rfl
@[go_sem] theorem MC (bx:List (Nat×List V)) (mp:List (List (PV×PV))) (l:List Edge):(C7 l).apply ⟨bx,cK 4 (bF l),mp⟩=⟨bx,cK 4 (bF (dp Edge.lt l)),mp⟩:=by
 have hp:=(dc Edge.lt l).length_eq
 rcases Xi l.length with h|h
 .have:l=[]:=Wp h
  subst this
  simp[C7,bF,dp,Tn.apply,cK]
 .obtain⟨m,hm'⟩:∃m,(bF l).length=m+1:=⟨l.length - 1,by rw[bN]; omega⟩
  have hm2:(bF (dp Edge.lt l)).length=m+1:=by rw[bN,hp,<- bN]; exact hm'
  rw[lU hm',lU hm2]
  rw[bN]at hm'
  simp[C7,Tn.apply,hm']
theorem HM {n:Nat} {a b:List (List PV)} (h:a.length=b.length):dh n a=dh n b:=by
 cases a<;>cases b<;>simp_all [dh]
set_option maxHeartbeats 2000000 in
@[go_sem] theorem r32 (t:Nat) (a:aP) (hl:a.af.length<=2000000000):
  res A aA 32 [.agg [.int .i64 a.aj,.int .i64 a.start,.aq t (a.af.map Edge.c)]]=some (if a.err=0 then [.agg [.int .i64 a.trim.aj,.int .i64 0,.aq 0 (bF a.trim.af)],.int .i64 0] else [.agg [.int .i64 0,.int .i64 0,.aq 0 []],.int .i64 a.err]):=by
 refine aw a32 rfl rfl ?_
 simp only[F32,Uc]
 simp(disch:=omega)only[go_sem]
 refine Br.aJ (fun h1=>?_) (fun h1=>?_)<;>simp(disch:=omega)only[go_sem,h1]
 have hg:=aP.iV.1 h1
 have hol:=hg.lE hg.st
 have hmx:=hg.mx
 have hol':a.order.length<=12:=by unfold aP.order; omega
 have hkl:=y4 a.order a.af
 have hpl:=fb a.aj.toNat a.order
 simp(disch:=omega)only[go_sem,r50 t a hg]
 refine W.fold a.af (fun r e=>if 0<=jM e.fr a.order then r++[e.GC a.order] else r) [] (fun k r=>⟨[(2,.ptr 2 0),(6,.pv (.aq 0 (ints (abP a.aj.toNat a.order)))),(7,.ptr 7 0),(25,.pv (.aq t (a.af.map Edge.c))),(26,.pv (.int .i64 a.af.length)),(27,.pv (.int .i64 k))],⟨[(2,[.pv (.int .i64 0),.pv (.int .i64 0),.tl []]),(7,[.pv (.int .i64 a.order.length),.pv (.int .i64 0),dh 0 (bF r)])],cK 4 (bF r),[]⟩⟩) (fun k r=>r.length<=k) rfl (Wj _) (fun k e r he hk _ hi=>?_) (fun r hr hi=>?_)
 .have hef:=fG.1 (hg.fit e (Wa he))
  have q1:=gj (n:=a.aj.toNat) (o:=a.order) (v:=e.fr) (by omega)
  have q2:=gj (n:=a.aj.toNat) (o:=a.order) (v:=e.to) (by omega)
  obtain⟨j1,hj1⟩:=XB hef.1
  obtain⟨j2,hj2⟩:=XB hef.2.2.1
  simp(disch:=omega)only[go_sem]
  refine Br.aJ (fun h=>?_) (fun h=>(h (by omega)).elim)
  simp(disch:=omega)only[go_sem,he,gB,q1]
  refine Br.aJ (fun f=>?_) (fun f=>?_)<;>simp(disch:=omega)only[go_sem,f,gB,q1,q2]
  .refine cW.of ?_ (by rw[if_pos f]; simp; omega)
   show _=St.mk _ _
   rw[if_pos f]
   rfl
  .refine cW.of ?_ (by rw[if_neg f]; omega)
   show _=St.mk _ _
   rw[if_neg f]
   rfl
 .rw[ve]at hr
  subst hr
  simp(disch:=omega)only[go_sem]
  rw[Fu (by omega) (s9 hg.oV)]
  have hp:=(dc Edge.lt (kept a.order a.af)).length_eq
  simp(disch:=omega)only[go_sem]
  rw[HM (show (bF (kept a.order a.af)).length=(bF (dp Edge.lt (kept a.order a.af))).length by rw[bN,bN,hp])]
  simp(disch:=omega)only[go_sem]
  rw[if_pos h1]
  rfl
def HN (x:Bool×Int):List PV:=[.bool x.1,.int .i64 x.2]
@[go_sem] theorem Tt (x:Bool×Int):HN x=[.bool x.1,.int .i64 x.2]:=rfl
def fQ (l:List (Bool×Int)):List (List PV):=l.map HN
@[go_sem] theorem jj (l:List (Bool×Int)):(fQ l).length=l.length:=by simp[fQ]
def oN {α:Type} (p:α->Bool) (l:List α):Int:=match l.findIdx? p with
 |some k=>k
 |none=> -1
theorem Found.oN {α:Type} {l:List α} {p:α->Bool} {k:Nat} {x:α} (h:Found l p k x):oN p l=k:=by
 unfold Pv.oN
 rw[h.idx]
theorem hY.oN {α:Type} {l:List α} {p:α->Bool} (h:hY l p):oN p l= -1:=by
 unfold Pv.oN
 rw[h.idx]
def VK (l:List (Int×Int)):List (List PV):=l.map fun x=>[.int .i64 x.1,.int .i64 x.2]
@[go_sem] theorem Tu:VK []=[]:=rfl
def fM {α β:Type} (f:α->β) (y:β) (l:List α) (k:Nat):List β:=(l.take k).map f++List.replicate (l.length - k) y
theorem AM {α β:Type} (f:α->β) (y:β) (l:List α) {k:Nat} (h:k<=l.length):(fM f y l k).length=l.length:=by simp[fM]; omega
theorem y5 {α β:Type} (f:α->β) (y:β) (l:List α):fM f y l 0=List.replicate l.length y:=by simp[fM]
theorem AN {α β:Type} (f:α->β) (y:β) (l:List α):fM f y l l.length=l.map f:=by simp[fM]
theorem AO {α β:Type} {f:α->β} {y:β} {l:List α} {k:Nat} {x:α} (h:l[k]?=some x):(fM f y l k).set k (f x)=fM f y l (k+1):=by
 have hk:=(V9.1 h).1
 unfold fM
 rw[List.set_append_right _ _ (by simp; omega),List.take_add_one,h]
 obtain⟨m,hm⟩:∃m,l.length - k=m+1:=⟨l.length - k - 1,by omega⟩
 have:l.length - (k+1)=m:=by omega
 rw[hm,this]
 simp[Nat.min_eq_left (Nat.le_of_lt hk),List.replicate_succ]
def UR (ars:List aL) (x:V) (l:List Int):Prop:=
 ((x=.tl []\/x=.pv (.aq 0 []))/\l=[])\/∃id ax,x=.own (id+1) ax 0 l.length/\l≠[]/\ars[id]?=some ⟨ax,1,.inl (ints l)⟩
structure Vy (n:Nat) (s:List (List Int)) (xs:List V) (ars:List aL):Prop where
 xl:xs.length=n
 sl:s.length=n
 own:∀(v:Nat) (x:V) (l:List Int),xs[v]?=some x->s[v]?=some l->UR ars x l
 V6:∀(v w:Nat) (x y:V) (i:Nat),xs[v]?=some x->xs[w]?=some y->fR x=some i->fR y=some i->v=w
def cQ (xs:List V):List (List V):=xs.map fun x=>[x]
@[go_sem] theorem C8 (xs:List V):(cQ xs).length=xs.length:=by simp[cQ]
@[go_sem] theorem Pg (xs:List V) (i:Nat):(cQ xs)[i]?=xs[i]?.map fun x=>[x]:=by simp[cQ]
theorem C9 (xs:List V) (i:Nat) (x:V):(cQ xs).set i [x]=cQ (xs.set i x):=by simp[cQ,List.map_set]
theorem y6 {id row ax:Nat} {xs:List V} {y:V} (h1:row<xs.length) (hc:y.calm=true):eG id row 0 [y] ⟨ax,1,.inr (cQ xs)⟩=some { ar:=some (id,⟨ax,1,.inr (cQ (xs.set row y))⟩) }:=by
 have h2:row<(⟨ax,1,.inr (cQ xs)⟩:aL).size:=by simp[aL.size,cQ,h1]
 obtain⟨z,hz⟩:∃z,xs[row]?=some z:=⟨xs[row],by simp[h1]⟩
 have h3:(cQ xs).getD row []=[z]:=by simp[cQ,hz]
 simp[eG,h2,hc,setBody,<- C9]
 simp[cQ,hz]
theorem AP (n:Nat):cu n [.tl []]=.inr (cQ (List.replicate n (.tl []))):=by
 simp[cu,ay,V.bS,cQ]
attribute [go_sem] AP
def nd (s:List (List Int)):List (List PV):=s.map fun l=>[.aq 0 (ints l)]
@[go_sem] theorem abd (s:List (List Int)) (i:Nat):(nd s)[i]?=s[i]?.map fun l=>[.aq 0 (ints l)]:=by simp[nd]
variable {A:Nat->Option bA} {Pr:bm}
def MD {α:Type} (kt kb:List Nat) (S:α->St) (P:α->Prop) (m:α->Nat) (x:α) (Q:Ex->St->Prop) (_t:nU (kt,kb,S,P,m,x,Q):=.mk):Ex->St->Prop
 |.normal,s=>∃y,P y/\m y<m x/\s.mask kt kb=S y
 |.exit i,s=>Q (.exit i) s
 |.ret,s=>Q .ret s
@[go_sem] theorem Ph {α:Type} (kt kb:List Nat) (S:α->St) (P:α->Prop) (m:α->Nat) (x:α) (Q:Ex->St->Prop) (i:Nat) (s:St):MD kt kb S P m x Q .mk (.exit i) s=Q (.exit i) s:=rfl
@[go_sem] theorem R1 {α:Type} (kt kb:List Nat) (S:α->St) (P:α->Prop) (m:α->Nat) (x:α) (Q:Ex->St->Prop) (s:St):MD kt kb S P m x Q .mk .ret s=Q .ret s:=rfl
theorem W.BZ {α:Type} {a:AC} {kt kb:List Nat} {s:St} {Q:Ex->St->Prop} (S:α->St) (P:α->Prop) (m:α->Nat) (x0:α) (hs:s.mask kt kb=S x0) (h0:P x0) (hr:∀x,P x->W A Pr a (S x) (MD kt kb S P m x Q)):W A Pr (.loop (.mask kt kb a)) s Q:=by
 have key:∀n x s,m x<=n->s.mask kt kb=S x->P x->W A Pr (.loop (.mask kt kb a)) s Q:=by
  intro n
  induction n with
  |zero=>
   intro x s hm hs hp
   obtain⟨ex,s',h1,h2⟩:=hr x hp
   rw[<- hs]at h1
   have h1:=cc.mask h1
   cases ex with
   |normal=>obtain⟨y,_,h3,_⟩:=h2; omega
   |exit i=>exact⟨_,_,cc.gz h1 (by simp),h2⟩
   |ret=>exact⟨_,_,cc.gz h1 (by simp),h2⟩
  |succ n ih=>
   intro x s hm hs hp
   obtain⟨ex,s',h1,h2⟩:=hr x hp
   rw[<- hs]at h1
   have h1:=cc.mask h1
   cases ex with
   |normal=>
    obtain⟨y,hy,h3,h6⟩:=h2
    obtain⟨e2,s2,h4,h5⟩:=ih y s' (by omega) h6 hy
    exact⟨e2,s2,cc.uH h1 h4,h5⟩
   |exit i=>exact⟨_,_,cc.gz h1 (by simp),h2⟩
   |ret=>exact⟨_,_,cc.gz h1 (by simp),h2⟩
 exact key _ x0 s (Wj _) hs h0
end Go.Pv
namespace Go.Pv
theorem Da {T:List aH} (h:RT T) {x:aH} (hx:x∈T) {n:List Int} (hn:n.length=T.length):∀u∈cT x,0<=u/\u<n.length:=fun u hu=>by
 rw[hn]
 exact h.Np x hx u hu
theorem td {b:Bool} {T:List aH} {n:List Int} {k:Nat} {x:aH} (h:T[k]?=some x):swp b T n (k+1)=(swp b T n k).set k (jN b x (swp b T n k)):=by
 show (match T[k]? with
  |some x=>(swp b T n k).set k (jN b x (swp b T n k))
  |none=>swp b T n k)=_
 rw[h]
set_option maxHeartbeats 2000000 in
theorem r471 (u:Nat) (T:List aH) (ho:∀t∈T,t.ok) (hv:cS T=0):res A aA 471 [.agg [.aq u (T.map aH.c)]]=some [.aq 0 (ints (kG false T (2*T.length+1)))]:=by
 have hS:=eZ hv
 have hs:∀t∈T,t.short:=fun t ht=>abK (hS.own t ht)
 have hT:=Fe ho hv
 have h32:=hS.len
 refine aw a471 rfl rfl ?_
 simp only[F471,aaO]
 simp(disch:=omega)only[go_sem]
 refine W.fv (2*T.length+1) (fun r=>⟨[(1,.ptr 1 0),(3,.own 0 0 0 T.length),(4,.pv (.int .i64 r))],⟨[(1,[.pv (.aq u (T.map aH.c))])],[⟨0,1,.inl (ints (kG false T r))⟩],[]⟩⟩) (fun _=>True) rfl trivial fun r hr _=>?_
 have hl:=gF false T r
 have hll:=hl.1
 simp(disch:=omega)only[go_sem]
 refine Br.aJ (fun c=>?_) (fun c=>?_)
 .have hnx:kG false T (r+1)=swp false T (kG false T r) T.length:=rfl
  generalize kG false T r=n at hl hll hnx
  simp(disch:=omega)only[go_sem]
  refine W.fv T.length (fun k=>⟨[(1,.ptr 1 0),(3,.own 0 0 0 T.length),(4,.pv (.int .i64 r)),(5,.pv (.int .i64 k))],⟨[(1,[.pv (.aq u (T.map aH.c))])],[⟨0,1,.inl (ints (swp false T n k))⟩],[]⟩⟩) (fun _=>True) rfl trivial fun k hk _=>?_
  have hw:=(hl.swp k).1
  have hwl:=hw.1
  simp(disch:=omega)only[go_sem]
  refine Br.aJ (fun c=>?_) (fun c=>?_)
  .obtain⟨x,hx⟩:=get_some (l:=T) (k:=k) (by omega)
   have hxm:=Wa hx
   have hsx:=td (b:=false) (n:=n) hx
   have h481:=fun t=>r481 x (swp false T n k) t (hT.2.2 x hxm) (hs x hxm) hw.2.1 (Da hS hxm hwl)
   generalize swp false T n k=m at *
   generalize jN false x m=q at *
   have hmt:m.take T.length=m:=Wq (by omega)
   simp only[aH.c]at h481
   simp(disch:=omega)only[go_sem,hx,Option.map_some,aH.c,h481,hmt]
   refine .of (by omega) ?_ trivial
   rw[hsx]
   rfl
  .obtain rfl:k=T.length:=by omega
   simp(disch:=omega)only[go_sem]
   refine .of (by omega) ?_ trivial
   rw[hnx]
   rfl
 .obtain rfl:r=2*T.length+1:=by omega
  have hmt:(kG false T (2*T.length+1)).take T.length=kG false T (2*T.length+1):=Wq (by omega)
  simp(disch:=omega)only[go_sem,hmt]
@[go_sem] theorem Pa (p:Part):p.c.length=3:=rfl
@[go_sem] theorem Pb (x:Node):x.cs.length=5:=rfl
set_option maxHeartbeats 4000000 in
theorem r277 (t u:Nat) (l m:List aH) (hl:l.length<=2^63 - 1) (_hm:m.length<=2^63 - 1) (vl:∀r∈l,r.ok) (vm:∀r∈m,r.ok):res A aA 277 [.agg [.aq t (l.map aH.c)],.agg [.aq u (m.map aH.c)]]=some [.bool (eqv l m)]:=by
 refine aw a277 rfl rfl ?_
 simp only[F277,aeH]
 simp(disch:=omega)only[go_sem]
 refine Br.aJ (fun h=>?_) (fun h=>?_)<;>simp(disch:=omega)only[go_sem]
 .refine W.find (l.zip m) (fun q=>!eqv q.1 q.2) (fun k=>⟨[(2,.ptr 2 0),(3,.ptr 3 0),(5,.pv (.int .i64 k))],⟨[(2,[.pv (.aq t (l.map aH.c))]),(3,[.pv (.aq u (m.map aH.c))])],[],[]⟩⟩) rfl (fun k q hq hk hfd=>?_) (fun hn=>?_)
  .obtain⟨h1,h2⟩:=jh hq
   rw[dA (by omega)]at hk
   have hc:=r295 q.1 q.2 (vl q.1 (Wa h1)) (vm q.2 (Wa h2))
   unfold aH.c at hc
   simp(disch:=omega)only[go_sem]
   refine Br.aJ (fun c=>?_) (fun c=>(c (by omega)).elim)
   simp(disch:=omega)only[go_sem,h1,h2,aH.c,hc]
   refine Br.of (fun g=>?_) (fun g=>?_)<;>simp(disch:=omega)only[go_sem]
   .exact bB.of (by rw[g]; rfl) rfl
   .rw[(hfd (by rw[g]; rfl)).ne]
  .have hz:(l.zip m).length=l.length:=dA (by omega)
   rw[hz]
   simp(disch:=omega)only[go_sem]
   rw[hn.eq (by omega),fI]
 .rw[fJ (fun e=>h (by rw[e]))]
theorem AQ {l:List aH} (h:cS l=0):∀k,k<l.length->eY l k=0:=by
 unfold cS at h
 split at h
 .cases h
 .cases hf:(List.range l.length).find? (fun k=>decide (eY l k≠0))with
  |none=>
   intro k hk
   have:=Xn.1 hf k (WJ.2 hk)
   simpa using this
  |some k=>
   rw[hf]at h
   have:=XH hf
   simp only[yw]at h
   simp[h]at this
theorem Db {l:List aH} {k:Nat} {t:aH} (h:cS l=0) (hk:l[k]?=some t):eX l t=false:=by
 have:=AQ h k (V9.1 hk).1
 simp only[eY,hk,gR]at this
 split at this
 .cases this
 .split at this
  .cases this
  .split at this
   .cases this
   .rename_i h3
    simpa using h3
theorem Fv {T:List aH} {n:List Int} (h:BV true T n) {k:Nat} {x:aH} (hx:T[k]?=some x) (hc:(swp true T n k).getD k 0≠jN true x (swp true T n k)):swp true T n (k+1)≠n:=fun e=>by
 obtain⟨h1,h2⟩:=h.swp k
 have h3:=h1.2.2 k x hx
 have h4:=h2.2 k
 have hk:k<(swp true T n k).length:=by rw[h1.1]; exact(V9.1 hx).1
 have h5:=ir (n:=swp true T n k) (x:=jN true x (swp true T n k)) k hk
 rw[<- td hx,e,if_pos rfl]at h5
 omega
theorem Fw {T:List aH} {n:List Int} (h:BV true T n) {k:Nat} {x:aH} (hx:T[k]?=some x) (hc:(swp true T n k).getD k 0=jN true x (swp true T n k)):swp true T n (k+1)=swp true T n k:=by
 have hk:k<(swp true T n k).length:=by rw[(h.swp k).1.1]; exact(V9.1 hx).1
 rw[td hx,<- hc,Ws,Wb hk]
 simp
theorem Dc {T:List aH} (hv:cS T=0) {n:List Int} (h:Fix true T n):∀x∈T,x.kind=8->X1 n x.key≠0:=by
 intro x hx h8
 obtain⟨k,hk⟩:=Wd.1 hx
 have hb:=Db hv hk
 have hu:=(eZ hv).Np x hx x.key (ou h8)
 unfold eX kf at hb
 rw[h8]at hb
 have hg:=Wb (l:=T) (i:=x.key.toNat) (by omega)
 generalize T[x.key.toNat]'(by omega)=q at hg
 rw[hg]at hb
 have hq:1<=q.kind/\q.kind<=4:=by simpa using hb
 have ho:=(eZ hv).own q (Wa hg)
 unfold X1
 rw[h.2.2 _ q hg]
 unfold jN
 have h4:q.kind=4->0<q.syms.length:=fun e=>by
  unfold dO kindOk pM at ho
  simp[e]at ho
  omega
 split
 .split<;>decide
 .split
  .split<;>decide
  .split
   .rename_i e
    have:=h4 e
    omega
   .rw[if_neg (by omega),if_neg (by omega),if_neg (by omega),if_neg (by omega),if_neg (by omega)]
    decide
def vf (T:List aH):List Int:=kG false T (2*T.length+1)
set_option maxHeartbeats 2000000 in
theorem r474 (u:Nat) (T:List aH) (ho:∀t∈T,t.ok) (hv:cS T=0):res A aA 474 [.agg [.aq u (T.map aH.c)]]=some [.aq 0 (ints (vf T))]:=by
 have hS:=eZ hv
 have hs:∀t∈T,t.short:=fun t ht=>abK (hS.own t ht)
 have hT:=Fe ho hv
 have h32:=hS.len
 refine aw a474 rfl rfl ?_
 simp only[F474,Ly]
 simp(disch:=omega)only[go_sem]
 refine W.BZ (α:=Bool×List Int) (fun x=>⟨[(1,.ptr 1 0),(3,.own 0 0 0 T.length),(4,.pv (.bool x.1))],⟨[(1,[.pv (.aq u (T.map aH.c))])],[⟨0,1,.inl (ints x.2)⟩],[]⟩⟩)
  (fun x=>BV true T x.2/\(∀m,Fix true T m->kH x.2 m)/\(x.1=false->Fix true T x.2)) (fun x=>(2*(2*T.length - pT x.2)).toNat+(if x.1=true then 1 else 0)) (true,kG true T 0) (by simp(disch:=omega)only[go_sem]; rfl) ⟨gF true T 0,fun m hm=>nh hm 0,fun h=>by cases h⟩ fun x hx=>?_
 obtain⟨b,n⟩:=x
 obtain⟨hl,hun,hfix⟩:=hx
 dsimp only at hl hun hfix
 have hll:=hl.1
 cases b with
 |false=>
  have e:n=vf T:=qz.uniq (C2 ⟨hfix rfl,hun⟩ (Dc hv (hfix rfl))) (ni false T)
  rw[<- e]
  have hmt:n.take T.length=n:=Wq (by omega)
  simp(disch:=omega)only[go_sem,hmt]
 |true=>
  simp(disch:=omega)only[go_sem]
  refine W.fv T.length (fun k=>⟨[(1,.ptr 1 0),(3,.own 0 0 0 T.length),(4,.pv (.bool (decide (swp true T n k≠n)))),(14,.pv (.aq u (T.map aH.c))),(15,.pv (.int .i64 T.length)),(16,.pv (.int .i64 k))],⟨[(1,[.pv (.aq u (T.map aH.c))])],[⟨0,1,.inl (ints (swp true T n k))⟩],[]⟩⟩) (fun _=>True) (by simp[swp]) trivial fun k hk _=>?_
  have hw:=(hl.swp k).1
  have hwl:=hw.1
  simp(disch:=omega)only[go_sem]
  refine Br.aJ (fun c=>?_) (fun c=>?_)
  .obtain⟨x,hx⟩:=get_some (l:=T) (k:=k) (by omega)
   have hxm:=Wa hx
   have hsx:=td (b:=true) (n:=n) hx
   have hfl:=Fv hl hx
   have hsm:=Fw hl hx
   have h485:=fun t=>r485 x (swp true T n k) t (hT.2.2 x hxm) (hs x hxm) hw.2.1 (Da hS hxm hwl)
   have hmn:=Fi x hw.2.1
   have hfk:∀b:Bool,(b=true↔swp true T n k≠n)->b=decide (swp true T n k≠n):=fun b h=>by rw[Bool.eq_iff_iff,h]; simp
   obtain⟨fl,hfl2⟩:∃fl,decide (swp true T n k≠n)=fl:=⟨_,rfl⟩
   have hup:fl=true->swp true T n (k+1)≠n:=fun h e=>by
    have h1:=(hl.swp k).2
    have h2:kH (swp true T n k) (swp true T n (k+1)):=by rw[hsx]; exact(hw.step hx).2
    rw[e]at h2
    rw[<- hfl2]at h
    exact of_decide_eq_true h (h2.Mx h1)
   have hga:(swp true T n k)[k]?=some ((swp true T n k).getD k 0):=by
    rw[Ws,Wb (show k<(swp true T n k).length by omega)]
    rfl
   rw[hfl2]
   have hlo:fl=false->swp true T n k=n:=fun h=>by
    rw[<- hfl2]at h
    simpa using h
   generalize hm:swp true T n k=m at *
   have hmt:m.take T.length=m:=Wq (by omega)
   generalize m.getD k 0=g at *
   generalize hq:jN true x m=q at *
   generalize Fh x m=q2 at *
   simp only[aH.c]at h485
   simp(disch:=omega)only[go_sem,hx,Option.map_some,aH.c,h485,hmt,hmn,hga]
   refine Br.aJ (fun d=>?_) (fun d=>?_)<;>simp(disch:=omega)only[go_sem]
   .refine .of (by omega) ?_ trivial
    have h1:=hsm d.symm
    have h2:decide (swp true T n (k+1)≠n)=fl:=by rw[h1,hfl2]
    rw[h2,h1]
    rfl
   .refine .of (by omega) ?_ trivial
    have h1:=hfl (fun e=>d e.symm)
    have h2:decide (swp true T n (k+1)≠n)=true:=decide_eq_true h1
    rw[h2,hsx]
    rfl
  .obtain rfl:k=T.length:=by omega
   simp(disch:=omega)only[go_sem]
   have hup:=(hl.swp T.length).2
   have hf:=Fg hl
   have hlw:=(hl.swp T.length).1
   refine⟨(decide (swp true T n T.length≠n),swp true T n T.length),⟨hlw,fun m hm=>Ya hl hm (hun m hm) _,fun h=>?_⟩,?_,by simp(disch:=omega)only[go_sem]⟩
   .have e:swp true T n T.length=n:=by simpa using h
    dsimp only
    rw[e]at hf |-
    exact hf (kH.refl n)
   .have h1:=wF hup
    have h2:=oI hl.2.1
    have h3:=oI hlw.2.1
    rw[hll]at h2
    rw[hlw.1]at h3
    by_cases e:swp true T n T.length=n
    .simp[e]
    .have:=h1.2 (fun h=>e h.symm)
     simp[e]
     omega
theorem AR (l:List Bool) (x:Bool):bX l++[[.bool x]]=bX (l++[x]):=by simp[bX]
def oO (x:Int):Bool:=decide (0<x)
def AS (T:List aH):List Bool:=(vf T).map oO
theorem Dd {N:List Int} {k:Nat} {x:Int} (h:N[k]?=some x):(N.map oO).take (k+1)=(N.map oO).take k++[oO x]:=by
 rw[WL,Wf,h]
 rfl
noncomputable def ME (T:List aH):List Bool:=if gi T≠0 then [] else AS T
theorem vg (T:List aH):(vf T).length=T.length:=(gF false T _).1
set_option maxHeartbeats 2000000 in
theorem r464 (u:Nat) (T:List aH) (hl:T.length<=2147483648) (ho:∀t∈T,t.ok) (hs:∀t∈T,t.held):res A aA 464 [.agg [.aq u (T.map aH.c)]]=some [.aq 0 (bX (ME T)),.int .i64 (gi T)]:=by
 have h473:=r473 u T hl ho hs
 refine aw a464 rfl rfl ?_
 simp only[F464,Ls]
 simp(disch:=omega)only[go_sem,h473]
 unfold ME
 refine Br.aJ (fun c=>?_) (fun c=>?_)<;>simp(disch:=omega)only[go_sem,c]
 rotate_left
 .rw[if_pos c]
  rfl
 rw[if_neg (by simp[c])]
 have hc0:=c
 have hv:=(lD c).1
 have h474:=r474 u T ho hv
 have hcl:=vg T
 have h32:=(eZ hv).len
 unfold AS
 generalize vf T=N at *
 simp(disch:=omega)only[go_sem,h474]
 refine W.fv N.length (fun k=>⟨[(5,dh 0 (bX ((N.map oO).take k))),(14,.pv (.aq 0 (ints N))),(15,.pv (.int .i64 N.length)),(16,.pv (.int .i64 k))],⟨[],cK 1 (bX ((N.map oO).take k)),[]⟩⟩) (fun _=>True) rfl trivial fun k hk _=>?_
 simp(disch:=omega)only[go_sem]
 refine Br.aJ (fun c=>?_) (fun c=>?_)
 .obtain⟨x,hx⟩:=get_some (l:=N) (k:=k) (by omega)
  have ht:=Dd hx
  have hql:(bX ((N.map oO).take k)).length=k:=by simp[bX]; omega
  have hg:=fun bx mp=>BF bx mp 1 (bX ((N.map oO).take k)) [.bool (oO x)] rfl (by omega)
  have hp:decide (0<x)=oO x:=rfl
  generalize (N.map oO).take k=q at *
  simp(disch:=omega)only[go_sem,hx,hp,hg]
  refine .of (by omega) ?_ trivial
  rw[AR,<- ht]
  rfl
 .obtain rfl:k=N.length:=by omega
  have e:(N.map oO).take N.length=N.map oO:=List.take_of_length_le (by simp)
  rw[e]
  simp(disch:=omega)only[go_sem,hc0]
set_option maxHeartbeats 2000000 in
theorem r461 (u:Nat) (T:List aH) (hl:T.length<=2147483648) (ho:∀t∈T,t.ok) (hs:∀t∈T,t.held):res A aA 461 [.agg [.aq u (T.map aH.c)]]=some [.aq 0 (bX (ME T)),.int .i64 (gi T)]:=by
 have h470:=r470 u T hl ho hs
 refine aw a461 rfl rfl ?_
 simp only[F461,aaJ]
 simp(disch:=omega)only[go_sem,h470]
 unfold ME
 refine Br.aJ (fun c=>?_) (fun c=>?_)<;>simp(disch:=omega)only[go_sem,c]
 rotate_left
 .rw[if_pos c]
  rfl
 rw[if_neg (by simp[c])]
 have hc0:=c
 have hv:=(lD c).1
 have h471:=r471 u T ho hv
 have hcl:=vg T
 have h32:=(eZ hv).len
 unfold AS
 change _=some [PV.aq 0 (ints (vf T))]at h471
 generalize vf T=N at *
 simp(disch:=omega)only[go_sem,h471]
 refine W.fv N.length (fun k=>⟨[(5,.pv (.aq 0 (ints N))),(6,dh 0 (bX ((N.map oO).take k))),(7,.pv (.int .i64 k))],⟨[],cK 1 (bX ((N.map oO).take k)),[]⟩⟩) (fun _=>True) rfl trivial fun k hk _=>?_
 simp(disch:=omega)only[go_sem]
 refine Br.aJ (fun c=>?_) (fun c=>?_)
 .obtain⟨x,hx⟩:=get_some (l:=N) (k:=k) (by omega)
  have ht:=Dd hx
  have hql:(bX ((N.map oO).take k)).length=k:=by simp[bX]; omega
  have hg:=fun bx mp=>BF bx mp 1 (bX ((N.map oO).take k)) [.bool (oO x)] rfl (by omega)
  have hp:decide (0<x)=oO x:=rfl
  generalize (N.map oO).take k=q at *
  simp(disch:=omega)only[go_sem,hx,hp,hg]
  refine .of (by omega) ?_ trivial
  rw[AR,<- ht]
  rfl
 .obtain rfl:k=N.length:=by omega
  have e:(N.map oO).take N.length=N.map oO:=List.take_of_length_le (by simp)
  rw[e]
  simp(disch:=omega)only[go_sem,hc0]
noncomputable def iW (T:List aH):Int:=if gi T≠0 then gi T else if (AS T).all id=true then 0 else 10
theorem B1 (l:List Bool):(l.all fun x=>!!x)=l.all id:=by
 congr 1
 funext x
 simp
theorem r439 (u:Nat) (T:List aH) (hl:T.length<=2147483648) (ho:∀t∈T,t.ok) (hs:∀t∈T,t.held):res A aA 439 [.agg [.aq u (T.map aH.c)]]=some [.int .i64 (iW T)]:=by
 have h464:=r464 u T hl ho hs
 refine aw a439 rfl rfl ?_
 simp only[F439,Le]
 simp(disch:=omega)only[go_sem,h464]
 unfold iW ME
 refine Br.aJ (fun c=>?_) (fun c=>?_)<;>simp(disch:=omega)only[go_sem,c]
 rotate_left
 .rw[if_pos c]
 rw[if_neg (by simp[c]),if_neg (by simp[c])]
 have hfl:(AS T).length=T.length:=by unfold AS; rw[Wg,vg]
 have h32:=(eZ (lD c).1).len
 generalize AS T=N at *
 refine W.find N (fun x=>!x) (fun k=>⟨[(15,.pv (.aq 0 (bX N))),(16,.pv (.int .i64 N.length)),(17,.pv (.int .i64 k))],⟨[],[],[]⟩⟩) rfl (fun k x hx hk hfd=>?_) (fun hn=>?_)
 .simp(disch:=omega)only[go_sem]
  refine Br.aJ (fun c=>?_) (fun c=>(c (by omega)).elim)
  simp(disch:=omega)only[go_sem,hx]
  cases x
  .have:=(hfd rfl).all
   rw[B1]at this
   simp(disch:=omega)only[go_sem]
   rw[this,if_neg (by decide)]
  .simp(disch:=omega)only[go_sem]
   exact bB.of rfl rfl
 .have:=hn.all
  rw[B1]at this
  simp(disch:=omega)only[go_sem]
  rw[this,if_pos rfl]
theorem r435 (u:Nat) (T:List aH) (hl:T.length<=2147483648) (ho:∀t∈T,t.ok) (hs:∀t∈T,t.held):res A aA 435 [.agg [.aq u (T.map aH.c)]]=some [.int .i64 (iW T)]:=by
 have h461:=r461 u T hl ho hs
 refine aw a435 rfl rfl ?_
 simp only[F435,aaD]
 simp(disch:=omega)only[go_sem,h461]
 unfold iW ME
 refine Br.aJ (fun c=>?_) (fun c=>?_)<;>simp(disch:=omega)only[go_sem,c]
 rotate_left
 .rw[if_pos c]
 rw[if_neg (by simp[c]),if_neg (by simp[c])]
 have hfl:(AS T).length=T.length:=by unfold AS; rw[Wg,vg]
 have h32:=(eZ (lD c).1).len
 generalize AS T=N at *
 refine W.find N (fun x=>!x) (fun k=>⟨[(3,.pv (.aq 0 (bX N))),(5,.pv (.int .i64 k))],⟨[],[],[]⟩⟩) rfl (fun k x hx hk hfd=>?_) (fun hn=>?_)
 .simp(disch:=omega)only[go_sem]
  refine Br.aJ (fun c=>?_) (fun c=>(c (by omega)).elim)
  simp(disch:=omega)only[go_sem,hx]
  cases x
  .have:=(hfd rfl).all
   rw[B1]at this
   simp(disch:=omega)only[go_sem]
   rw[this,if_neg (by decide)]
  .simp(disch:=omega)only[go_sem]
   exact bB.of rfl rfl
 .have:=hn.all
  rw[B1]at this
  simp(disch:=omega)only[go_sem]
  rw[this,if_pos rfl]
def lG (i:Int) (m:gI):Bool:=decide (m.id=i)
theorem r487 (m:gI) (u:Nat) (i:Int):res A aA 487 [.agg m.c,.ro u [.int .i64 i]]=some [.bool (lG i m)]:=by
 refine aw a487 rfl rfl ?_
 simp only[F487,LH]
 simp(disch:=omega)only[go_sem,gI.c]
 rfl
theorem r486 (t u:Nat) (i:Int) (l:List gI) (hl:l.length<=2^63 - 1):res A aA 486 [.aq t (msgs l),.func 487 [.ro u [.int .i64 i]]]=some [.int .i64 (bj (lG i) l)]:=by
 refine aw a486 rfl rfl ?_
 simp only[F486,LG]
 simp(disch:=omega)only[go_sem]
 refine W.find l (lG i) (fun k=>⟨[(0,.pv (.aq t (msgs l))),(1,.pv (.func 487 [.ro u [.int .i64 i]])),(7,.pv (.int .i64 l.length)),(8,.pv (.int .i64 k))],⟨[],[],[]⟩⟩) rfl (fun k x hx hk hfd=>?_) (fun hn=>?_)
 .have hfx:=r487 x u i
  simp(disch:=omega)only[go_sem]
  refine Br.aJ (fun h=>?_) (fun h=>(h (by omega)).elim)
  unfold gI.c at hfx
  simp(disch:=omega)only[go_sem,hx,gI.c,hfx]
  refine Br.of (fun h2=>?_) (fun h2=>?_)<;>simp(disch:=omega)only[go_sem]
  .rw[(hfd h2).bj]
  .exact bB.of h2 rfl
 .simp(disch:=omega)only[go_sem]
  rw[hn.bj]
def US (o:Option gI):gI:=o.getD ⟨0,⟨#[]⟩,0⟩
theorem r476 (x:eE) (i:Int) (hl:x.msgs.length<=2^63 - 1):res A aA 476 [.agg x.c,.int .i64 i]=some [.agg (US (x.msgs.find? (lG i))).c,.bool (x.msgs.any (lG i))]:=by
 refine aw a476 rfl rfl ?_
 simp only[F476,LA]
 have h486:=fun u=>r486 0 u i x.msgs hl
 have e:x.msgs.map gI.c=msgs x.msgs:=rfl
 simp only[eE.c,e]
 simp(disch:=omega)only[go_sem,h486]
 rcases ko (lG i) x.msgs with⟨f1,f2⟩|⟨k,m,f1,f2,f3⟩
 .have ha:x.msgs.any (lG i)=false:=by
   rw[WY]
   exact Xn.1 f1
  rw[f1,f2,ha]
  refine Br.aJ (fun c=>?_) (fun c=>absurd (by decide) c)
  simp(disch:=omega)only[go_sem]
  rfl
 .have ha:x.msgs.any (lG i)=true:=by
   rw[Xm]
   exact⟨m,afu f1,XH f1⟩
  rw[f1,f3,ha]
  refine Br.aJ (fun c=>absurd c (by omega)) (fun c=>?_)
  simp(disch:=omega)only[go_sem,f2,gI.c]
  rfl
theorem r483 (x:eE) (i:Int) (hl:x.msgs.length<=2^63 - 1):res A aA 483 [.agg x.c,.int .i64 i]=some [.agg (US (x.msgs.find? (lG i))).c,.bool (x.msgs.any (lG i))]:=by
 refine aw a483 rfl rfl ?_
 simp only[F483,aaU]
 have e:x.msgs.map gI.c=msgs x.msgs:=rfl
 simp only[eE.c,e]
 simp(disch:=omega)only[go_sem]
 refine W.find x.msgs (lG i) (fun k=>⟨[(1,.pv (.int .i64 i)),(2,.ptr 2 0),(4,.ptr 4 0),(6,.pv (.int .i64 k))],⟨[(2,[.pv (.str x.name),.pv (.aq 0 (msgs x.msgs)),.pv (.int .i64 x.auto.aj),.pv (.int .i64 x.auto.start),.pv (.aq 0 (x.auto.af.map Edge.c))]),(4,[.pv (.int .i64 0),.pv (.str ⟨#[]⟩),.pv (.int .i64 0)])],[],[]⟩⟩) rfl (fun k m hx hk hfd=>?_) (fun hn=>?_)
 .simp(disch:=omega)only[go_sem]
  refine Br.aJ (fun c=>?_) (fun c=>(c (by omega)).elim)
  simp(disch:=omega)only[go_sem,hx,gI.c]
  have hp:decide (m.id=i)=lG i m:=rfl
  rw[hp]
  refine Br.of (fun g=>?_) (fun g=>?_)<;>simp(disch:=omega)only[go_sem,hx,gI.c]
  .rw[(hfd g).find,(hfd g).any]
   rfl
  .exact bB.of g rfl
 .simp(disch:=omega)only[go_sem]
  rw[hn.find,hn.any]
  rfl
def vh (l:List gI) (k:Nat):Int:=if k=0 then 0 else ((l[k - 1]?).map (·.id)).getD 0
def B2 (l:List gI) (k:Nat) (m:gI):Bool:=decide (m.id<=vh l k)||(decide (1000<m.id)||(!isName m.name||cY ((l.take k).map (·.name)) m.name))
def vi (l:List gI) (k:Nat):Bool:=match l[k]? with
 |some m=>B2 l k m
 |none=>false
def lH (x:eE):Bool:=!((List.range x.msgs.length).any (vi x.msgs))&&isName x.name
theorem AT {l:List gI} {k:Nat} {m:gI} (h:l[k]?=some m):vh l (k+1)=m.id:=by
 unfold vh
 rw[if_neg (by omega),Nat.add_sub_cancel,h]
 rfl
set_option maxHeartbeats 2000000 in
theorem r482 (x:eE) (hl:x.msgs.length<=2^63 - 1) (hn:bC x.name) (hs:∀m∈x.msgs,bC m.name):res A aA 482 [.agg x.c]=some [.bool (lH x)]:=by
 have h310n:=r310 x.name hn
 refine aw a482 rfl rfl ?_
 simp only[F482,aaT]
 have e:x.msgs.map gI.c=msgs x.msgs:=rfl
 simp only[eE.c,e]
 simp(disch:=omega)only[go_sem]
 refine W.find (List.range x.msgs.length) (vi x.msgs) (fun k=>⟨[(1,.ptr 1 0),(3,.pv (.int .i64 (vh x.msgs k))),(4,.pv (.int .i64 k))],⟨[(1,[.pv (.str x.name),.pv (.aq 0 (msgs x.msgs)),.pv (.int .i64 x.auto.aj),.pv (.int .i64 x.auto.start),.pv (.aq 0 (x.auto.af.map Edge.c))])],[],[]⟩⟩) rfl (fun k k' hx hk hfd=>?_) (fun hnw=>?_)
 .obtain⟨rfl,hk⟩:=ey hx
  obtain⟨m,hm⟩:=get_some hk
  have hb:vi x.msgs k'=B2 x.msgs k' m:=by unfold vi; rw[hm]
  have h310:=r310 m.name (hs m (Wa hm))
  have done:vi x.msgs k'=true->(some [PV.bool false]:Option (List PV))=some [.bool (lH x)]:=fun h=>by
   unfold lH
   rw[(hfd h).any]
   rfl
  have hln:=AT hm
  rw[hb]at done |-
  unfold B2 at done |-
  generalize vh x.msgs k'=la at *
  simp(disch:=omega)only[go_sem]
  refine Br.aJ (fun c=>?_) (fun c=>(c (by omega)).elim)
  simp(disch:=omega)only[go_sem,hm,gI.c,h310]
  refine Br.aJ (fun c1=>?_) (fun c1=>?_)<;>simp(disch:=omega)only[go_sem,c1,h310]
  .exact done (by simp[c1])
  refine Br.aJ (fun c2=>?_) (fun c2=>?_)<;>simp(disch:=omega)only[go_sem,c2,h310]
  .exact done (by simp[c2])
  cases hi:isName m.name with
  |false=>
   simp(disch:=omega)only[go_sem]
   exact done (by simp[hi])
  |true=>
   simp(disch:=omega)only[go_sem]
   rw[hi]at done
   refine W.find (x.msgs.take k') (fun q=>decide (q.name=m.name)) (fun j=>⟨[(1,.ptr 1 0),(4,.pv (.int .i64 k')),(5,.ptr 5 0),(6,.pv (.int .i64 j))],⟨[(1,[.pv (.str x.name),.pv (.aq 0 (msgs x.msgs)),.pv (.int .i64 x.auto.aj),.pv (.int .i64 x.auto.start),.pv (.aq 0 (x.auto.af.map Edge.c))]),(5,[.pv (.int .i64 m.id),.pv (.str m.name),.pv (.int .i64 m.ty)])],[],[]⟩⟩) rfl (fun j q hj hjl hfd2=>?_) (fun hn2=>?_)
   .have hjl':j<k'/\j<x.msgs.length:=by rw[W8]at hjl; omega
    have hj':x.msgs[j]?=some q:=by
     rw[Wy,if_pos hjl'.1]at hj
     exact hj
    simp(disch:=omega)only[go_sem]
    refine Br.aJ (fun c=>?_) (fun c=>(c (by omega)).elim)
    simp(disch:=omega)only[go_sem,hj',gI.c]
    refine Br.aJ (fun c3=>?_) (fun c3=>?_)<;>simp(disch:=omega)only[go_sem,c3]
    .refine done ?_
     have:cY ((x.msgs.take k').map (·.name)) m.name=true:=by
      unfold cY
      rw[abr]
      exact(hfd2 (by simp[c3])).any
     rw[this]
     simp
    .exact bB.of (by simp[c3]) rfl
   .have hlx:(x.msgs.take k').length=k':=by rw[W8]; omega
    rw[hlx]
    have hh:cY ((x.msgs.take k').map (·.name)) m.name=false:=by
     unfold cY
     rw[abr]
     exact hn2.any
    simp(disch:=omega)only[go_sem]
    exact bB.of (by rw[hh]; simp[c1,c2]) (by rw[hln]; rfl)
 .rw[WI]
  have hv:lH x=isName x.name:=by
   unfold lH
   rw[hnw.any]
   simp
  rw[hv]
  simp(disch:=omega)only[go_sem,h310n]
def qC (l:List gI) (k:Nat):List ByteArray:=((l.take k).map (·.name)).foldl pK []
theorem De (l:List gI) (k:Nat) (x:ByteArray):cY (qC l k) x=cY ((l.take k).map (·.name)) x:=by
 rw[Xb,eI,eI,qC,pN]
 simp
theorem AU {l:List gI} {k:Nat} {t:gI} (h:l[k]?=some t):pK (qC l k) t.name=qC l (k+1):=by
 unfold qC
 rw[WL,h,WC,List.foldl_append]
 rfl
def te (n:Nat) (x:eE):Int:=
 if 16<x.msgs.length then 3
 else if lH x=false then 1
 else if x.msgs.any (fun m=>dP n m.ty)=true then 4
 else if x.auto.err≠0 then x.auto.err
 else if x.auto.af.any (fun e=>!x.msgs.any (lG e.label))=true then 4
 else if (x.auto.order.length:Int)≠x.auto.aj then 1 else 0
theorem Fx {a:aP} (h:a.err=0):(a.order.length:Int)<=a.aj:=by
 have hg:=aP.iV.1 h
 have:=hg.lE hg.st
 have h2:=hg.st
 unfold aP.order
 omega
set_option maxHeartbeats 4000000 in
theorem r472 (u:Nat) (T:List (List PV)) (x:eE) (hT:T.length<=2^63 - 1) (hl:x.msgs.length<=2^63 - 1) (hn:bC x.name) (hs:∀m∈x.msgs,bC m.name) (he:x.auto.af.length<=2000000000):res A aA 472 [.agg [.aq u T],.agg x.c]=some [.int .i64 (te T.length x)]:=by
 have h482:=r482 x hl hn hs
 have h483:=fun i=>r483 x i hl
 have h33:=r33 0 x.auto he
 refine aw a472 rfl rfl ?_
 simp only[F472,aaP]
 have e:x.msgs.map gI.c=msgs x.msgs:=rfl
 simp only[eE.c,e]at h482 h483 |-
 unfold te
 simp(disch:=omega)only[go_sem]
 refine Br.aJ (fun c1=>?_) (fun c1=>?_)<;>simp(disch:=omega)only[go_sem,c1,h482]
 .rw[if_pos (by omega)]
 rw[if_neg (by omega)]
 cases hnm:lH x with
 |false=>simp(disch:=omega)only[go_sem,if_true]
 |true=>
  simp(disch:=omega)only[go_sem]
  rw[if_neg (by decide)]
  refine W.find x.msgs (fun m=>dP T.length m.ty) (fun k=>⟨[(2,.ptr 2 0),(3,.ptr 3 0),(5,.pv (.int .i64 k))],⟨[(2,[.pv (.aq u T)]),(3,[.pv (.str x.name),.pv (.aq 0 (msgs x.msgs)),.pv (.int .i64 x.auto.aj),.pv (.int .i64 x.auto.start),.pv (.aq 0 (x.auto.af.map Edge.c))])],[],[]⟩⟩) rfl (fun k m hx hk hfd=>?_) (fun hnw=>?_)
  .have done:dP T.length m.ty=true->x.msgs.any (fun m=>dP T.length m.ty)=true:=fun g=>(hfd g).any
   unfold dP at done |-
   simp(disch:=omega)only[go_sem]
   refine Br.aJ (fun c=>?_) (fun c=>(c (by omega)).elim)
   simp(disch:=omega)only[go_sem,hx,gI.c]
   refine Br.aJ (fun c4=>?_) (fun c4=>?_)<;>simp(disch:=omega)only[go_sem,c4,hx,gI.c]
   .rw[if_pos (done (by simp[c4]))]
   refine Br.aJ (fun c5=>?_) (fun c5=>?_)<;>simp(disch:=omega)only[go_sem,c5]
   .rw[if_pos (done (by simp[c5]))]
   .exact bB.of (by simp[c4,c5]) rfl
  .rw[hnw.any,if_neg (by decide)]
   by_cases h0:x.auto.err=0
   .rw[if_pos h0]at h33
    rw[if_neg (by simp[h0])]
    simp(disch:=omega)only[go_sem,h33]
    refine W.find x.auto.af (fun e=>!x.msgs.any (lG e.label)) (fun k=>⟨[(3,.ptr 3 0),(6,.ptr 6 0),(8,.pv (.int .i64 k))],⟨[(3,[.pv (.str x.name),.pv (.aq 0 (msgs x.msgs)),.pv (.int .i64 x.auto.aj),.pv (.int .i64 x.auto.start),.pv (.aq 0 (x.auto.af.map Edge.c))]),(6,[.pv (.int .i64 x.auto.order.length),.pv (.int .i64 0),.pv (.aq 0 (bF (mA Edge.lt (kept x.auto.order x.auto.af))))])],[],[]⟩⟩) rfl (fun k d hx hk hfd=>?_) (fun hnw=>?_)
    .have h483:=h483 d.label
     have done:(!x.msgs.any (lG d.label))=true->x.auto.af.any (fun e=>!x.msgs.any (lG e.label))=true:=fun g=>(hfd g).any
     generalize x.msgs.any (lG d.label)=b at h483 done |-
     generalize x.msgs.find? (lG d.label)=o at h483
     simp only[gI.c]at h483
     simp(disch:=omega)only[go_sem]
     refine Br.aJ (fun c=>?_) (fun c=>(c (by omega)).elim)
     simp(disch:=omega)only[go_sem,hx,h483,gI.c]
     cases b
     .simp(disch:=omega)only[go_sem]
      rw[if_pos (done rfl)]
     .simp(disch:=omega)only[go_sem]
      exact bB.of rfl rfl
    .rw[hnw.any,if_neg (by decide)]
     simp(disch:=omega)only[go_sem]
     refine Br.aJ (fun c=>?_) (fun c=>?_)<;>simp(disch:=omega)only[go_sem]
     .rw[if_neg (by simp[c])]
     .rw[if_pos c]
   .rw[if_neg h0]at h33
    rw[if_pos h0]
    simp(disch:=omega)only[go_sem,h33]
    refine Br.aJ (fun c=>absurd c h0) (fun c=>?_)
    simp(disch:=omega)only[go_sem]
set_option maxHeartbeats 4000000 in
theorem r466 (u:Nat) (T:List (List PV)) (x:eE) (hT:T.length<=2^63 - 1) (hl:x.msgs.length<=2^63 - 1) (hn:bC x.name) (hs:∀m∈x.msgs,bC m.name) (he:x.auto.af.length<=2000000000):res A aA 466 [.agg [.aq u T],.agg x.c]=some [.int .i64 (te T.length x)]:=by
 have h306n:=r306 x.name hn
 have h476:=fun i=>r476 x i hl
 have h32:=r32 0 x.auto he
 refine aw a466 rfl rfl ?_
 simp only[F466,Lu]
 have e:x.msgs.map gI.c=msgs x.msgs:=rfl
 simp only[eE.c,e]at h476 |-
 unfold te
 simp(disch:=omega)only[go_sem]
 refine Br.aJ (fun c1=>?_) (fun c1=>?_)<;>simp(disch:=omega)only[go_sem,c1]
 .rw[if_pos (by omega)]
 rw[if_neg (by omega)]
 refine W.find (List.range x.msgs.length) (vi x.msgs) (fun k=>⟨[(2,.ptr 2 0),(3,.ptr 3 0),(5,.map 0),(6,.pv (.int .i64 (vh x.msgs k))),(23,.pv (.aq 0 (msgs x.msgs))),(24,.pv (.int .i64 x.msgs.length)),(25,.pv (.int .i64 k))],⟨[(2,[.pv (.aq u T)]),(3,[.pv (.str x.name),.pv (.aq 0 (msgs x.msgs)),.pv (.int .i64 x.auto.aj),.pv (.int .i64 x.auto.start),.pv (.aq 0 (x.auto.af.map Edge.c))])],[],[iT (qC x.msgs k)]⟩⟩) rfl (fun k k' hx hk hfd=>?_) (fun hnw=>?_)
 .obtain⟨rfl,hk⟩:=ey hx
  obtain⟨m,hm⟩:=get_some hk
  have hb:vi x.msgs k'=B2 x.msgs k' m:=by unfold vi; rw[hm]
  have h306:=r306 m.name (hs m (Wa hm))
  have done:vi x.msgs k'=true->lH x=false:=fun h=>by
   unfold lH
   rw[(hfd h).any]
   rfl
  have hln:=AT hm
  have hsn:=AU hm
  rw[hb]at done |-
  unfold B2 at done |-
  rw[<- De]at done |-
  generalize vh x.msgs k'=la at *
  generalize qC x.msgs k'=sn at *
  simp(disch:=omega)only[go_sem]
  refine Br.aJ (fun c=>?_) (fun c=>(c (by omega)).elim)
  simp(disch:=omega)only[go_sem,hm,gI.c,h306]
  refine Br.aJ (fun c1=>?_) (fun c1=>?_)<;>simp(disch:=omega)only[go_sem,c1,h306]
  .rw[if_pos (done (by simp[c1]))]
  refine Br.aJ (fun c2=>?_) (fun c2=>?_)<;>simp(disch:=omega)only[go_sem,c2,h306]
  .rw[if_pos (done (by simp[c2]))]
  cases hi:isName m.name with
  |false=>
   simp(disch:=omega)only[go_sem]
   rw[if_pos (done (by simp[hi]))]
  |true=>
   rw[hi]at done
   simp(disch:=omega)only[go_sem]
   cases hh:cY sn m.name with
   |true=>
    rw[hh]at done
    simp(disch:=omega)only[go_sem]
    rw[if_pos (done (by simp))]
   |false=>
    simp(disch:=omega)only[go_sem]
    exact bB.of (by simp[c1,c2]) (by rw[hln,<- hsn]; rfl)
 .rw[WI]
  have hv:lH x=isName x.name:=by
   unfold lH
   rw[hnw.any]
   simp
  rw[hv]
  simp(disch:=omega)only[go_sem,h306n]
  generalize qC x.msgs x.msgs.length=sn
  cases hnm:isName x.name with
  |false=>simp(disch:=omega)only[go_sem,if_true]
  |true=>
  simp(disch:=omega)only[go_sem]
  rw[if_neg (by decide)]
  refine W.find x.msgs (fun m=>dP T.length m.ty) (fun k=>⟨[(2,.ptr 2 0),(3,.ptr 3 0),(61,.pv (.aq 0 (msgs x.msgs))),(62,.pv (.int .i64 x.msgs.length)),(63,.pv (.int .i64 k))],⟨[(2,[.pv (.aq u T)]),(3,[.pv (.str x.name),.pv (.aq 0 (msgs x.msgs)),.pv (.int .i64 x.auto.aj),.pv (.int .i64 x.auto.start),.pv (.aq 0 (x.auto.af.map Edge.c))])],[],[iT sn]⟩⟩) rfl (fun k m hx hk hfd=>?_) (fun hnw=>?_)
  .have done:dP T.length m.ty=true->x.msgs.any (fun m=>dP T.length m.ty)=true:=fun g=>(hfd g).any
   unfold dP at done |-
   simp(disch:=omega)only[go_sem]
   refine Br.aJ (fun c=>?_) (fun c=>(c (by omega)).elim)
   simp(disch:=omega)only[go_sem,hx,gI.c]
   refine Br.aJ (fun c4=>?_) (fun c4=>?_)<;>simp(disch:=omega)only[go_sem,c4,hx,gI.c]
   .rw[if_pos (done (by simp[c4]))]
   refine Br.aJ (fun c5=>?_) (fun c5=>?_)<;>simp(disch:=omega)only[go_sem,c5]
   .rw[if_pos (done (by simp[c5]))]
   .exact bB.of (by simp[c4,c5]) rfl
  .rw[hnw.any,if_neg (by decide)]
   by_cases h0:x.auto.err=0
   .have hle:=Fx h0
    have ho:x.auto.trim.aj=x.auto.order.length:=rfl
    rw[if_pos h0,ho]at h32
    rw[if_neg (by simp[h0])]
    simp(disch:=omega)only[go_sem,h32,if_pos h0,ho]
    refine W.find x.auto.af (fun e=>!x.msgs.any (lG e.label)) (fun k=>⟨[(3,.ptr 3 0),(11,.ptr 11 0),(90,.pv (.aq 0 (x.auto.af.map Edge.c))),(91,.pv (.int .i64 x.auto.af.length)),(92,.pv (.int .i64 k))],⟨[(3,[.pv (.str x.name),.pv (.aq 0 (msgs x.msgs)),.pv (.int .i64 x.auto.aj),.pv (.int .i64 x.auto.start),.pv (.aq 0 (x.auto.af.map Edge.c))]),(11,[.pv (.int .i64 x.auto.order.length),.pv (.int .i64 0),.pv (.aq 0 (bF x.auto.trim.af))])],[],[iT sn]⟩⟩) rfl (fun k d hx hk hfd=>?_) (fun hnw=>?_)
    .have h476:=h476 d.label
     have done:(!x.msgs.any (lG d.label))=true->x.auto.af.any (fun e=>!x.msgs.any (lG e.label))=true:=fun g=>(hfd g).any
     generalize x.msgs.any (lG d.label)=b at h476 done |-
     generalize x.msgs.find? (lG d.label)=o at h476
     simp only[gI.c]at h476
     simp(disch:=omega)only[go_sem]
     refine Br.aJ (fun c=>?_) (fun c=>(c (by omega)).elim)
     simp(disch:=omega)only[go_sem,hx,h476,gI.c]
     cases b
     .simp(disch:=omega)only[go_sem]
      rw[if_pos (done rfl)]
     .simp(disch:=omega)only[go_sem]
      exact bB.of rfl rfl
    .rw[hnw.any,if_neg (by decide)]
     simp(disch:=omega)only[go_sem]
     refine Br.aJ (fun c=>?_) (fun c=>?_)<;>simp(disch:=omega)only[go_sem]
     .rw[if_pos (by omega)]
     .rw[if_neg (by omega)]
   .rw[if_neg h0]at h32
    rw[if_pos h0]
    simp(disch:=omega)only[go_sem,h32,if_neg h0]
    refine Br.aJ (fun c=>absurd c h0) (fun c=>?_)
    simp(disch:=omega)only[go_sem]
theorem r463 (u:Nat) (T:List aH) (x:eE) (hT:T.length<=2147483648) (ho:∀t∈T,t.ok) (hsh:∀t∈T,t.held) (hl:x.msgs.length<=2^63 - 1) (hn:bC x.name) (hs:∀m∈x.msgs,bC m.name) (he:x.auto.af.length<=2000000000):res A aA 463 [.agg [.aq u (T.map aH.c)],.agg x.c]=some [.int .i64 (if cS T≠0 then cS T else te T.length x)]:=by
 have h268:=r268 u T hT ho hsh
 have h472:=r472 u (T.map aH.c) x (by rw[Wg]; omega) hl hn hs he
 rw[Wg]at h472
 refine aw a463 rfl rfl ?_
 simp only[F463,aaL]
 have e:x.msgs.map gI.c=msgs x.msgs:=rfl
 simp only[eE.c,e]at h472 |-
 simp(disch:=omega)only[go_sem,h268]
 refine Br.aJ (fun c=>?_) (fun c=>?_)<;>simp(disch:=omega)only[go_sem,h472]
 .rw[if_neg (by simp[c])]
 .rw[if_pos c]
theorem r444 (u:Nat) (T:List aH) (x:eE) (hT:T.length<=2147483648) (ho:∀t∈T,t.ok) (hsh:∀t∈T,t.held) (hl:x.msgs.length<=2^63 - 1) (hn:bC x.name) (hs:∀m∈x.msgs,bC m.name) (he:x.auto.af.length<=2000000000):res A aA 444 [.agg [.aq u (T.map aH.c)],.agg x.c]=some [.int .i64 (if cS T≠0 then cS T else te T.length x)]:=by
 have h267:=r267 u T hT ho hsh
 have h466:=r466 u (T.map aH.c) x (by rw[Wg]; omega) hl hn hs he
 rw[Wg]at h466
 refine aw a444 rfl rfl ?_
 simp only[F444,Li]
 have e:x.msgs.map gI.c=msgs x.msgs:=rfl
 simp only[eE.c,e]at h466 |-
 simp(disch:=omega)only[go_sem,h267]
 refine Br.aJ (fun c=>?_) (fun c=>?_)<;>simp(disch:=omega)only[go_sem,h466]
 .rw[if_neg (by simp[c])]
 .rw[if_pos c]
theorem r475 (t:Nat) (l:List ByteArray) (x:ByteArray) (hl:l.length<=2^63 - 1):res A aA 475 [.aq t (strs l),.str x]=some [.int .i64 (bj (fun s=>decide (s=x)) l)]:=by
 refine aw a475 rfl rfl ?_
 simp only[F475,Lz]
 simp(disch:=omega)only[go_sem]
 refine W.find l (fun s=>decide (s=x)) (fun k=>⟨[(0,.pv (.aq t (strs l))),(1,.pv (.str x)),(7,.pv (.int .i64 l.length)),(8,.pv (.int .i64 k))],⟨[],[],[]⟩⟩) rfl (fun k s hx hk hfd=>?_) (fun hn=>?_)
 .simp(disch:=omega)only[go_sem]
  refine Br.aJ (fun h=>?_) (fun h=>(h (by omega)).elim)
  simp(disch:=omega)only[go_sem,hx]
  have e:decide (x=s)=decide (s=x):=decide_eq_decide.2 ⟨fun h=>h.symm,fun h=>h.symm⟩
  rw[e]
  refine Br.of (fun h2=>?_) (fun h2=>?_)<;>simp(disch:=omega)only[go_sem]
  .rw[(hfd h2).bj]
  .exact bB.of h2 rfl
 .simp(disch:=omega)only[go_sem]
  rw[hn.bj]
theorem r465 (t:Nat) (l:List ByteArray) (x:ByteArray) (hl:l.length<=2^63 - 1):res A aA 465 [.aq t (strs l),.str x]=some [.bool (cY l x)]:=by
 refine aw a465 rfl rfl ?_
 simp only[F465,Lt]
 have h475:=r475 t l x hl
 simp(disch:=omega)only[go_sem,h475]
 have e:decide (0<=bj (fun s=>decide (s=x)) l)=cY l x:=by
  unfold bj cY
  cases h:l.findIdx? (fun s=>decide (s=x))with
  |none=>
   rw[List.any_eq_false.2 fun y hy=>by simpa using List.findIdx?_eq_none_iff.1 h y hy]
   rfl
  |some k=>
   obtain⟨hk,h2,_⟩:=Ww.1 h
   rw[Xm.2 ⟨_,Xc hk,h2⟩]
   simp
 rw[e]
theorem B3 (nm:ByteArray) (l:List ByteArray) (hn:bC nm) (hl:l.length<=1000) (Q:Ex->St->Prop)
  (hQ:∀env,if isName nm=false then Q .ret ⟨(4,.pv (.int .i64 1))::env,⟨[(200000,[dh 0 (strs l)])],cK 1 (strs l),[]⟩⟩ else if cY l nm=true then Q .ret ⟨(4,.pv (.int .i64 5))::env,⟨[(200000,[dh 0 (strs l)])],cK 1 (strs l),[]⟩⟩ else Q .ret ⟨(4,.pv (.int .i64 0))::env,⟨[(200000,[dh 0 (strs (l++[nm]))])],cK 1 (strs (l++[nm])),[]⟩⟩):
  W A aA F441.body ⟨[(0,.ptr 200000 0),(1,.pv (.str nm))],⟨[(200000,[dh 0 (strs l)])],cK 1 (strs l),[]⟩⟩ Q:=by
 have h306:=r306 nm hn
 have h465:=fun t=>r465 t l nm (by omega)
 have hsl:(strs l).length<=1000:=by rw[fq]; exact hl
 have hg:=fun bx mp=>BF bx mp 1 (strs l) [.str nm] rfl (by omega)
 simp only[F441,Ho]
 simp(disch:=omega)only[go_sem,h306]
 cases hi:isName nm with
 |false=>
  rw[hi]at hQ
  simp only[if_true]at hQ
  simp(disch:=omega)only[go_sem]
  exact hQ _
 |true=>
  rw[hi]at hQ
  rw[<- pL]at hQ
  simp only[Bool.true_eq_false,if_false]at hQ
  simp(disch:=omega)only[go_sem,h465]
  cases hh:cY l nm with
  |true=>
   rw[hh]at hQ
   simp only[if_true]at hQ
   simp(disch:=omega)only[go_sem]
   exact hQ []
  |false=>
   rw[hh]at hQ
   simp only[Bool.false_eq_true,if_false]at hQ
   simp(disch:=omega)only[go_sem,hg]
   exact hQ []
theorem Fy (a:aL) (nm:ByteArray) (l:List ByteArray) (hn:bC nm) (hl:l.length<=1000) (Q:Ex->St->Prop)
  (hQ:∀env,if isName nm=false then Q .ret ⟨(4,.pv (.int .i64 1))::env,⟨[(200000,[dh 1 (strs l)])],a::cK 1 (strs l),[]⟩⟩ else if cY l nm=true then Q .ret ⟨(4,.pv (.int .i64 5))::env,⟨[(200000,[dh 1 (strs l)])],a::cK 1 (strs l),[]⟩⟩ else Q .ret ⟨(4,.pv (.int .i64 0))::env,⟨[(200000,[dh 1 (strs (l++[nm]))])],a::cK 1 (strs (l++[nm])),[]⟩⟩):
  W A aA F441.body ⟨[(0,.ptr 200000 0),(1,.pv (.str nm))],⟨[(200000,[dh 1 (strs l)])],a::cK 1 (strs l),[]⟩⟩ Q:=by
 have h306:=r306 nm hn
 have h465:=fun t=>r465 t l nm (by omega)
 have hsl:(strs l).length<=1000:=by rw[fq]; exact hl
 have hg:=fun bx mp=>RD bx mp a 1 (strs l) [.str nm] rfl (by omega)
 simp only[F441,Ho]
 simp(disch:=omega)only[go_sem,h306]
 cases hi:isName nm with
 |false=>
  rw[hi]at hQ
  simp only[if_true]at hQ
  simp(disch:=omega)only[go_sem]
  exact hQ _
 |true=>
  rw[hi]at hQ
  rw[<- pL]at hQ
  simp only[Bool.true_eq_false,if_false]at hQ
  simp(disch:=omega)only[go_sem,h465]
  cases hh:cY l nm with
  |true=>
   rw[hh]at hQ
   simp only[if_true]at hQ
   simp(disch:=omega)only[go_sem]
   exact hQ []
  |false=>
   rw[hh]at hQ
   simp only[Bool.false_eq_true,if_false]at hQ
   simp(disch:=omega)only[go_sem,hg]
   exact hQ []
def B4 (v:V):Prop:=v=.tl []\/∃a b c d,v=.own a b c d
theorem eL (n:Nat) (rows:List (List PV)):B4 (dh n rows):=by
 cases rows with
 |nil=>exact .inl rfl
 |cons x r=>exact .inr ⟨_,_,_,_,rfl⟩
theorem hZ {s:Nat} {v:V} {ar:List aL} {mp:List (List (PV×PV))} {env:List (Nat×V)} {p:PV} {K:V->Tn->Prop} (hv:B4 v) (hp:∃n,p=.int .i64 n) (h:K (.pv p) { all:=some ([(s,[v])],ar,mp) }):Cz [.tmp 4] [s] K .mk .ret ⟨(4,.pv p)::env,⟨[(200000,[v])],ar,mp⟩⟩:=by
 obtain⟨n,rfl⟩:=hp
 rcases hv with rfl|⟨_,_,_,_,rfl⟩<;>exact⟨_,rfl,_,rfl,_,rfl,h⟩
theorem call5 {v:V} {ar:List aL} {nm:ByteArray} {a1 a2 a3 a4 a5 b1 b2 b3:PV} {K:V->Tn->Prop} (hv:B4 v) (h:W A aA F441.body ⟨[(0,.ptr 200000 0),(1,.pv (.str nm))],⟨[(200000,[v])],ar,[]⟩⟩ (Cz [.tmp 4] [5] K)):
  IW A aA 441 [.ptr 5 0,.pv (.str nm)] ⟨[(1,[.pv a1,.pv a2,.pv a3,.pv a4,.pv a5]),(5,[v]),(6,[.tl []]),(8,[.pv b1,.pv b2,.pv b3])],ar,[]⟩ K:=by
 rw[IA a441]
 rcases hv with rfl|⟨_,_,_,_,rfl⟩<;>exact⟨rfl,_,rfl,_,rfl,h⟩
theorem call6 {v:V} {ar:List aL} {nm:ByteArray} {a1 a2 a3 a4 a5 b1 b2:PV} {K:V->Tn->Prop} (hv:B4 v) (h:W A aA F441.body ⟨[(0,.ptr 200000 0),(1,.pv (.str nm))],⟨[(200000,[v])],ar,[]⟩⟩ (Cz [.tmp 4] [6] K)):
  IW A aA 441 [.ptr 6 0,.pv (.str nm)] ⟨[(1,[.pv a1,.pv a2,.pv a3,.pv a4,.pv a5]),(6,[v]),(14,[.pv b1,.pv b2])],ar,[]⟩ K:=by
 rw[IA a441]
 rcases hv with rfl|⟨_,_,_,_,rfl⟩<;>exact⟨rfl,_,rfl,_,rfl,h⟩
end Go.Pv
