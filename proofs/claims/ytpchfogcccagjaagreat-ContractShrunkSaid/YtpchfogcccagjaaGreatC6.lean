/-
 What the functions of the law give.
-/
import Derived.Test.YtpchfogcccagjaaGreatC5
set_option linter.unusedSimpArgs false
set_option linter.unusedVariables false
open List renaming mem_of_getElem? → Wa, getElem?_eq_some_iff → V9, getElem?_eq_getElem → Wb, length_map → Wg, mem_iff_getElem? → Wd, getElem?_append_left → We, getElem?_map → Wf, mem_map → Wk, length_append → Wz, getD_eq_getElem?_getD → Ws, getElem?_take → Wy, append_assoc → WK, take_of_length_le → Wq, findIdx?_eq_some_iff_getElem → Ww, eq_nil_of_length_eq_zero → Wp, getElem?_set_self → WU, take_add_one → WL, getElem?_set_ne → Xk, mem_range → WJ, any_eq_false → WY, ext_getElem? → WW, findIdx?_eq_none_iff → Xe, map_map → Xw, mem_singleton → Xj, foldl_cons → Xp, length_set → Xx, mem_map_of_mem → abQ, pairwise_iff_getElem → Xd, getElem?_range → Xr, any_map → abr, length_replicate → XV, find?_eq_none → Xn, map_congr_left → afr, pairwise_singleton → XC, find?_some → XH, length_filter_le → XW, pairwise_map → afs, pairwise_lt_range → afy, map_id → afD
open Nat renaming lt_or_ge → Wh, le_refl → Wj, le_trans → WM, eq_zero_or_pos → Xi
open Int renaming toNat_natCast → WX, toNat_of_nonneg → aby, eq_ofNat_of_zero_le → XB, emod_nonneg → XJ, emod_lt_of_pos → XR, tmod_eq_emod_of_nonneg → abt
open Bool renaming eq_false_iff → Xz
namespace Go.Pv
theorem adZ {α:Type}{a b:List α}{k:Nat}{x y:α}(hx:a[k]?=some x)(hy:b[k]?=some y)(h:a.take k=b.take k)(e:x=y):a.take (k+1)=b.take (k+1):=by
 rw[WL,WL,hx,hy,h,e]
theorem ad0 {α:Type}{a b:List α}{k:Nat}(ha:a.length<=k)(hb:b.length<=k)(h:a.take k=b.take k):a=b:=by
 rwa [Wq ha,Wq hb]at h
@[go_sem] theorem MA (l:List Edge)(f:Int)(d:Bool)(x t:Int):bF l++[[.int .i64 f,.bool d,.int .i64 x,.int .i64 t]]=bF (l++[⟨f,d,x,t⟩]):=by simp[bF,Edge.c]
theorem Fo (e:Edge):(⟨e.fr,e.send,e.label,e.to⟩:Edge)=e:=rfl
@[go_sem] theorem MB {id row ax:Nat}{f x t:Int}{d:Bool}{l:List Edge}(h1:row<l.length):eG id row 0 [.pv (.int .i64 f),.pv (.bool d),.pv (.int .i64 x),.pv (.int .i64 t)] ⟨ax,4,.inl (bF l)⟩=some {ar:=some (id,⟨ax,4,.inl (bF (l.set row ⟨f,d,x,t⟩))⟩)}:=by
 rw[n9 (l:=[.int .i64 f,.bool d,.int .i64 x,.int .i64 t]) (by rw[bN];exact h1) rfl (by simp) rfl];have:over row 0 [.int .i64 f,.bool d,.int .i64 x,.int .i64 t] (bF l)=bF (l.set row ⟨f,d,x,t⟩):=by
  unfold over bF;rw[List.map_set];congr 1;obtain⟨e,he⟩:∃e,l[row]?=some e:=⟨l[row],by simp[h1]⟩;simp[he,Edge.c]
 rw[this]
set_option maxHeartbeats 2000000 in
@[go_sem] theorem r43 (t:Nat)(a:aP)(hl:a.af.length<=2000000000):
  res A aA 43 [.agg [.int .i64 a.aj,.int .i64 a.start,.aq t (a.af.map Edge.c)]]=some [.agg [.int .i64 a.aj,.int .i64 a.start,.aq 0 (bF (mA Edge.lt a.af))]]:=by
 refine aw a43 rfl rfl ?_;simp only[F43,Uh];simp(disch:=omega)only[go_sem];refine W.fold a.af (λo x=>tY Edge.lt x o) [] (λk o=>⟨[(1,.ptr 1 0),(2,.ptr 2 0),(3,.ptr 3 0),(4,.pv (.int .i64 k))],⟨[(1,[.pv (.int .i64 a.aj),.pv (.int .i64 a.start),.pv (.aq t (a.af.map Edge.c))]),(2,[.pv (.int .i64 0),.pv (.int .i64 0),.tl []]),(3,[.pv (.int .i64 a.aj),.pv (.int .i64 a.start),dh 0 (bF o)])],cK 4 (bF o),[]⟩⟩) (λk o=>o.length=k) rfl rfl (λk e o he hk _ hi=>?_) (λo ho hi=>?_)
 .simp(disch:=omega)only[go_sem];refine Br.aJ (λh=>?_) (λh=>(h (by omega)).elim);simp(disch:=omega)only[go_sem,he];have hlen:(bF (o++[e])).length=o.length+1:=by simp[bF]
  refine W.fv o.length (λj=>⟨[(1,.ptr 1 0),(2,.ptr 2 0),(3,.ptr 3 0),(4,.pv (.int .i64 k)),(5,.pv (.int .i64 (o.length - j:Nat)))],⟨[(1,[.pv (.int .i64 a.aj),.pv (.int .i64 a.start),.pv (.aq t (a.af.map Edge.c))]),(2,[.pv (.int .i64 0),.pv (.int .i64 0),.tl []]),(3,[.pv (.int .i64 a.aj),.pv (.int .i64 a.start),.own 0 o.length 0 (o.length+1)])],[⟨o.length,4,.inl (bF (kE e o (o.length - j)))⟩],[]⟩⟩)
   (λj=>uZ Edge.lt e o o.length=uZ Edge.lt e o (o.length - j)) ?_ rfl λj hj hq=>?_
  .rw[rn hlen,lU hlen,show (((o.length+1:Nat):Int) - 1)=((o.length - 0:Nat):Int) by omega];simp[kE]
  have hpl:=sR e o (o.length - j) (by omega);have hp0:=BP e o (o.length - j) (by omega);simp(disch:=omega)only[go_sem];have fin:uZ Edge.lt e o o.length=o.length - j->tY Edge.lt e o=kE e o (o.length - j):=λhb=>by unfold tY;rw[hb]
  refine Br.aJ (λf1=>?_) (λf1=>?_)
  .obtain⟨p,hp⟩:∃p,o.length - j=p+1:=⟨o.length - j - 1,by omega⟩;have hpb:=Az e o p (by omega);have hpd:=CY e o p (by omega);have e1:((p+1:Nat):Int) - 1=(p:Int):=by omega
   have e2:o.length - (j+1)=p:=by omega
   rw[hp]at hq hpl hp0 fin;have f2:(0:Int)<((p+1:Nat):Int):=by omega
   have hpl2:((kE e o (p+1)).set (p+1) (o.getD p default)).length=o.length+1:=by rw[Xx];exact hpl
   simp(disch:=omega)only[go_sem,hp,hp0,f2,e1,hpb];refine Br.of (λf3=>?_) (λf3=>?_)<;>simp(disch:=omega)only[go_sem,f3,hp0,e1,hpb,hpd,Fo]
   .refine .of (by omega) ?_ ?_
    .show _=St.mk _ _;rw[e2]
    .rw[hq,e2];simp only[uZ,f3,if_true]
   .refine cW.of ?_ ?_
    .show _=St.mk _ _;rw[fin (by rw[hq];simp only[uZ,f3,Bool.false_eq_true,if_false]),rn (by rw[bN];exact hpl),lU (by rw[bN];exact hpl)];rfl
    .rw[yK];omega
  .have h0:o.length - j=0:=by omega
   simp(disch:=omega)only[go_sem,f1];rw[h0]at hq hpl hp0 fin |-;refine cW.of ?_ ?_
   .show _=St.mk _ _;rw[fin hq,rn (by rw[bN];exact hpl),lU (by rw[bN];exact hpl)];rfl
   .rw[yK];omega
 .simp(disch:=omega)only[go_sem];rw[ho];rfl
theorem fold_filter {α β:Type}(p:α->Bool)(f:α->β):∀(l:List α)(o:List β),l.foldl (λo x=>if p x=true then o++[f x] else o) o=o++(l.filter p).map f
 |[],o=>by simp
 |x::l,o=>by
  rw[Xp,fold_filter p f l];by_cases h:p x=true<;>simp[h]
@[go_sem] theorem r43e (t:Nat)(n s:Int)(l:List Edge)(hl:l.length<=2000000000):res A aA 43 [.agg [.int .i64 n,.int .i64 s,.aq t (bF l)]]=some [.agg [.int .i64 n,.int .i64 s,.aq 0 (bF (mA Edge.lt l))]]:=r43 t ⟨n,s,l⟩ hl
theorem qA (h:aa)(t:Nat)(l:List Edge)(ht:t<=1)(hl:l.length<=2147483648):aZ 4 [.pv (.aq t (l.map Edge.c))] h=some (if l.length=0 then (.tl [],{}) else (.own h.ar.length 0 0 l.length,{push:=[⟨0,4,.inl (bF l)⟩],base:=h.ar.length})):=by
 have h1:((l.map Edge.c).all λx=>x.length==4)=true:=by simp[Edge.c]
 have h2:l.length<=aN:=hl;by_cases h0:l.length=0<;>simp[aZ,aW,aO,ht,h1,h2,h0,bF]
theorem Fp (l:List Edge):ay Edge.dec (bF l)=some l:=by
 induction l with
 |nil=>rfl
 |cons x l ih=>
  show ay Edge.dec (x.c::bF l)=_;have:Edge.dec x.c=some x:=rfl;simp only[ay,this,ih]
theorem AI {h:aa}{id ax n:Nat}{l:List Edge}(hn:n=l.length)(ho:aB h id ax=some ⟨ax,4,.inl (bF l)⟩)(h0:l.length≠0)(hm:l.length<=2147483648)(hap:l.Pairwise (oV Edge.lt)):
  jC 4 (gC Edge.c Edge.dec Edge.lt) 47 [.own id ax 0 n,.func 47 []] h=some (.dy [],{ar:=some (id,⟨ax,4,.inl (bF (dp Edge.lt l))⟩)}):=by
 subst hn;have e1:(bF l).length=l.length:=bN l;have hr:=u6 (oC Edge.u9 hap);simp[jC,ho,h0,e1,aN,hm,gC,Fp,hr,List.take_of_length_le (Nat.le_of_eq e1),List.drop_eq_nil_of_le (Nat.le_of_eq e1)];rfl
theorem aeg {a b:Edge}(h1:a.fr=b.fr)(h2:a.send=b.send)(h3:a.label=b.label)(h4:a.to=b.to):a=b:=by
 cases a;cases b;simp_all
theorem aeh (a b:Edge):(decide (a.fr=b.fr)&&(decide (a.send=b.send)&&(decide (a.label=b.label)&&decide (a.to=b.to))))=decide (a=b):=by
 by_cases h:a=b
 .subst h;simp
 .have:¬(a.fr=b.fr/\a.send=b.send/\a.label=b.label/\a.to=b.to):=λ⟨h1,h2,h3,h4⟩=>h (aeg h1 h2 h3 h4);simp only[h,decide_false,Bool.and_eq_false_iff,decide_eq_false_iff_not];by_cases h1:a.fr=b.fr<;>by_cases h2:a.send=b.send<;>by_cases h3:a.label=b.label<;>by_cases h4:a.to=b.to<;>simp_all
set_option maxHeartbeats 1000000 in
@[go_sem] theorem r15 (t u:Nat)(a b:aP)(ha:a.af.length<=2^63 - 1)(hb:b.af.length<=2^63 - 1):res A aA 15 [.agg [.int .i64 a.aj,.int .i64 a.start,.aq t (a.af.map Edge.c)],.agg [.int .i64 b.aj,.int .i64 b.start,.aq u (b.af.map Edge.c)]]=some [.bool (decide (a=b))]:=by
 refine aw a15 rfl rfl ?_;simp only[F15,c15];simp(disch:=omega)only[go_sem];refine Br.aJ (λh1=>?_) (λh1=>?_)<;>simp(disch:=omega)only[go_sem,h1]
 case refine_2=>
  have:¬a=b:=λe=>h1 (by rw[e]);simp[this]
 refine Br.aJ (λh2=>?_) (λh2=>?_)<;>simp(disch:=omega)only[go_sem,h2]
 case refine_2=>
  have:¬a=b:=λe=>h2 (by rw[e]);simp[this]
 refine Br.aJ (λh3=>?_) (λh3=>?_)<;>simp(disch:=omega)only[go_sem,h3]
 case refine_2=>
  have:¬a=b:=λe=>h3 (by rw[e]);simp[this]
 refine W.fv a.af.length (λk=>⟨[(2,.ptr 2 0),(3,.ptr 3 0),(5,.pv (.int .i64 k))],⟨[(2,[.pv (.int .i64 b.aj),.pv (.int .i64 b.start),.pv (.aq t (a.af.map Edge.c))]),(3,[.pv (.int .i64 b.aj),.pv (.int .i64 b.start),.pv (.aq u (b.af.map Edge.c))])],[],[]⟩⟩) (λk=>a.af.take k=b.af.take k) rfl rfl λk hk hi=>?_;simp(disch:=omega)only[go_sem];refine Br.aJ (λg=>?_) (λg=>?_)
 .obtain⟨x,hx⟩:=get_at (l:=a.af) (k:=k) (by omega);obtain⟨y,hy⟩:=get_at (l:=b.af) (k:=k) (by omega);simp(disch:=omega)only[go_sem,hx,hy,aeh];refine Br.aJ (λf=>?_) (λf=>?_)<;>simp(disch:=omega)only[go_sem,f]
  .exact .of (by omega) rfl (adZ hx hy hi f)
  .have:¬a=b:=λe=>f (by rw[e,hy]at hx;exact(Option.some.inj hx).symm);simp[this]
 .simp(disch:=omega)only[go_sem];have h4:=ad0 (k:=k) (by omega) (by omega) hi;have:a=b:=by cases a;cases b;simp_all
  simp[this]
@[go_sem] theorem r39e (t:Nat)(n s0:Int)(l:List Edge)(s:Int)(d:Bool)(x:Int)(hl:l.length<=2^63 - 1):
  res A aA 39 [.agg [.int .i64 n,.int .i64 s0,.aq t (bF l)],.int .i64 s,.bool d,.int .i64 x]=some [.int .i64 ((cO s d x l).getD 0),.bool (cO s d x l).isSome]:=r39 t ⟨n,s0,l⟩ s d x hl
structure vb where
 fr:Int
 act:Int
 to:Int
 deriving DecidableEq,Inhabited
structure ej where
 n:Int
 gH:List vb
 deriving DecidableEq,Inhabited
def vb.c (x:vb):List PV:=[.int .u8 x.fr,.int .u8 x.act,.int .u8 x.to]
def vb.ok (x:vb):Prop:=(0<=x.fr/\x.fr<=255)/\(0<=x.act/\x.act<=255)/\(0<=x.to/\x.to<=255)
def ej.ok (d:ej):Prop:=(0<=d.n/\d.n<=255)/\d.gH.length<=2^63 - 1/\∀x∈d.gH,x.ok
def vb.pV (st:Int)(x:vb):Edge:=⟨x.fr%st,decide (x.act%2=1),1+x.act/2%3,x.to%st⟩
def nk (es:List Edge)(e:Edge):List Edge:=if (cO e.fr e.send e.label es).isSome=true then es else es++[e]
def ej.raw (d:ej):List Edge:=(d.gH.take 12).foldl (λes x=>nk es (x.pV (1+d.n%4))) []
def ej.auto (d:ej):aP:=⟨1+d.n%4,0,mA Edge.lt d.raw⟩
theorem tc {s:Int}{d:Bool}{x:Int}:∀{es:List Edge},(cO s d x es).isSome=false↔∀e∈es,¬(e.fr=s/\e.send=d/\e.label=x)
 |[]=>by simp[cO]
 |e::r=>by
  unfold cO;split
  .rename_i h;simp[h]
  .rename_i h;rw[tc];simp only[List.mem_cons];exact⟨λhh y hy=>hy.elim (λe=>e ▸ h) (hh y),λhh y hy=>hh y (.inr hy)⟩
theorem Fq {es:List Edge}{e:Edge}(h:es.Pairwise (oV Edge.lt)):(nk es e).Pairwise (oV Edge.lt):=by
 unfold nk;split
 .exact h
 .rename_i hn;have hn':=tc.1 (by simpa using hn);rw[List.pairwise_append];refine⟨h,XC _ _,λa ha b hb=>?_⟩;rw[Xj]at hb;subst hb;rw[Edge.wG];exact hn' a ha
theorem yW (es:List Edge)(e:Edge):(nk es e).length<=es.length+1:=by
 unfold nk;split<;>simp
theorem yX {es:List Edge}{e x:Edge}(h:x∈nk es e):x∈es\/x=e:=by
 unfold nk at h;split at h
 .exact .inl h
 .simpa using h
theorem yY {st:Int}(hs:1<=st/\st<=4):∀(l:List vb)(es:List Edge),(∀x∈l,x.ok)->es.Pairwise (oV Edge.lt)->(∀e∈es,e.fits st=true)->
  (l.foldl (λes x=>nk es (x.pV st)) es).Pairwise (oV Edge.lt)/\(∀e∈l.foldl (λes x=>nk es (x.pV st)) es,e.fits st=true)/\(l.foldl (λes x=>nk es (x.pV st)) es).length<=es.length+l.length
 |[],es,_,h1,h2=>⟨h1,h2,by simp⟩
 |x::l,es,hx,h1,h2=>by
  have hxo:=hx x (by simp);have hf:(x.pV st).fits st=true:=by
   rw[fG];have a1:=XJ x.fr (b:=st) (by omega);have a2:=XR x.fr (b:=st) (by omega);have a3:=XJ x.to (b:=st) (by omega);have a4:=XR x.to (b:=st) (by omega);simp only[vb.pV];omega
  obtain⟨g1,g2,g3⟩:=yY hs l (nk es (x.pV st)) (λy hy=>hx y (by simp[hy])) (Fq h1) λe he=>by
   rcases yX he with h|h
   .exact h2 e h
   .exact h ▸ hf
  have:=yW es (x.pV st);exact⟨g1,g2,by simp only[List.foldl_cons,List.length_cons];omega⟩
theorem ej.st {d:ej}:1<=1+d.n%4/\1+d.n%4<=4:=by omega
theorem ej.wI {d:ej}(h:d.ok):d.raw.Pairwise (oV Edge.lt)/\(∀e∈d.raw,e.fits (1+d.n%4)=true)/\d.raw.length<=12:=by
 obtain⟨h1,h2,h3⟩:=yY d.st (d.gH.take 12) [] (λx hx=>h.2.2 x (List.mem_of_mem_take hx)) List.Pairwise.nil (λe he=>absurd he (by simp));refine⟨h1,h2,?_⟩;have:(d.gH.take 12).length<=12:=by simp;omega
 simp only[List.length_nil]at h3;unfold ej.raw;omega
theorem ej.len {d:ej}(h:d.ok):d.auto.af.length<=12:=by
 have:=(kl Edge.lt d.raw).length_eq;have:=d.wI h;show (mA Edge.lt d.raw).length<=12;omega
theorem ej.vW {d:ej}(h:d.ok){s:Int}(hs:0<=s/\s<1+d.n%4):(⟨1+d.n%4,s,d.auto.af⟩:aP).Good where
 st:=hs
 mx:=by
  have:=d.st;show 1+d.n%4<=12;omega
 len:=by
  have:=d.len h;show d.auto.af.length<=100;omega
 fit e he:=(d.wI h).2.1 e ((kl Edge.lt d.raw).subset he)
 Ps:=oB Edge.u9 (d.wI h).1
@[go_sem] theorem HL {k:IntKind}{a b:Int}(ha:0<=a)(hb:0<b):cB .rem (.pv (.int k a)) (.pv (.int k b))=some (.pv (.int k (a%b))):=by
 rw[xY (by omega),abt ha]
@[go_sem] theorem I3 {a b:Int}(ha:0<=a)(hb:0<b)(h2:a<=255):cB .quo (.pv (.int .u8 a)) (.pv (.int .u8 b))=some (.pv (.int .u8 (a/b))):=by
 rw[xX (by omega),Int.tdiv_eq_ediv_of_nonneg ha,wrap_u8]
 .exact Int.ediv_nonneg ha (by omega)
 .exact Int.le_trans (Int.ediv_le_self b ha) h2
attribute [go_sem] wrap_u8
set_option maxHeartbeats 2000000 in
@[go_sem] theorem r25 (t:Nat)(d:ej)(hd:d.ok):res A aA 25 [.agg [.int .u8 d.n,.aq t (d.gH.map vb.c)]]=some [.agg [.int .i64 (1+d.n%4),.int .i64 0,.aq 0 (bF d.auto.af)],.bool (decide ((d.gH.length:Int)<=12))]:=by
 refine aw a25 rfl rfl ?_;simp only[F25,T9];obtain⟨d1,d2,d3⟩:=hd;have hst:=d.st;simp(disch:=omega)only[go_sem];refine W.fold (d.gH.take 12) (λes x=>nk es (x.pV (1+d.n%4))) [] (λk o=>⟨[(1,.ptr 1 0),(2,.ptr 2 0),(4,.ptr 4 0),(5,.pv (.int .i64 k))],⟨[(1,[.pv (.int .u8 d.n),.pv (.aq t (d.gH.map vb.c))]),(2,[.pv (.int .i64 0),.pv (.int .i64 0),.tl []]),(4,[.pv (.int .i64 (1+d.n%4)),.pv (.int .i64 0),dh 0 (bF o)])],cK 4 (bF o),[]⟩⟩) (λk o=>o.length<=k) rfl (by simp) (λk x o hx hk _ hi=>?_) (λo ho hi=>?_)
 .have hk2:k<d.gH.length/\k<12:=by simp at hk;omega
  have hx':d.gH[k]?=some x:=by rw[Wy,if_pos hk2.2]at hx;exact hx
  have hxo:=d3 x (Wa hx');unfold vb.ok at hxo;have q1:(k:Int)<(d.gH.length:Int):=by omega
  have q2:(k:Int)<12:=by omega
  have al:=yW o (x.pV (1+d.n%4));have a1:=XJ x.fr (b:=1+d.n%4) (by omega);have a2:=XJ x.to (b:=1+d.n%4) (by omega);simp(disch:=omega)only[go_sem,hx',q1,q2,vb.c];have ha:nk o (x.pV (1+d.n%4))=if (cO (x.fr%(1+d.n%4)) (decide (x.act%2=1)) (1+x.act/2%3) o).isSome=true then o else o++[x.pV (1+d.n%4)]:=rfl
  refine Br.of (λg=>?_) (λg=>?_)<;>simp(disch:=omega)only[go_sem,g]
  .refine cW.of ?_ (by omega);show _=St.mk _ _;rw[ha,if_pos g];rfl
  .refine cW.of ?_ (by omega);show _=St.mk _ _;rw[ha,if_neg (by simp[g])];rfl
 .have hr:o=d.raw:=ho;have hro:=d.wI ⟨d1,d2,d3⟩;have hlen:=d.len ⟨d1,d2,d3⟩;rcases Wh d.gH.length 12 with hc|hc
  .have e1:(d.gH.take 12).length=d.gH.length:=by simp;omega
   rw[e1];have q1:¬((d.gH.length:Int)<(d.gH.length:Int)):=by omega
   subst hr;simp(disch:=omega)only[go_sem,q1];rfl
  .have e1:(d.gH.take 12).length=12:=by simp;omega
   rw[e1];subst hr;simp(disch:=omega)only[go_sem];have q3:¬(((12:Nat):Int)<12):=by omega
   refine Br.aJ (λg=>?_) (λg=>?_)<;>simp(disch:=omega)only[go_sem,g,q3]<;>rfl
theorem vc (es:List Edge)(v:Int):∀o:List Int,es.foldl (λo e=>if e.fr=v then fw o e.to else o) o=sM o (outs es v):=by
 induction es with
 |nil=>intro o;rfl
 |cons e es ih=>
  intro o;rw[Xp,ih];by_cases h:e.fr=v
  .rw[if_pos h];simp[outs,h,il]
  .rw[if_neg h];simp[outs,h]
theorem oK {n b:Nat}{o:List Int}{x:Int}(h:b<=o.length):tW n b (ints (o++[x]))=.own n (o.length - b) 0 (o.length+1):=by
 rw[<- lV,EF (by rw[bt];exact h),bt]
theorem oL {b:Nat}{o:List Int}{x:Int}(h:b<=o.length):CI 1 b (ints (o++[x]))=[⟨o.length - b,1,.inl (ints (o++[x]))⟩]:=by
 rw[<- lV,EG (by rw[bt];exact h),bt]
theorem cn (l:List Int):(ints l).length=l.length:=bt l
set_option maxHeartbeats 4000000 in
@[go_sem] theorem r52 (t:Nat)(a:aP)(hg:a.Good):
  res A aA 52 [.agg [.int .i64 a.aj,.int .i64 a.start,.aq t (a.af.map Edge.c)]]=some [.aq 0 (ints a.order)]:=by
 refine aw a52 rfl rfl ?_;simp only[F52,Un];obtain⟨g1,g2,g3,g4,g5⟩:=hg;have hg:a.Good:=⟨g1,g2,g3,g4,g5⟩;simp(disch:=omega)only[go_sem];refine W.loop (α:=Nat×List Int) (λx=>⟨[(1,.ptr 1 0),(3,tW 0 1 (ints x.2)),(4,.pv (.int .i64 x.1))],⟨[(1,[.pv (.int .i64 a.aj),.pv (.int .i64 a.start),.pv (.aq t (a.af.map Edge.c))])],CI 1 1 (ints x.2),[]⟩⟩)
  (λx=>x.2.Nodup/\(∀v∈x.2,a.inr v)/\1<=x.2.length/\x.1<=x.2.length/\pO (outs a.af) (a.aj.toNat - x.1) x.1 x.2=a.order) (λx=>a.aj.toNat - x.1) (0,[a.start]) rfl ⟨by simp,λw hw=>(List.mem_singleton.1 hw) ▸ hg.st,by simp,by simp,rfl⟩ λx hx=>?_
 obtain⟨i,o⟩:=x;obtain⟨hd,hin,h1,h2,hb⟩:=hx;dsimp only at hd hin h1 h2 hb;have hlen:=a.bound o hd hin;simp(disch:=omega)only[go_sem];refine Br.aJ (λh=>?_) (λh=>?_)
 .obtain⟨v,hv⟩:=get_at (l:=o) (k:=i) (by omega);simp(disch:=omega)only[go_sem];refine W.fold a.af (λo e=>if e.fr=v then fw o e.to else o) o (λk o=>⟨[(1,.ptr 1 0),(3,tW 0 1 (ints o)),(4,.pv (.int .i64 i)),(5,.pv (.int .i64 k))],⟨[(1,[.pv (.int .i64 a.aj),.pv (.int .i64 a.start),.pv (.aq t (a.af.map Edge.c))])],CI 1 1 (ints o),[]⟩⟩)
   (λ_ o=>o.Nodup/\(∀v∈o,a.inr v)/\1<=o.length/\o[i]?=some v) rfl ⟨hd,hin,h1,hv⟩ (λk e o he hk _ hi=>?_) (λo ho hi=>?_)
  .obtain⟨hd,hin,h1,hv⟩:=hi;have hlen:=a.bound o hd hin;have hef:=fG.1 (g4 e (Wa he));have hto:a.inr e.to:=⟨hef.2.2.1,hef.2.2.2.1⟩;have hI:(if e.fr=v then fw o e.to else o).Nodup/\(∀w∈(if e.fr=v then fw o e.to else o),a.inr w)/\1<=(if e.fr=v then fw o e.to else o).length/\(if e.fr=v then fw o e.to else o)[i]?=some v:=by
    split
    .obtain⟨r,hr⟩:=sL o e.to;have hil:=(V9.1 hv).1;refine⟨mX hd,λx hx=>(ov.1 hx).elim (hin x) (λq=>q ▸ hto),by rw[<- hr,Wz];omega,by rw[<- hr,We hil];exact hv⟩
    .exact⟨hd,hin,h1,hv⟩
   have hstay:e.fr=v->¬jM e.to o<0->(if e.fr=v then fw o e.to else o)=o:=λh1 h2=>by rw[if_pos h1,fw,if_pos (rp.1 (by omega))]
   have hmore:e.fr=v->jM e.to o<0->(if e.fr=v then fw o e.to else o)=o++[e.to]:=λh1 h2=>by rw[if_pos h1,fw,if_neg (oD.1 h2)]
   rcases yq (b:=1) (rows:=ints o)with hc|⟨m,hc⟩
   .rw[lW hc,lX hc];rw[cn]at hc;simp(disch:=omega)only[go_sem];refine Br.aJ (λh=>?_) (λh=>(h (by omega)).elim);simp(disch:=omega)only[go_sem,he,hv];refine Br.aJ (λf1=>?_) (λf1=>?_)<;>simp(disch:=omega)only[go_sem,f1]
    .refine Br.aJ (λf2=>?_) (λf2=>?_)<;>simp(disch:=omega)only[go_sem,f2]
     .refine cW.of ?_ hI;show _=St.mk _ _;rw[hmore f1 f2,oK h1,oL h1,show o.length - 1=0 by omega];rfl
     .refine cW.of ?_ hI;show _=St.mk _ _;rw[hstay f1 f2,lW (by rw[cn];exact hc),lX (by rw[cn];exact hc)];rfl
    .refine cW.of ?_ hI;show _=St.mk _ _;rw[if_neg f1,lW (by rw[cn];exact hc),lX (by rw[cn];exact hc)];rfl
   .rw[j9 hc,ka hc];rw[cn]at hc;have hil:=(V9.1 hv).1;have ht:o.take (1+m+1)=o:=Wq (by omega);have hi0:(0:Int)<=(i:Int):=by omega
    simp(disch:=omega)only[go_sem];refine Br.aJ (λh=>?_) (λh=>(h (by omega)).elim);simp(disch:=omega)only[go_sem,he,hv];refine Br.aJ (λf1=>?_) (λf1=>?_)<;>simp(disch:=omega)only[go_sem,f1,ht]
    .refine Br.aJ (λf2=>?_) (λf2=>?_)<;>simp(disch:=omega)only[go_sem,f2]
     .refine cW.of ?_ hI;show _=St.mk _ _;rw[hmore f1 f2,oK h1,oL h1,show o.length - 1=m+1 by omega,hc];rfl
     .refine cW.of ?_ hI;show _=St.mk _ _;rw[hstay f1 f2,j9 (by rw[cn];exact hc),ka (by rw[cn];exact hc)];rfl
    .refine cW.of ?_ hI;show _=St.mk _ _;rw[if_neg f1,j9 (by rw[cn];exact hc),ka (by rw[cn];exact hc)];rfl
  .rw[vc]at ho;simp(disch:=omega)only[go_sem];obtain⟨hd',hin',h1',hv'⟩:=hi;have hl':=a.bound o hd' hin';have hil:=(V9.1 hv').1;refine⟨(i+1,o),⟨hd',hin',h1',hil,?_⟩,by dsimp only;omega,rfl⟩;dsimp only;rw[<- hb,ho];obtain⟨q,hq⟩:∃q,a.aj.toNat - i=q+1:=⟨a.aj.toNat - i - 1,by omega⟩;rw[hq,yz hv];congr 1;omega
 .simp(disch:=omega)only[go_sem];rw[l6 (by omega)]at hb;rw[hb]
def jw (x y:Int)(n k:Nat):List Int:=List.replicate k x++List.replicate (n - k) y
theorem AJ {x y:Int}{n k:Nat}(h:k<=n):(jw x y n k).length=n:=by simp[jw];omega
theorem yZ (x y:Int)(n:Nat):jw x y n 0=List.replicate n y:=by simp[jw]
theorem AK (x y:Int)(n:Nat):jw x y n n=List.replicate n x:=by simp[jw]
theorem y3 {x y:Int}{n k:Nat}(h:k<n):(jw x y n k).set k x=jw x y n (k+1):=by
 unfold jw;rw[List.set_append_right _ _ (by simp)];obtain⟨m,hm⟩:∃m,n - k=m+1:=⟨n - k - 1,by omega⟩;have:n - (k+1)=m:=by omega
 rw[hm,this,List.replicate_succ' (n:=k),WK];simp[List.replicate_succ]
def abP (n:Nat)(o:List Int):List Int:=(List.range n).map λ(v:Nat)=>jM (v:Int) o
theorem fb (n:Nat)(o:List Int):(abP n o).length=n:=by simp[abP]
theorem gj {n:Nat}{o:List Int}{v:Int}(h:0<=v/\v<n):(abP n o)[v.toNat]?=some (jM v o):=by
 unfold abP;rw[Wf,Xr (by omega)];simp only[Option.map_some];rw[show ((v.toNat:Nat):Int)=v by omega]
theorem qB {x y:Int}:∀{l:List Int}{k:Nat},x∉l->abH y k (l++[x])=if y∈l then abH y k l else if y=x then ((k+l.length:Nat):Int) else -1
 |[],k,_=>by
  simp only[List.nil_append,abH,List.not_mem_nil,if_false,List.length_nil,Nat.add_zero];by_cases h:x=y
  .simp[h]
  .have:¬y=x:=λe=>h e.symm;simp[h,this]
 |z::l,k,hx=>by
  simp only[List.mem_cons,not_or]at hx;simp only[List.cons_append,abH];by_cases h:z=y
  .simp[h]
  .have hz:¬y=z:=λe=>h e.symm;rw[if_neg h,qB hx.2];simp only[List.mem_cons,hz,false_or,List.length_cons];split
   .rfl
   .split
    .congr 1;omega
    .rfl
theorem Fs {x y:Int}{l:List Int}(hx:x∉l):jM y (l++[x])=if y∈l then jM y l else if y=x then (l.length:Int) else -1:=by
 unfold jM;rw[qB hx];simp
theorem Ft {x:Int}{l:List Int}(h:x∉l):jM x l= -1:=by
 have:∀{l:List Int}{k:Nat},x∉l->abH x k l= -1:=by
  intro l
  induction l with
  |nil=>intro k _;rfl
  |cons y l ih=>
   intro k h;simp only[List.mem_cons,not_or]at h;unfold abH;rw[if_neg (λe=>h.1 e.symm),ih h.2]
 exact this h
theorem lF {n:Nat}{o:List Int}{x:Int}(hx:x∉o)(h:0<=x/\x<n):(abP n o).set x.toNat (o.length:Int)=abP n (o++[x]):=by
 apply WW;intro i;rcases Wh i n with hi|hi
 .have e1:=gj (n:=n) (o:=o++[x]) (v:=(i:Int)) (by omega);rw[WX]at e1;rw[e1,Fs hx];by_cases hix:x.toNat=i
  .have:(i:Int)=x:=by omega
   rw[hix,WU (by rw[fb];exact hi),if_neg (by rw[this];exact hx),if_pos this]
  .have hne:¬(i:Int)=x:=by omega
   have e2:=gj (n:=n) (o:=o) (v:=(i:Int)) (by omega);rw[WX]at e2;rw[Xk hix,e2];split
   .rfl
   .rename_i hno
    first
     |rw[Ft hno]
     |rw[if_neg hne,Ft hno]
 .rw[List.getElem?_eq_none (by simp[fb,hi]),List.getElem?_eq_none (by simp[fb,hi])]
theorem AL (n:Nat):abP n []=List.replicate n (-1):=by
 apply WW;intro i;rcases Wh i n with hi|hi
 .have e1:=gj (n:=n) (o:=[]) (v:=(i:Int)) (by omega);rw[WX]at e1;rw[e1];simp[hi];rfl
 .rw[List.getElem?_eq_none (by simp[fb,hi]),List.getElem?_eq_none (by simp[hi])]
set_option maxHeartbeats 4000000 in
@[go_sem] theorem r50 (t:Nat)(a:aP)(hg:a.Good):
  res A aA 50 [.agg [.int .i64 a.aj,.int .i64 a.start,.aq t (a.af.map Edge.c)]]=some [.aq 0 (ints a.order),.aq 0 (ints (abP a.aj.toNat a.order))]:=by
 refine aw a50 rfl rfl ?_;simp only[F50,Um];obtain⟨g1,g2,g3,g4,g5⟩:=hg;have hg:a.Good:=⟨g1,g2,g3,g4,g5⟩;simp(disch:=omega)only[go_sem];refine W.fv a.aj.toNat (λk=>⟨[(1,.ptr 1 0),(4,.own 0 0 0 a.aj.toNat),(14,.pv (.int .i64 a.aj.toNat)),(15,.pv (.int .i64 k))],⟨[(1,[.pv (.int .i64 a.aj),.pv (.int .i64 a.start),.pv (.aq t (a.af.map Edge.c))])],[⟨0,1,.inl (ints (jw (-1) 0 a.aj.toNat k))⟩],[]⟩⟩) (λ_=>True) (by rw[yZ];rfl) trivial λk hk _=>?_;simp(disch:=omega)only[go_sem];refine Br.aJ (λh=>?_) (λh=>?_)
 .have ho:=AJ (x:= -1) (y:=0) (n:=a.aj.toNat) (k:=k) (by omega);simp(disch:=omega)only[go_sem,y3 (show k<a.aj.toNat by omega)];exact .of (by omega) rfl trivial
 obtain rfl:k=a.aj.toNat:=by omega
 clear h hk;have hn:(List.replicate a.aj.toNat (-1:Int)).length=a.aj.toNat:=XV;have hp0:=lF (n:=a.aj.toNat) (o:=[]) (x:=a.start) (by simp) (by omega);rw[AL]at hp0;simp only[List.length_nil,List.nil_append]at hp0;have hp0':(List.replicate a.aj.toNat (-1:Int)).set a.start.toNat 0=abP a.aj.toNat [a.start]:=hp0;simp(disch:=omega)only[go_sem,AK,hp0'];refine W.loop (α:=Nat×List Int) (λx=>⟨[(1,.ptr 1 0),(4,.own 0 0 0 a.aj.toNat),(6,tW 1 1 (ints x.2)),(7,.pv (.int .i64 x.1))],⟨[(1,[.pv (.int .i64 a.aj),.pv (.int .i64 a.start),.pv (.aq t (a.af.map Edge.c))])],⟨0,1,.inl (ints (abP a.aj.toNat x.2))⟩::CI 1 1 (ints x.2),[]⟩⟩)
  (λx=>x.2.Nodup/\(∀v∈x.2,a.inr v)/\1<=x.2.length/\x.1<=x.2.length/\pO (outs a.af) (a.aj.toNat - x.1) x.1 x.2=a.order) (λx=>a.aj.toNat - x.1) (0,[a.start]) rfl ⟨by simp,λw hw=>(List.mem_singleton.1 hw) ▸ hg.st,by simp,by simp,rfl⟩ λx hx=>?_
 obtain⟨i,o⟩:=x;obtain⟨hd,hin,h1,h2,hb⟩:=hx;dsimp only at hd hin h1 h2 hb;have hlen:=a.bound o hd hin;simp(disch:=omega)only[go_sem];refine Br.aJ (λh=>?_) (λh=>?_)
 .obtain⟨v,hv⟩:=get_at (l:=o) (k:=i) (by omega);simp(disch:=omega)only[go_sem];refine W.fold a.af (λo e=>if e.fr=v then fw o e.to else o) o (λk o=>⟨[(1,.ptr 1 0),(4,.own 0 0 0 a.aj.toNat),(6,tW 1 1 (ints o)),(7,.pv (.int .i64 i)),(36,.pv (.aq t (a.af.map Edge.c))),(37,.pv (.int .i64 a.af.length)),(38,.pv (.int .i64 k))],⟨[(1,[.pv (.int .i64 a.aj),.pv (.int .i64 a.start),.pv (.aq t (a.af.map Edge.c))])],⟨0,1,.inl (ints (abP a.aj.toNat o))⟩::CI 1 1 (ints o),[]⟩⟩)
   (λ_ o=>o.Nodup/\(∀v∈o,a.inr v)/\1<=o.length/\o[i]?=some v) rfl ⟨hd,hin,h1,hv⟩ (λk e o he hk _ hi=>?_) (λo ho hi=>?_)
  .obtain⟨hd,hin,h1,hv⟩:=hi;have hlen:=a.bound o hd hin;have hef:=fG.1 (g4 e (Wa he));have hto:a.inr e.to:=⟨hef.2.2.1,hef.2.2.2.1⟩;have hI:(if e.fr=v then fw o e.to else o).Nodup/\(∀w∈(if e.fr=v then fw o e.to else o),a.inr w)/\1<=(if e.fr=v then fw o e.to else o).length/\(if e.fr=v then fw o e.to else o)[i]?=some v:=by
    split
    .obtain⟨r,hr⟩:=sL o e.to;have hil:=(V9.1 hv).1;refine⟨mX hd,λx hx=>(ov.1 hx).elim (hin x) (λq=>q ▸ hto),by rw[<- hr,Wz];omega,by rw[<- hr,We hil];exact hv⟩
    .exact⟨hd,hin,h1,hv⟩
   have hstay:e.fr=v->¬jM e.to o<0->(if e.fr=v then fw o e.to else o)=o:=λh1 h2=>by rw[if_pos h1,fw,if_pos (rp.1 (by omega))]
   have hmore:e.fr=v->jM e.to o<0->(if e.fr=v then fw o e.to else o)=o++[e.to]:=λh1 h2=>by rw[if_pos h1,fw,if_neg (oD.1 h2)]
   have hpl:=fb a.aj.toNat o;have hpg:=gj (n:=a.aj.toNat) (o:=o) (v:=e.to) (by omega);rcases yq (b:=1) (rows:=ints o)with hc|⟨m,hc⟩
   .rw[lW hc,lX hc];rw[cn]at hc;simp(disch:=omega)only[go_sem];refine Br.aJ (λh=>?_) (λh=>(h (by omega)).elim);simp(disch:=omega)only[go_sem,he,hv];refine Br.aJ (λf1=>?_) (λf1=>?_)<;>simp(disch:=omega)only[go_sem,f1,hpg]
    .refine Br.aJ (λf2=>?_) (λf2=>?_)<;>simp(disch:=omega)only[go_sem,f2]
     .refine cW.of ?_ hI;show _=St.mk _ _;rw[hmore f1 f2,oK h1,oL h1,show o.length - 1=0 by omega,<- lF (oD.1 f2) (by omega)];rfl
     .refine cW.of ?_ hI;show _=St.mk _ _;rw[hstay f1 f2,lW (by rw[cn];exact hc),lX (by rw[cn];exact hc)];rfl
    .refine cW.of ?_ hI;show _=St.mk _ _;rw[if_neg f1,lW (by rw[cn];exact hc),lX (by rw[cn];exact hc)];rfl
   .rw[j9 hc,ka hc];rw[cn]at hc;have hil:=(V9.1 hv).1;have ht:o.take (1+m+1)=o:=Wq (by omega);have hi0:(0:Int)<=(i:Int):=by omega
    simp(disch:=omega)only[go_sem];refine Br.aJ (λh=>?_) (λh=>(h (by omega)).elim);simp(disch:=omega)only[go_sem,he,hv];refine Br.aJ (λf1=>?_) (λf1=>?_)<;>simp(disch:=omega)only[go_sem,f1,hpg]
    .refine Br.aJ (λf2=>?_) (λf2=>?_)<;>simp(disch:=omega)only[go_sem,f2]
     .refine cW.of ?_ hI;show _=St.mk _ _;rw[hmore f1 f2,oK h1,oL h1,<- lF (oD.1 f2) (by omega),show o.length - 1=m+1 by omega,hc];rfl
     .refine cW.of ?_ hI;show _=St.mk _ _;rw[hstay f1 f2,j9 (by rw[cn];exact hc),ka (by rw[cn];exact hc)];rfl
    .refine cW.of ?_ hI;show _=St.mk _ _;rw[if_neg f1,j9 (by rw[cn];exact hc),ka (by rw[cn];exact hc)];rfl
  .rw[vc]at ho;simp(disch:=omega)only[go_sem];obtain⟨hd',hin',h1',hv'⟩:=hi;have hl':=a.bound o hd' hin';have hil:=(V9.1 hv').1;refine⟨(i+1,o),⟨hd',hin',h1',hil,?_⟩,by dsimp only;omega,rfl⟩;dsimp only;rw[<- hb,ho];obtain⟨q,hq⟩:∃q,a.aj.toNat - i=q+1:=⟨a.aj.toNat - i - 1,by omega⟩;rw[hq,yz hv];congr 1;omega
 .simp(disch:=omega)only[go_sem];rw[l6 (by omega)]at hb;rw[hb,Wq (by rw[fb];exact Wj _)]
theorem ve (o:List Int)(es:List Edge):es.foldl (λr e=>if 0<=jM e.fr o then r++[e.GC o] else r) []=kept o es:=by
 have h:=fold_filter (λe:Edge=>decide (e.fr∈o)) (Edge.GC o) es [];rw[List.nil_append]at h;rw[<- show _=kept o es from h];congr 1;funext r e;by_cases hc:e.fr∈o
 .simp[hc,rp]
 .simp[hc,rp]
theorem y4 (o:List Int)(es:List Edge):(kept o es).length<=es.length:=by
 unfold kept;rw[Wg];exact XW _ _
set_option maxHeartbeats 2000000 in
@[go_sem] theorem r33 (t:Nat)(a:aP)(hl:a.af.length<=2000000000):
  res A aA 33 [.agg [.int .i64 a.aj,.int .i64 a.start,.aq t (a.af.map Edge.c)]]=some (if a.err=0 then [.agg [.int .i64 a.order.length,.int .i64 0,.aq 0 (bF (mA Edge.lt (kept a.order a.af)))],.int .i64 0] else [.agg [.int .i64 0,.int .i64 0,.aq 0 []],.int .i64 a.err]):=by
 refine aw a33 rfl rfl ?_;simp only[F33,Ud];simp(disch:=omega)only[go_sem];refine Br.aJ (λh1=>?_) (λh1=>?_)<;>simp(disch:=omega)only[go_sem,h1];have hg:=aP.iV.1 h1;have hol:=hg.lE hg.st;have hmx:=hg.mx;have hol':a.order.length<=12:=by unfold aP.order;omega
 have hkl:=y4 a.order a.af;simp(disch:=omega)only[go_sem,r52 t a hg];refine W.fold a.af (λr e=>if 0<=jM e.fr a.order then r++[e.GC a.order] else r) [] (λk r=>⟨[(1,.ptr 1 0),(2,.ptr 2 0),(5,.pv (.aq 0 (ints a.order))),(6,.ptr 6 0),(7,.pv (.int .i64 k))],⟨[(1,[.pv (.int .i64 a.aj),.pv (.int .i64 a.start),.pv (.aq t (a.af.map Edge.c))]),(2,[.pv (.int .i64 0),.pv (.int .i64 0),.tl []]),(6,[.pv (.int .i64 a.order.length),.pv (.int .i64 0),dh 0 (bF r)])],cK 4 (bF r),[]⟩⟩) (λk r=>r.length<=k) rfl (Wj _) (λk e r he hk _ hi=>?_) (λr hr hi=>?_)
 .simp(disch:=omega)only[go_sem];refine Br.aJ (λh=>?_) (λh=>(h (by omega)).elim);simp(disch:=omega)only[go_sem,he];refine Br.aJ (λf=>?_) (λf=>?_)<;>simp(disch:=omega)only[go_sem,f]
  .refine cW.of ?_ (by rw[if_pos f];simp;omega);show _=St.mk _ _;rw[if_pos f];rfl
  .refine cW.of ?_ (by rw[if_neg f];omega);show _=St.mk _ _;rw[if_neg f];rfl
 .rw[ve]at hr;subst hr;simp(disch:=omega)only[go_sem];rw[if_pos h1]
def C7 (l:List Edge):Tn:=if l.length=0 then {} else {ar:=some (0,⟨l.length - 1,4,.inl (bF (dp Edge.lt l))⟩)}
theorem Fu {bx:List (Nat×List V)}{mp:List (List (PV×PV))}{l:List Edge}(hm:l.length<=2147483648)(hap:l.Pairwise (oV Edge.lt)):
  jC 4 (gC Edge.c Edge.dec Edge.lt) 47 [dh 0 (bF l),.func 47 []] ⟨bx,cK 4 (bF l),mp⟩=some (.dy [],C7 l):=by
 rcases Xi l.length with h|h
 .have:l=[]:=Wp h;subst this;simp[C7,bF,dh,jC]
 .obtain⟨m,hm'⟩:∃m,(bF l).length=m+1:=⟨l.length - 1,by rw[bN];omega⟩;rw[rn hm',lU hm'];rw[bN]at hm';rw[AI (l:=l) hm'.symm (by simp[aB]) (by omega) hm hap,C7,if_neg (by omega),hm'];rfl
@[go_sem] theorem MC (bx:List (Nat×List V))(mp:List (List (PV×PV)))(l:List Edge):(C7 l).apply ⟨bx,cK 4 (bF l),mp⟩=⟨bx,cK 4 (bF (dp Edge.lt l)),mp⟩:=by
 have hp:=(dc Edge.lt l).length_eq;rcases Xi l.length with h|h
 .have:l=[]:=Wp h;subst this;simp[C7,bF,dp,Tn.apply,cK]
 .obtain⟨m,hm'⟩:∃m,(bF l).length=m+1:=⟨l.length - 1,by rw[bN];omega⟩;have hm2:(bF (dp Edge.lt l)).length=m+1:=by rw[bN,hp,<- bN];exact hm'
  rw[lU hm',lU hm2];rw[bN]at hm';simp[C7,Tn.apply,hm']
theorem HM {n:Nat}{a b:List (List PV)}(h:a.length=b.length):dh n a=dh n b:=by
 cases a<;>cases b<;>simp_all [dh]
set_option maxHeartbeats 2000000 in
@[go_sem] theorem r32 (t:Nat)(a:aP)(hl:a.af.length<=2000000000):
  res A aA 32 [.agg [.int .i64 a.aj,.int .i64 a.start,.aq t (a.af.map Edge.c)]]=some (if a.err=0 then [.agg [.int .i64 a.trim.aj,.int .i64 0,.aq 0 (bF a.trim.af)],.int .i64 0] else [.agg [.int .i64 0,.int .i64 0,.aq 0 []],.int .i64 a.err]):=by
 refine aw a32 rfl rfl ?_;simp only[F32,Uc];simp(disch:=omega)only[go_sem];refine Br.aJ (λh1=>?_) (λh1=>?_)<;>simp(disch:=omega)only[go_sem,h1];have hg:=aP.iV.1 h1;have hol:=hg.lE hg.st;have hmx:=hg.mx;have hol':a.order.length<=12:=by unfold aP.order;omega
 have hkl:=y4 a.order a.af;have hpl:=fb a.aj.toNat a.order;simp(disch:=omega)only[go_sem,r50 t a hg];refine W.fold a.af (λr e=>if 0<=jM e.fr a.order then r++[e.GC a.order] else r) [] (λk r=>⟨[(2,.ptr 2 0),(6,.pv (.aq 0 (ints (abP a.aj.toNat a.order)))),(7,.ptr 7 0),(25,.pv (.aq t (a.af.map Edge.c))),(26,.pv (.int .i64 a.af.length)),(27,.pv (.int .i64 k))],⟨[(2,[.pv (.int .i64 0),.pv (.int .i64 0),.tl []]),(7,[.pv (.int .i64 a.order.length),.pv (.int .i64 0),dh 0 (bF r)])],cK 4 (bF r),[]⟩⟩) (λk r=>r.length<=k) rfl (Wj _) (λk e r he hk _ hi=>?_) (λr hr hi=>?_)
 .have hef:=fG.1 (hg.fit e (Wa he));have q1:=gj (n:=a.aj.toNat) (o:=a.order) (v:=e.fr) (by omega);have q2:=gj (n:=a.aj.toNat) (o:=a.order) (v:=e.to) (by omega);obtain⟨j1,hj1⟩:=XB hef.1;obtain⟨j2,hj2⟩:=XB hef.2.2.1;simp(disch:=omega)only[go_sem];refine Br.aJ (λh=>?_) (λh=>(h (by omega)).elim);simp(disch:=omega)only[go_sem,he,gB,q1];refine Br.aJ (λf=>?_) (λf=>?_)<;>simp(disch:=omega)only[go_sem,f,gB,q1,q2]
  .refine cW.of ?_ (by rw[if_pos f];simp;omega);show _=St.mk _ _;rw[if_pos f];rfl
  .refine cW.of ?_ (by rw[if_neg f];omega);show _=St.mk _ _;rw[if_neg f];rfl
 .rw[ve]at hr;subst hr;simp(disch:=omega)only[go_sem];rw[Fu (by omega) (s9 hg.oV)];have hp:=(dc Edge.lt (kept a.order a.af)).length_eq;simp(disch:=omega)only[go_sem];rw[HM (show (bF (kept a.order a.af)).length=(bF (dp Edge.lt (kept a.order a.af))).length by rw[bN,bN,hp])];simp(disch:=omega)only[go_sem];rw[if_pos h1];rfl
def HN (x:Bool×Int):List PV:=[.bool x.1,.int .i64 x.2]
@[go_sem] theorem Tt (x:Bool×Int):HN x=[.bool x.1,.int .i64 x.2]:=rfl
def fQ (l:List (Bool×Int)):List (List PV):=l.map HN
@[go_sem] theorem jj (l:List (Bool×Int)):(fQ l).length=l.length:=by simp[fQ]
def oN {α:Type}(p:α->Bool)(l:List α):Int:=match l.findIdx? p with
 |some k=>k
 |none=> -1
theorem Found.oN {α:Type}{l:List α}{p:α->Bool}{k:Nat}{x:α}(h:Found l p k x):oN p l=k:=by
 unfold Pv.oN;rw[h.idx]
theorem hY.oN {α:Type}{l:List α}{p:α->Bool}(h:hY l p):oN p l= -1:=by
 unfold Pv.oN;rw[h.idx]
def VK (l:List (Int×Int)):List (List PV):=l.map λx=>[.int .i64 x.1,.int .i64 x.2]
@[go_sem] theorem Tu:VK []=[]:=rfl
def fM {α β:Type}(f:α->β)(y:β)(l:List α)(k:Nat):List β:=(l.take k).map f++List.replicate (l.length - k) y
theorem AM {α β:Type}(f:α->β)(y:β)(l:List α){k:Nat}(h:k<=l.length):(fM f y l k).length=l.length:=by simp[fM];omega
theorem y5 {α β:Type}(f:α->β)(y:β)(l:List α):fM f y l 0=List.replicate l.length y:=by simp[fM]
theorem AN {α β:Type}(f:α->β)(y:β)(l:List α):fM f y l l.length=l.map f:=by simp[fM]
theorem AO {α β:Type}{f:α->β}{y:β}{l:List α}{k:Nat}{x:α}(h:l[k]?=some x):(fM f y l k).set k (f x)=fM f y l (k+1):=by
 have hk:=(V9.1 h).1;unfold fM;rw[List.set_append_right _ _ (by simp;omega),List.take_add_one,h];obtain⟨m,hm⟩:∃m,l.length - k=m+1:=⟨l.length - k - 1,by omega⟩;have:l.length - (k+1)=m:=by omega
 rw[hm,this];simp[Nat.min_eq_left (Nat.le_of_lt hk),List.replicate_succ]
def UR (ars:List aL)(x:V)(l:List Int):Prop:=
 ((x=.tl []\/x=.pv (.aq 0 []))/\l=[])\/∃id ax,x=.own (id+1) ax 0 l.length/\l≠[]/\ars[id]?=some ⟨ax,1,.inl (ints l)⟩
structure Vy (n:Nat)(s:List (List Int))(xs:List V)(ars:List aL):Prop where
 xl:xs.length=n
 sl:s.length=n
 own:∀(v:Nat)(x:V)(l:List Int),xs[v]?=some x->s[v]?=some l->UR ars x l
 V6:∀(v w:Nat)(x y:V)(i:Nat),xs[v]?=some x->xs[w]?=some y->fR x=some i->fR y=some i->v=w
def cQ (xs:List V):List (List V):=xs.map λx=>[x]
@[go_sem] theorem C8 (xs:List V):(cQ xs).length=xs.length:=by simp[cQ]
@[go_sem] theorem Pg (xs:List V)(i:Nat):(cQ xs)[i]?=xs[i]?.map λx=>[x]:=by simp[cQ]
theorem C9 (xs:List V)(i:Nat)(x:V):(cQ xs).set i [x]=cQ (xs.set i x):=by simp[cQ,List.map_set]
theorem y6 {id row ax:Nat}{xs:List V}{y:V}(h1:row<xs.length)(hc:y.calm=true):eG id row 0 [y] ⟨ax,1,.inr (cQ xs)⟩=some {ar:=some (id,⟨ax,1,.inr (cQ (xs.set row y))⟩)}:=by
 have h2:row<(⟨ax,1,.inr (cQ xs)⟩:aL).size:=by simp[aL.size,cQ,h1]
 obtain⟨z,hz⟩:∃z,xs[row]?=some z:=⟨xs[row],by simp[h1]⟩;have h3:(cQ xs).getD row []=[z]:=by simp[cQ,hz]
 simp[eG,h2,hc,setBody,<- C9];simp[cQ,hz]
theorem AP (n:Nat):cu n [.tl []]=.inr (cQ (List.replicate n (.tl []))):=by
 simp[cu,ay,V.bS,cQ]
attribute [go_sem] AP
variable {A:Nat->Option bA} {Pr:bm}
def MD {α:Type}(kt kb:List Nat)(S:α->St)(P:α->Prop)(m:α->Nat)(x:α)(Q:Ex->St->Prop)(_t:nU (kt,kb,S,P,m,x,Q):=.mk):Ex->St->Prop
 |.normal,s=>∃y,P y/\m y<m x/\s.mask kt kb=S y
 |.exit i,s=>Q (.exit i) s
 |.ret,s=>Q .ret s
@[go_sem] theorem Ph {α:Type}(kt kb:List Nat)(S:α->St)(P:α->Prop)(m:α->Nat)(x:α)(Q:Ex->St->Prop)(i:Nat)(s:St):MD kt kb S P m x Q .mk (.exit i) s=Q (.exit i) s:=rfl
@[go_sem] theorem R1 {α:Type}(kt kb:List Nat)(S:α->St)(P:α->Prop)(m:α->Nat)(x:α)(Q:Ex->St->Prop)(s:St):MD kt kb S P m x Q .mk .ret s=Q .ret s:=rfl
theorem W.BZ {α:Type}{a:AC}{kt kb:List Nat}{s:St}{Q:Ex->St->Prop}(S:α->St)(P:α->Prop)(m:α->Nat)(x0:α)(hs:s.mask kt kb=S x0)(h0:P x0)(hr:∀x,P x->W A Pr a (S x) (MD kt kb S P m x Q)):W A Pr (.loop (.mask kt kb a)) s Q:=by
 have key:∀n x s,m x<=n->s.mask kt kb=S x->P x->W A Pr (.loop (.mask kt kb a)) s Q:=by
  intro n
  induction n with
  |zero=>
   intro x s hm hs hp;obtain⟨ex,s',h1,h2⟩:=hr x hp;rw[<- hs]at h1;have h1:=cc.mask h1;cases ex with
   |normal=>obtain⟨y,_,h3,_⟩:=h2;omega
   |exit i=>exact⟨_,_,cc.gz h1 (by simp),h2⟩
   |ret=>exact⟨_,_,cc.gz h1 (by simp),h2⟩
  |succ n ih=>
   intro x s hm hs hp;obtain⟨ex,s',h1,h2⟩:=hr x hp;rw[<- hs]at h1;have h1:=cc.mask h1;cases ex with
   |normal=>
    obtain⟨y,hy,h3,h6⟩:=h2;obtain⟨e2,s2,h4,h5⟩:=ih y s' (by omega) h6 hy;exact⟨e2,s2,cc.uH h1 h4,h5⟩
   |exit i=>exact⟨_,_,cc.gz h1 (by simp),h2⟩
   |ret=>exact⟨_,_,cc.gz h1 (by simp),h2⟩
 exact key _ x0 s (Wj _) hs h0
end Go.Pv
namespace Go.Pv
theorem Da {T:List aH}(h:RT T){x:aH}(hx:x∈T){n:List Int}(hn:n.length=T.length):∀u∈cT x,0<=u/\u<n.length:=λu hu=>by
 rw[hn];exact h.Np x hx u hu
theorem td {b:Bool}{T:List aH}{n:List Int}{k:Nat}{x:aH}(h:T[k]?=some x):swp b T n (k+1)=(swp b T n k).set k (jN b x (swp b T n k)):=by
 show (match T[k]? with
  |some x=>(swp b T n k).set k (jN b x (swp b T n k))
  |none=>swp b T n k)=_
 rw[h]
set_option maxHeartbeats 2000000 in
theorem r471 (u:Nat)(T:List aH)(ho:∀t∈T,t.ok)(hv:cS T=0):res A aA 471 [.agg [.aq u (T.map aH.c)]]=some [.aq 0 (ints (kG false T (2*T.length+1)))]:=by
 have hS:=eZ hv;have hs:∀t∈T,t.short:=λt ht=>abK (hS.own t ht);have hT:=Fe ho hv;have h32:=hS.len;refine aw a471 rfl rfl ?_;simp only[F471,aaO];simp(disch:=omega)only[go_sem];refine W.fv (2*T.length+1) (λr=>⟨[(1,.ptr 1 0),(3,.own 0 0 0 T.length),(4,.pv (.int .i64 r))],⟨[(1,[.pv (.aq u (T.map aH.c))])],[⟨0,1,.inl (ints (kG false T r))⟩],[]⟩⟩) (λ_=>True) rfl trivial λr hr _=>?_;have hl:=gF false T r;have hll:=hl.1;simp(disch:=omega)only[go_sem];refine Br.aJ (λc=>?_) (λc=>?_)
 .have hnx:kG false T (r+1)=swp false T (kG false T r) T.length:=rfl;generalize kG false T r=n at hl hll hnx;simp(disch:=omega)only[go_sem];refine W.fv T.length (λk=>⟨[(1,.ptr 1 0),(3,.own 0 0 0 T.length),(4,.pv (.int .i64 r)),(5,.pv (.int .i64 k))],⟨[(1,[.pv (.aq u (T.map aH.c))])],[⟨0,1,.inl (ints (swp false T n k))⟩],[]⟩⟩) (λ_=>True) rfl trivial λk hk _=>?_;have hw:=(hl.swp k).1;have hwl:=hw.1;simp(disch:=omega)only[go_sem];refine Br.aJ (λc=>?_) (λc=>?_)
  .obtain⟨x,hx⟩:=get_some (l:=T) (k:=k) (by omega);have hxm:=Wa hx;have hsx:=td (b:=false) (n:=n) hx;have h481:=λt=>r481 x (swp false T n k) t (hT.2.2 x hxm) (hs x hxm) hw.2.1 (Da hS hxm hwl);generalize swp false T n k=m at *;generalize jN false x m=q at *;have hmt:m.take T.length=m:=Wq (by omega);simp only[aH.c]at h481;simp(disch:=omega)only[go_sem,hx,Option.map_some,aH.c,h481,hmt];refine .of (by omega) ?_ trivial;rw[hsx];rfl
  .obtain rfl:k=T.length:=by omega
   simp(disch:=omega)only[go_sem];refine .of (by omega) ?_ trivial;rw[hnx];rfl
 .obtain rfl:r=2*T.length+1:=by omega
  have hmt:(kG false T (2*T.length+1)).take T.length=kG false T (2*T.length+1):=Wq (by omega);simp(disch:=omega)only[go_sem,hmt]
set_option maxHeartbeats 4000000 in
theorem r277 (t u:Nat)(l m:List aH)(hl:l.length<=2^63 - 1)(_hm:m.length<=2^63 - 1)(vl:∀r∈l,r.ok)(vm:∀r∈m,r.ok):res A aA 277 [.agg [.aq t (l.map aH.c)],.agg [.aq u (m.map aH.c)]]=some [.bool (eqv l m)]:=by
 refine aw a277 rfl rfl ?_;simp only[F277,aeH];simp(disch:=omega)only[go_sem];refine Br.aJ (λh=>?_) (λh=>?_)<;>simp(disch:=omega)only[go_sem]
 .refine W.find (l.zip m) (λq=>!eqv q.1 q.2) (λk=>⟨[(2,.ptr 2 0),(3,.ptr 3 0),(5,.pv (.int .i64 k))],⟨[(2,[.pv (.aq t (l.map aH.c))]),(3,[.pv (.aq u (m.map aH.c))])],[],[]⟩⟩) rfl (λk q hq hk hfd=>?_) (λhn=>?_)
  .obtain⟨h1,h2⟩:=jh hq;rw[dA (by omega)]at hk;have hc:=r295 q.1 q.2 (vl q.1 (Wa h1)) (vm q.2 (Wa h2));unfold aH.c at hc;simp(disch:=omega)only[go_sem];refine Br.aJ (λc=>?_) (λc=>(c (by omega)).elim);simp(disch:=omega)only[go_sem,h1,h2,aH.c,hc];refine Br.of (λg=>?_) (λg=>?_)<;>simp(disch:=omega)only[go_sem]
   .exact bB.of (by rw[g];rfl) rfl
   .rw[(hfd (by rw[g];rfl)).ne]
  .have hz:(l.zip m).length=l.length:=dA (by omega);rw[hz];simp(disch:=omega)only[go_sem];rw[hn.eq (by omega),fI]
 .rw[fJ (λe=>h (by rw[e]))]
theorem acp {L:List Int}(h:L.length<=32)(j:Int):eH (fA L j):=by
 have:=adP (λy=>decide (y=j)) L;unfold fA eH;omega
theorem ac2 {L:List Int}(h:L.length<=32){t:aH}(ht:t.ok):(fB L t).ok:=by
 obtain⟨⟨h1,h2,h3,h4,h5,h6,h7⟩,⟨h8,h9⟩,h10,h11⟩:=ht;refine⟨⟨h1,h2,h3,h4,h5,?_,?_⟩,⟨h8,?_⟩,h10,?_⟩
 .show eH (if t.kind=8 then fA L t.key else t.key);split
  .exact acp h _
  .exact h6
 .show eH (if 7<=t.kind then fA L t.elem else t.elem);split
  .exact acp h _
  .exact h7
 .show bP (t.bc.map (qb L));unfold bP at *;rw[Wg];exact h9
 .intro m hm;obtain⟨q,hq,rfl⟩:=Wk.1 hm;obtain⟨g1,g2,g3,g4⟩:=h11 q hq;exact⟨g1,g2,acp h _,g4⟩
theorem adm {l:List aH}{i:Int}(hv:cS l=0)(h0:0<=i)(h1:i<l.length):abL l i=0:=by
 unfold abL;rw[hv];have:dP l.length i=false:=by
  simp[dP];omega
 simp[this]
theorem AQ {l:List aH}(h:cS l=0):∀k,k<l.length->eY l k=0:=by
 unfold cS at h;split at h
 .cases h
 .cases hf:(List.range l.length).find? (λk=>decide (eY l k≠0))with
  |none=>
   intro k hk;have:=Xn.1 hf k (WJ.2 hk);simpa using this
  |some k=>
   rw[hf]at h;have:=XH hf;simp only[yw]at h;simp[h]at this
theorem ad1 {l:List aH}{k:Nat}{t:aH}(h:cS l=0)(hk:l[k]?=some t):lZ l k t=false:=by
 have:=AQ h k (V9.1 hk).1;simp only[eY,hk,gR]at this;split at this
 .cases this
 .rename_i h1;simp only[Bool.or_eq_true,Bool.not_eq_true',not_or]at h1;simpa using h1.2
theorem abO {L:List Int}{u:Int}(h:u∈L):0<=fA L u/\fA L u<L.length/\L[(fA L u).toNat]?=some u:=by
 unfold fA bj;cases hf:L.findIdx? (λy=>decide (y=u))with
 |none=>
  rw[Xe]at hf;have:=hf u h;simp at this
 |some k=>
  rw[Ww]at hf;obtain⟨hk,hp,_⟩:=hf;dsimp only;refine⟨by omega,by omega,?_⟩;rw[WX,Wb hk];simpa using hp
theorem ac5 {L:List Int}(hd:L.Nodup){k:Nat}{u:Int}(h:L[k]?=some u):fA L u=k:=by
 obtain⟨h0,h1,h2⟩:=abO (Wa h);have:=(List.getElem?_inj (i:=(fA L u).toNat) (j:=k) (by omega) hd).1 (h2.trans h.symm);omega
structure abV (l:List aH)(L:List Int):Prop where
 v:cS l=0
 Ps:L.Pairwise (·<·)
 VD:∀u∈L,inT l u
 cl:∀u∈L,∀x∈cT (ji l u),x∈L
theorem abV.nodup {l:List aH}{L:List Int}(h:abV l L):L.Nodup:=h.Ps.imp (λhlt=>Int.ne_of_lt hlt)
theorem abV.len {l:List aH}{L:List Int}(h:abV l L):L.length<=32:=WM (abI L h.nodup h.VD) (eZ h.v).len
def G2 (l:List aH)(L:List Int):List aH:=L.map λu=>fB L (ji l u)
theorem abZ {l:List aH}{L:List Int}{k:Nat}{u:Int}(h:L[k]?=some u):(G2 l L)[k]?=some (fB L (ji l u)):=by
 unfold G2;rw[Wf,h];rfl
theorem acI (L:List Int)(t:aH):cT (fB L t)=(cT t).map (fA L):=by
 obtain⟨k,a2,a3,a4,a5,a6,a7,a8,a9,a10⟩:=t;have e1:(a7.map (qb L)).map (·.type)=(a7.map (·.type)).map (fA L):=by
  rw[Xw,Xw];rfl
 unfold cT jF abG fB;dsimp only;rw[e1];by_cases h8:k=8
 .subst h8;simp
 .by_cases h7:7<=k
  .simp[h8,h7]
  .simp[h8,h7]
theorem ac6 (L:List Int)(b:Bool)(l:List Mem):fK b (l.map (qb L))=fK b l:=by
 have e1:(l.map (qb L)).any (NS b)=l.any (NS b):=by
  rw[abr];rfl
 have e2:(l.map (qb L)).map Mem.nm=l.map Mem.nm:=by
  rw[Xw];rfl
 unfold fK;rw[e1,e2,Wg]
theorem ac7 (L:List Int)(t:aH):kindOk (fB L t)=kindOk t:=by
 unfold kindOk;have e:∀b,fK b (fB L t).bc=fK b t.bc:=λb=>ac6 L b t.bc;rw[e,e];rfl
theorem adn (L : List Int){t : aH}(h : t = ez t)(_h9 : t.kind <= 9) : fB L t = ez (fB L t) := by
  have hk : (fB L t).kind = t.kind := rfl;rcases Al t.kind with e | e | e | e | e | e | e | e | ⟨n1,n2,n3,n4,n5,n6,n7,n8⟩
  all_goals first
    | (unfold ez at h |-
       rw [hk];simp only [e] at h |-;simp (decide := true) only [if_false,if_true] at h |-;rw [h];simp [fB,cp]
       done)
    | skip
  unfold ez at h |-;rw [hk];simp only [n1,n2,n3,n4,n5,n6,n7,n8,if_false] at h |-;rw [h];simp [fB,cp,n8]
theorem ad2 (L:List Int){t:aH}(h:dO t=true):dO (fB L t)=true:=by
 have h9:=yx h;unfold dO at h |-;simp only[Bool.and_eq_true]at h |-;obtain⟨h1,h2,h3,h4⟩:=h;refine⟨h1,?_,h3,?_⟩
 .rw[bY]at h2 |-;exact adn L h2 h9
 .rw[ac7];exact h4
theorem abV.ad3 {l:List aH}{L:List Int}(h:abV l L){k:Nat}{u:Int}(hu:L[k]?=some u):lZ (G2 l L) k (fB L (ji l u))=false:=by
 obtain⟨u0,u1⟩:=h.VD u (Wa hu);have hd:=ad1 h.v (uT u0 u1);rw[Xz]at hd |-;intro hh;apply hd;unfold lZ at hh |-;simp only[Bool.and_eq_true]at hh |-;refine⟨hh.1,?_⟩;have h2:=hh.2;rw[eI]at h2 |-;obtain⟨t,ht,he⟩:=Wk.1 h2;obtain⟨j,hj⟩:=Wd.1 ht;rw[Wy]at hj;split at hj
 .rename_i hjk;have hkl:=(V9.1 hu).1;have hw:=Wb (l:=L) (i:=j) (by omega);have hlt:L[j]'(by omega)<u:=by
   have:=Xd.1 h.Ps j k (by omega) hkl hjk;rw[Wb hkl]at hu;cases hu;exact this
  generalize L[j]'(by omega)=w at hw hlt;rw[abZ hw]at hj;cases hj;obtain⟨w0,w1⟩:=h.VD w (Wa hw);refine Wk.2 ⟨ji l w,?_,he⟩;refine Wa (i:=w.toNat) ?_;rw[Wy,if_pos (by omega)];exact uT w0 w1
 .cases hj
theorem abV.Np {l:List aH}{L:List Int}(h:abV l L){u:Int}(hu:u∈L):∀x∈cT (fB L (ji l u)),0<=x/\x<L.length:=by
 intro x hx;rw[acI]at hx;obtain⟨y,hy,rfl⟩:=Wk.1 hx;obtain⟨h0,h1,_⟩:=abO (h.cl u hu y hy);exact⟨h0,h1⟩
theorem Db {l:List aH}{k:Nat}{t:aH}(h:cS l=0)(hk:l[k]?=some t):eX l t=false:=by
 have:=AQ h k (V9.1 hk).1;simp only[eY,hk,gR]at this;split at this
 .cases this
 .split at this
  .cases this
  .split at this
   .cases this
   .rename_i h3;simpa using h3
theorem abV.key {l:List aH}{L:List Int}(h:abV l L){u:Int}(hu:u∈L):eX (G2 l L) (fB L (ji l u))=false:=by
 obtain⟨u0,u1⟩:=h.VD u hu;have hb:=Db h.v (uT u0 u1);unfold eX at hb |-;by_cases h8:(ji l u).kind=8
 .have hk:=h.cl u hu _ (ou h8);obtain⟨i0,i1,i2⟩:=abO hk;obtain⟨k0,k1⟩:=h.VD _ hk;have e1:(fB L (ji l u)).key=fA L (ji l u).key:=if_pos h8;have e2:kf (G2 l L) (fA L (ji l u).key)=kf l (ji l u).key:=by
   unfold kf;rw[abZ i2,uT k0 k1];rfl
  rw[e1,e2];exact hb
 .have:(fB L (ji l u)).kind=(ji l u).kind:=rfl;rw[this];simp[h8]
theorem abV.valid {l:List aH}{L:List Int}(h:abV l L):cS (G2 l L)=0:=by
 have hlen:(G2 l L).length=L.length:=by simp[G2]
 have h32:=h.len;unfold cS;rw[if_neg (by omega)];have hz:∀k∈List.range (G2 l L).length,¬decide (eY (G2 l L) k≠0)=true:=by
  intro k hk;have hk:k<L.length:=by rw[hlen]at hk;simpa using hk
  have hu:=Wb hk;generalize L[k]=u at hu;have hm:=Wa hu;obtain⟨u0,u1⟩:=h.VD u hm;have e1:=ad2 L ((eZ h.v).own _ (Wa (uT u0 u1)));have e2:=h.ad3 hu;have e3:(cT (fB L (ji l u))).any (dP (G2 l L).length)=false:=by
   rw[WY];intro x hx;have:=h.Np hm x hx;rw[hlen];simp[dP];omega
  have e4:=h.key hm;have e5:eY (G2 l L) k=0:=by
   simp only[eY,abZ hu,gR,e1,e2,e3,e4];rfl
  rw[e5];decide
 rw[Xn.2 hz];rfl
theorem abV.afa {l:List aH}{L:List Int}(h:abV l L){i u:Int}(hi:i∈L)(hr:O8 (nxT l) i u):u∈L/\O8 (nxT (G2 l L)) (fA L i) (fA L u):=by
 induction hr with
 |refl=>exact⟨hi,.refl⟩
 |@step v x _ hx ih=>
  obtain⟨hv,hr⟩:=ih;have hxL:=h.cl v hv x hx;refine⟨hxL,.step hr ?_⟩;obtain⟨v0,v1,v2⟩:=abO hv;have:ji (G2 l L) (fA L v)=fB L (ji l v):=by
   unfold ji;rw[abZ v2];rfl
  unfold nxT;rw[this,acI];exact abQ hx
def upI (m:Nat):List Int:=(List.range m).map λ(k:Nat)=>(k:Int)
theorem adM (m:Nat):(upI m).Pairwise (·<·):=by
 unfold upI;rw[afs];have:(List.range m).Pairwise (·<·):=afy;exact this.imp (λh=>by omega)
theorem aeu {m k:Nat}(h:k<m):(upI m)[k]?=some (k:Int):=by
 unfold upI;rw[Wf,Xr h];rfl
theorem aev {m:Nat}{x:Int}(h0:0<=x)(h1:x<m):fA (upI m) x=x:=by
 have hn:(upI m).Nodup:=(adM m).imp (λhlt=>Int.ne_of_lt hlt);have:=ac5 hn (aeu (m:=m) (k:=x.toNat) (by omega));rw[aby h0]at this;exact this
theorem adG {L:List Int}{t:aH}(h:∀x∈cT t,fA L x=x):fB L t=t:=by
 have e1:t.bc.map (qb L)=t.bc:=by
  rw[afr (g:=id) (λm hm=>by
   unfold qb;rw[h _ (abY hm)];rfl),afD]
 have e2:(if t.kind=8 then fA L t.key else t.key)=t.key:=by
  split
  .rename_i h8;exact h _ (ou h8)
  .rfl
 have e3:(if 7<=t.kind then fA L t.elem else t.elem)=t.elem:=by
  split
  .rename_i h7;exact h _ (acf h7)
  .rfl
 unfold fB;rw[e1,e2,e3]
theorem Fv {T:List aH}{n:List Int}(h:BV true T n){k:Nat}{x:aH}(hx:T[k]?=some x)(hc:(swp true T n k).getD k 0≠jN true x (swp true T n k)):swp true T n (k+1)≠n:=λe=>by
 obtain⟨h1,h2⟩:=h.swp k;have h3:=h1.2.2 k x hx;have h4:=h2.2 k;have hk:k<(swp true T n k).length:=by rw[h1.1];exact(V9.1 hx).1
 have h5:=ir (n:=swp true T n k) (x:=jN true x (swp true T n k)) k hk;rw[<- td hx,e,if_pos rfl]at h5;omega
theorem Fw {T:List aH}{n:List Int}(h:BV true T n){k:Nat}{x:aH}(hx:T[k]?=some x)(hc:(swp true T n k).getD k 0=jN true x (swp true T n k)):swp true T n (k+1)=swp true T n k:=by
 have hk:k<(swp true T n k).length:=by rw[(h.swp k).1.1];exact(V9.1 hx).1
 rw[td hx,<- hc,Ws,Wb hk];simp
theorem Dc {T:List aH}(hv:cS T=0){n:List Int}(h:Fix true T n):∀x∈T,x.kind=8->X1 n x.key≠0:=by
 intro x hx h8;obtain⟨k,hk⟩:=Wd.1 hx;have hb:=Db hv hk;have hu:=(eZ hv).Np x hx x.key (ou h8);unfold eX kf at hb;rw[h8]at hb;have hg:=Wb (l:=T) (i:=x.key.toNat) (by omega);generalize T[x.key.toNat]'(by omega)=q at hg;rw[hg]at hb;have hq:1<=q.kind/\q.kind<=4:=by simpa using hb
 have ho:=(eZ hv).own q (Wa hg);unfold X1;rw[h.2.2 _ q hg];unfold jN;have h4:q.kind=4->0<q.syms.length:=λe=>by
  unfold dO kindOk pM at ho;simp[e]at ho;omega
 split
 .split<;>decide
 .split
  .split<;>decide
  .split
   .rename_i e;have:=h4 e;omega
   .rw[if_neg (by omega),if_neg (by omega),if_neg (by omega),if_neg (by omega),if_neg (by omega)];decide
def vf (T:List aH):List Int:=kG false T (2*T.length+1)
set_option maxHeartbeats 2000000 in
theorem r474 (u:Nat)(T:List aH)(ho:∀t∈T,t.ok)(hv:cS T=0):res A aA 474 [.agg [.aq u (T.map aH.c)]]=some [.aq 0 (ints (vf T))]:=by
 have hS:=eZ hv;have hs:∀t∈T,t.short:=λt ht=>abK (hS.own t ht);have hT:=Fe ho hv;have h32:=hS.len;refine aw a474 rfl rfl ?_;simp only[F474,Ly];simp(disch:=omega)only[go_sem];refine W.BZ (α:=Bool×List Int) (λx=>⟨[(1,.ptr 1 0),(3,.own 0 0 0 T.length),(4,.pv (.bool x.1))],⟨[(1,[.pv (.aq u (T.map aH.c))])],[⟨0,1,.inl (ints x.2)⟩],[]⟩⟩)
  (λx=>BV true T x.2/\(∀m,Fix true T m->kH x.2 m)/\(x.1=false->Fix true T x.2)) (λx=>(2*(2*T.length - pT x.2)).toNat+(if x.1=true then 1 else 0)) (true,kG true T 0) (by simp(disch:=omega)only[go_sem];rfl) ⟨gF true T 0,λm hm=>nh hm 0,λh=>by cases h⟩ λx hx=>?_
 obtain⟨b,n⟩:=x;obtain⟨hl,hun,hfix⟩:=hx;dsimp only at hl hun hfix;have hll:=hl.1;cases b with
 |false=>
  have e:n=vf T:=qz.uniq (C2 ⟨hfix rfl,hun⟩ (Dc hv (hfix rfl))) (ni false T);rw[<- e];have hmt:n.take T.length=n:=Wq (by omega);simp(disch:=omega)only[go_sem,hmt]
 |true=>
  simp(disch:=omega)only[go_sem];refine W.fv T.length (λk=>⟨[(1,.ptr 1 0),(3,.own 0 0 0 T.length),(4,.pv (.bool (decide (swp true T n k≠n)))),(14,.pv (.aq u (T.map aH.c))),(15,.pv (.int .i64 T.length)),(16,.pv (.int .i64 k))],⟨[(1,[.pv (.aq u (T.map aH.c))])],[⟨0,1,.inl (ints (swp true T n k))⟩],[]⟩⟩) (λ_=>True) (by simp[swp]) trivial λk hk _=>?_;have hw:=(hl.swp k).1;have hwl:=hw.1;simp(disch:=omega)only[go_sem];refine Br.aJ (λc=>?_) (λc=>?_)
  .obtain⟨x,hx⟩:=get_some (l:=T) (k:=k) (by omega);have hxm:=Wa hx;have hsx:=td (b:=true) (n:=n) hx;have hfl:=Fv hl hx;have hsm:=Fw hl hx;have h485:=λt=>r485 x (swp true T n k) t (hT.2.2 x hxm) (hs x hxm) hw.2.1 (Da hS hxm hwl);have hmn:=Fi x hw.2.1;have hfk:∀b:Bool,(b=true↔swp true T n k≠n)->b=decide (swp true T n k≠n):=λb h=>by rw[Bool.eq_iff_iff,h];simp
   obtain⟨fl,hfl2⟩:∃fl,decide (swp true T n k≠n)=fl:=⟨_,rfl⟩;have hup:fl=true->swp true T n (k+1)≠n:=λh e=>by
    have h1:=(hl.swp k).2;have h2:kH (swp true T n k) (swp true T n (k+1)):=by rw[hsx];exact(hw.step hx).2
    rw[e]at h2;rw[<- hfl2]at h;exact of_decide_eq_true h (h2.Mx h1)
   have hga:(swp true T n k)[k]?=some ((swp true T n k).getD k 0):=by
    rw[Ws,Wb (show k<(swp true T n k).length by omega)];rfl
   rw[hfl2];have hlo:fl=false->swp true T n k=n:=λh=>by
    rw[<- hfl2]at h;simpa using h
   generalize hm:swp true T n k=m at *;have hmt:m.take T.length=m:=Wq (by omega);generalize m.getD k 0=g at *;generalize hq:jN true x m=q at *;generalize Fh x m=q2 at *;simp only[aH.c]at h485;simp(disch:=omega)only[go_sem,hx,Option.map_some,aH.c,h485,hmt,hmn,hga];refine Br.aJ (λd=>?_) (λd=>?_)<;>simp(disch:=omega)only[go_sem]
   .refine .of (by omega) ?_ trivial;have h1:=hsm d.symm;have h2:decide (swp true T n (k+1)≠n)=fl:=by rw[h1,hfl2]
    rw[h2,h1];rfl
   .refine .of (by omega) ?_ trivial;have h1:=hfl (λe=>d e.symm);have h2:decide (swp true T n (k+1)≠n)=true:=decide_eq_true h1;rw[h2,hsx];rfl
  .obtain rfl:k=T.length:=by omega
   simp(disch:=omega)only[go_sem];have hup:=(hl.swp T.length).2;have hf:=Fg hl;have hlw:=(hl.swp T.length).1;refine⟨(decide (swp true T n T.length≠n),swp true T n T.length),⟨hlw,λm hm=>Ya hl hm (hun m hm) _,λh=>?_⟩,?_,by simp(disch:=omega)only[go_sem]⟩
   .have e:swp true T n T.length=n:=by simpa using h
    dsimp only;rw[e]at hf |-;exact hf (kH.refl n)
   .have h1:=wF hup;have h2:=oI hl.2.1;have h3:=oI hlw.2.1;rw[hll]at h2;rw[hlw.1]at h3;by_cases e:swp true T n T.length=n
    .simp[e]
    .have:=h1.2 (λh=>e h.symm)
     simp[e];omega
theorem AR (l:List Bool)(x:Bool):bX l++[[.bool x]]=bX (l++[x]):=by simp[bX]
def oO (x:Int):Bool:=decide (0<x)
def AS (T:List aH):List Bool:=(vf T).map oO
theorem Dd {N:List Int}{k:Nat}{x:Int}(h:N[k]?=some x):(N.map oO).take (k+1)=(N.map oO).take k++[oO x]:=by
 rw[WL,Wf,h];rfl
noncomputable def ME (T:List aH):List Bool:=if gi T≠0 then [] else AS T
theorem vg (T:List aH):(vf T).length=T.length:=(gF false T _).1
set_option maxHeartbeats 2000000 in
theorem r464 (u:Nat)(T:List aH)(hl:T.length<=2147483648)(ho:∀t∈T,t.ok)(hs:∀t∈T,t.held):res A aA 464 [.agg [.aq u (T.map aH.c)]]=some [.aq 0 (bX (ME T)),.int .i64 (gi T)]:=by
 have h473:=r473 u T hl ho hs;refine aw a464 rfl rfl ?_;simp only[F464,Ls];simp(disch:=omega)only[go_sem,h473];unfold ME;refine Br.aJ (λc=>?_) (λc=>?_)<;>simp(disch:=omega)only[go_sem,c]
 rotate_left
 .rw[if_pos c];rfl
 rw[if_neg (by simp[c])];have hc0:=c;have hv:=(lD c).1;have h474:=r474 u T ho hv;have hcl:=vg T;have h32:=(eZ hv).len;unfold AS;generalize vf T=N at *;simp(disch:=omega)only[go_sem,h474];refine W.fv N.length (λk=>⟨[(5,dh 0 (bX ((N.map oO).take k))),(14,.pv (.aq 0 (ints N))),(15,.pv (.int .i64 N.length)),(16,.pv (.int .i64 k))],⟨[],cK 1 (bX ((N.map oO).take k)),[]⟩⟩) (λ_=>True) rfl trivial λk hk _=>?_;simp(disch:=omega)only[go_sem];refine Br.aJ (λc=>?_) (λc=>?_)
 .obtain⟨x,hx⟩:=get_some (l:=N) (k:=k) (by omega);have ht:=Dd hx;have hql:(bX ((N.map oO).take k)).length=k:=by simp[bX];omega
  have hg:=λbx mp=>BF bx mp 1 (bX ((N.map oO).take k)) [.bool (oO x)] rfl (by omega);have hp:decide (0<x)=oO x:=rfl;generalize (N.map oO).take k=q at *;simp(disch:=omega)only[go_sem,hx,hp,hg];refine .of (by omega) ?_ trivial;rw[AR,<- ht];rfl
 .obtain rfl:k=N.length:=by omega
  have e:(N.map oO).take N.length=N.map oO:=List.take_of_length_le (by simp);rw[e];simp(disch:=omega)only[go_sem,hc0]
set_option maxHeartbeats 2000000 in
theorem r461 (u:Nat)(T:List aH)(hl:T.length<=2147483648)(ho:∀t∈T,t.ok)(hs:∀t∈T,t.held):res A aA 461 [.agg [.aq u (T.map aH.c)]]=some [.aq 0 (bX (ME T)),.int .i64 (gi T)]:=by
 have h470:=r470 u T hl ho hs;refine aw a461 rfl rfl ?_;simp only[F461,aaJ];simp(disch:=omega)only[go_sem,h470];unfold ME;refine Br.aJ (λc=>?_) (λc=>?_)<;>simp(disch:=omega)only[go_sem,c]
 rotate_left
 .rw[if_pos c];rfl
 rw[if_neg (by simp[c])];have hc0:=c;have hv:=(lD c).1;have h471:=r471 u T ho hv;have hcl:=vg T;have h32:=(eZ hv).len;unfold AS;change _=some [PV.aq 0 (ints (vf T))]at h471;generalize vf T=N at *;simp(disch:=omega)only[go_sem,h471];refine W.fv N.length (λk=>⟨[(5,.pv (.aq 0 (ints N))),(6,dh 0 (bX ((N.map oO).take k))),(7,.pv (.int .i64 k))],⟨[],cK 1 (bX ((N.map oO).take k)),[]⟩⟩) (λ_=>True) rfl trivial λk hk _=>?_;simp(disch:=omega)only[go_sem];refine Br.aJ (λc=>?_) (λc=>?_)
 .obtain⟨x,hx⟩:=get_some (l:=N) (k:=k) (by omega);have ht:=Dd hx;have hql:(bX ((N.map oO).take k)).length=k:=by simp[bX];omega
  have hg:=λbx mp=>BF bx mp 1 (bX ((N.map oO).take k)) [.bool (oO x)] rfl (by omega);have hp:decide (0<x)=oO x:=rfl;generalize (N.map oO).take k=q at *;simp(disch:=omega)only[go_sem,hx,hp,hg];refine .of (by omega) ?_ trivial;rw[AR,<- ht];rfl
 .obtain rfl:k=N.length:=by omega
  have e:(N.map oO).take N.length=N.map oO:=List.take_of_length_le (by simp);rw[e];simp(disch:=omega)only[go_sem,hc0]
noncomputable def iW (T:List aH):Int:=if gi T≠0 then gi T else if (AS T).all id=true then 0 else 10
theorem B1 (l:List Bool):(l.all λx=>!!x)=l.all id:=by
 congr 1;funext x;simp
theorem r439 (u:Nat)(T:List aH)(hl:T.length<=2147483648)(ho:∀t∈T,t.ok)(hs:∀t∈T,t.held):res A aA 439 [.agg [.aq u (T.map aH.c)]]=some [.int .i64 (iW T)]:=by
 have h464:=r464 u T hl ho hs;refine aw a439 rfl rfl ?_;simp only[F439,Le];simp(disch:=omega)only[go_sem,h464];unfold iW ME;refine Br.aJ (λc=>?_) (λc=>?_)<;>simp(disch:=omega)only[go_sem,c]
 rotate_left
 .rw[if_pos c]
 rw[if_neg (by simp[c]),if_neg (by simp[c])];have hfl:(AS T).length=T.length:=by unfold AS;rw[Wg,vg]
 have h32:=(eZ (lD c).1).len;generalize AS T=N at *;refine W.find N (λx=>!x) (λk=>⟨[(15,.pv (.aq 0 (bX N))),(16,.pv (.int .i64 N.length)),(17,.pv (.int .i64 k))],⟨[],[],[]⟩⟩) rfl (λk x hx hk hfd=>?_) (λhn=>?_)
 .simp(disch:=omega)only[go_sem];refine Br.aJ (λc=>?_) (λc=>(c (by omega)).elim);simp(disch:=omega)only[go_sem,hx];cases x
  .have:=(hfd rfl).all
   rw[B1]at this;simp(disch:=omega)only[go_sem];rw[this,if_neg (by decide)]
  .simp(disch:=omega)only[go_sem];exact bB.of rfl rfl
 .have:=hn.all
  rw[B1]at this;simp(disch:=omega)only[go_sem];rw[this,if_pos rfl]
theorem r435 (u:Nat)(T:List aH)(hl:T.length<=2147483648)(ho:∀t∈T,t.ok)(hs:∀t∈T,t.held):res A aA 435 [.agg [.aq u (T.map aH.c)]]=some [.int .i64 (iW T)]:=by
 have h461:=r461 u T hl ho hs;refine aw a435 rfl rfl ?_;simp only[F435,aaD];simp(disch:=omega)only[go_sem,h461];unfold iW ME;refine Br.aJ (λc=>?_) (λc=>?_)<;>simp(disch:=omega)only[go_sem,c]
 rotate_left
 .rw[if_pos c]
 rw[if_neg (by simp[c]),if_neg (by simp[c])];have hfl:(AS T).length=T.length:=by unfold AS;rw[Wg,vg]
 have h32:=(eZ (lD c).1).len;generalize AS T=N at *;refine W.find N (λx=>!x) (λk=>⟨[(3,.pv (.aq 0 (bX N))),(5,.pv (.int .i64 k))],⟨[],[],[]⟩⟩) rfl (λk x hx hk hfd=>?_) (λhn=>?_)
 .simp(disch:=omega)only[go_sem];refine Br.aJ (λc=>?_) (λc=>(c (by omega)).elim);simp(disch:=omega)only[go_sem,hx];cases x
  .have:=(hfd rfl).all
   rw[B1]at this;simp(disch:=omega)only[go_sem];rw[this,if_neg (by decide)]
  .simp(disch:=omega)only[go_sem];exact bB.of rfl rfl
 .have:=hn.all
  rw[B1]at this;simp(disch:=omega)only[go_sem];rw[this,if_pos rfl]
end Go.Pv
