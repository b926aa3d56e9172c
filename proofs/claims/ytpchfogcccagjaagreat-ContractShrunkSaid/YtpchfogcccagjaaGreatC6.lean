/-
 What the functions of the law give.
-/
import Derived.Test.YtpchfogcccagjaaGreatC5
set_option linter.unusedSimpArgs false
set_option linter.unusedVariables false
open List renaming mem_of_getElem? → aaj, getElem?_eq_some_iff → aak, getElem?_eq_getElem → aal, length_map → aam, mem_iff_getElem? → aan, getElem?_append_left → aao, getElem?_map → aap, mem_map → aaq, length_append → aas, getD_eq_getElem?_getD → aat, getElem?_take → aax, append_assoc → aay, take_of_length_le → aaB, findIdx?_eq_some_iff_getElem → aaC, eq_nil_of_length_eq_zero → aaD, getElem?_set_self → aaG, take_add_one → aaH, getElem?_set_ne → aaL, mem_range → aaV, any_eq_false → aaW, ext_getElem? → aa0, findIdx?_eq_none_iff → aa3, map_map → aa6, mem_singleton → aa7, foldl_cons → abd, length_set → abe, mem_map_of_mem → abf, pairwise_iff_getElem → abh, getElem?_range → abk, any_map → abt, length_replicate → abu, find?_eq_none → abv, map_congr_left → abI, pairwise_singleton → abN, find?_some → abS, length_filter_le → abU, pairwise_map → abW, pairwise_lt_range → ab9, map_id → ack
open Nat renaming lt_or_ge → aar, le_refl → aau, le_trans → aa5, eq_zero_or_pos → abD
open Int renaming toNat_natCast → aaU, toNat_of_nonneg → abH, eq_ofNat_of_zero_le → abM, emod_nonneg → ab8
open Bool renaming eq_false_iff → abp
namespace Go.Pv
theorem Ga {α:Type}{a b:List α}{k:Nat}{x y:α}(hx:a[k]?=some x)(hy:b[k]?=some y)(h:a.take k=b.take k)(e:x=y):a.take (k+1)=b.take (k+1):=by
 rw[aaH,aaH,hx,hy,h,e]
theorem Gb {α:Type}{a b:List α}{k:Nat}(ha:a.length<=k)(hb:b.length<=k)(h:a.take k=b.take k):a=b:=by
 rwa [aaB ha,aaB hb]at h
@[go_sem] theorem QS (l:List Edge)(f:Int)(d:Bool)(x t:Int):bX l++[[.int .i64 f,.bool d,.int .i64 x,.int .i64 t]]=bX (l++[⟨f,d,x,t⟩]):=by simp[bX,Edge.c]
theorem IG (e:Edge):(⟨e.fr,e.send,e.label,e.to⟩:Edge)=e:=rfl
@[go_sem] theorem QT {id row aw:Nat}{f x t:Int}{d:Bool}{l:List Edge}(h1:row<l.length):dy id row 0 [.pv (.int .i64 f),.pv (.bool d),.pv (.int .i64 x),.pv (.int .i64 t)] ⟨aw,4,.inl (bX l)⟩=some {ar:=some (id,⟨aw,4,.inl (bX (l.set row ⟨f,d,x,t⟩))⟩)}:=by
 rw[jv (l:=[.int .i64 f,.bool d,.int .i64 x,.int .i64 t]) (by rw[cn];exact h1) rfl (by simp) rfl];have:over row 0 [.int .i64 f,.bool d,.int .i64 x,.int .i64 t] (bX l)=bX (l.set row ⟨f,d,x,t⟩):=by
  unfold over bX;rw[List.map_set];congr 1;obtain⟨e,he⟩:∃e,l[row]?=some e:=⟨l[row],by simp[h1]⟩;simp[he,Edge.c]
 rw[this]
set_option maxHeartbeats 2000000 in
@[go_sem] theorem r43 (t:Nat)(a:aT)(hl:a.aa.length<=2000000000):
  res A ay 43 [.agg [.int .i64 a.aj,.int .i64 a.start,.ae t (a.aa.map Edge.c)]]=some [.agg [.int .i64 a.aj,.int .i64 a.start,.ae 0 (bX (nL Edge.lt a.aa))]]:=by
 refine ai a43 rfl rfl ?_;simp only[F43,Yf];simp(disch:=omega)only[go_sem];refine W.fold a.aa (λo x=>wN Edge.lt x o) [] (λk o=>⟨[(1,.ptr 1 0),(2,.ptr 2 0),(3,.ptr 3 0),(4,.pv (.int .i64 k))],⟨[(1,[.pv (.int .i64 a.aj),.pv (.int .i64 a.start),.pv (.ae t (a.aa.map Edge.c))]),(2,[.pv (.int .i64 0),.pv (.int .i64 0),.tl []]),(3,[.pv (.int .i64 a.aj),.pv (.int .i64 a.start),dn 0 (bX o)])],cG 4 (bX o),[]⟩⟩) (λk o=>o.length=k) rfl rfl (λk e o he hk _ hi=>?_) (λo ho hi=>?_)
 .simp(disch:=omega)only[go_sem];refine Br.aF (λh=>?_) (λh=>(h (by omega)).elim);simp(disch:=omega)only[go_sem,he];have hlen:(bX (o++[e])).length=o.length+1:=by simp[bX]
  refine W.dx o.length (λj=>⟨[(1,.ptr 1 0),(2,.ptr 2 0),(3,.ptr 3 0),(4,.pv (.int .i64 k)),(5,.pv (.int .i64 (o.length - j:Nat)))],⟨[(1,[.pv (.int .i64 a.aj),.pv (.int .i64 a.start),.pv (.ae t (a.aa.map Edge.c))]),(2,[.pv (.int .i64 0),.pv (.int .i64 0),.tl []]),(3,[.pv (.int .i64 a.aj),.pv (.int .i64 a.start),.own 0 o.length 0 (o.length+1)])],[⟨o.length,4,.inl (bX (mN e o (o.length - j)))⟩],[]⟩⟩)
   (λj=>xP Edge.lt e o o.length=xP Edge.lt e o (o.length - j)) ?_ rfl λj hj hq=>?_
  .rw[qJ hlen,mc hlen,show (((o.length+1:Nat):Int) - 1)=((o.length - 0:Nat):Int) by omega];simp[mN]
  have hpl:=vH e o (o.length - j) (by omega);have hp0:=EJ e o (o.length - j) (by omega);simp(disch:=omega)only[go_sem];have fin:xP Edge.lt e o o.length=o.length - j->wN Edge.lt e o=mN e o (o.length - j):=λhb=>by unfold wN;rw[hb]
  refine Br.aF (λf1=>?_) (λf1=>?_)
  .obtain⟨p,hp⟩:∃p,o.length - j=p+1:=⟨o.length - j - 1,by omega⟩;have hpb:=Dp e o p (by omega);have hpd:=FU e o p (by omega);have e1:((p+1:Nat):Int) - 1=(p:Int):=by omega
   have e2:o.length - (j+1)=p:=by omega
   rw[hp]at hq hpl hp0 fin;have f2:(0:Int)<((p+1:Nat):Int):=by omega
   have hpl2:((mN e o (p+1)).set (p+1) (o.getD p default)).length=o.length+1:=by rw[abe];exact hpl
   simp(disch:=omega)only[go_sem,hp,hp0,f2,e1,hpb];refine Br.of (λf3=>?_) (λf3=>?_)<;>simp(disch:=omega)only[go_sem,f3,hp0,e1,hpb,hpd,IG]
   .refine .of (by omega) ?_ ?_
    .show _=St.mk _ _;rw[e2]
    .rw[hq,e2];simp only[xP,f3,if_true]
   .refine cV.of ?_ ?_
    .show _=St.mk _ _;rw[fin (by rw[hq];simp only[xP,f3,Bool.false_eq_true,if_false]),qJ (by rw[cn];exact hpl),mc (by rw[cn];exact hpl)];rfl
    .rw[Bo];omega
  .have h0:o.length - j=0:=by omega
   simp(disch:=omega)only[go_sem,f1];rw[h0]at hq hpl hp0 fin |-;refine cV.of ?_ ?_
   .show _=St.mk _ _;rw[fin hq,qJ (by rw[cn];exact hpl),mc (by rw[cn];exact hpl)];rfl
   .rw[Bo];omega
 .simp(disch:=omega)only[go_sem];rw[ho];rfl
theorem fold_filter {α β:Type}(p:α->Bool)(f:α->β):∀(l:List α)(o:List β),l.foldl (λo x=>if p x=true then o++[f x] else o) o=o++(l.filter p).map f
 |[],o=>by simp
 |x::l,o=>by
  rw[abd,fold_filter p f l];by_cases h:p x=true<;>simp[h]
@[go_sem] theorem r43e (t:Nat)(n s:Int)(l:List Edge)(hl:l.length<=2000000000):res A ay 43 [.agg [.int .i64 n,.int .i64 s,.ae t (bX l)]]=some [.agg [.int .i64 n,.int .i64 s,.ae 0 (bX (nL Edge.lt l))]]:=r43 t ⟨n,s,l⟩ hl
theorem tp (h:aq)(t:Nat)(l:List Edge)(ht:t<=1)(hl:l.length<=2147483648):cL 4 [.pv (.ae t (l.map Edge.c))] h=some (if l.length=0 then (.tl [],{}) else (.own h.ar.length 0 0 l.length,{push:=[⟨0,4,.inl (bX l)⟩],base:=h.ar.length})):=by
 have h1:((l.map Edge.c).all λx=>x.length==4)=true:=by simp[Edge.c]
 have h2:l.length<=aU:=hl;by_cases h0:l.length=0<;>simp[cL,bj,aY,ht,h1,h2,h0,bX]
theorem IH (l:List Edge):aA Edge.dec (bX l)=some l:=by
 induction l with
 |nil=>rfl
 |cons x l ih=>
  show aA Edge.dec (x.c::bX l)=_;have:Edge.dec x.c=some x:=rfl;simp only[aA,this,ih]
theorem Dz {h:aq}{id aw n:Nat}{l:List Edge}(hn:n=l.length)(ho:aC h id aw=some ⟨aw,4,.inl (bX l)⟩)(h0:l.length≠0)(hm:l.length<=2147483648)(hap:l.Pairwise (oI Edge.lt)):
  ll 4 (iV Edge.c Edge.dec Edge.lt) 47 [.own id aw 0 n,.func 47 []] h=some (.dR [],{ar:=some (id,⟨aw,4,.inl (bX (cU Edge.lt l))⟩)}):=by
 subst hn;have e1:(bX l).length=l.length:=cn l;have hr:=xS (qT Edge.ye hap);simp[ll,ho,h0,e1,aU,hm,iV,IH,hr,List.take_of_length_le (Nat.le_of_eq e1),List.drop_eq_nil_of_le (Nat.le_of_eq e1)];rfl
theorem II {a b:Edge}(h1:a.fr=b.fr)(h2:a.send=b.send)(h3:a.label=b.label)(h4:a.to=b.to):a=b:=by
 cases a;cases b;simp_all
theorem IJ (a b:Edge):(decide (a.fr=b.fr)&&(decide (a.send=b.send)&&(decide (a.label=b.label)&&decide (a.to=b.to))))=decide (a=b):=by
 by_cases h:a=b
 .subst h;simp
 .have:¬(a.fr=b.fr/\a.send=b.send/\a.label=b.label/\a.to=b.to):=λ⟨h1,h2,h3,h4⟩=>h (II h1 h2 h3 h4);simp only[h,decide_false,Bool.and_eq_false_iff,decide_eq_false_iff_not];by_cases h1:a.fr=b.fr<;>by_cases h2:a.send=b.send<;>by_cases h3:a.label=b.label<;>by_cases h4:a.to=b.to<;>simp_all
set_option maxHeartbeats 1000000 in
@[go_sem] theorem r15 (t u:Nat)(a b:aT)(ha:a.aa.length<=2^63 - 1)(hb:b.aa.length<=2^63 - 1):res A ay 15 [.agg [.int .i64 a.aj,.int .i64 a.start,.ae t (a.aa.map Edge.c)],.agg [.int .i64 b.aj,.int .i64 b.start,.ae u (b.aa.map Edge.c)]]=some [.bool (decide (a=b))]:=by
 refine ai a15 rfl rfl ?_;simp only[F15,X5];simp(disch:=omega)only[go_sem];refine Br.aF (λh1=>?_) (λh1=>?_)<;>simp(disch:=omega)only[go_sem,h1]
 case refine_2=>
  have:¬a=b:=λe=>h1 (by rw[e]);simp[this]
 refine Br.aF (λh2=>?_) (λh2=>?_)<;>simp(disch:=omega)only[go_sem,h2]
 case refine_2=>
  have:¬a=b:=λe=>h2 (by rw[e]);simp[this]
 refine Br.aF (λh3=>?_) (λh3=>?_)<;>simp(disch:=omega)only[go_sem,h3]
 case refine_2=>
  have:¬a=b:=λe=>h3 (by rw[e]);simp[this]
 refine W.dx a.aa.length (λk=>⟨[(2,.ptr 2 0),(3,.ptr 3 0),(5,.pv (.int .i64 k))],⟨[(2,[.pv (.int .i64 b.aj),.pv (.int .i64 b.start),.pv (.ae t (a.aa.map Edge.c))]),(3,[.pv (.int .i64 b.aj),.pv (.int .i64 b.start),.pv (.ae u (b.aa.map Edge.c))])],[],[]⟩⟩) (λk=>a.aa.take k=b.aa.take k) rfl rfl λk hk hi=>?_;simp(disch:=omega)only[go_sem];refine Br.aF (λg=>?_) (λg=>?_)
 .obtain⟨x,hx⟩:=get_at (l:=a.aa) (k:=k) (by omega);obtain⟨y,hy⟩:=get_at (l:=b.aa) (k:=k) (by omega);simp(disch:=omega)only[go_sem,hx,hy,IJ];refine Br.aF (λf=>?_) (λf=>?_)<;>simp(disch:=omega)only[go_sem,f]
  .exact .of (by omega) rfl (Ga hx hy hi f)
  .have:¬a=b:=λe=>f (by rw[e,hy]at hx;exact(Option.some.inj hx).symm);simp[this]
 .simp(disch:=omega)only[go_sem];have h4:=Gb (k:=k) (by omega) (by omega) hi;have:a=b:=by cases a;cases b;simp_all
  simp[this]
@[go_sem] theorem r39e (t:Nat)(n s0:Int)(l:List Edge)(s:Int)(d:Bool)(x:Int)(hl:l.length<=2^63 - 1):
  res A ay 39 [.agg [.int .i64 n,.int .i64 s0,.ae t (bX l)],.int .i64 s,.bool d,.int .i64 x]=some [.int .i64 ((bz s d x l).getD 0),.bool (bz s d x l).isSome]:=r39 t ⟨n,s0,l⟩ s d x hl
structure yg where
 fr:Int
 act:Int
 to:Int
 deriving DecidableEq,Inhabited
structure fq where
 n:Int
 jd:List yg
 deriving DecidableEq,Inhabited
def yg.c (x:yg):List PV:=[.int .u8 x.fr,.int .u8 x.act,.int .u8 x.to]
def yg.ok (x:yg):Prop:=(0<=x.fr/\x.fr<=255)/\(0<=x.act/\x.act<=255)/\(0<=x.to/\x.to<=255)
def fq.ok (d:fq):Prop:=(0<=d.n/\d.n<=255)/\d.jd.length<=2^63 - 1/\∀x∈d.jd,x.ok
def yg.sz (st:Int)(x:yg):Edge:=⟨x.fr%st,decide (x.act%2=1),1+x.act/2%3,x.to%st⟩
def pR (es:List Edge)(e:Edge):List Edge:=if (bz e.fr e.send e.label es).isSome=true then es else es++[e]
def fq.raw (d:fq):List Edge:=(d.jd.take 12).foldl (λes x=>pR es (x.sz (1+d.n%4))) []
def fq.auto (d:fq):aT:=⟨1+d.n%4,0,nL Edge.lt d.raw⟩
theorem vX {s:Int}{d:Bool}{x:Int}:∀{es:List Edge},(bz s d x es).isSome=false↔∀e∈es,¬(e.fr=s/\e.send=d/\e.label=x)
 |[]=>by simp[bz]
 |e::r=>by
  unfold bz;split
  .rename_i h;simp[h]
  .rename_i h;rw[vX];simp only[List.mem_cons];exact⟨λhh y hy=>hy.elim (λe=>e ▸ h) (hh y),λhh y hy=>hh y (.inr hy)⟩
theorem IK {es:List Edge}{e:Edge}(h:es.Pairwise (oI Edge.lt)):(pR es e).Pairwise (oI Edge.lt):=by
 unfold pR;split
 .exact h
 .rename_i hn;have hn':=vX.1 (by simpa using hn);rw[List.pairwise_append];refine⟨h,abN _ _,λa ha b hb=>?_⟩;rw[aa7]at hb;subst hb;rw[Edge.zq];exact hn' a ha
theorem BE (es:List Edge)(e:Edge):(pR es e).length<=es.length+1:=by
 unfold pR;split<;>simp
theorem BF {es:List Edge}{e x:Edge}(h:x∈pR es e):x∈es\/x=e:=by
 unfold pR at h;split at h
 .exact .inl h
 .simpa using h
theorem BG {st:Int}(hs:1<=st/\st<=4):∀(l:List yg)(es:List Edge),(∀x∈l,x.ok)->es.Pairwise (oI Edge.lt)->(∀e∈es,e.fits st=true)->
  (l.foldl (λes x=>pR es (x.sz st)) es).Pairwise (oI Edge.lt)/\(∀e∈l.foldl (λes x=>pR es (x.sz st)) es,e.fits st=true)/\(l.foldl (λes x=>pR es (x.sz st)) es).length<=es.length+l.length
 |[],es,_,h1,h2=>⟨h1,h2,by simp⟩
 |x::l,es,hx,h1,h2=>by
  have hxo:=hx x (by simp);have hf:(x.sz st).fits st=true:=by
   rw[ff];have a1:=ab8 x.fr (b:=st) (by omega);have a2:=Int.emod_lt_of_pos x.fr (b:=st) (by omega);have a3:=ab8 x.to (b:=st) (by omega);have a4:=Int.emod_lt_of_pos x.to (b:=st) (by omega);simp only[yg.sz];omega
  obtain⟨g1,g2,g3⟩:=BG hs l (pR es (x.sz st)) (λy hy=>hx y (by simp[hy])) (IK h1) λe he=>by
   rcases BF he with h|h
   .exact h2 e h
   .exact h ▸ hf
  have:=BE es (x.sz st);exact⟨g1,g2,by simp only[List.foldl_cons,List.length_cons];omega⟩
theorem fq.st {d:fq}:1<=1+d.n%4/\1+d.n%4<=4:=by omega
theorem fq.zs {d:fq}(h:d.ok):d.raw.Pairwise (oI Edge.lt)/\(∀e∈d.raw,e.fits (1+d.n%4)=true)/\d.raw.length<=12:=by
 obtain⟨h1,h2,h3⟩:=BG d.st (d.jd.take 12) [] (λx hx=>h.2.2 x (List.mem_of_mem_take hx)) List.Pairwise.nil (λe he=>absurd he (by simp));refine⟨h1,h2,?_⟩;have:(d.jd.take 12).length<=12:=by simp;omega
 simp only[List.length_nil]at h3;unfold fq.raw;omega
theorem fq.len {d:fq}(h:d.ok):d.auto.aa.length<=12:=by
 have:=(mr Edge.lt d.raw).length_eq;have:=d.zs h;show (nL Edge.lt d.raw).length<=12;omega
theorem fq.wC {d:fq}(h:d.ok){s:Int}(hs:0<=s/\s<1+d.n%4):(⟨1+d.n%4,s,d.auto.aa⟩:aT).Good where
 st:=hs
 mx:=by
  have:=d.st;show 1+d.n%4<=12;omega
 len:=by
  have:=d.len h;show d.auto.aa.length<=100;omega
 fit e he:=(d.zs h).2.1 e ((mr Edge.lt d.raw).subset he)
 JM:=qS Edge.ye (d.zs h).1
@[go_sem] theorem K6 {k:IntKind}{a b:Int}(ha:0<=a)(hb:0<b):da .rem (.pv (.int k a)) (.pv (.int k b))=some (.pv (.int k (a%b))):=by
 rw[AN (by omega),Int.tmod_eq_emod_of_nonneg ha]
@[go_sem] theorem Mw {a b:Int}(ha:0<=a)(hb:0<b)(h2:a<=255):da .quo (.pv (.int .u8 a)) (.pv (.int .u8 b))=some (.pv (.int .u8 (a/b))):=by
 rw[AM (by omega),Int.tdiv_eq_ediv_of_nonneg ha,wrap_u8]
 .exact Int.ediv_nonneg ha (by omega)
 .exact Int.le_trans (Int.ediv_le_self b ha) h2
attribute [go_sem] wrap_u8
set_option maxHeartbeats 2000000 in
@[go_sem] theorem r25 (t:Nat)(d:fq)(hd:d.ok):res A ay 25 [.agg [.int .u8 d.n,.ae t (d.jd.map yg.c)]]=some [.agg [.int .i64 (1+d.n%4),.int .i64 0,.ae 0 (bX d.auto.aa)],.bool (decide ((d.jd.length:Int)<=12))]:=by
 refine ai a25 rfl rfl ?_;simp only[F25,X7];obtain⟨d1,d2,d3⟩:=hd;have hst:=d.st;simp(disch:=omega)only[go_sem];refine W.fold (d.jd.take 12) (λes x=>pR es (x.sz (1+d.n%4))) [] (λk o=>⟨[(1,.ptr 1 0),(2,.ptr 2 0),(4,.ptr 4 0),(5,.pv (.int .i64 k))],⟨[(1,[.pv (.int .u8 d.n),.pv (.ae t (d.jd.map yg.c))]),(2,[.pv (.int .i64 0),.pv (.int .i64 0),.tl []]),(4,[.pv (.int .i64 (1+d.n%4)),.pv (.int .i64 0),dn 0 (bX o)])],cG 4 (bX o),[]⟩⟩) (λk o=>o.length<=k) rfl (by simp) (λk x o hx hk _ hi=>?_) (λo ho hi=>?_)
 .have hk2:k<d.jd.length/\k<12:=by simp at hk;omega
  have hx':d.jd[k]?=some x:=by rw[aax,if_pos hk2.2]at hx;exact hx
  have hxo:=d3 x (aaj hx');unfold yg.ok at hxo;have q1:(k:Int)<(d.jd.length:Int):=by omega
  have q2:(k:Int)<12:=by omega
  have al:=BE o (x.sz (1+d.n%4));have a1:=ab8 x.fr (b:=1+d.n%4) (by omega);have a2:=ab8 x.to (b:=1+d.n%4) (by omega);simp(disch:=omega)only[go_sem,hx',q1,q2,yg.c];have ha:pR o (x.sz (1+d.n%4))=if (bz (x.fr%(1+d.n%4)) (decide (x.act%2=1)) (1+x.act/2%3) o).isSome=true then o else o++[x.sz (1+d.n%4)]:=rfl
  refine Br.of (λg=>?_) (λg=>?_)<;>simp(disch:=omega)only[go_sem,g]
  .refine cV.of ?_ (by omega);show _=St.mk _ _;rw[ha,if_pos g];rfl
  .refine cV.of ?_ (by omega);show _=St.mk _ _;rw[ha,if_neg (by simp[g])];rfl
 .have hr:o=d.raw:=ho;have hro:=d.zs ⟨d1,d2,d3⟩;have hlen:=d.len ⟨d1,d2,d3⟩;rcases aar d.jd.length 12 with hc|hc
  .have e1:(d.jd.take 12).length=d.jd.length:=by simp;omega
   rw[e1];have q1:¬((d.jd.length:Int)<(d.jd.length:Int)):=by omega
   subst hr;simp(disch:=omega)only[go_sem,q1];rfl
  .have e1:(d.jd.take 12).length=12:=by simp;omega
   rw[e1];subst hr;simp(disch:=omega)only[go_sem];have q3:¬(((12:Nat):Int)<12):=by omega
   refine Br.aF (λg=>?_) (λg=>?_)<;>simp(disch:=omega)only[go_sem,g,q3]<;>rfl
theorem yh (es:List Edge)(v:Int):∀o:List Int,es.foldl (λo e=>if e.fr=v then eL o e.to else o) o=vA o (outs es v):=by
 induction es with
 |nil=>intro o;rfl
 |cons e es ih=>
  intro o;rw[abd,ih];by_cases h:e.fr=v
  .rw[if_pos h];simp[outs,h,jK]
  .rw[if_neg h];simp[outs,h]
theorem rh {n b:Nat}{o:List Int}{x:Int}(h:b<=o.length):pC n b (ints (o++[x]))=.own n (o.length - b) 0 (o.length+1):=by
 rw[<- jJ,A3 (by rw[aN];exact h),aN]
theorem ri {b:Nat}{o:List Int}{x:Int}(h:b<=o.length):xD 1 b (ints (o++[x]))=[⟨o.length - b,1,.inl (ints (o++[x]))⟩]:=by
 rw[<- jJ,A4 (by rw[aN];exact h),aN]
theorem cP (l:List Int):(ints l).length=l.length:=aN l
set_option maxHeartbeats 4000000 in
@[go_sem] theorem r52 (t:Nat)(a:aT)(hg:a.Good):
  res A ay 52 [.agg [.int .i64 a.aj,.int .i64 a.start,.ae t (a.aa.map Edge.c)]]=some [.ae 0 (ints a.order)]:=by
 refine ai a52 rfl rfl ?_;simp only[F52,Yl];obtain⟨g1,g2,g3,g4,g5⟩:=hg;have hg:a.Good:=⟨g1,g2,g3,g4,g5⟩;simp(disch:=omega)only[go_sem];refine W.loop (α:=Nat×List Int) (λx=>⟨[(1,.ptr 1 0),(3,pC 0 1 (ints x.2)),(4,.pv (.int .i64 x.1))],⟨[(1,[.pv (.int .i64 a.aj),.pv (.int .i64 a.start),.pv (.ae t (a.aa.map Edge.c))])],xD 1 1 (ints x.2),[]⟩⟩)
  (λx=>x.2.Nodup/\(∀v∈x.2,a.inr v)/\1<=x.2.length/\x.1<=x.2.length/\qM (outs a.aa) (a.aj.toNat - x.1) x.1 x.2=a.order) (λx=>a.aj.toNat - x.1) (0,[a.start]) rfl ⟨by simp,λw hw=>(List.mem_singleton.1 hw) ▸ hg.st,by simp,by simp,rfl⟩ λx hx=>?_
 obtain⟨i,o⟩:=x;obtain⟨hd,hin,h1,h2,hb⟩:=hx;dsimp only at hd hin h1 h2 hb;have hlen:=a.bound o hd hin;simp(disch:=omega)only[go_sem];refine Br.aF (λh=>?_) (λh=>?_)
 .obtain⟨v,hv⟩:=get_at (l:=o) (k:=i) (by omega);simp(disch:=omega)only[go_sem];refine W.fold a.aa (λo e=>if e.fr=v then eL o e.to else o) o (λk o=>⟨[(1,.ptr 1 0),(3,pC 0 1 (ints o)),(4,.pv (.int .i64 i)),(5,.pv (.int .i64 k))],⟨[(1,[.pv (.int .i64 a.aj),.pv (.int .i64 a.start),.pv (.ae t (a.aa.map Edge.c))])],xD 1 1 (ints o),[]⟩⟩)
   (λ_ o=>o.Nodup/\(∀v∈o,a.inr v)/\1<=o.length/\o[i]?=some v) rfl ⟨hd,hin,h1,hv⟩ (λk e o he hk _ hi=>?_) (λo ho hi=>?_)
  .obtain⟨hd,hin,h1,hv⟩:=hi;have hlen:=a.bound o hd hin;have hef:=ff.1 (g4 e (aaj he));have hto:a.inr e.to:=⟨hef.2.2.1,hef.2.2.2.1⟩;have hI:(if e.fr=v then eL o e.to else o).Nodup/\(∀w∈(if e.fr=v then eL o e.to else o),a.inr w)/\1<=(if e.fr=v then eL o e.to else o).length/\(if e.fr=v then eL o e.to else o)[i]?=some v:=by
    split
    .obtain⟨r,hr⟩:=qL o e.to;have hil:=(aak.1 hv).1;refine⟨me hd,λx hx=>(nF.1 hx).elim (hin x) (λq=>q ▸ hto),by rw[<- hr,aas];omega,by rw[<- hr,aao hil];exact hv⟩
    .exact⟨hd,hin,h1,hv⟩
   have hstay:e.fr=v->¬lL e.to o<0->(if e.fr=v then eL o e.to else o)=o:=λh1 h2=>by rw[if_pos h1,eL,if_pos (uh.1 (by omega))]
   have hmore:e.fr=v->lL e.to o<0->(if e.fr=v then eL o e.to else o)=o++[e.to]:=λh1 h2=>by rw[if_pos h1,eL,if_neg (qU.1 h2)]
   rcases nB (b:=1) (rows:=ints o)with hc|⟨m,hc⟩
   .rw[jz hc,jA hc];rw[cP]at hc;simp(disch:=omega)only[go_sem];refine Br.aF (λh=>?_) (λh=>(h (by omega)).elim);simp(disch:=omega)only[go_sem,he,hv];refine Br.aF (λf1=>?_) (λf1=>?_)<;>simp(disch:=omega)only[go_sem,f1]
    .refine Br.aF (λf2=>?_) (λf2=>?_)<;>simp(disch:=omega)only[go_sem,f2]
     .refine cV.of ?_ hI;show _=St.mk _ _;rw[hmore f1 f2,rh h1,ri h1,show o.length - 1=0 by omega];rfl
     .refine cV.of ?_ hI;show _=St.mk _ _;rw[hstay f1 f2,jz (by rw[cP];exact hc),jA (by rw[cP];exact hc)];rfl
    .refine cV.of ?_ hI;show _=St.mk _ _;rw[if_neg f1,jz (by rw[cP];exact hc),jA (by rw[cP];exact hc)];rfl
   .rw[iM hc,iN hc];rw[cP]at hc;have hil:=(aak.1 hv).1;have ht:o.take (1+m+1)=o:=aaB (by omega);have hi0:(0:Int)<=(i:Int):=by omega
    simp(disch:=omega)only[go_sem];refine Br.aF (λh=>?_) (λh=>(h (by omega)).elim);simp(disch:=omega)only[go_sem,he,hv];refine Br.aF (λf1=>?_) (λf1=>?_)<;>simp(disch:=omega)only[go_sem,f1,ht]
    .refine Br.aF (λf2=>?_) (λf2=>?_)<;>simp(disch:=omega)only[go_sem,f2]
     .refine cV.of ?_ hI;show _=St.mk _ _;rw[hmore f1 f2,rh h1,ri h1,show o.length - 1=m+1 by omega,hc];rfl
     .refine cV.of ?_ hI;show _=St.mk _ _;rw[hstay f1 f2,iM (by rw[cP];exact hc),iN (by rw[cP];exact hc)];rfl
    .refine cV.of ?_ hI;show _=St.mk _ _;rw[if_neg f1,iM (by rw[cP];exact hc),iN (by rw[cP];exact hc)];rfl
  .rw[yh]at ho;simp(disch:=omega)only[go_sem];obtain⟨hd',hin',h1',hv'⟩:=hi;have hl':=a.bound o hd' hin';have hil:=(aak.1 hv').1;refine⟨(i+1,o),⟨hd',hin',h1',hil,?_⟩,by dsimp only;omega,rfl⟩;dsimp only;rw[<- hb,ho];obtain⟨q,hq⟩:∃q,a.aj.toNat - i=q+1:=⟨a.aj.toNat - i - 1,by omega⟩;rw[hq,vC hv];congr 1;omega
 .simp(disch:=omega)only[go_sem];rw[mg (by omega)]at hb;rw[hb]
def kZ (x y:Int)(n k:Nat):List Int:=List.replicate k x++List.replicate (n - k) y
theorem DA {x y:Int}{n k:Nat}(h:k<=n):(kZ x y n k).length=n:=by simp[kZ];omega
theorem BH (x y:Int)(n:Nat):kZ x y n 0=List.replicate n y:=by simp[kZ]
theorem DB (x y:Int)(n:Nat):kZ x y n n=List.replicate n x:=by simp[kZ]
theorem BI {x y:Int}{n k:Nat}(h:k<n):(kZ x y n k).set k x=kZ x y n (k+1):=by
 unfold kZ;rw[List.set_append_right _ _ (by simp)];obtain⟨m,hm⟩:∃m,n - k=m+1:=⟨n - k - 1,by omega⟩;have:n - (k+1)=m:=by omega
 rw[hm,this,List.replicate_succ' (n:=k),aay];simp[List.replicate_succ]
def ji (n:Nat)(o:List Int):List Int:=(List.range n).map λ(v:Nat)=>lL (v:Int) o
theorem fV (n:Nat)(o:List Int):(ji n o).length=n:=by simp[ji]
theorem iD {n:Nat}{o:List Int}{v:Int}(h:0<=v/\v<n):(ji n o)[v.toNat]?=some (lL v o):=by
 unfold ji;rw[aap,abk (by omega)];simp only[Option.map_some];rw[show ((v.toNat:Nat):Int)=v by omega]
theorem tu {x y:Int}:∀{l:List Int}{k:Nat},x∉l->fm y k (l++[x])=if y∈l then fm y k l else if y=x then ((k+l.length:Nat):Int) else -1
 |[],k,_=>by
  simp only[List.nil_append,fm,List.not_mem_nil,if_false,List.length_nil,Nat.add_zero];by_cases h:x=y
  .simp[h]
  .have:¬y=x:=λe=>h e.symm;simp[h,this]
 |z::l,k,hx=>by
  simp only[List.mem_cons,not_or]at hx;simp only[List.cons_append,fm];by_cases h:z=y
  .simp[h]
  .have hz:¬y=z:=λe=>h e.symm;rw[if_neg h,tu hx.2];simp only[List.mem_cons,hz,false_or,List.length_cons];split
   .rfl
   .split
    .congr 1;omega
    .rfl
theorem IL {x y:Int}{l:List Int}(hx:x∉l):lL y (l++[x])=if y∈l then lL y l else if y=x then (l.length:Int) else -1:=by
 unfold lL;rw[tu hx];simp
theorem IM {x:Int}{l:List Int}(h:x∉l):lL x l= -1:=by
 have:∀{l:List Int}{k:Nat},x∉l->fm x k l= -1:=by
  intro l
  induction l with
  |nil=>intro k _;rfl
  |cons y l ih=>
   intro k h;simp only[List.mem_cons,not_or]at h;unfold fm;rw[if_neg (λe=>h.1 e.symm),ih h.2]
 exact this h
theorem nR {n:Nat}{o:List Int}{x:Int}(hx:x∉o)(h:0<=x/\x<n):(ji n o).set x.toNat (o.length:Int)=ji n (o++[x]):=by
 apply aa0;intro i;rcases aar i n with hi|hi
 .have e1:=iD (n:=n) (o:=o++[x]) (v:=(i:Int)) (by omega);rw[aaU]at e1;rw[e1,IL hx];by_cases hix:x.toNat=i
  .have:(i:Int)=x:=by omega
   rw[hix,aaG (by rw[fV];exact hi),if_neg (by rw[this];exact hx),if_pos this]
  .have hne:¬(i:Int)=x:=by omega
   have e2:=iD (n:=n) (o:=o) (v:=(i:Int)) (by omega);rw[aaU]at e2;rw[aaL hix,e2];split
   .rfl
   .rename_i hno
    first
     |rw[IM hno]
     |rw[if_neg hne,IM hno]
 .rw[List.getElem?_eq_none (by simp[fV,hi]),List.getElem?_eq_none (by simp[fV,hi])]
theorem DC (n:Nat):ji n []=List.replicate n (-1):=by
 apply aa0;intro i;rcases aar i n with hi|hi
 .have e1:=iD (n:=n) (o:=[]) (v:=(i:Int)) (by omega);rw[aaU]at e1;rw[e1];simp[hi];rfl
 .rw[List.getElem?_eq_none (by simp[fV,hi]),List.getElem?_eq_none (by simp[hi])]
set_option maxHeartbeats 4000000 in
@[go_sem] theorem r50 (t:Nat)(a:aT)(hg:a.Good):
  res A ay 50 [.agg [.int .i64 a.aj,.int .i64 a.start,.ae t (a.aa.map Edge.c)]]=some [.ae 0 (ints a.order),.ae 0 (ints (ji a.aj.toNat a.order))]:=by
 refine ai a50 rfl rfl ?_;simp only[F50,Yk];obtain⟨g1,g2,g3,g4,g5⟩:=hg;have hg:a.Good:=⟨g1,g2,g3,g4,g5⟩;simp(disch:=omega)only[go_sem];refine W.dx a.aj.toNat (λk=>⟨[(1,.ptr 1 0),(4,.own 0 0 0 a.aj.toNat),(14,.pv (.int .i64 a.aj.toNat)),(15,.pv (.int .i64 k))],⟨[(1,[.pv (.int .i64 a.aj),.pv (.int .i64 a.start),.pv (.ae t (a.aa.map Edge.c))])],[⟨0,1,.inl (ints (kZ (-1) 0 a.aj.toNat k))⟩],[]⟩⟩) (λ_=>True) (by rw[BH];rfl) trivial λk hk _=>?_;simp(disch:=omega)only[go_sem];refine Br.aF (λh=>?_) (λh=>?_)
 .have ho:=DA (x:= -1) (y:=0) (n:=a.aj.toNat) (k:=k) (by omega);simp(disch:=omega)only[go_sem,BI (show k<a.aj.toNat by omega)];exact .of (by omega) rfl trivial
 obtain rfl:k=a.aj.toNat:=by omega
 clear h hk;have hn:(List.replicate a.aj.toNat (-1:Int)).length=a.aj.toNat:=abu;have hp0:=nR (n:=a.aj.toNat) (o:=[]) (x:=a.start) (by simp) (by omega);rw[DC]at hp0;simp only[List.length_nil,List.nil_append]at hp0;have hp0':(List.replicate a.aj.toNat (-1:Int)).set a.start.toNat 0=ji a.aj.toNat [a.start]:=hp0;simp(disch:=omega)only[go_sem,DB,hp0'];refine W.loop (α:=Nat×List Int) (λx=>⟨[(1,.ptr 1 0),(4,.own 0 0 0 a.aj.toNat),(6,pC 1 1 (ints x.2)),(7,.pv (.int .i64 x.1))],⟨[(1,[.pv (.int .i64 a.aj),.pv (.int .i64 a.start),.pv (.ae t (a.aa.map Edge.c))])],⟨0,1,.inl (ints (ji a.aj.toNat x.2))⟩::xD 1 1 (ints x.2),[]⟩⟩)
  (λx=>x.2.Nodup/\(∀v∈x.2,a.inr v)/\1<=x.2.length/\x.1<=x.2.length/\qM (outs a.aa) (a.aj.toNat - x.1) x.1 x.2=a.order) (λx=>a.aj.toNat - x.1) (0,[a.start]) rfl ⟨by simp,λw hw=>(List.mem_singleton.1 hw) ▸ hg.st,by simp,by simp,rfl⟩ λx hx=>?_
 obtain⟨i,o⟩:=x;obtain⟨hd,hin,h1,h2,hb⟩:=hx;dsimp only at hd hin h1 h2 hb;have hlen:=a.bound o hd hin;simp(disch:=omega)only[go_sem];refine Br.aF (λh=>?_) (λh=>?_)
 .obtain⟨v,hv⟩:=get_at (l:=o) (k:=i) (by omega);simp(disch:=omega)only[go_sem];refine W.fold a.aa (λo e=>if e.fr=v then eL o e.to else o) o (λk o=>⟨[(1,.ptr 1 0),(4,.own 0 0 0 a.aj.toNat),(6,pC 1 1 (ints o)),(7,.pv (.int .i64 i)),(36,.pv (.ae t (a.aa.map Edge.c))),(37,.pv (.int .i64 a.aa.length)),(38,.pv (.int .i64 k))],⟨[(1,[.pv (.int .i64 a.aj),.pv (.int .i64 a.start),.pv (.ae t (a.aa.map Edge.c))])],⟨0,1,.inl (ints (ji a.aj.toNat o))⟩::xD 1 1 (ints o),[]⟩⟩)
   (λ_ o=>o.Nodup/\(∀v∈o,a.inr v)/\1<=o.length/\o[i]?=some v) rfl ⟨hd,hin,h1,hv⟩ (λk e o he hk _ hi=>?_) (λo ho hi=>?_)
  .obtain⟨hd,hin,h1,hv⟩:=hi;have hlen:=a.bound o hd hin;have hef:=ff.1 (g4 e (aaj he));have hto:a.inr e.to:=⟨hef.2.2.1,hef.2.2.2.1⟩;have hI:(if e.fr=v then eL o e.to else o).Nodup/\(∀w∈(if e.fr=v then eL o e.to else o),a.inr w)/\1<=(if e.fr=v then eL o e.to else o).length/\(if e.fr=v then eL o e.to else o)[i]?=some v:=by
    split
    .obtain⟨r,hr⟩:=qL o e.to;have hil:=(aak.1 hv).1;refine⟨me hd,λx hx=>(nF.1 hx).elim (hin x) (λq=>q ▸ hto),by rw[<- hr,aas];omega,by rw[<- hr,aao hil];exact hv⟩
    .exact⟨hd,hin,h1,hv⟩
   have hstay:e.fr=v->¬lL e.to o<0->(if e.fr=v then eL o e.to else o)=o:=λh1 h2=>by rw[if_pos h1,eL,if_pos (uh.1 (by omega))]
   have hmore:e.fr=v->lL e.to o<0->(if e.fr=v then eL o e.to else o)=o++[e.to]:=λh1 h2=>by rw[if_pos h1,eL,if_neg (qU.1 h2)]
   have hpl:=fV a.aj.toNat o;have hpg:=iD (n:=a.aj.toNat) (o:=o) (v:=e.to) (by omega);rcases nB (b:=1) (rows:=ints o)with hc|⟨m,hc⟩
   .rw[jz hc,jA hc];rw[cP]at hc;simp(disch:=omega)only[go_sem];refine Br.aF (λh=>?_) (λh=>(h (by omega)).elim);simp(disch:=omega)only[go_sem,he,hv];refine Br.aF (λf1=>?_) (λf1=>?_)<;>simp(disch:=omega)only[go_sem,f1,hpg]
    .refine Br.aF (λf2=>?_) (λf2=>?_)<;>simp(disch:=omega)only[go_sem,f2]
     .refine cV.of ?_ hI;show _=St.mk _ _;rw[hmore f1 f2,rh h1,ri h1,show o.length - 1=0 by omega,<- nR (qU.1 f2) (by omega)];rfl
     .refine cV.of ?_ hI;show _=St.mk _ _;rw[hstay f1 f2,jz (by rw[cP];exact hc),jA (by rw[cP];exact hc)];rfl
    .refine cV.of ?_ hI;show _=St.mk _ _;rw[if_neg f1,jz (by rw[cP];exact hc),jA (by rw[cP];exact hc)];rfl
   .rw[iM hc,iN hc];rw[cP]at hc;have hil:=(aak.1 hv).1;have ht:o.take (1+m+1)=o:=aaB (by omega);have hi0:(0:Int)<=(i:Int):=by omega
    simp(disch:=omega)only[go_sem];refine Br.aF (λh=>?_) (λh=>(h (by omega)).elim);simp(disch:=omega)only[go_sem,he,hv];refine Br.aF (λf1=>?_) (λf1=>?_)<;>simp(disch:=omega)only[go_sem,f1,hpg]
    .refine Br.aF (λf2=>?_) (λf2=>?_)<;>simp(disch:=omega)only[go_sem,f2]
     .refine cV.of ?_ hI;show _=St.mk _ _;rw[hmore f1 f2,rh h1,ri h1,<- nR (qU.1 f2) (by omega),show o.length - 1=m+1 by omega,hc];rfl
     .refine cV.of ?_ hI;show _=St.mk _ _;rw[hstay f1 f2,iM (by rw[cP];exact hc),iN (by rw[cP];exact hc)];rfl
    .refine cV.of ?_ hI;show _=St.mk _ _;rw[if_neg f1,iM (by rw[cP];exact hc),iN (by rw[cP];exact hc)];rfl
  .rw[yh]at ho;simp(disch:=omega)only[go_sem];obtain⟨hd',hin',h1',hv'⟩:=hi;have hl':=a.bound o hd' hin';have hil:=(aak.1 hv').1;refine⟨(i+1,o),⟨hd',hin',h1',hil,?_⟩,by dsimp only;omega,rfl⟩;dsimp only;rw[<- hb,ho];obtain⟨q,hq⟩:∃q,a.aj.toNat - i=q+1:=⟨a.aj.toNat - i - 1,by omega⟩;rw[hq,vC hv];congr 1;omega
 .simp(disch:=omega)only[go_sem];rw[mg (by omega)]at hb;rw[hb,aaB (by rw[fV];exact aau _)]
theorem yi (o:List Int)(es:List Edge):es.foldl (λr e=>if 0<=lL e.fr o then r++[e.JX o] else r) []=kept o es:=by
 have h:=fold_filter (λe:Edge=>decide (e.fr∈o)) (Edge.JX o) es [];rw[List.nil_append]at h;rw[<- show _=kept o es from h];congr 1;funext r e;by_cases hc:e.fr∈o
 .simp[hc,uh]
 .simp[hc,uh]
theorem BJ (o:List Int)(es:List Edge):(kept o es).length<=es.length:=by
 unfold kept;rw[aam];exact abU _ _
set_option maxHeartbeats 2000000 in
@[go_sem] theorem r33 (t:Nat)(a:aT)(hl:a.aa.length<=2000000000):
  res A ay 33 [.agg [.int .i64 a.aj,.int .i64 a.start,.ae t (a.aa.map Edge.c)]]=some (if a.err=0 then [.agg [.int .i64 a.order.length,.int .i64 0,.ae 0 (bX (nL Edge.lt (kept a.order a.aa)))],.int .i64 0] else [.agg [.int .i64 0,.int .i64 0,.ae 0 []],.int .i64 a.err]):=by
 refine ai a33 rfl rfl ?_;simp only[F33,Yb];simp(disch:=omega)only[go_sem];refine Br.aF (λh1=>?_) (λh1=>?_)<;>simp(disch:=omega)only[go_sem,h1];have hg:=aT.kj.1 h1;have hol:=hg.nQ hg.st;have hmx:=hg.mx;have hol':a.order.length<=12:=by unfold aT.order;omega
 have hkl:=BJ a.order a.aa;simp(disch:=omega)only[go_sem,r52 t a hg];refine W.fold a.aa (λr e=>if 0<=lL e.fr a.order then r++[e.JX a.order] else r) [] (λk r=>⟨[(1,.ptr 1 0),(2,.ptr 2 0),(5,.pv (.ae 0 (ints a.order))),(6,.ptr 6 0),(7,.pv (.int .i64 k))],⟨[(1,[.pv (.int .i64 a.aj),.pv (.int .i64 a.start),.pv (.ae t (a.aa.map Edge.c))]),(2,[.pv (.int .i64 0),.pv (.int .i64 0),.tl []]),(6,[.pv (.int .i64 a.order.length),.pv (.int .i64 0),dn 0 (bX r)])],cG 4 (bX r),[]⟩⟩) (λk r=>r.length<=k) rfl (aau _) (λk e r he hk _ hi=>?_) (λr hr hi=>?_)
 .simp(disch:=omega)only[go_sem];refine Br.aF (λh=>?_) (λh=>(h (by omega)).elim);simp(disch:=omega)only[go_sem,he];refine Br.aF (λf=>?_) (λf=>?_)<;>simp(disch:=omega)only[go_sem,f]
  .refine cV.of ?_ (by rw[if_pos f];simp;omega);show _=St.mk _ _;rw[if_pos f];rfl
  .refine cV.of ?_ (by rw[if_neg f];omega);show _=St.mk _ _;rw[if_neg f];rfl
 .rw[yi]at hr;subst hr;simp(disch:=omega)only[go_sem];rw[if_pos h1]
def Gc (l:List Edge):Tn:=if l.length=0 then {} else {ar:=some (0,⟨l.length - 1,4,.inl (bX (cU Edge.lt l))⟩)}
theorem IN {bx:List (Nat×List V)}{mp:List (List (PV×PV))}{l:List Edge}(hm:l.length<=2147483648)(hap:l.Pairwise (oI Edge.lt)):
  ll 4 (iV Edge.c Edge.dec Edge.lt) 47 [dn 0 (bX l),.func 47 []] ⟨bx,cG 4 (bX l),mp⟩=some (.dR [],Gc l):=by
 rcases abD l.length with h|h
 .have:l=[]:=aaD h;subst this;simp[Gc,bX,dn,ll]
 .obtain⟨m,hm'⟩:∃m,(bX l).length=m+1:=⟨l.length - 1,by rw[cn];omega⟩;rw[qJ hm',mc hm'];rw[cn]at hm';rw[Dz (l:=l) hm'.symm (by simp[aC]) (by omega) hm hap,Gc,if_neg (by omega),hm'];rfl
@[go_sem] theorem QU (bx:List (Nat×List V))(mp:List (List (PV×PV)))(l:List Edge):(Gc l).apply ⟨bx,cG 4 (bX l),mp⟩=⟨bx,cG 4 (bX (cU Edge.lt l)),mp⟩:=by
 have hp:=(bW Edge.lt l).length_eq;rcases abD l.length with h|h
 .have:l=[]:=aaD h;subst this;simp[Gc,bX,cU,Tn.apply,cG]
 .obtain⟨m,hm'⟩:∃m,(bX l).length=m+1:=⟨l.length - 1,by rw[cn];omega⟩;have hm2:(bX (cU Edge.lt l)).length=m+1:=by rw[cn,hp,<- cn];exact hm'
  rw[mc hm',mc hm2];rw[cn]at hm';simp[Gc,Tn.apply,hm']
theorem K7 {n:Nat}{a b:List (List PV)}(h:a.length=b.length):dn n a=dn n b:=by
 cases a<;>cases b<;>simp_all [dn]
set_option maxHeartbeats 2000000 in
@[go_sem] theorem r32 (t:Nat)(a:aT)(hl:a.aa.length<=2000000000):
  res A ay 32 [.agg [.int .i64 a.aj,.int .i64 a.start,.ae t (a.aa.map Edge.c)]]=some (if a.err=0 then [.agg [.int .i64 a.trim.aj,.int .i64 0,.ae 0 (bX a.trim.aa)],.int .i64 0] else [.agg [.int .i64 0,.int .i64 0,.ae 0 []],.int .i64 a.err]):=by
 refine ai a32 rfl rfl ?_;simp only[F32,Ya];simp(disch:=omega)only[go_sem];refine Br.aF (λh1=>?_) (λh1=>?_)<;>simp(disch:=omega)only[go_sem,h1];have hg:=aT.kj.1 h1;have hol:=hg.nQ hg.st;have hmx:=hg.mx;have hol':a.order.length<=12:=by unfold aT.order;omega
 have hkl:=BJ a.order a.aa;have hpl:=fV a.aj.toNat a.order;simp(disch:=omega)only[go_sem,r50 t a hg];refine W.fold a.aa (λr e=>if 0<=lL e.fr a.order then r++[e.JX a.order] else r) [] (λk r=>⟨[(2,.ptr 2 0),(6,.pv (.ae 0 (ints (ji a.aj.toNat a.order)))),(7,.ptr 7 0),(25,.pv (.ae t (a.aa.map Edge.c))),(26,.pv (.int .i64 a.aa.length)),(27,.pv (.int .i64 k))],⟨[(2,[.pv (.int .i64 0),.pv (.int .i64 0),.tl []]),(7,[.pv (.int .i64 a.order.length),.pv (.int .i64 0),dn 0 (bX r)])],cG 4 (bX r),[]⟩⟩) (λk r=>r.length<=k) rfl (aau _) (λk e r he hk _ hi=>?_) (λr hr hi=>?_)
 .have hef:=ff.1 (hg.fit e (aaj he));have q1:=iD (n:=a.aj.toNat) (o:=a.order) (v:=e.fr) (by omega);have q2:=iD (n:=a.aj.toNat) (o:=a.order) (v:=e.to) (by omega);obtain⟨j1,hj1⟩:=abM hef.1;obtain⟨j2,hj2⟩:=abM hef.2.2.1;simp(disch:=omega)only[go_sem];refine Br.aF (λh=>?_) (λh=>(h (by omega)).elim);simp(disch:=omega)only[go_sem,he,fH,q1];refine Br.aF (λf=>?_) (λf=>?_)<;>simp(disch:=omega)only[go_sem,f,fH,q1,q2]
  .refine cV.of ?_ (by rw[if_pos f];simp;omega);show _=St.mk _ _;rw[if_pos f];rfl
  .refine cV.of ?_ (by rw[if_neg f];omega);show _=St.mk _ _;rw[if_neg f];rfl
 .rw[yi]at hr;subst hr;simp(disch:=omega)only[go_sem];rw[IN (by omega) (vV hg.oI)];have hp:=(bW Edge.lt (kept a.order a.aa)).length_eq;simp(disch:=omega)only[go_sem];rw[K7 (show (bX (kept a.order a.aa)).length=(bX (cU Edge.lt (kept a.order a.aa))).length by rw[cn,cn,hp])];simp(disch:=omega)only[go_sem];rw[if_pos h1];rfl
def K8 (x:Bool×Int):List PV:=[.bool x.1,.int .i64 x.2]
@[go_sem] theorem Xq (x:Bool×Int):K8 x=[.bool x.1,.int .i64 x.2]:=rfl
def gW (l:List (Bool×Int)):List (List PV):=l.map K8
@[go_sem] theorem kI (l:List (Bool×Int)):(gW l).length=l.length:=by simp[gW]
def rj {α:Type}(p:α->Bool)(l:List α):Int:=match l.findIdx? p with
 |some k=>k
 |none=> -1
theorem Found.rj {α:Type}{l:List α}{p:α->Bool}{k:Nat}{x:α}(h:Found l p k x):rj p l=k:=by
 unfold Pv.rj;rw[h.idx]
theorem jy.rj {α:Type}{l:List α}{p:α->Bool}(h:jy l p):rj p l= -1:=by
 unfold Pv.rj;rw[h.idx]
def ZU (l:List (Int×Int)):List (List PV):=l.map λx=>[.int .i64 x.1,.int .i64 x.2]
@[go_sem] theorem Xr:ZU []=[]:=rfl
def gJ {α β:Type}(f:α->β)(y:β)(l:List α)(k:Nat):List β:=(l.take k).map f++List.replicate (l.length - k) y
theorem DD {α β:Type}(f:α->β)(y:β)(l:List α){k:Nat}(h:k<=l.length):(gJ f y l k).length=l.length:=by simp[gJ];omega
theorem BK {α β:Type}(f:α->β)(y:β)(l:List α):gJ f y l 0=List.replicate l.length y:=by simp[gJ]
theorem DE {α β:Type}(f:α->β)(y:β)(l:List α):gJ f y l l.length=l.map f:=by simp[gJ]
theorem DF {α β:Type}{f:α->β}{y:β}{l:List α}{k:Nat}{x:α}(h:l[k]?=some x):(gJ f y l k).set k (f x)=gJ f y l (k+1):=by
 have hk:=(aak.1 h).1;unfold gJ;rw[List.set_append_right _ _ (by simp;omega),List.take_add_one,h];obtain⟨m,hm⟩:∃m,l.length - k=m+1:=⟨l.length - k - 1,by omega⟩;have:l.length - (k+1)=m:=by omega
 rw[hm,this];simp[Nat.min_eq_left (Nat.le_of_lt hk),List.replicate_succ]
def YR (ars:List aL)(x:V)(l:List Int):Prop:=
 ((x=.tl []\/x=.pv (.ae 0 []))/\l=[])\/∃id aw,x=.own (id+1) aw 0 l.length/\l≠[]/\ars[id]?=some ⟨aw,1,.inl (ints l)⟩
structure ZH (n:Nat)(s:List (List Int))(xs:List V)(ars:List aL):Prop where
 xl:xs.length=n
 sl:s.length=n
 own:∀(v:Nat)(x:V)(l:List Int),xs[v]?=some x->s[v]?=some l->YR ars x l
 dis:∀(v w:Nat)(x y:V)(i:Nat),xs[v]?=some x->xs[w]?=some y->gY x=some i->gY y=some i->v=w
def dF (xs:List V):List (List V):=xs.map λx=>[x]
@[go_sem] theorem Gd (xs:List V):(dF xs).length=xs.length:=by simp[dF]
@[go_sem] theorem Te (xs:List V)(i:Nat):(dF xs)[i]?=xs[i]?.map λx=>[x]:=by simp[dF]
theorem Ge (xs:List V)(i:Nat)(x:V):(dF xs).set i [x]=dF (xs.set i x):=by simp[dF,List.map_set]
theorem BL {id row aw:Nat}{xs:List V}{y:V}(h1:row<xs.length)(hc:y.calm=true):dy id row 0 [y] ⟨aw,1,.inr (dF xs)⟩=some {ar:=some (id,⟨aw,1,.inr (dF (xs.set row y))⟩)}:=by
 have h2:row<(⟨aw,1,.inr (dF xs)⟩:aL).size:=by simp[aL.size,dF,h1]
 obtain⟨z,hz⟩:∃z,xs[row]?=some z:=⟨xs[row],by simp[h1]⟩;have h3:(dF xs).getD row []=[z]:=by simp[dF,hz]
 simp[dy,h2,hc,setBody,<- Ge];simp[dF,hz]
theorem DG (n:Nat):cH n [.tl []]=.inr (dF (List.replicate n (.tl []))):=by
 simp[cH,aA,V.bU,dF]
attribute [go_sem] DG
variable {A:Nat->Option af} {Pr:bD}
def QV {α:Type}(kt kb:List Nat)(S:α->St)(P:α->Prop)(m:α->Nat)(x:α)(Q:Ex->St->Prop)(_t:qx (kt,kb,S,P,m,x,Q):=.mk):Ex->St->Prop
 |.normal,s=>∃y,P y/\m y<m x/\s.mask kt kb=S y
 |.exit i,s=>Q (.exit i) s
 |.ret,s=>Q .ret s
@[go_sem] theorem Tf {α:Type}(kt kb:List Nat)(S:α->St)(P:α->Prop)(m:α->Nat)(x:α)(Q:Ex->St->Prop)(i:Nat)(s:St):QV kt kb S P m x Q .mk (.exit i) s=Q (.exit i) s:=rfl
@[go_sem] theorem VN {α:Type}(kt kb:List Nat)(S:α->St)(P:α->Prop)(m:α->Nat)(x:α)(Q:Ex->St->Prop)(s:St):QV kt kb S P m x Q .mk .ret s=Q .ret s:=rfl
theorem W.ET {α:Type}{a:AC}{kt kb:List Nat}{s:St}{Q:Ex->St->Prop}(S:α->St)(P:α->Prop)(m:α->Nat)(x0:α)(hs:s.mask kt kb=S x0)(h0:P x0)(hr:∀x,P x->W A Pr a (S x) (QV kt kb S P m x Q)):W A Pr (.loop (.mask kt kb a)) s Q:=by
 have key:∀n x s,m x<=n->s.mask kt kb=S x->P x->W A Pr (.loop (.mask kt kb a)) s Q:=by
  intro n
  induction n with
  |zero=>
   intro x s hm hs hp;obtain⟨ex,s',h1,h2⟩:=hr x hp;rw[<- hs]at h1;have h1:=cI.mask h1;cases ex with
   |normal=>obtain⟨y,_,h3,_⟩:=h2;omega
   |exit i=>exact⟨_,_,cI.iT h1 (by simp),h2⟩
   |ret=>exact⟨_,_,cI.iT h1 (by simp),h2⟩
  |succ n ih=>
   intro x s hm hs hp;obtain⟨ex,s',h1,h2⟩:=hr x hp;rw[<- hs]at h1;have h1:=cI.mask h1;cases ex with
   |normal=>
    obtain⟨y,hy,h3,h6⟩:=h2;obtain⟨e2,s2,h4,h5⟩:=ih y s' (by omega) h6 hy;exact⟨e2,s2,cI.xt h1 h4,h5⟩
   |exit i=>exact⟨_,_,cI.iT h1 (by simp),h2⟩
   |ret=>exact⟨_,_,cI.iT h1 (by simp),h2⟩
 exact key _ x0 s (aau _) hs h0
end Go.Pv
namespace Go.Pv
theorem yk {T:List aB}(h:KS T){x:aB}(hx:x∈T){n:List Int}(hn:n.length=T.length):∀u∈bw x,0<=u/\u<n.length:=λu hu=>by
 rw[hn];exact h.DH x hx u hu
theorem rk {b:Bool}{T:List aB}{n:List Int}{k:Nat}{x:aB}(h:T[k]?=some x):swp b T n (k+1)=(swp b T n k).set k (jM b x (swp b T n k)):=by
 show (match T[k]? with
  |some x=>(swp b T n k).set k (jM b x (swp b T n k))
  |none=>swp b T n k)=_
 rw[h]
set_option maxHeartbeats 2000000 in
theorem r471 (u:Nat)(T:List aB)(ho:∀t∈T,t.ok)(hs:∀t∈T,t.short)(hv:bG T=0):res A ay 471 [.agg [.ae u (T.map aB.c)]]=some [.ae 0 (ints (gV false T (2*T.length+1)))]:=by
 have hS:=bB hv;have hT:=vN ho hv;have h32:=hS.len;refine ai a471 rfl rfl ?_;simp only[F471,PG];simp(disch:=omega)only[go_sem];refine W.dx (2*T.length+1) (λr=>⟨[(1,.ptr 1 0),(3,.own 0 0 0 T.length),(4,.pv (.int .i64 r))],⟨[(1,[.pv (.ae u (T.map aB.c))])],[⟨0,1,.inl (ints (gV false T r))⟩],[]⟩⟩) (λ_=>True) rfl trivial λr hr _=>?_;have hl:=fI false T r;have hll:=hl.1;simp(disch:=omega)only[go_sem];refine Br.aF (λc=>?_) (λc=>?_)
 .have hnx:gV false T (r+1)=swp false T (gV false T r) T.length:=rfl;generalize gV false T r=n at hl hll hnx;simp(disch:=omega)only[go_sem];refine W.dx T.length (λk=>⟨[(1,.ptr 1 0),(3,.own 0 0 0 T.length),(4,.pv (.int .i64 r)),(5,.pv (.int .i64 k))],⟨[(1,[.pv (.ae u (T.map aB.c))])],[⟨0,1,.inl (ints (swp false T n k))⟩],[]⟩⟩) (λ_=>True) rfl trivial λk hk _=>?_;have hw:=(hl.swp k).1;have hwl:=hw.1;simp(disch:=omega)only[go_sem];refine Br.aF (λc=>?_) (λc=>?_)
  .obtain⟨x,hx⟩:=get_some (l:=T) (k:=k) (by omega);have hxm:=aaj hx;have hsx:=rk (b:=false) (n:=n) hx;have h481:=λt=>r481 x (swp false T n k) t (hT.2.2 x hxm) (hs x hxm) hw.2.1 (yk hS hxm hwl);generalize swp false T n k=m at *;generalize jM false x m=q at *;have hmt:m.take T.length=m:=aaB (by omega);simp only[aB.c]at h481;simp(disch:=omega)only[go_sem,hx,Option.map_some,aB.c,h481,hmt];refine .of (by omega) ?_ trivial;rw[hsx];rfl
  .obtain rfl:k=T.length:=by omega
   simp(disch:=omega)only[go_sem];refine .of (by omega) ?_ trivial;rw[hnx];rfl
 .obtain rfl:r=2*T.length+1:=by omega
  have hmt:(gV false T (2*T.length+1)).take T.length=gV false T (2*T.length+1):=aaB (by omega);simp(disch:=omega)only[go_sem,hmt]
set_option maxHeartbeats 4000000 in
theorem r277 (t u:Nat)(l m:List aB)(hl:l.length<=2^63 - 1)(_hm:m.length<=2^63 - 1)(vl:∀r∈l,r.ok)(vm:∀r∈m,r.ok):res A ay 277 [.agg [.ae t (l.map aB.c)],.agg [.ae u (m.map aB.c)]]=some [.bool (eqv l m)]:=by
 refine ai a277 rfl rfl ?_;simp only[F277,N9];simp(disch:=omega)only[go_sem];refine Br.aF (λh=>?_) (λh=>?_)<;>simp(disch:=omega)only[go_sem]
 .refine W.find (l.zip m) (λq=>!eqv q.1 q.2) (λk=>⟨[(2,.ptr 2 0),(3,.ptr 3 0),(5,.pv (.int .i64 k))],⟨[(2,[.pv (.ae t (l.map aB.c))]),(3,[.pv (.ae u (m.map aB.c))])],[],[]⟩⟩) rfl (λk q hq hk hfd=>?_) (λhn=>?_)
  .obtain⟨h1,h2⟩:=fz hq;rw[cF (by omega)]at hk;have hc:=r295 q.1 q.2 (vl q.1 (aaj h1)) (vm q.2 (aaj h2));unfold aB.c at hc;simp(disch:=omega)only[go_sem];refine Br.aF (λc=>?_) (λc=>(c (by omega)).elim);simp(disch:=omega)only[go_sem,h1,h2,aB.c,hc];refine Br.of (λg=>?_) (λg=>?_)<;>simp(disch:=omega)only[go_sem]
   .exact aX.of (by rw[g];rfl) rfl
   .rw[(hfd (by rw[g];rfl)).ne]
  .have hz:(l.zip m).length=l.length:=cF (by omega);rw[hz];simp(disch:=omega)only[go_sem];rw[hn.eq (by omega),dX]
 .rw[eI (λe=>h (by rw[e]))]
theorem pS {L:List Int}(h:L.length<=32)(j:Int):eG (br L j):=by
 have:=FF (λy=>decide (y=j)) L;unfold br eG;omega
theorem yl {L:List Int}(h:L.length<=32){t:aB}(ht:t.ok):(bt L t).ok:=by
 obtain⟨⟨h1,h2,h3,h4,h5,h6,h7⟩,⟨h8,h9⟩,h10,h11⟩:=ht;refine⟨⟨h1,h2,h3,h4,h5,?_,?_⟩,⟨h8,?_⟩,h10,?_⟩
 .show eG (if t.kind=8 then br L t.key else t.key);split
  .exact pS h _
  .exact h6
 .show eG (if 7<=t.kind then br L t.elem else t.elem);split
  .exact pS h _
  .exact h7
 .show cc (t.aO.map (dQ L));unfold cc at *;rw[aam];exact h9
 .intro m hm;obtain⟨q,hq,rfl⟩:=aaq.1 hm;obtain⟨g1,g2,g3,g4⟩:=h11 q hq;exact⟨g1,g2,pS h _,g4⟩
theorem BM {l:List aB}{i:Int}(hv:bG l=0)(h0:0<=i)(h1:i<l.length):iy l i=0:=by
 unfold iy;rw[hv];have:cM l.length i=false:=by
  simp[cM];omega
 simp[this]
theorem vY {l:List aB}(h:bG l=0):∀k,k<l.length->dP l k=0:=by
 unfold bG at h;split at h
 .cases h
 .cases hf:(List.range l.length).find? (λk=>decide (dP l k≠0))with
  |none=>
   intro k hk;have:=abv.1 hf k (aaV.2 hk);simpa using this
  |some k=>
   rw[hf]at h;have:=abS hf;simp only[vz]at h;simp[h]at this
theorem Gf {l:List aB}{k:Nat}{t:aB}(h:bG l=0)(hk:l[k]?=some t):eW l k t=false:=by
 have:=vY h k (aak.1 hk).1;simp only[dP,hk,eA]at this;split at this
 .cases this
 .rename_i h1;simp only[Bool.or_eq_true,Bool.not_eq_true',not_or]at h1;simpa using h1.2
theorem ja {L:List Int}{u:Int}(h:u∈L):0<=br L u/\br L u<L.length/\L[(br L u).toNat]?=some u:=by
 unfold br bg;cases hf:L.findIdx? (λy=>decide (y=u))with
 |none=>
  rw[aa3]at hf;have:=hf u h;simp at this
 |some k=>
  rw[aaC]at hf;obtain⟨hk,hp,_⟩:=hf;dsimp only;refine⟨by omega,by omega,?_⟩;rw[aaU,aal hk];simpa using hp
theorem zt {L:List Int}(hd:L.Nodup){k:Nat}{u:Int}(h:L[k]?=some u):br L u=k:=by
 obtain⟨h0,h1,h2⟩:=ja (aaj h);have:=(List.getElem?_inj (i:=(br L u).toNat) (j:=k) (by omega) hd).1 (h2.trans h.symm);omega
structure jB (l:List aB)(L:List Int):Prop where
 v:bG l=0
 JM:L.Pairwise (·<·)
 cp:∀u∈L,Ci l u
 cl:∀u∈L,∀x∈bw (bf l u),x∈L
theorem jB.nodup {l:List aB}{L:List Int}(h:jB l L):L.Nodup:=h.JM.imp (λhlt=>Int.ne_of_lt hlt)
theorem jB.len {l:List aB}{L:List Int}(h:jB l L):L.length<=32:=aa5 (gj L h.nodup h.cp) (bB h.v).len
def eO (l:List aB)(L:List Int):List aB:=L.map λu=>bt L (bf l u)
theorem kl {l:List aB}{L:List Int}{k:Nat}{u:Int}(h:L[k]?=some u):(eO l L)[k]?=some (bt L (bf l u)):=by
 unfold eO;rw[aap,h];rfl
theorem vZ (L:List Int)(t:aB):bw (bt L t)=(bw t).map (br L):=by
 obtain⟨k,a2,a3,a4,a5,a6,a7,a8,a9,a10⟩:=t;have e1:(a7.map (dQ L)).map (·.type)=(a7.map (·.type)).map (br L):=by
  rw[aa6,aa6];rfl
 unfold bw iY fj bt;dsimp only;rw[e1];by_cases h8:k=8
 .subst h8;simp
 .by_cases h7:7<=k
  .simp[h8,h7]
  .simp[h8,h7]
theorem zu (L:List Int)(b:Bool)(l:List Mem):dz b (l.map (dQ L))=dz b l:=by
 have e1:(l.map (dQ L)).any (fi b)=l.any (fi b):=by
  rw[abt];rfl
 have e2:(l.map (dQ L)).map Mem.nm=l.map Mem.nm:=by
  rw[aa6];rfl
 unfold dz;rw[e1,e2,aam]
theorem zw (L:List Int)(t:aB):kindOk (bt L t)=kindOk t:=by
 unfold kindOk;have e:∀b,dz b (bt L t).aO=dz b t.aO:=λb=>zu L b t.aO;rw[e,e];rfl
theorem BN (L : List Int){t : aB}(h : t = cB t)(_h9 : t.kind <= 9) : bt L t = cB (bt L t) := by
  have hk : (bt L t).kind = t.kind := rfl;rcases pF t.kind with e | e | e | e | e | e | e | e | ⟨n1,n2,n3,n4,n5,n6,n7,n8⟩
  all_goals first
    | (unfold cB at h |-
       rw [hk];simp only [e] at h |-;simp (decide := true) only [if_false,if_true] at h |-;rw [h];simp [bt,cA]
       done)
    | skip
  unfold cB at h |-;rw [hk];simp only [n1,n2,n3,n4,n5,n6,n7,n8,if_false] at h |-;rw [h];simp [bt,cA,n8]
theorem Gg (L:List Int){t:aB}(h:dA t=true):dA (bt L t)=true:=by
 have h9:=nD h;unfold dA at h |-;simp only[Bool.and_eq_true]at h |-;obtain⟨h1,h2,h3,h4⟩:=h;refine⟨h1,?_,h3,?_⟩
 .rw[bP]at h2 |-;exact BN L h2 h9
 .rw[zw];exact h4
theorem jB.Gh {l:List aB}{L:List Int}(h:jB l L){k:Nat}{u:Int}(hu:L[k]?=some u):eW (eO l L) k (bt L (bf l u))=false:=by
 obtain⟨u0,u1⟩:=h.cp u (aaj hu);have hd:=Gf h.v (cC u0 u1);rw[abp]at hd |-;intro hh;apply hd;unfold eW at hh |-;simp only[Bool.and_eq_true]at hh |-;refine⟨hh.1,?_⟩;have h2:=hh.2;rw[fh]at h2 |-;obtain⟨t,ht,he⟩:=aaq.1 h2;obtain⟨j,hj⟩:=aan.1 ht;rw[aax]at hj;split at hj
 .rename_i hjk;have hkl:=(aak.1 hu).1;have hw:=aal (l:=L) (i:=j) (by omega);have hlt:L[j]'(by omega)<u:=by
   have:=abh.1 h.JM j k (by omega) hkl hjk;rw[aal hkl]at hu;cases hu;exact this
  generalize L[j]'(by omega)=w at hw hlt;rw[kl hw]at hj;cases hj;obtain⟨w0,w1⟩:=h.cp w (aaj hw);refine aaq.2 ⟨bf l w,?_,he⟩;refine aaj (i:=w.toNat) ?_;rw[aax,if_pos (by omega)];exact cC w0 w1
 .cases hj
theorem jB.DH {l:List aB}{L:List Int}(h:jB l L){u:Int}(hu:u∈L):∀x∈bw (bt L (bf l u)),0<=x/\x<L.length:=by
 intro x hx;rw[vZ]at hx;obtain⟨y,hy,rfl⟩:=aaq.1 hx;obtain⟨h0,h1,_⟩:=ja (h.cl u hu y hy);exact⟨h0,h1⟩
theorem ym {l:List aB}{k:Nat}{t:aB}(h:bG l=0)(hk:l[k]?=some t):dU l t=false:=by
 have:=vY h k (aak.1 hk).1;simp only[dP,hk,eA]at this;split at this
 .cases this
 .split at this
  .cases this
  .split at this
   .cases this
   .rename_i h3;simpa using h3
theorem jB.key {l:List aB}{L:List Int}(h:jB l L){u:Int}(hu:u∈L):dU (eO l L) (bt L (bf l u))=false:=by
 obtain⟨u0,u1⟩:=h.cp u hu;have hb:=ym h.v (cC u0 u1);unfold dU at hb |-;by_cases h8:(bf l u).kind=8
 .have hk:=h.cl u hu _ (gH h8);obtain⟨i0,i1,i2⟩:=ja hk;obtain⟨k0,k1⟩:=h.cp _ hk;have e1:(bt L (bf l u)).key=br L (bf l u).key:=if_pos h8;have e2:gG (eO l L) (br L (bf l u).key)=gG l (bf l u).key:=by
   unfold gG;rw[kl i2,cC k0 k1];rfl
  rw[e1,e2];exact hb
 .have:(bt L (bf l u)).kind=(bf l u).kind:=rfl;rw[this];simp[h8]
theorem jB.valid {l:List aB}{L:List Int}(h:jB l L):bG (eO l L)=0:=by
 have hlen:(eO l L).length=L.length:=by simp[eO]
 have h32:=h.len;unfold bG;rw[if_neg (by omega)];have hz:∀k∈List.range (eO l L).length,¬decide (dP (eO l L) k≠0)=true:=by
  intro k hk;have hk:k<L.length:=by rw[hlen]at hk;simpa using hk
  have hu:=aal hk;generalize L[k]=u at hu;have hm:=aaj hu;obtain⟨u0,u1⟩:=h.cp u hm;have e1:=Gg L ((bB h.v).own _ (aaj (cC u0 u1)));have e2:=h.Gh hu;have e3:(bw (bt L (bf l u))).any (cM (eO l L).length)=false:=by
   rw[aaW];intro x hx;have:=h.DH hm x hx;rw[hlen];simp[cM];omega
  have e4:=h.key hm;have e5:dP (eO l L) k=0:=by
   simp only[dP,kl hu,eA,e1,e2,e3,e4];rfl
  rw[e5];decide
 rw[abv.2 hz];rfl
theorem jB.YS {l:List aB}{L:List Int}(h:jB l L){i u:Int}(hi:i∈L)(hr:KR (Mr l) i u):u∈L/\KR (Mr (eO l L)) (br L i) (br L u):=by
 induction hr with
 |refl=>exact⟨hi,.refl⟩
 |@step v x _ hx ih=>
  obtain⟨hv,hr⟩:=ih;have hxL:=h.cl v hv x hx;refine⟨hxL,.step hr ?_⟩;obtain⟨v0,v1,v2⟩:=ja hv;have:bf (eO l L) (br L v)=bt L (bf l v):=by
   unfold bf;rw[kl v2];rfl
  unfold Mr;rw[this,vZ];exact abf hx
def JY (m:Nat):List Int:=(List.range m).map λ(k:Nat)=>(k:Int)
theorem EU (m:Nat):(JY m).Pairwise (·<·):=by
 unfold JY;rw[abW];have:(List.range m).Pairwise (·<·):=ab9;exact this.imp (λh=>by omega)
theorem K9 {m k:Nat}(h:k<m):(JY m)[k]?=some (k:Int):=by
 unfold JY;rw[aap,abk h];rfl
theorem La {m:Nat}{x:Int}(h0:0<=x)(h1:x<m):br (JY m) x=x:=by
 have hn:(JY m).Nodup:=(EU m).imp (λhlt=>Int.ne_of_lt hlt);have:=zt hn (K9 (m:=m) (k:=x.toNat) (by omega));rw[abH h0]at this;exact this
theorem DI {L:List Int}{t:aB}(h:∀x∈bw t,br L x=x):bt L t=t:=by
 have e1:t.aO.map (dQ L)=t.aO:=by
  rw[abI (g:=id) (λm hm=>by
   unfold dQ;rw[h _ (kh hm)];rfl),ack]
 have e2:(if t.kind=8 then br L t.key else t.key)=t.key:=by
  split
  .rename_i h8;exact h _ (gH h8)
  .rfl
 have e3:(if 7<=t.kind then br L t.elem else t.elem)=t.elem:=by
  split
  .rename_i h7;exact h _ (ot h7)
  .rfl
 unfold bt;rw[e1,e2,e3]
theorem IP {T:List aB}{n:List Int}(h:Dw true T n){k:Nat}{x:aB}(hx:T[k]?=some x)(hc:(swp true T n k).getD k 0≠jM true x (swp true T n k)):swp true T n (k+1)≠n:=λe=>by
 obtain⟨h1,h2⟩:=h.swp k;have h3:=h1.2.2 k x hx;have h4:=h2.2 k;have hk:k<(swp true T n k).length:=by rw[h1.1];exact(aak.1 hx).1
 have h5:=iB (n:=swp true T n k) (x:=jM true x (swp true T n k)) k hk;rw[<- rk hx,e,if_pos rfl]at h5;omega
theorem IQ {T:List aB}{n:List Int}(h:Dw true T n){k:Nat}{x:aB}(hx:T[k]?=some x)(hc:(swp true T n k).getD k 0=jM true x (swp true T n k)):swp true T n (k+1)=swp true T n k:=by
 have hk:k<(swp true T n k).length:=by rw[(h.swp k).1.1];exact(aak.1 hx).1
 rw[rk hx,<- hc,aat,aal hk];simp
theorem Gi {T:List aB}(hv:bG T=0){n:List Int}(h:Fix true T n):∀x∈T,x.kind=8->gQ n x.key≠0:=by
 intro x hx h8;obtain⟨k,hk⟩:=aan.1 hx;have hb:=ym hv hk;have hu:=(bB hv).DH x hx x.key (gH h8);unfold dU gG at hb;rw[h8]at hb;have hg:=aal (l:=T) (i:=x.key.toNat) (by omega);generalize T[x.key.toNat]'(by omega)=q at hg;rw[hg]at hb;have hq:1<=q.kind/\q.kind<=4:=by simpa using hb
 have ho:=(bB hv).own q (aaj hg);unfold gQ;rw[h.2.2 _ q hg];unfold jM;have h4:q.kind=4->0<q.syms.length:=λe=>by
  unfold dA kindOk kg at ho;simp[e]at ho;omega
 split
 .split<;>decide
 .split
  .split<;>decide
  .split
   .rename_i e;have:=h4 e;omega
   .rw[if_neg (by omega),if_neg (by omega),if_neg (by omega),if_neg (by omega),if_neg (by omega)];decide
def km (T:List aB):List Int:=gV false T (2*T.length+1)
set_option maxHeartbeats 2000000 in
theorem r474 (u:Nat)(T:List aB)(ho:∀t∈T,t.ok)(hs:∀t∈T,t.short)(hv:bG T=0):res A ay 474 [.agg [.ae u (T.map aB.c)]]=some [.ae 0 (ints (km T))]:=by
 have hS:=bB hv;have hT:=vN ho hv;have h32:=hS.len;refine ai a474 rfl rfl ?_;simp only[F474,PJ];simp(disch:=omega)only[go_sem];refine W.ET (α:=Bool×List Int) (λx=>⟨[(1,.ptr 1 0),(3,.own 0 0 0 T.length),(4,.pv (.bool x.1))],⟨[(1,[.pv (.ae u (T.map aB.c))])],[⟨0,1,.inl (ints x.2)⟩],[]⟩⟩)
  (λx=>Dw true T x.2/\(∀m,Fix true T m->my x.2 m)/\(x.1=false->Fix true T x.2)) (λx=>(2*(2*T.length - su x.2)).toNat+(if x.1=true then 1 else 0)) (true,gV true T 0) (by simp(disch:=omega)only[go_sem];rfl) ⟨fI true T 0,λm hm=>pP hm 0,λh=>by cases h⟩ λx hx=>?_
 obtain⟨b,n⟩:=x;obtain⟨hl,hun,hfix⟩:=hx;dsimp only at hl hun hfix;have hll:=hl.1;cases b with
 |false=>
  have e:n=km T:=tj.uniq (F6 ⟨hfix rfl,hun⟩ (Gi hv (hfix rfl))) (mz false T);rw[<- e];have hmt:n.take T.length=n:=aaB (by omega);simp(disch:=omega)only[go_sem,hmt]
 |true=>
  simp(disch:=omega)only[go_sem];refine W.dx T.length (λk=>⟨[(1,.ptr 1 0),(3,.own 0 0 0 T.length),(4,.pv (.bool (decide (swp true T n k≠n)))),(14,.pv (.ae u (T.map aB.c))),(15,.pv (.int .i64 T.length)),(16,.pv (.int .i64 k))],⟨[(1,[.pv (.ae u (T.map aB.c))])],[⟨0,1,.inl (ints (swp true T n k))⟩],[]⟩⟩) (λ_=>True) (by simp[swp]) trivial λk hk _=>?_;have hw:=(hl.swp k).1;have hwl:=hw.1;simp(disch:=omega)only[go_sem];refine Br.aF (λc=>?_) (λc=>?_)
  .obtain⟨x,hx⟩:=get_some (l:=T) (k:=k) (by omega);have hxm:=aaj hx;have hsx:=rk (b:=true) (n:=n) hx;have hfl:=IP hl hx;have hsm:=IQ hl hx;have h485:=λt=>r485 x (swp true T n k) t (hT.2.2 x hxm) (hs x hxm) hw.2.1 (yk hS hxm hwl);have hmn:=IB x hw.2.1;have hfk:∀b:Bool,(b=true↔swp true T n k≠n)->b=decide (swp true T n k≠n):=λb h=>by rw[Bool.eq_iff_iff,h];simp
   obtain⟨fl,hfl2⟩:∃fl,decide (swp true T n k≠n)=fl:=⟨_,rfl⟩;have hup:fl=true->swp true T n (k+1)≠n:=λh e=>by
    have h1:=(hl.swp k).2;have h2:my (swp true T n k) (swp true T n (k+1)):=by rw[hsx];exact(hw.step hx).2
    rw[e]at h2;rw[<- hfl2]at h;exact of_decide_eq_true h (h2.QO h1)
   have hga:(swp true T n k)[k]?=some ((swp true T n k).getD k 0):=by
    rw[aat,aal (show k<(swp true T n k).length by omega)];rfl
   rw[hfl2];have hlo:fl=false->swp true T n k=n:=λh=>by
    rw[<- hfl2]at h;simpa using h
   generalize hm:swp true T n k=m at *;have hmt:m.take T.length=m:=aaB (by omega);generalize m.getD k 0=g at *;generalize hq:jM true x m=q at *;generalize IA x m=q2 at *;simp only[aB.c]at h485;simp(disch:=omega)only[go_sem,hx,Option.map_some,aB.c,h485,hmt,hmn,hga];refine Br.aF (λd=>?_) (λd=>?_)<;>simp(disch:=omega)only[go_sem]
   .refine .of (by omega) ?_ trivial;have h1:=hsm d.symm;have h2:decide (swp true T n (k+1)≠n)=fl:=by rw[h1,hfl2]
    rw[h2,h1];rfl
   .refine .of (by omega) ?_ trivial;have h1:=hfl (λe=>d e.symm);have h2:decide (swp true T n (k+1)≠n)=true:=decide_eq_true h1;rw[h2,hsx];rfl
  .obtain rfl:k=T.length:=by omega
   simp(disch:=omega)only[go_sem];have hup:=(hl.swp T.length).2;have hf:=Iz hl;have hlw:=(hl.swp T.length).1;refine⟨(decide (swp true T n T.length≠n),swp true T n T.length),⟨hlw,λm hm=>oy hl hm (hun m hm) _,λh=>?_⟩,?_,by simp(disch:=omega)only[go_sem]⟩
   .have e:swp true T n T.length=n:=by simpa using h
    dsimp only;rw[e]at hf |-;exact hf (my.refl n)
   .have h1:=zo hup;have h2:=re hl.2.1;have h3:=re hlw.2.1;rw[hll]at h2;rw[hlw.1]at h3;by_cases e:swp true T n T.length=n
    .simp[e]
    .have:=h1.2 (λh=>e h.symm)
     simp[e];omega
theorem v7 (l:List Bool)(x:Bool):bF l++[[.bool x]]=bF (l++[x]):=by simp[bF]
def jc (x:Int):Bool:=decide (0<x)
def tO (T:List aB):List Bool:=(km T).map jc
theorem yn {N:List Int}{k:Nat}{x:Int}(h:N[k]?=some x):(N.map jc).take (k+1)=(N.map jc).take k++[jc x]:=by
 rw[aaH,aap,h];rfl
noncomputable def Gj (T:List aB):List Bool:=if er T≠0 then [] else tO T
theorem lG (T:List aB):(km T).length=T.length:=(fI false T _).1
set_option maxHeartbeats 2000000 in
theorem r464 (u:Nat)(T:List aB)(hl:T.length<=2147483648)(ho:∀t∈T,t.ok)(hs:∀t∈T,t.short):res A ay 464 [.agg [.ae u (T.map aB.c)]]=some [.ae 0 (bF (Gj T)),.int .i64 (er T)]:=by
 have h473:=r473 u T hl ho hs;refine ai a464 rfl rfl ?_;simp only[F464,PB];simp(disch:=omega)only[go_sem,h473];unfold Gj;refine Br.aF (λc=>?_) (λc=>?_)<;>simp(disch:=omega)only[go_sem,c]
 rotate_left
 .rw[if_pos c];rfl
 rw[if_neg (by simp[c])];have hc0:=c;have hv:=(gl c).1;have h474:=r474 u T ho hs hv;have hcl:=lG T;have h32:=(bB hv).len;unfold tO;generalize km T=N at *;simp(disch:=omega)only[go_sem,h474];refine W.dx N.length (λk=>⟨[(5,dn 0 (bF ((N.map jc).take k))),(14,.pv (.ae 0 (ints N))),(15,.pv (.int .i64 N.length)),(16,.pv (.int .i64 k))],⟨[],cG 1 (bF ((N.map jc).take k)),[]⟩⟩) (λ_=>True) rfl trivial λk hk _=>?_;simp(disch:=omega)only[go_sem];refine Br.aF (λc=>?_) (λc=>?_)
 .obtain⟨x,hx⟩:=get_some (l:=N) (k:=k) (by omega);have ht:=yn hx;have hql:(bF ((N.map jc).take k)).length=k:=by simp[bF];omega
  have hg:=λbx mp=>AY bx mp 1 (bF ((N.map jc).take k)) [.bool (jc x)] rfl (by omega);have hp:decide (0<x)=jc x:=rfl;generalize (N.map jc).take k=q at *;simp(disch:=omega)only[go_sem,hx,hp,hg];refine .of (by omega) ?_ trivial;rw[v7,<- ht];rfl
 .obtain rfl:k=N.length:=by omega
  have e:(N.map jc).take N.length=N.map jc:=List.take_of_length_le (by simp);rw[e];simp(disch:=omega)only[go_sem,hc0]
set_option maxHeartbeats 2000000 in
theorem r461 (u:Nat)(T:List aB)(hl:T.length<=2147483648)(ho:∀t∈T,t.ok)(hs:∀t∈T,t.short):res A ay 461 [.agg [.ae u (T.map aB.c)]]=some [.ae 0 (bF (Gj T)),.int .i64 (er T)]:=by
 have h470:=r470 u T hl ho hs;refine ai a461 rfl rfl ?_;simp only[F461,Py];simp(disch:=omega)only[go_sem,h470];unfold Gj;refine Br.aF (λc=>?_) (λc=>?_)<;>simp(disch:=omega)only[go_sem,c]
 rotate_left
 .rw[if_pos c];rfl
 rw[if_neg (by simp[c])];have hc0:=c;have hv:=(gl c).1;have h471:=r471 u T ho hs hv;have hcl:=lG T;have h32:=(bB hv).len;unfold tO;change _=some [PV.ae 0 (ints (km T))]at h471;generalize km T=N at *;simp(disch:=omega)only[go_sem,h471];refine W.dx N.length (λk=>⟨[(5,.pv (.ae 0 (ints N))),(6,dn 0 (bF ((N.map jc).take k))),(7,.pv (.int .i64 k))],⟨[],cG 1 (bF ((N.map jc).take k)),[]⟩⟩) (λ_=>True) rfl trivial λk hk _=>?_;simp(disch:=omega)only[go_sem];refine Br.aF (λc=>?_) (λc=>?_)
 .obtain⟨x,hx⟩:=get_some (l:=N) (k:=k) (by omega);have ht:=yn hx;have hql:(bF ((N.map jc).take k)).length=k:=by simp[bF];omega
  have hg:=λbx mp=>AY bx mp 1 (bF ((N.map jc).take k)) [.bool (jc x)] rfl (by omega);have hp:decide (0<x)=jc x:=rfl;generalize (N.map jc).take k=q at *;simp(disch:=omega)only[go_sem,hx,hp,hg];refine .of (by omega) ?_ trivial;rw[v7,<- ht];rfl
 .obtain rfl:k=N.length:=by omega
  have e:(N.map jc).take N.length=N.map jc:=List.take_of_length_le (by simp);rw[e];simp(disch:=omega)only[go_sem,hc0]
noncomputable def eS (T:List aB):Int:=if er T≠0 then er T else if (tO T).all id=true then 0 else 10
theorem uk (l:List Bool):(l.all λx=>!!x)=l.all id:=by
 congr 1;funext x;simp
theorem r439 (u:Nat)(T:List aB)(hl:T.length<=2147483648)(ho:∀t∈T,t.ok)(hs:∀t∈T,t.short):res A ay 439 [.agg [.ae u (T.map aB.c)]]=some [.int .i64 (eS T)]:=by
 have h464:=r464 u T hl ho hs;refine ai a439 rfl rfl ?_;simp only[F439,Ph];simp(disch:=omega)only[go_sem,h464];unfold eS Gj;refine Br.aF (λc=>?_) (λc=>?_)<;>simp(disch:=omega)only[go_sem,c]
 rotate_left
 .rw[if_pos c]
 rw[if_neg (by simp[c]),if_neg (by simp[c])];have hfl:(tO T).length=T.length:=by unfold tO;rw[aam,lG]
 have h32:=(bB (gl c).1).len;generalize tO T=N at *;refine W.find N (λx=>!x) (λk=>⟨[(15,.pv (.ae 0 (bF N))),(16,.pv (.int .i64 N.length)),(17,.pv (.int .i64 k))],⟨[],[],[]⟩⟩) rfl (λk x hx hk hfd=>?_) (λhn=>?_)
 .simp(disch:=omega)only[go_sem];refine Br.aF (λc=>?_) (λc=>(c (by omega)).elim);simp(disch:=omega)only[go_sem,hx];cases x
  .have:=(hfd rfl).all
   rw[uk]at this;simp(disch:=omega)only[go_sem];rw[this,if_neg (by decide)]
  .simp(disch:=omega)only[go_sem];exact aX.of rfl rfl
 .have:=hn.all
  rw[uk]at this;simp(disch:=omega)only[go_sem];rw[this,if_pos rfl]
theorem r435 (u:Nat)(T:List aB)(hl:T.length<=2147483648)(ho:∀t∈T,t.ok)(hs:∀t∈T,t.short):res A ay 435 [.agg [.ae u (T.map aB.c)]]=some [.int .i64 (eS T)]:=by
 have h461:=r461 u T hl ho hs;refine ai a435 rfl rfl ?_;simp only[F435,Pd];simp(disch:=omega)only[go_sem,h461];unfold eS Gj;refine Br.aF (λc=>?_) (λc=>?_)<;>simp(disch:=omega)only[go_sem,c]
 rotate_left
 .rw[if_pos c]
 rw[if_neg (by simp[c]),if_neg (by simp[c])];have hfl:(tO T).length=T.length:=by unfold tO;rw[aam,lG]
 have h32:=(bB (gl c).1).len;generalize tO T=N at *;refine W.find N (λx=>!x) (λk=>⟨[(3,.pv (.ae 0 (bF N))),(5,.pv (.int .i64 k))],⟨[],[],[]⟩⟩) rfl (λk x hx hk hfd=>?_) (λhn=>?_)
 .simp(disch:=omega)only[go_sem];refine Br.aF (λc=>?_) (λc=>(c (by omega)).elim);simp(disch:=omega)only[go_sem,hx];cases x
  .have:=(hfd rfl).all
   rw[uk]at this;simp(disch:=omega)only[go_sem];rw[this,if_neg (by decide)]
  .simp(disch:=omega)only[go_sem];exact aX.of rfl rfl
 .have:=hn.all
  rw[uk]at this;simp(disch:=omega)only[go_sem];rw[this,if_pos rfl]
end Go.Pv
