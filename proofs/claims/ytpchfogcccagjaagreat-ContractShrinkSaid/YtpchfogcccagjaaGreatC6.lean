/-
 What the functions of the law give.
-/
import Derived.Test.YtpchfogcccagjaaGreatC5
set_option linter.unusedSimpArgs false
set_option linter.unusedVariables false
open List renaming getElem?_eq_some_iff → Vy, mem_of_getElem? → Vz, getElem?_eq_getElem → VA, length_map → VB, getElem?_append_left → VC, mem_iff_getElem? → VD, length_append → VE, getElem?_map → VF, length_take → VH, eq_nil_of_length_eq_zero → VJ, getD_eq_getElem?_getD → VK, getElem?_take → VN, append_assoc → VO, mem_map → VP, take_of_length_le → VS, take_add_one → VT, getElem?_set_ne → VX, getElem?_set_self → VY, length_range → V7, findIdx?_eq_some_iff_getElem → Wd, ext_getElem? → Wi, map_append → Wk, any_eq_false → Wt, getElem_mem → Ww, foldl_cons → Wy, mem_range → WA, length_replicate → WI, any_map → WJ, pairwise_singleton → WQ, mem_singleton → WU, any_eq_true → W4, find?_eq_none → Xc, find?_some → Xd, length_filter_le → Xk
open Nat renaming lt_or_ge → VG, le_refl → VI, eq_zero_or_pos → Wu
open Bool renaming eq_iff_iff → Wp
open Int renaming toNat_natCast → Ws, eq_ofNat_of_zero_le → W1, emod_nonneg → Xr
namespace Go.Pv
theorem E6 {a b:Edge} (h1:a.fr=b.fr) (h2:a.send=b.send) (h3:a.label=b.label) (h4:a.to=b.to):a=b:=by
 cases a; cases b; simp_all
theorem E7 (a b:Edge):(decide (a.fr=b.fr)&&(decide (a.send=b.send)&&(decide (a.label=b.label)&&decide (a.to=b.to))))=decide (a=b):=by
 by_cases h:a=b
 .subst h; simp
 .have:¬(a.fr=b.fr/\a.send=b.send/\a.label=b.label/\a.to=b.to):=fun⟨h1,h2,h3,h4⟩=>h (E6 h1 h2 h3 h4)
  simp only[h,decide_false,Bool.and_eq_false_iff,decide_eq_false_iff_not]
  by_cases h1:a.fr=b.fr<;>by_cases h2:a.send=b.send<;>by_cases h3:a.label=b.label<;>by_cases h4:a.to=b.to<;>simp_all
set_option maxHeartbeats 1000000 in
@[go_sem] theorem r15 (t u:Nat) (a b:bj) (ha:a.aw.length<=2^63 - 1) (hb:b.aw.length<=2^63 - 1):res A az 15 [.agg [.int .i64 a.ay,.int .i64 a.start,.aa t (a.aw.map Edge.c)],.agg [.int .i64 b.ay,.int .i64 b.start,.aa u (b.aw.map Edge.c)]]=some [.bool (decide (a=b))]:=by
 refine ai a15 rfl rfl ?_
 simp only[F15,Tf]
 simp(disch:=omega)only[go_sem]
 refine Br.aD (fun h1=>?_) (fun h1=>?_)<;>simp(disch:=omega)only[go_sem,h1]
 case refine_2=>
  have:¬a=b:=fun e=>h1 (by rw[e])
  simp[this]
 refine Br.aD (fun h2=>?_) (fun h2=>?_)<;>simp(disch:=omega)only[go_sem,h2]
 case refine_2=>
  have:¬a=b:=fun e=>h2 (by rw[e])
  simp[this]
 refine Br.aD (fun h3=>?_) (fun h3=>?_)<;>simp(disch:=omega)only[go_sem,h3]
 case refine_2=>
  have:¬a=b:=fun e=>h3 (by rw[e])
  simp[this]
 refine W.cD a.aw.length (fun k=>⟨[(2,.ptr 2 0),(3,.ptr 3 0),(5,.pv (.int .i64 k))],⟨[(2,[.pv (.int .i64 b.ay),.pv (.int .i64 b.start),.pv (.aa t (a.aw.map Edge.c))]),(3,[.pv (.int .i64 b.ay),.pv (.int .i64 b.start),.pv (.aa u (b.aw.map Edge.c))])],[],[]⟩⟩) (fun k=>a.aw.take k=b.aw.take k) rfl rfl fun k hk hi=>?_
 simp(disch:=omega)only[go_sem]
 refine Br.aD (fun g=>?_) (fun g=>?_)
 .obtain⟨x,hx⟩:=get_at (l:=a.aw) (k:=k) (by omega)
  obtain⟨y,hy⟩:=get_at (l:=b.aw) (k:=k) (by omega)
  simp(disch:=omega)only[go_sem,hx,hy,E7]
  refine Br.aD (fun f=>?_) (fun f=>?_)<;>simp(disch:=omega)only[go_sem,f]
  .exact .of (by omega) rfl (C9 hx hy hi f)
  .have:¬a=b:=fun e=>f (by rw[e,hy]at hx; exact(Option.some.inj hx).symm)
   simp[this]
 .simp(disch:=omega)only[go_sem]
  have h4:=Da (k:=k) (by omega) (by omega) hi
  have:a=b:=by cases a; cases b; simp_all
  simp[this]
@[go_sem] theorem r39e (t:Nat) (n s0:Int) (l:List Edge) (s:Int) (d:Bool) (x:Int) (hl:l.length<=2^63 - 1):
  res A az 39 [.agg [.int .i64 n,.int .i64 s0,.aa t (cB l)],.int .i64 s,.bool d,.int .i64 x]=some [.int .i64 ((dU s d x l).getD 0),.bool (dU s d x l).isSome]:=r39 t ⟨n,s0,l⟩ s d x hl
structure xh where
 fr:Int
 act:Int
 to:Int
 deriving DecidableEq,Inhabited
structure eO where
 n:Int
 im:List xh
 deriving DecidableEq,Inhabited
def xh.c (x:xh):List PV:=[.int .u8 x.fr,.int .u8 x.act,.int .u8 x.to]
def xh.ok (x:xh):Prop:=(0<=x.fr/\x.fr<=255)/\(0<=x.act/\x.act<=255)/\(0<=x.to/\x.to<=255)
def eO.ok (d:eO):Prop:=(0<=d.n/\d.n<=255)/\d.im.length<=2^63 - 1/\∀x∈d.im,x.ok
def xh.rE (st:Int) (x:xh):Edge:=⟨x.fr%st,decide (x.act%2=1),1+x.act/2%3,x.to%st⟩
def qz (es:List Edge) (e:Edge):List Edge:=if (dU e.fr e.send e.label es).isSome=true then es else es++[e]
def eO.raw (d:eO):List Edge:=(d.im.take 12).foldl (fun es x=>qz es (x.rE (1+d.n%4))) []
def eO.auto (d:eO):bj:=⟨1+d.n%4,0,mn Edge.lt d.raw⟩
theorem tT {s:Int} {d:Bool} {x:Int}:∀{es:List Edge},(dU s d x es).isSome=false↔∀e∈es,¬(e.fr=s/\e.send=d/\e.label=x)
 |[]=>by simp[dU]
 |e::r=>by
  unfold dU
  split
  .rename_i h
   simp[h]
  .rename_i h
   rw[tT]
   simp only[List.mem_cons]
   exact⟨fun hh y hy=>hy.elim (fun e=>e ▸ h) (hh y),fun hh y hy=>hh y (.inr hy)⟩
theorem E8 {es:List Edge} {e:Edge} (h:es.Pairwise (qZ Edge.lt)):(qz es e).Pairwise (qZ Edge.lt):=by
 unfold qz
 split
 .exact h
 .rename_i hn
  have hn':=tT.1 (by simpa using hn)
  rw[List.pairwise_append]
  refine⟨h,WQ _ _,fun a ha b hb=>?_⟩
  rw[WU]at hb
  subst hb
  rw[Edge.B1]
  exact hn' a ha
theorem zq (es:List Edge) (e:Edge):(qz es e).length<=es.length+1:=by
 unfold qz
 split<;>simp
theorem E9 {es:List Edge} {e x:Edge} (h:x∈qz es e):x∈es\/x=e:=by
 unfold qz at h
 split at h
 .exact .inl h
 .simpa using h
theorem zr {st:Int} (hs:1<=st/\st<=4):∀(l:List xh) (es:List Edge),(∀x∈l,x.ok)->es.Pairwise (qZ Edge.lt)->(∀e∈es,e.fits st=true)->
  (l.foldl (fun es x=>qz es (x.rE st)) es).Pairwise (qZ Edge.lt)/\(∀e∈l.foldl (fun es x=>qz es (x.rE st)) es,e.fits st=true)/\(l.foldl (fun es x=>qz es (x.rE st)) es).length<=es.length+l.length
 |[],es,_,h1,h2=>⟨h1,h2,by simp⟩
 |x::l,es,hx,h1,h2=>by
  have hxo:=hx x (by simp)
  have hf:(x.rE st).fits st=true:=by
   rw[ji]
   have a1:=Xr x.fr (b:=st) (by omega)
   have a2:=Int.emod_lt_of_pos x.fr (b:=st) (by omega)
   have a3:=Xr x.to (b:=st) (by omega)
   have a4:=Int.emod_lt_of_pos x.to (b:=st) (by omega)
   simp only[xh.rE]
   omega
  obtain⟨g1,g2,g3⟩:=zr hs l (qz es (x.rE st)) (fun y hy=>hx y (by simp[hy])) (E8 h1) fun e he=>by
   rcases E9 he with h|h
   .exact h2 e h
   .exact h ▸ hf
  have:=zq es (x.rE st)
  exact⟨g1,g2,by simp only[List.foldl_cons,List.length_cons]; omega⟩
theorem eO.st {d:eO}:1<=1+d.n%4/\1+d.n%4<=4:=by omega
theorem eO.xi {d:eO} (h:d.ok):d.raw.Pairwise (qZ Edge.lt)/\(∀e∈d.raw,e.fits (1+d.n%4)=true)/\d.raw.length<=12:=by
 obtain⟨h1,h2,h3⟩:=zr d.st (d.im.take 12) [] (fun x hx=>h.2.2 x (List.mem_of_mem_take hx)) List.Pairwise.nil (fun e he=>absurd he (by simp))
 refine⟨h1,h2,?_⟩
 have:(d.im.take 12).length<=12:=by simp; omega
 simp only[List.length_nil]at h3
 unfold eO.raw
 omega
theorem eO.len {d:eO} (h:d.ok):d.auto.aw.length<=12:=by
 have:=(n9 Edge.lt d.raw).length_eq
 have:=d.xi h
 show (mn Edge.lt d.raw).length<=12
 omega
theorem eO.F4 {d:eO} (h:d.ok) {s:Int} (hs:0<=s/\s<1+d.n%4):(⟨1+d.n%4,s,d.auto.aw⟩:bj).Good where
 st:=hs
 mx:=by
  have:=d.st
  show 1+d.n%4<=12
  omega
 len:=by
  have:=d.len h
  show d.auto.aw.length<=100
  omega
 fit e he:=(d.xi h).2.1 e ((n9 Edge.lt d.raw).subset he)
 SG:=pq Edge.zm (d.xi h).1
@[go_sem] theorem G1 {k:IntKind} {a b:Int} (ha:0<=a) (hb:0<b):cN .rem (.pv (.int k a)) (.pv (.int k b))=some (.pv (.int k (a%b))):=by
 rw[yC (by omega),Int.tmod_eq_emod_of_nonneg ha]
@[go_sem] theorem HX {a b:Int} (ha:0<=a) (hb:0<b) (h2:a<=255):cN .quo (.pv (.int .u8 a)) (.pv (.int .u8 b))=some (.pv (.int .u8 (a/b))):=by
 rw[yB (by omega),Int.tdiv_eq_ediv_of_nonneg ha,wrap_u8]
 .exact Int.ediv_nonneg ha (by omega)
 .exact Int.le_trans (Int.ediv_le_self b ha) h2
attribute [go_sem] wrap_u8
set_option maxHeartbeats 2000000 in
@[go_sem] theorem r25 (t:Nat) (d:eO) (hd:d.ok):res A az 25 [.agg [.int .u8 d.n,.aa t (d.im.map xh.c)]]=some [.agg [.int .i64 (1+d.n%4),.int .i64 0,.aa 0 (cB d.auto.aw)],.bool (decide ((d.im.length:Int)<=12))]:=by
 refine ai a25 rfl rfl ?_
 simp only[F25,Tg]
 obtain⟨d1,d2,d3⟩:=hd
 have hst:=d.st
 simp(disch:=omega)only[go_sem]
 refine W.fold (d.im.take 12) (fun es x=>qz es (x.rE (1+d.n%4))) [] (fun k o=>⟨[(1,.ptr 1 0),(2,.ptr 2 0),(4,.ptr 4 0),(5,.pv (.int .i64 k))],⟨[(1,[.pv (.int .u8 d.n),.pv (.aa t (d.im.map xh.c))]),(2,[.pv (.int .i64 0),.pv (.int .i64 0),.tl []]),(4,[.pv (.int .i64 (1+d.n%4)),.pv (.int .i64 0),cY 0 (cB o)])],cm 4 (cB o),[]⟩⟩) (fun k o=>o.length<=k) rfl (by simp) (fun k x o hx hk _ hi=>?_) (fun o ho hi=>?_)
 .have hk2:k<d.im.length/\k<12:=by simp at hk; omega
  have hx':d.im[k]?=some x:=by rw[VN,if_pos hk2.2]at hx; exact hx
  have hxo:=d3 x (Vz hx')
  unfold xh.ok at hxo
  have q1:(k:Int)<(d.im.length:Int):=by omega
  have q2:(k:Int)<12:=by omega
  have al:=zq o (x.rE (1+d.n%4))
  have a1:=Xr x.fr (b:=1+d.n%4) (by omega)
  have a2:=Xr x.to (b:=1+d.n%4) (by omega)
  simp(disch:=omega)only[go_sem,hx',q1,q2,xh.c]
  have ha:qz o (x.rE (1+d.n%4))=if (dU (x.fr%(1+d.n%4)) (decide (x.act%2=1)) (1+x.act/2%3) o).isSome=true then o else o++[x.rE (1+d.n%4)]:=rfl
  refine Br.of (fun g=>?_) (fun g=>?_)<;>simp(disch:=omega)only[go_sem,g]
  .refine cI.of ?_ (by omega)
   show _=St.mk _ _
   rw[ha,if_pos g]
   rfl
  .refine cI.of ?_ (by omega)
   show _=St.mk _ _
   rw[ha,if_neg (by simp[g])]
   rfl
 .have hr:o=d.raw:=ho
  have hro:=d.xi ⟨d1,d2,d3⟩
  have hlen:=d.len ⟨d1,d2,d3⟩
  rcases VG d.im.length 12 with hc|hc
  .have e1:(d.im.take 12).length=d.im.length:=by simp; omega
   rw[e1]
   have q1:¬((d.im.length:Int)<(d.im.length:Int)):=by omega
   subst hr
   simp(disch:=omega)only[go_sem,q1]
   rfl
  .have e1:(d.im.take 12).length=12:=by simp; omega
   rw[e1]
   subst hr
   simp(disch:=omega)only[go_sem]
   have q3:¬(((12:Nat):Int)<12):=by omega
   refine Br.aD (fun g=>?_) (fun g=>?_)<;>simp(disch:=omega)only[go_sem,g,q3]<;>rfl
theorem vU (es:List Edge) (v:Int):∀o:List Int,es.foldl (fun o e=>if e.fr=v then dN o e.to else o) o=wX o (outs es v):=by
 induction es with
 |nil=>intro o; rfl
 |cons e es ih=>
  intro o
  rw[Wy,ih]
  by_cases h:e.fr=v
  .rw[if_pos h]
   simp[outs,h,mK]
  .rw[if_neg h]
   simp[outs,h]
theorem pI {n b:Nat} {o:List Int} {x:Int} (h:b<=o.length):mI n b (ints (o++[x]))=.own n (o.length - b) 0 (o.length+1):=by
 rw[<- gr,yP (by rw[aH]; exact h),aH]
theorem pJ {b:Nat} {o:List Int} {x:Int} (h:b<=o.length):tf 1 b (ints (o++[x]))=[⟨o.length - b,1,.inl (ints (o++[x]))⟩]:=by
 rw[<- gr,yQ (by rw[aH]; exact h),aH]
theorem cz (l:List Int):(ints l).length=l.length:=aH l
set_option maxHeartbeats 4000000 in
@[go_sem] theorem r52 (t:Nat) (a:bj) (hg:a.Good):
  res A az 52 [.agg [.int .i64 a.ay,.int .i64 a.start,.aa t (a.aw.map Edge.c)]]=some [.aa 0 (ints a.order)]:=by
 refine ai a52 rfl rfl ?_
 simp only[F52,Tv]
 obtain⟨g1,g2,g3,g4,g5⟩:=hg
 have hg:a.Good:=⟨g1,g2,g3,g4,g5⟩
 simp(disch:=omega)only[go_sem]
 refine W.loop (α:=Nat×List Int) (fun x=>⟨[(1,.ptr 1 0),(3,mI 0 1 (ints x.2)),(4,.pv (.int .i64 x.1))],⟨[(1,[.pv (.int .i64 a.ay),.pv (.int .i64 a.start),.pv (.aa t (a.aw.map Edge.c))])],tf 1 1 (ints x.2),[]⟩⟩)
  (fun x=>x.2.Nodup/\(∀v∈x.2,a.inr v)/\1<=x.2.length/\x.1<=x.2.length/\tw (outs a.aw) (a.ay.toNat - x.1) x.1 x.2=a.order) (fun x=>a.ay.toNat - x.1) (0,[a.start]) rfl ⟨by simp,fun w hw=>(List.mem_singleton.1 hw) ▸ hg.st,by simp,by simp,rfl⟩ fun x hx=>?_
 obtain⟨i,o⟩:=x
 obtain⟨hd,hin,h1,h2,hb⟩:=hx
 dsimp only at hd hin h1 h2 hb
 have hlen:=a.bound o hd hin
 simp(disch:=omega)only[go_sem]
 refine Br.aD (fun h=>?_) (fun h=>?_)
 .obtain⟨v,hv⟩:=get_at (l:=o) (k:=i) (by omega)
  simp(disch:=omega)only[go_sem]
  refine W.fold a.aw (fun o e=>if e.fr=v then dN o e.to else o) o (fun k o=>⟨[(1,.ptr 1 0),(3,mI 0 1 (ints o)),(4,.pv (.int .i64 i)),(5,.pv (.int .i64 k))],⟨[(1,[.pv (.int .i64 a.ay),.pv (.int .i64 a.start),.pv (.aa t (a.aw.map Edge.c))])],tf 1 1 (ints o),[]⟩⟩)
   (fun _ o=>o.Nodup/\(∀v∈o,a.inr v)/\1<=o.length/\o[i]?=some v) rfl ⟨hd,hin,h1,hv⟩ (fun k e o he hk _ hi=>?_) (fun o ho hi=>?_)
  .obtain⟨hd,hin,h1,hv⟩:=hi
   have hlen:=a.bound o hd hin
   have hef:=ji.1 (g4 e (Vz he))
   have hto:a.inr e.to:=⟨hef.2.2.1,hef.2.2.2.1⟩
   have hI:(if e.fr=v then dN o e.to else o).Nodup/\(∀w∈(if e.fr=v then dN o e.to else o),a.inr w)/\1<=(if e.fr=v then dN o e.to else o).length/\(if e.fr=v then dN o e.to else o)[i]?=some v:=by
    split
    .obtain⟨r,hr⟩:=me o e.to
     have hil:=(Vy.1 hv).1
     refine⟨jq hd,fun x hx=>(mc.1 hx).elim (hin x) (fun q=>q ▸ hto),by rw[<- hr,VE]; omega,by rw[<- hr,VC hil]; exact hv⟩
    .exact⟨hd,hin,h1,hv⟩
   have hstay:e.fr=v->¬px e.to o<0->(if e.fr=v then dN o e.to else o)=o:=fun h1 h2=>by rw[if_pos h1,dN,if_pos (rT.1 (by omega))]
   have hmore:e.fr=v->px e.to o<0->(if e.fr=v then dN o e.to else o)=o++[e.to]:=fun h1 h2=>by rw[if_pos h1,dN,if_neg (py.1 h2)]
   rcases gT (b:=1) (rows:=ints o)with hc|⟨m,hc⟩
   .rw[eY hc,eZ hc]
    rw[cz]at hc
    simp(disch:=omega)only[go_sem]
    refine Br.aD (fun h=>?_) (fun h=>(h (by omega)).elim)
    simp(disch:=omega)only[go_sem,he,hv]
    refine Br.aD (fun f1=>?_) (fun f1=>?_)<;>simp(disch:=omega)only[go_sem,f1]
    .refine Br.aD (fun f2=>?_) (fun f2=>?_)<;>simp(disch:=omega)only[go_sem,f2]
     .refine cI.of ?_ hI
      show _=St.mk _ _
      rw[hmore f1 f2,pI h1,pJ h1,show o.length - 1=0 by omega]
      rfl
     .refine cI.of ?_ hI
      show _=St.mk _ _
      rw[hstay f1 f2,eY (by rw[cz]; exact hc),eZ (by rw[cz]; exact hc)]
      rfl
    .refine cI.of ?_ hI
     show _=St.mk _ _
     rw[if_neg f1,eY (by rw[cz]; exact hc),eZ (by rw[cz]; exact hc)]
     rfl
   .rw[eJ hc,eK hc]
    rw[cz]at hc
    have hil:=(Vy.1 hv).1
    have ht:o.take (1+m+1)=o:=VS (by omega)
    have hi0:(0:Int)<=(i:Int):=by omega
    simp(disch:=omega)only[go_sem]
    refine Br.aD (fun h=>?_) (fun h=>(h (by omega)).elim)
    simp(disch:=omega)only[go_sem,he,hv]
    refine Br.aD (fun f1=>?_) (fun f1=>?_)<;>simp(disch:=omega)only[go_sem,f1,ht]
    .refine Br.aD (fun f2=>?_) (fun f2=>?_)<;>simp(disch:=omega)only[go_sem,f2]
     .refine cI.of ?_ hI
      show _=St.mk _ _
      rw[hmore f1 f2,pI h1,pJ h1,show o.length - 1=m+1 by omega,hc]
      rfl
     .refine cI.of ?_ hI
      show _=St.mk _ _
      rw[hstay f1 f2,eJ (by rw[cz]; exact hc),eK (by rw[cz]; exact hc)]
      rfl
    .refine cI.of ?_ hI
     show _=St.mk _ _
     rw[if_neg f1,eJ (by rw[cz]; exact hc),eK (by rw[cz]; exact hc)]
     rfl
  .rw[vU]at ho
   simp(disch:=omega)only[go_sem]
   obtain⟨hd',hin',h1',hv'⟩:=hi
   have hl':=a.bound o hd' hin'
   have hil:=(Vy.1 hv').1
   refine⟨(i+1,o),⟨hd',hin',h1',hil,?_⟩,by dsimp only; omega,rfl⟩
   dsimp only
   rw[<- hb,ho]
   obtain⟨q,hq⟩:∃q,a.ay.toNat - i=q+1:=⟨a.ay.toNat - i - 1,by omega⟩
   rw[hq,pk hv]
   congr 1
   omega
 .simp(disch:=omega)only[go_sem]
  rw[rR (by omega)]at hb
  rw[hb]
def jW (x y:Int) (n k:Nat):List Int:=List.replicate k x++List.replicate (n - k) y
theorem A3 {x y:Int} {n k:Nat} (h:k<=n):(jW x y n k).length=n:=by simp[jW]; omega
theorem zs (x y:Int) (n:Nat):jW x y n 0=List.replicate n y:=by simp[jW]
theorem A4 (x y:Int) (n:Nat):jW x y n n=List.replicate n x:=by simp[jW]
theorem zt {x y:Int} {n k:Nat} (h:k<n):(jW x y n k).set k x=jW x y n (k+1):=by
 unfold jW
 rw[List.set_append_right _ _ (by simp)]
 obtain⟨m,hm⟩:∃m,n - k=m+1:=⟨n - k - 1,by omega⟩
 have:n - (k+1)=m:=by omega
 rw[hm,this,List.replicate_succ' (n:=k),VO]
 simp[List.replicate_succ]
def ic (n:Nat) (o:List Int):List Int:=(List.range n).map fun(v:Nat)=>px (v:Int) o
theorem fp (n:Nat) (o:List Int):(ic n o).length=n:=by simp[ic]
theorem gB {n:Nat} {o:List Int} {v:Int} (h:0<=v/\v<n):(ic n o)[v.toNat]?=some (px v o):=by
 unfold ic
 rw[VF,List.getElem?_range (by omega)]
 simp only[Option.map_some]
 rw[show ((v.toNat:Nat):Int)=v by omega]
theorem rf {x y:Int}:∀{l:List Int} {k:Nat},x∉l->eS y k (l++[x])=if y∈l then eS y k l else if y=x then ((k+l.length:Nat):Int) else -1
 |[],k,_=>by
  simp only[List.nil_append,eS,List.not_mem_nil,if_false,List.length_nil,Nat.add_zero]
  by_cases h:x=y
  .simp[h]
  .have:¬y=x:=fun e=>h e.symm
   simp[h,this]
 |z::l,k,hx=>by
  simp only[List.mem_cons,not_or]at hx
  simp only[List.cons_append,eS]
  by_cases h:z=y
  .simp[h]
  .have hz:¬y=z:=fun e=>h e.symm
   rw[if_neg h,rf hx.2]
   simp only[List.mem_cons,hz,false_or,List.length_cons]
   split
   .rfl
   .split
    .congr 1
     omega
    .rfl
theorem Fa {x y:Int} {l:List Int} (hx:x∉l):px y (l++[x])=if y∈l then px y l else if y=x then (l.length:Int) else -1:=by
 unfold px
 rw[rf hx]
 simp
theorem Fb {x:Int} {l:List Int} (h:x∉l):px x l= -1:=by
 have:∀{l:List Int} {k:Nat},x∉l->eS x k l= -1:=by
  intro l
  induction l with
  |nil=>intro k _; rfl
  |cons y l ih=>
   intro k h
   simp only[List.mem_cons,not_or]at h
   unfold eS
   rw[if_neg (fun e=>h.1 e.symm),ih h.2]
 exact this h
theorem mw {n:Nat} {o:List Int} {x:Int} (hx:x∉o) (h:0<=x/\x<n):(ic n o).set x.toNat (o.length:Int)=ic n (o++[x]):=by
 apply Wi
 intro i
 rcases VG i n with hi|hi
 .have e1:=gB (n:=n) (o:=o++[x]) (v:=(i:Int)) (by omega)
  rw[Ws]at e1
  rw[e1,Fa hx]
  by_cases hix:x.toNat=i
  .have:(i:Int)=x:=by omega
   rw[hix,VY (by rw[fp]; exact hi),if_neg (by rw[this]; exact hx),if_pos this]
  .have hne:¬(i:Int)=x:=by omega
   have e2:=gB (n:=n) (o:=o) (v:=(i:Int)) (by omega)
   rw[Ws]at e2
   rw[VX hix,e2]
   split
   .rfl
   .rename_i hno
    first
     |rw[Fb hno]
     |rw[if_neg hne,Fb hno]
 .rw[List.getElem?_eq_none (by simp[fp,hi]),List.getElem?_eq_none (by simp[fp,hi])]
theorem A5 (n:Nat):ic n []=List.replicate n (-1):=by
 apply Wi
 intro i
 rcases VG i n with hi|hi
 .have e1:=gB (n:=n) (o:=[]) (v:=(i:Int)) (by omega)
  rw[Ws]at e1
  rw[e1]
  simp[hi]
  rfl
 .rw[List.getElem?_eq_none (by simp[fp,hi]),List.getElem?_eq_none (by simp[hi])]
set_option maxHeartbeats 4000000 in
@[go_sem] theorem r50 (t:Nat) (a:bj) (hg:a.Good):
  res A az 50 [.agg [.int .i64 a.ay,.int .i64 a.start,.aa t (a.aw.map Edge.c)]]=some [.aa 0 (ints a.order),.aa 0 (ints (ic a.ay.toNat a.order))]:=by
 refine ai a50 rfl rfl ?_
 simp only[F50,Tu]
 obtain⟨g1,g2,g3,g4,g5⟩:=hg
 have hg:a.Good:=⟨g1,g2,g3,g4,g5⟩
 simp(disch:=omega)only[go_sem]
 refine W.cD a.ay.toNat (fun k=>⟨[(1,.ptr 1 0),(4,.own 0 0 0 a.ay.toNat),(14,.pv (.int .i64 a.ay.toNat)),(15,.pv (.int .i64 k))],⟨[(1,[.pv (.int .i64 a.ay),.pv (.int .i64 a.start),.pv (.aa t (a.aw.map Edge.c))])],[⟨0,1,.inl (ints (jW (-1) 0 a.ay.toNat k))⟩],[]⟩⟩) (fun _=>True) (by rw[zs]; rfl) trivial fun k hk _=>?_
 simp(disch:=omega)only[go_sem]
 refine Br.aD (fun h=>?_) (fun h=>?_)
 .have ho:=A3 (x:= -1) (y:=0) (n:=a.ay.toNat) (k:=k) (by omega)
  simp(disch:=omega)only[go_sem,zt (show k<a.ay.toNat by omega)]
  exact .of (by omega) rfl trivial
 obtain rfl:k=a.ay.toNat:=by omega
 clear h hk
 have hn:(List.replicate a.ay.toNat (-1:Int)).length=a.ay.toNat:=WI
 have hp0:=mw (n:=a.ay.toNat) (o:=[]) (x:=a.start) (by simp) (by omega)
 rw[A5]at hp0
 simp only[List.length_nil,List.nil_append]at hp0
 have hp0':(List.replicate a.ay.toNat (-1:Int)).set a.start.toNat 0=ic a.ay.toNat [a.start]:=hp0
 simp(disch:=omega)only[go_sem,A4,hp0']
 refine W.loop (α:=Nat×List Int) (fun x=>⟨[(1,.ptr 1 0),(4,.own 0 0 0 a.ay.toNat),(6,mI 1 1 (ints x.2)),(7,.pv (.int .i64 x.1))],⟨[(1,[.pv (.int .i64 a.ay),.pv (.int .i64 a.start),.pv (.aa t (a.aw.map Edge.c))])],⟨0,1,.inl (ints (ic a.ay.toNat x.2))⟩::tf 1 1 (ints x.2),[]⟩⟩)
  (fun x=>x.2.Nodup/\(∀v∈x.2,a.inr v)/\1<=x.2.length/\x.1<=x.2.length/\tw (outs a.aw) (a.ay.toNat - x.1) x.1 x.2=a.order) (fun x=>a.ay.toNat - x.1) (0,[a.start]) rfl ⟨by simp,fun w hw=>(List.mem_singleton.1 hw) ▸ hg.st,by simp,by simp,rfl⟩ fun x hx=>?_
 obtain⟨i,o⟩:=x
 obtain⟨hd,hin,h1,h2,hb⟩:=hx
 dsimp only at hd hin h1 h2 hb
 have hlen:=a.bound o hd hin
 simp(disch:=omega)only[go_sem]
 refine Br.aD (fun h=>?_) (fun h=>?_)
 .obtain⟨v,hv⟩:=get_at (l:=o) (k:=i) (by omega)
  simp(disch:=omega)only[go_sem]
  refine W.fold a.aw (fun o e=>if e.fr=v then dN o e.to else o) o (fun k o=>⟨[(1,.ptr 1 0),(4,.own 0 0 0 a.ay.toNat),(6,mI 1 1 (ints o)),(7,.pv (.int .i64 i)),(36,.pv (.aa t (a.aw.map Edge.c))),(37,.pv (.int .i64 a.aw.length)),(38,.pv (.int .i64 k))],⟨[(1,[.pv (.int .i64 a.ay),.pv (.int .i64 a.start),.pv (.aa t (a.aw.map Edge.c))])],⟨0,1,.inl (ints (ic a.ay.toNat o))⟩::tf 1 1 (ints o),[]⟩⟩)
   (fun _ o=>o.Nodup/\(∀v∈o,a.inr v)/\1<=o.length/\o[i]?=some v) rfl ⟨hd,hin,h1,hv⟩ (fun k e o he hk _ hi=>?_) (fun o ho hi=>?_)
  .obtain⟨hd,hin,h1,hv⟩:=hi
   have hlen:=a.bound o hd hin
   have hef:=ji.1 (g4 e (Vz he))
   have hto:a.inr e.to:=⟨hef.2.2.1,hef.2.2.2.1⟩
   have hI:(if e.fr=v then dN o e.to else o).Nodup/\(∀w∈(if e.fr=v then dN o e.to else o),a.inr w)/\1<=(if e.fr=v then dN o e.to else o).length/\(if e.fr=v then dN o e.to else o)[i]?=some v:=by
    split
    .obtain⟨r,hr⟩:=me o e.to
     have hil:=(Vy.1 hv).1
     refine⟨jq hd,fun x hx=>(mc.1 hx).elim (hin x) (fun q=>q ▸ hto),by rw[<- hr,VE]; omega,by rw[<- hr,VC hil]; exact hv⟩
    .exact⟨hd,hin,h1,hv⟩
   have hstay:e.fr=v->¬px e.to o<0->(if e.fr=v then dN o e.to else o)=o:=fun h1 h2=>by rw[if_pos h1,dN,if_pos (rT.1 (by omega))]
   have hmore:e.fr=v->px e.to o<0->(if e.fr=v then dN o e.to else o)=o++[e.to]:=fun h1 h2=>by rw[if_pos h1,dN,if_neg (py.1 h2)]
   have hpl:=fp a.ay.toNat o
   have hpg:=gB (n:=a.ay.toNat) (o:=o) (v:=e.to) (by omega)
   rcases gT (b:=1) (rows:=ints o)with hc|⟨m,hc⟩
   .rw[eY hc,eZ hc]
    rw[cz]at hc
    simp(disch:=omega)only[go_sem]
    refine Br.aD (fun h=>?_) (fun h=>(h (by omega)).elim)
    simp(disch:=omega)only[go_sem,he,hv]
    refine Br.aD (fun f1=>?_) (fun f1=>?_)<;>simp(disch:=omega)only[go_sem,f1,hpg]
    .refine Br.aD (fun f2=>?_) (fun f2=>?_)<;>simp(disch:=omega)only[go_sem,f2]
     .refine cI.of ?_ hI
      show _=St.mk _ _
      rw[hmore f1 f2,pI h1,pJ h1,show o.length - 1=0 by omega,<- mw (py.1 f2) (by omega)]
      rfl
     .refine cI.of ?_ hI
      show _=St.mk _ _
      rw[hstay f1 f2,eY (by rw[cz]; exact hc),eZ (by rw[cz]; exact hc)]
      rfl
    .refine cI.of ?_ hI
     show _=St.mk _ _
     rw[if_neg f1,eY (by rw[cz]; exact hc),eZ (by rw[cz]; exact hc)]
     rfl
   .rw[eJ hc,eK hc]
    rw[cz]at hc
    have hil:=(Vy.1 hv).1
    have ht:o.take (1+m+1)=o:=VS (by omega)
    have hi0:(0:Int)<=(i:Int):=by omega
    simp(disch:=omega)only[go_sem]
    refine Br.aD (fun h=>?_) (fun h=>(h (by omega)).elim)
    simp(disch:=omega)only[go_sem,he,hv]
    refine Br.aD (fun f1=>?_) (fun f1=>?_)<;>simp(disch:=omega)only[go_sem,f1,hpg]
    .refine Br.aD (fun f2=>?_) (fun f2=>?_)<;>simp(disch:=omega)only[go_sem,f2]
     .refine cI.of ?_ hI
      show _=St.mk _ _
      rw[hmore f1 f2,pI h1,pJ h1,<- mw (py.1 f2) (by omega),show o.length - 1=m+1 by omega,hc]
      rfl
     .refine cI.of ?_ hI
      show _=St.mk _ _
      rw[hstay f1 f2,eJ (by rw[cz]; exact hc),eK (by rw[cz]; exact hc)]
      rfl
    .refine cI.of ?_ hI
     show _=St.mk _ _
     rw[if_neg f1,eJ (by rw[cz]; exact hc),eK (by rw[cz]; exact hc)]
     rfl
  .rw[vU]at ho
   simp(disch:=omega)only[go_sem]
   obtain⟨hd',hin',h1',hv'⟩:=hi
   have hl':=a.bound o hd' hin'
   have hil:=(Vy.1 hv').1
   refine⟨(i+1,o),⟨hd',hin',h1',hil,?_⟩,by dsimp only; omega,rfl⟩
   dsimp only
   rw[<- hb,ho]
   obtain⟨q,hq⟩:∃q,a.ay.toNat - i=q+1:=⟨a.ay.toNat - i - 1,by omega⟩
   rw[hq,pk hv]
   congr 1
   omega
 .simp(disch:=omega)only[go_sem]
  rw[rR (by omega)]at hb
  rw[hb,VS (by rw[fp]; exact VI _)]
theorem vV (o:List Int) (es:List Edge):es.foldl (fun r e=>if 0<=px e.fr o then r++[e.LQ o] else r) []=kept o es:=by
 have h:=fold_filter (fun e:Edge=>decide (e.fr∈o)) (Edge.LQ o) es []
 rw[List.nil_append]at h
 rw[<- show _=kept o es from h]
 congr 1
 funext r e
 by_cases hc:e.fr∈o
 .simp[hc,rT]
 .simp[hc,rT]
theorem zu (o:List Int) (es:List Edge):(kept o es).length<=es.length:=by
 unfold kept
 rw[VB]
 exact Xk _ _
set_option maxHeartbeats 2000000 in
@[go_sem] theorem r33 (t:Nat) (a:bj) (hl:a.aw.length<=2000000000):
  res A az 33 [.agg [.int .i64 a.ay,.int .i64 a.start,.aa t (a.aw.map Edge.c)]]=some (if a.err=0 then [.agg [.int .i64 a.order.length,.int .i64 0,.aa 0 (cB (mn Edge.lt (kept a.order a.aw)))],.int .i64 0] else [.agg [.int .i64 0,.int .i64 0,.aa 0 []],.int .i64 a.err]):=by
 refine ai a33 rfl rfl ?_
 simp only[F33,Tl]
 simp(disch:=omega)only[go_sem]
 refine Br.aD (fun h1=>?_) (fun h1=>?_)<;>simp(disch:=omega)only[go_sem,h1]
 have hg:=bj.pG.1 h1
 have hol:=hg.pH hg.st
 have hmx:=hg.mx
 have hol':a.order.length<=12:=by unfold bj.order; omega
 have hkl:=zu a.order a.aw
 simp(disch:=omega)only[go_sem,r52 t a hg]
 refine W.fold a.aw (fun r e=>if 0<=px e.fr a.order then r++[e.LQ a.order] else r) [] (fun k r=>⟨[(1,.ptr 1 0),(2,.ptr 2 0),(5,.pv (.aa 0 (ints a.order))),(6,.ptr 6 0),(7,.pv (.int .i64 k))],⟨[(1,[.pv (.int .i64 a.ay),.pv (.int .i64 a.start),.pv (.aa t (a.aw.map Edge.c))]),(2,[.pv (.int .i64 0),.pv (.int .i64 0),.tl []]),(6,[.pv (.int .i64 a.order.length),.pv (.int .i64 0),cY 0 (cB r)])],cm 4 (cB r),[]⟩⟩) (fun k r=>r.length<=k) rfl (VI _) (fun k e r he hk _ hi=>?_) (fun r hr hi=>?_)
 .simp(disch:=omega)only[go_sem]
  refine Br.aD (fun h=>?_) (fun h=>(h (by omega)).elim)
  simp(disch:=omega)only[go_sem,he]
  refine Br.aD (fun f=>?_) (fun f=>?_)<;>simp(disch:=omega)only[go_sem,f]
  .refine cI.of ?_ (by rw[if_pos f]; simp; omega)
   show _=St.mk _ _
   rw[if_pos f]
   rfl
  .refine cI.of ?_ (by rw[if_neg f]; omega)
   show _=St.mk _ _
   rw[if_neg f]
   rfl
 .rw[vV]at hr
  subst hr
  simp(disch:=omega)only[go_sem]
  rw[if_pos h1]
def Db (l:List Edge):Tn:=if l.length=0 then {} else { ar:=some (0,⟨l.length - 1,4,.inl (cB (ct Edge.lt l))⟩) }
theorem Fc {bx:List (Nat×List V)} {mp:List (List (PV×PV))} {l:List Edge} (hm:l.length<=2147483648) (hap:l.Pairwise (qZ Edge.lt)):
  j7 4 (gR Edge.c Edge.dec Edge.lt) 47 [cY 0 (cB l),.func 47 []] ⟨bx,cm 4 (cB l),mp⟩=some (.dH [],Db l):=by
 rcases Wu l.length with h|h
 .have:l=[]:=VJ h
  subst this
  simp[Db,cB,cY,j7]
 .obtain⟨m,hm'⟩:∃m,(cB l).length=m+1:=⟨l.length - 1,by rw[cb]; omega⟩
  rw[pg hm',kR hm']
  rw[cb]at hm'
  rw[A2 (l:=l) hm'.symm (by simp[aF]) (by omega) hm hap,Db,if_neg (by omega),hm']
  rfl
@[go_sem] theorem LU (bx:List (Nat×List V)) (mp:List (List (PV×PV))) (l:List Edge):(Db l).apply ⟨bx,cm 4 (cB l),mp⟩=⟨bx,cm 4 (cB (ct Edge.lt l)),mp⟩:=by
 have hp:=(bJ Edge.lt l).length_eq
 rcases Wu l.length with h|h
 .have:l=[]:=VJ h
  subst this
  simp[Db,cB,ct,Tn.apply,cm]
 .obtain⟨m,hm'⟩:∃m,(cB l).length=m+1:=⟨l.length - 1,by rw[cb]; omega⟩
  have hm2:(cB (ct Edge.lt l)).length=m+1:=by rw[cb,hp,<- cb]; exact hm'
  rw[kR hm',kR hm2]
  rw[cb]at hm'
  simp[Db,Tn.apply,hm']
theorem G2 {n:Nat} {a b:List (List PV)} (h:a.length=b.length):cY n a=cY n b:=by
 cases a<;>cases b<;>simp_all [cY]
set_option maxHeartbeats 2000000 in
@[go_sem] theorem r32 (t:Nat) (a:bj) (hl:a.aw.length<=2000000000):
  res A az 32 [.agg [.int .i64 a.ay,.int .i64 a.start,.aa t (a.aw.map Edge.c)]]=some (if a.err=0 then [.agg [.int .i64 a.trim.ay,.int .i64 0,.aa 0 (cB a.trim.aw)],.int .i64 0] else [.agg [.int .i64 0,.int .i64 0,.aa 0 []],.int .i64 a.err]):=by
 refine ai a32 rfl rfl ?_
 simp only[F32,Tj]
 simp(disch:=omega)only[go_sem]
 refine Br.aD (fun h1=>?_) (fun h1=>?_)<;>simp(disch:=omega)only[go_sem,h1]
 have hg:=bj.pG.1 h1
 have hol:=hg.pH hg.st
 have hmx:=hg.mx
 have hol':a.order.length<=12:=by unfold bj.order; omega
 have hkl:=zu a.order a.aw
 have hpl:=fp a.ay.toNat a.order
 simp(disch:=omega)only[go_sem,r50 t a hg]
 refine W.fold a.aw (fun r e=>if 0<=px e.fr a.order then r++[e.LQ a.order] else r) [] (fun k r=>⟨[(2,.ptr 2 0),(6,.pv (.aa 0 (ints (ic a.ay.toNat a.order)))),(7,.ptr 7 0),(25,.pv (.aa t (a.aw.map Edge.c))),(26,.pv (.int .i64 a.aw.length)),(27,.pv (.int .i64 k))],⟨[(2,[.pv (.int .i64 0),.pv (.int .i64 0),.tl []]),(7,[.pv (.int .i64 a.order.length),.pv (.int .i64 0),cY 0 (cB r)])],cm 4 (cB r),[]⟩⟩) (fun k r=>r.length<=k) rfl (VI _) (fun k e r he hk _ hi=>?_) (fun r hr hi=>?_)
 .have hef:=ji.1 (hg.fit e (Vz he))
  have q1:=gB (n:=a.ay.toNat) (o:=a.order) (v:=e.fr) (by omega)
  have q2:=gB (n:=a.ay.toNat) (o:=a.order) (v:=e.to) (by omega)
  obtain⟨j1,hj1⟩:=W1 hef.1
  obtain⟨j2,hj2⟩:=W1 hef.2.2.1
  simp(disch:=omega)only[go_sem]
  refine Br.aD (fun h=>?_) (fun h=>(h (by omega)).elim)
  simp(disch:=omega)only[go_sem,he,gQ,q1]
  refine Br.aD (fun f=>?_) (fun f=>?_)<;>simp(disch:=omega)only[go_sem,f,gQ,q1,q2]
  .refine cI.of ?_ (by rw[if_pos f]; simp; omega)
   show _=St.mk _ _
   rw[if_pos f]
   rfl
  .refine cI.of ?_ (by rw[if_neg f]; omega)
   show _=St.mk _ _
   rw[if_neg f]
   rfl
 .rw[vV]at hr
  subst hr
  simp(disch:=omega)only[go_sem]
  rw[Fc (by omega) (tS hg.qZ)]
  have hp:=(bJ Edge.lt (kept a.order a.aw)).length_eq
  simp(disch:=omega)only[go_sem]
  rw[G2 (show (cB (kept a.order a.aw)).length=(cB (ct Edge.lt (kept a.order a.aw))).length by rw[cb,cb,hp])]
  simp(disch:=omega)only[go_sem]
  rw[if_pos h1]
  rfl
def TU (x:Bool×Int):List PV:=[.bool x.1,.int .i64 x.2]
@[go_sem] theorem SA (x:Bool×Int):TU x=[.bool x.1,.int .i64 x.2]:=rfl
def U5 (l:List (Int×Int)):List (List PV):=l.map fun x=>[.int .i64 x.1,.int .i64 x.2]
@[go_sem] theorem SB:U5 []=[]:=rfl
def TV (ars:List aL) (x:V) (l:List Int):Prop:=
 ((x=.tl []\/x=.pv (.aa 0 []))/\l=[])\/∃id aq,x=.own (id+1) aq 0 l.length/\l≠[]/\ars[id]?=some ⟨aq,1,.inl (ints l)⟩
structure UX (n:Nat) (s:List (List Int)) (xs:List V) (ars:List aL):Prop where
 xl:xs.length=n
 sl:s.length=n
 own:∀(v:Nat) (x:V) (l:List Int),xs[v]?=some x->s[v]?=some l->TV ars x l
 Vv:∀(v w:Nat) (x y:V) (i:Nat),xs[v]?=some x->xs[w]?=some y->ga x=some i->ga y=some i->v=w
def zw (xs:List V):List (List V):=xs.map fun x=>[x]
theorem A6 (n:Nat):cn n [.tl []]=.inr (zw (List.replicate n (.tl []))):=by
 simp[cn,aA,V.bN,zw]
attribute [go_sem] A6
variable {A:Nat->Option ae} {Pr:br}
def LV {α:Type} (kt kb:List Nat) (S:α->St) (P:α->Prop) (m:α->Nat) (x:α) (Q:Ex->St->Prop) (_t:oT (kt,kb,S,P,m,x,Q):=.mk):Ex->St->Prop
 |.normal,s=>∃y,P y/\m y<m x/\s.mask kt kb=S y
 |.exit i,s=>Q (.exit i) s
 |.ret,s=>Q .ret s
@[go_sem] theorem Of {α:Type} (kt kb:List Nat) (S:α->St) (P:α->Prop) (m:α->Nat) (x:α) (Q:Ex->St->Prop) (i:Nat) (s:St):LV kt kb S P m x Q .mk (.exit i) s=Q (.exit i) s:=rfl
@[go_sem] theorem Q9 {α:Type} (kt kb:List Nat) (S:α->St) (P:α->Prop) (m:α->Nat) (x:α) (Q:Ex->St->Prop) (s:St):LV kt kb S P m x Q .mk .ret s=Q .ret s:=rfl
theorem W.Ra {α:Type} {a:AC} {kt kb:List Nat} {s:St} {Q:Ex->St->Prop} (S:α->St) (P:α->Prop) (m:α->Nat) (x0:α) (hs:s.mask kt kb=S x0) (h0:P x0) (hr:∀x,P x->W A Pr a (S x) (LV kt kb S P m x Q)):W A Pr (.loop (.mask kt kb a)) s Q:=by
 have key:∀n x s,m x<=n->s.mask kt kb=S x->P x->W A Pr (.loop (.mask kt kb a)) s Q:=by
  intro n
  induction n with
  |zero=>
   intro x s hm hs hp
   obtain⟨ex,s',h1,h2⟩:=hr x hp
   rw[<- hs]at h1
   have h1:=cp.mask h1
   cases ex with
   |normal=>obtain⟨y,_,h3,_⟩:=h2; omega
   |exit i=>exact⟨_,_,cp.gL h1 (by simp),h2⟩
   |ret=>exact⟨_,_,cp.gL h1 (by simp),h2⟩
  |succ n ih=>
   intro x s hm hs hp
   obtain⟨ex,s',h1,h2⟩:=hr x hp
   rw[<- hs]at h1
   have h1:=cp.mask h1
   cases ex with
   |normal=>
    obtain⟨y,hy,h3,h6⟩:=h2
    obtain⟨e2,s2,h4,h5⟩:=ih y s' (by omega) h6 hy
    exact⟨e2,s2,cp.vg h1 h4,h5⟩
   |exit i=>exact⟨_,_,cp.gL h1 (by simp),h2⟩
   |ret=>exact⟨_,_,cp.gL h1 (by simp),h2⟩
 exact key _ x0 s (VI _) hs h0
end Go.Pv
namespace Go.Pv
theorem vW {T:List aC} (h:GQ T) {x:aC} (hx:x∈T) {n:List Int} (hn:n.length=T.length):∀u∈bT x,0<=u/\u<n.length:=fun u hu=>by
 rw[hn]
 exact h.FM x hx u hu
theorem pK {b:Bool} {T:List aC} {n:List Int} {k:Nat} {x:aC} (h:T[k]?=some x):swp b T n (k+1)=(swp b T n k).set k (mT b x (swp b T n k)):=by
 show (match T[k]? with
  |some x=>(swp b T n k).set k (mT b x (swp b T n k))
  |none=>swp b T n k)=_
 rw[h]
set_option maxHeartbeats 2000000 in
theorem r471 (u:Nat) (T:List aC) (ho:∀t∈T,t.ok) (hs:∀t∈T,t.short) (hv:bW T=0):res A az 471 [.agg [.aa u (T.map aC.c)]]=some [.aa 0 (ints (ib false T (2*T.length+1)))]:=by
 have hS:=bS hv
 have hT:=tL ho hv
 have h32:=hS.len
 refine ai a471 rfl rfl ?_
 simp only[F471,KR]
 simp(disch:=omega)only[go_sem]
 refine W.cD (2*T.length+1) (fun r=>⟨[(1,.ptr 1 0),(3,.own 0 0 0 T.length),(4,.pv (.int .i64 r))],⟨[(1,[.pv (.aa u (T.map aC.c))])],[⟨0,1,.inl (ints (ib false T r))⟩],[]⟩⟩) (fun _=>True) rfl trivial fun r hr _=>?_
 have hl:=fU false T r
 have hll:=hl.1
 simp(disch:=omega)only[go_sem]
 refine Br.aD (fun c=>?_) (fun c=>?_)
 .have hnx:ib false T (r+1)=swp false T (ib false T r) T.length:=rfl
  generalize ib false T r=n at hl hll hnx
  simp(disch:=omega)only[go_sem]
  refine W.cD T.length (fun k=>⟨[(1,.ptr 1 0),(3,.own 0 0 0 T.length),(4,.pv (.int .i64 r)),(5,.pv (.int .i64 k))],⟨[(1,[.pv (.aa u (T.map aC.c))])],[⟨0,1,.inl (ints (swp false T n k))⟩],[]⟩⟩) (fun _=>True) rfl trivial fun k hk _=>?_
  have hw:=(hl.swp k).1
  have hwl:=hw.1
  simp(disch:=omega)only[go_sem]
  refine Br.aD (fun c=>?_) (fun c=>?_)
  .obtain⟨x,hx⟩:=get_some (l:=T) (k:=k) (by omega)
   have hxm:=Vz hx
   have hsx:=pK (b:=false) (n:=n) hx
   have h481:=fun t=>r481 x (swp false T n k) t (hT.2.2 x hxm) (hs x hxm) hw.2.1 (vW hS hxm hwl)
   generalize swp false T n k=m at *
   generalize mT false x m=q at *
   have hmt:m.take T.length=m:=VS (by omega)
   simp only[aC.c]at h481
   simp(disch:=omega)only[go_sem,hx,Option.map_some,aC.c,h481,hmt]
   refine .of (by omega) ?_ trivial
   rw[hsx]
   rfl
  .obtain rfl:k=T.length:=by omega
   simp(disch:=omega)only[go_sem]
   refine .of (by omega) ?_ trivial
   rw[hnx]
   rfl
 .obtain rfl:r=2*T.length+1:=by omega
  have hmt:(ib false T (2*T.length+1)).take T.length=ib false T (2*T.length+1):=VS (by omega)
  simp(disch:=omega)only[go_sem,hmt]
set_option maxHeartbeats 4000000 in
theorem r277 (t u:Nat) (l m:List aC) (hl:l.length<=2^63 - 1) (_hm:m.length<=2^63 - 1) (vl:∀r∈l,r.ok) (vm:∀r∈m,r.ok):res A az 277 [.agg [.aa t (l.map aC.c)],.agg [.aa u (m.map aC.c)]]=some [.bool (eqv l m)]:=by
 refine ai a277 rfl rfl ?_
 simp only[F277,Jx]
 simp(disch:=omega)only[go_sem]
 refine Br.aD (fun h=>?_) (fun h=>?_)<;>simp(disch:=omega)only[go_sem]
 .refine W.find (l.zip m) (fun q=>!eqv q.1 q.2) (fun k=>⟨[(2,.ptr 2 0),(3,.ptr 3 0),(5,.pv (.int .i64 k))],⟨[(2,[.pv (.aa t (l.map aC.c))]),(3,[.pv (.aa u (m.map aC.c))])],[],[]⟩⟩) rfl (fun k q hq hk hfd=>?_) (fun hn=>?_)
  .obtain⟨h1,h2⟩:=iJ hq
   rw[dF (by omega)]at hk
   have hc:=r295 q.1 q.2 (vl q.1 (Vz h1)) (vm q.2 (Vz h2))
   unfold aC.c at hc
   simp(disch:=omega)only[go_sem]
   refine Br.aD (fun c=>?_) (fun c=>(c (by omega)).elim)
   simp(disch:=omega)only[go_sem,h1,h2,aC.c,hc]
   refine Br.of (fun g=>?_) (fun g=>?_)<;>simp(disch:=omega)only[go_sem]
   .exact aX.of (by rw[g]; rfl) rfl
   .rw[(hfd (by rw[g]; rfl)).ne]
  .have hz:(l.zip m).length=l.length:=dF (by omega)
   rw[hz]
   simp(disch:=omega)only[go_sem]
   rw[hn.eq (by omega),eW]
 .rw[hZ (fun e=>h (by rw[e]))]
theorem og {L:List Int} (h:L.length<=32) (j:Int):dY (di L j):=by
 have:=CK (fun y=>decide (y=j)) L
 unfold di dY
 omega
theorem Dg {L:List Int} (h:L.length<=32) {t:aC} (ht:t.ok):(dp L t).ok:=by
 obtain⟨⟨h1,h2,h3,h4,h5,h6,h7⟩,⟨h8,h9⟩,h10,h11⟩:=ht
 refine⟨⟨h1,h2,h3,h4,h5,?_,?_⟩,⟨h8,?_⟩,h10,?_⟩
 .show dY (if t.kind=8 then di L t.key else t.key)
  split
  .exact og h _
  .exact h6
 .show dY (if 7<=t.kind then di L t.elem else t.elem)
  split
  .exact og h _
  .exact h7
 .show bV (t.aN.map (js L))
  unfold bV at *
  rw[VB]
  exact h9
 .intro m hm
  obtain⟨q,hq,rfl⟩:=VP.1 hm
  obtain⟨g1,g2,g3,g4⟩:=h11 q hq
  exact⟨g1,g2,og h _,g4⟩
theorem Be {l:List aC} (h:bW l=0):∀k,k<l.length->eR l k=0:=by
 unfold bW at h
 split at h
 .cases h
 .cases hf:(List.range l.length).find? (fun k=>decide (eR l k≠0))with
  |none=>
   intro k hk
   have:=Xc.1 hf k (WA.2 hk)
   simpa using this
  |some k=>
   rw[hf]at h
   have:=Xd hf
   simp only[tu]at h
   simp[h]at this
theorem Dh {l:List aC} {k:Nat} {t:aC} (h:bW l=0) (hk:l[k]?=some t):er l t=false:=by
 have:=Be h k (Vy.1 hk).1
 simp only[eR,hk,eF]at this
 split at this
 .cases this
 .split at this
  .cases this
  .split at this
   .cases this
   .rename_i h3
    simpa using h3
theorem Fq {T:List aC} {n:List Int} (h:BY true T n) {k:Nat} {x:aC} (hx:T[k]?=some x) (hc:(swp true T n k).getD k 0≠mT true x (swp true T n k)):swp true T n (k+1)≠n:=fun e=>by
 obtain⟨h1,h2⟩:=h.swp k
 have h3:=h1.2.2 k x hx
 have h4:=h2.2 k
 have hk:k<(swp true T n k).length:=by rw[h1.1]; exact(Vy.1 hx).1
 have h5:=iT (n:=swp true T n k) (x:=mT true x (swp true T n k)) k hk
 rw[<- pK hx,e,if_pos rfl]at h5
 omega
theorem Fs {T:List aC} {n:List Int} (h:BY true T n) {k:Nat} {x:aC} (hx:T[k]?=some x) (hc:(swp true T n k).getD k 0=mT true x (swp true T n k)):swp true T n (k+1)=swp true T n k:=by
 have hk:k<(swp true T n k).length:=by rw[(h.swp k).1.1]; exact(Vy.1 hx).1
 rw[pK hx,<- hc,VK,VA hk]
 simp
theorem Di {T:List aC} (hv:bW T=0) {n:List Int} (h:Fix true T n):∀x∈T,x.kind=8->nz n x.key≠0:=by
 intro x hx h8
 obtain⟨k,hk⟩:=VD.1 hx
 have hb:=Dh hv hk
 have hu:=(bS hv).FM x hx x.key (ka h8)
 unfold er kV at hb
 rw[h8]at hb
 have hg:=VA (l:=T) (i:=x.key.toNat) (by omega)
 generalize T[x.key.toNat]'(by omega)=q at hg
 rw[hg]at hb
 have hq:1<=q.kind/\q.kind<=4:=by simpa using hb
 have ho:=(bS hv).own q (Vz hg)
 unfold nz
 rw[h.2.2 _ q hg]
 unfold mT
 have h4:q.kind=4->0<q.syms.length:=fun e=>by
  unfold gi kindOk kT at ho
  simp[e]at ho
  omega
 split
 .split<;>decide
 .split
  .split<;>decide
  .split
   .rename_i e
    have:=h4 e
    omega
   .rw[if_neg (by omega),if_neg (by omega),if_neg (by omega),if_neg (by omega),if_neg (by omega)]
    decide
def ud (T:List aC):List Int:=ib false T (2*T.length+1)
set_option maxHeartbeats 2000000 in
theorem r474 (u:Nat) (T:List aC) (ho:∀t∈T,t.ok) (hs:∀t∈T,t.short) (hv:bW T=0):res A az 474 [.agg [.aa u (T.map aC.c)]]=some [.aa 0 (ints (ud T))]:=by
 have hS:=bS hv
 have hT:=tL ho hv
 have h32:=hS.len
 refine ai a474 rfl rfl ?_
 simp only[F474,KU]
 simp(disch:=omega)only[go_sem]
 refine W.Ra (α:=Bool×List Int) (fun x=>⟨[(1,.ptr 1 0),(3,.own 0 0 0 T.length),(4,.pv (.bool x.1))],⟨[(1,[.pv (.aa u (T.map aC.c))])],[⟨0,1,.inl (ints x.2)⟩],[]⟩⟩)
  (fun x=>BY true T x.2/\(∀m,Fix true T m->lD x.2 m)/\(x.1=false->Fix true T x.2)) (fun x=>(2*(2*T.length - qx x.2)).toNat+(if x.1=true then 1 else 0)) (true,ib true T 0) (by simp(disch:=omega)only[go_sem]; rfl) ⟨fU true T 0,fun m hm=>od hm 0,fun h=>by cases h⟩ fun x hx=>?_
 obtain⟨b,n⟩:=x
 obtain⟨hl,hun,hfix⟩:=hx
 dsimp only at hl hun hfix
 have hll:=hl.1
 cases b with
 |false=>
  have e:n=ud T:=re.uniq (C8 ⟨hfix rfl,hun⟩ (Di hv (hfix rfl))) (tP false T)
  rw[<- e]
  have hmt:n.take T.length=n:=VS (by omega)
  simp(disch:=omega)only[go_sem,hmt]
 |true=>
  simp(disch:=omega)only[go_sem]
  refine W.cD T.length (fun k=>⟨[(1,.ptr 1 0),(3,.own 0 0 0 T.length),(4,.pv (.bool (decide (swp true T n k≠n)))),(14,.pv (.aa u (T.map aC.c))),(15,.pv (.int .i64 T.length)),(16,.pv (.int .i64 k))],⟨[(1,[.pv (.aa u (T.map aC.c))])],[⟨0,1,.inl (ints (swp true T n k))⟩],[]⟩⟩) (fun _=>True) (by simp[swp]) trivial fun k hk _=>?_
  have hw:=(hl.swp k).1
  have hwl:=hw.1
  simp(disch:=omega)only[go_sem]
  refine Br.aD (fun c=>?_) (fun c=>?_)
  .obtain⟨x,hx⟩:=get_some (l:=T) (k:=k) (by omega)
   have hxm:=Vz hx
   have hsx:=pK (b:=true) (n:=n) hx
   have hfl:=Fq hl hx
   have hsm:=Fs hl hx
   have h485:=fun t=>r485 x (swp true T n k) t (hT.2.2 x hxm) (hs x hxm) hw.2.1 (vW hS hxm hwl)
   have hmn:=E0 x hw.2.1
   have hfk:∀b:Bool,(b=true↔swp true T n k≠n)->b=decide (swp true T n k≠n):=fun b h=>by rw[Bool.eq_iff_iff,h]; simp
   obtain⟨fl,hfl2⟩:∃fl,decide (swp true T n k≠n)=fl:=⟨_,rfl⟩
   have hup:fl=true->swp true T n (k+1)≠n:=fun h e=>by
    have h1:=(hl.swp k).2
    have h2:lD (swp true T n k) (swp true T n (k+1)):=by rw[hsx]; exact(hw.step hx).2
    rw[e]at h2
    rw[<- hfl2]at h
    exact of_decide_eq_true h (h2.LN h1)
   have hga:(swp true T n k)[k]?=some ((swp true T n k).getD k 0):=by
    rw[VK,VA (show k<(swp true T n k).length by omega)]
    rfl
   rw[hfl2]
   have hlo:fl=false->swp true T n k=n:=fun h=>by
    rw[<- hfl2]at h
    simpa using h
   generalize hm:swp true T n k=m at *
   have hmt:m.take T.length=m:=VS (by omega)
   generalize m.getD k 0=g at *
   generalize hq:mT true x m=q at *
   generalize EZ x m=q2 at *
   simp only[aC.c]at h485
   simp(disch:=omega)only[go_sem,hx,Option.map_some,aC.c,h485,hmt,hmn,hga]
   refine Br.aD (fun d=>?_) (fun d=>?_)<;>simp(disch:=omega)only[go_sem]
   .refine .of (by omega) ?_ trivial
    have h1:=hsm d.symm
    have h2:decide (swp true T n (k+1)≠n)=fl:=by rw[h1,hfl2]
    rw[h2,h1]
    rfl
   .refine .of (by omega) ?_ trivial
    have h1:=hfl (fun e=>d e.symm)
    have h2:decide (swp true T n (k+1)≠n)=true:=decide_eq_true h1
    rw[h2,hsx]
    rfl
  .obtain rfl:k=T.length:=by omega
   simp(disch:=omega)only[go_sem]
   have hup:=(hl.swp T.length).2
   have hf:=EY hl
   have hlw:=(hl.swp T.length).1
   refine⟨(decide (swp true T n T.length≠n),swp true T n T.length),⟨hlw,fun m hm=>mU hl hm (hun m hm) _,fun h=>?_⟩,?_,by simp(disch:=omega)only[go_sem]⟩
   .have e:swp true T n T.length=n:=by simpa using h
    dsimp only
    rw[e]at hf |-
    exact hf (lD.refl n)
   .have h1:=xe hup
    have h2:=pF hl.2.1
    have h3:=pF hlw.2.1
    rw[hll]at h2
    rw[hlw.1]at h3
    by_cases e:swp true T n T.length=n
    .simp[e]
    .have:=h1.2 (fun h=>e h.symm)
     simp[e]
     omega
theorem ue (l:List Bool) (x:Bool):cV l++[[.bool x]]=cV (l++[x]):=by simp[cV]
def jA (x:Int):Bool:=decide (0<x)
def uM (T:List aC):List Bool:=(ud T).map jA
theorem v7 {N:List Int} {k:Nat} {x:Int} (h:N[k]?=some x):(N.map jA).take (k+1)=(N.map jA).take k++[jA x]:=by
 rw[VT,VF,h]
 rfl
noncomputable def Dj (T:List aC):List Bool:=if gA T≠0 then [] else uM T
theorem mV (T:List aC):(ud T).length=T.length:=(fU false T _).1
set_option maxHeartbeats 2000000 in
theorem r464 (u:Nat) (T:List aC) (hl:T.length<=2147483648) (ho:∀t∈T,t.ok) (hs:∀t∈T,t.short):res A az 464 [.agg [.aa u (T.map aC.c)]]=some [.aa 0 (cV (Dj T)),.int .i64 (gA T)]:=by
 have h473:=r473 u T hl ho hs
 refine ai a464 rfl rfl ?_
 simp only[F464,KN]
 simp(disch:=omega)only[go_sem,h473]
 unfold Dj
 refine Br.aD (fun c=>?_) (fun c=>?_)<;>simp(disch:=omega)only[go_sem,c]
 rotate_left
 .rw[if_pos c]
  rfl
 rw[if_neg (by simp[c])]
 have hc0:=c
 have hv:=(gW c).1
 have h474:=r474 u T ho hs hv
 have hcl:=mV T
 have h32:=(bS hv).len
 unfold uM
 generalize ud T=N at *
 simp(disch:=omega)only[go_sem,h474]
 refine W.cD N.length (fun k=>⟨[(5,cY 0 (cV ((N.map jA).take k))),(14,.pv (.aa 0 (ints N))),(15,.pv (.int .i64 N.length)),(16,.pv (.int .i64 k))],⟨[],cm 1 (cV ((N.map jA).take k)),[]⟩⟩) (fun _=>True) rfl trivial fun k hk _=>?_
 simp(disch:=omega)only[go_sem]
 refine Br.aD (fun c=>?_) (fun c=>?_)
 .obtain⟨x,hx⟩:=get_some (l:=N) (k:=k) (by omega)
  have ht:=v7 hx
  have hql:(cV ((N.map jA).take k)).length=k:=by simp[cV]; omega
  have hg:=fun bx mp=>yN bx mp 1 (cV ((N.map jA).take k)) [.bool (jA x)] rfl (by omega)
  have hp:decide (0<x)=jA x:=rfl
  generalize (N.map jA).take k=q at *
  simp(disch:=omega)only[go_sem,hx,hp,hg]
  refine .of (by omega) ?_ trivial
  rw[ue,<- ht]
  rfl
 .obtain rfl:k=N.length:=by omega
  have e:(N.map jA).take N.length=N.map jA:=List.take_of_length_le (by simp)
  rw[e]
  simp(disch:=omega)only[go_sem,hc0]
set_option maxHeartbeats 2000000 in
theorem r461 (u:Nat) (T:List aC) (hl:T.length<=2147483648) (ho:∀t∈T,t.ok) (hs:∀t∈T,t.short):res A az 461 [.agg [.aa u (T.map aC.c)]]=some [.aa 0 (cV (Dj T)),.int .i64 (gA T)]:=by
 have h470:=r470 u T hl ho hs
 refine ai a461 rfl rfl ?_
 simp only[F461,KK]
 simp(disch:=omega)only[go_sem,h470]
 unfold Dj
 refine Br.aD (fun c=>?_) (fun c=>?_)<;>simp(disch:=omega)only[go_sem,c]
 rotate_left
 .rw[if_pos c]
  rfl
 rw[if_neg (by simp[c])]
 have hc0:=c
 have hv:=(gW c).1
 have h471:=r471 u T ho hs hv
 have hcl:=mV T
 have h32:=(bS hv).len
 unfold uM
 change _=some [PV.aa 0 (ints (ud T))]at h471
 generalize ud T=N at *
 simp(disch:=omega)only[go_sem,h471]
 refine W.cD N.length (fun k=>⟨[(5,.pv (.aa 0 (ints N))),(6,cY 0 (cV ((N.map jA).take k))),(7,.pv (.int .i64 k))],⟨[],cm 1 (cV ((N.map jA).take k)),[]⟩⟩) (fun _=>True) rfl trivial fun k hk _=>?_
 simp(disch:=omega)only[go_sem]
 refine Br.aD (fun c=>?_) (fun c=>?_)
 .obtain⟨x,hx⟩:=get_some (l:=N) (k:=k) (by omega)
  have ht:=v7 hx
  have hql:(cV ((N.map jA).take k)).length=k:=by simp[cV]; omega
  have hg:=fun bx mp=>yN bx mp 1 (cV ((N.map jA).take k)) [.bool (jA x)] rfl (by omega)
  have hp:decide (0<x)=jA x:=rfl
  generalize (N.map jA).take k=q at *
  simp(disch:=omega)only[go_sem,hx,hp,hg]
  refine .of (by omega) ?_ trivial
  rw[ue,<- ht]
  rfl
 .obtain rfl:k=N.length:=by omega
  have e:(N.map jA).take N.length=N.map jA:=List.take_of_length_le (by simp)
  rw[e]
  simp(disch:=omega)only[go_sem,hc0]
noncomputable def jv (T:List aC):Int:=if gA T≠0 then gA T else if (uM T).all id=true then 0 else 10
theorem rV (l:List Bool):(l.all fun x=>!!x)=l.all id:=by
 congr 1
 funext x
 simp
theorem r439 (u:Nat) (T:List aC) (hl:T.length<=2147483648) (ho:∀t∈T,t.ok) (hs:∀t∈T,t.short):res A az 439 [.agg [.aa u (T.map aC.c)]]=some [.int .i64 (jv T)]:=by
 have h464:=r464 u T hl ho hs
 refine ai a439 rfl rfl ?_
 simp only[F439,KA]
 simp(disch:=omega)only[go_sem,h464]
 unfold jv Dj
 refine Br.aD (fun c=>?_) (fun c=>?_)<;>simp(disch:=omega)only[go_sem,c]
 rotate_left
 .rw[if_pos c]
 rw[if_neg (by simp[c]),if_neg (by simp[c])]
 have hfl:(uM T).length=T.length:=by unfold uM; rw[VB,mV]
 have h32:=(bS (gW c).1).len
 generalize uM T=N at *
 refine W.find N (fun x=>!x) (fun k=>⟨[(15,.pv (.aa 0 (cV N))),(16,.pv (.int .i64 N.length)),(17,.pv (.int .i64 k))],⟨[],[],[]⟩⟩) rfl (fun k x hx hk hfd=>?_) (fun hn=>?_)
 .simp(disch:=omega)only[go_sem]
  refine Br.aD (fun c=>?_) (fun c=>(c (by omega)).elim)
  simp(disch:=omega)only[go_sem,hx]
  cases x
  .have:=(hfd rfl).all
   rw[rV]at this
   simp(disch:=omega)only[go_sem]
   rw[this,if_neg (by decide)]
  .simp(disch:=omega)only[go_sem]
   exact aX.of rfl rfl
 .have:=hn.all
  rw[rV]at this
  simp(disch:=omega)only[go_sem]
  rw[this,if_pos rfl]
theorem r435 (u:Nat) (T:List aC) (hl:T.length<=2147483648) (ho:∀t∈T,t.ok) (hs:∀t∈T,t.short):res A az 435 [.agg [.aa u (T.map aC.c)]]=some [.int .i64 (jv T)]:=by
 have h461:=r461 u T hl ho hs
 refine ai a435 rfl rfl ?_
 simp only[F435,Kw]
 simp(disch:=omega)only[go_sem,h461]
 unfold jv Dj
 refine Br.aD (fun c=>?_) (fun c=>?_)<;>simp(disch:=omega)only[go_sem,c]
 rotate_left
 .rw[if_pos c]
 rw[if_neg (by simp[c]),if_neg (by simp[c])]
 have hfl:(uM T).length=T.length:=by unfold uM; rw[VB,mV]
 have h32:=(bS (gW c).1).len
 generalize uM T=N at *
 refine W.find N (fun x=>!x) (fun k=>⟨[(3,.pv (.aa 0 (cV N))),(5,.pv (.int .i64 k))],⟨[],[],[]⟩⟩) rfl (fun k x hx hk hfd=>?_) (fun hn=>?_)
 .simp(disch:=omega)only[go_sem]
  refine Br.aD (fun c=>?_) (fun c=>(c (by omega)).elim)
  simp(disch:=omega)only[go_sem,hx]
  cases x
  .have:=(hfd rfl).all
   rw[rV]at this
   simp(disch:=omega)only[go_sem]
   rw[this,if_neg (by decide)]
  .simp(disch:=omega)only[go_sem]
   exact aX.of rfl rfl
 .have:=hn.all
  rw[rV]at this
  simp(disch:=omega)only[go_sem]
  rw[this,if_pos rfl]
def ig (i:Int) (m:eD):Bool:=decide (m.id=i)
theorem r487 (m:eD) (u:Nat) (i:Int):res A az 487 [.agg m.c,.ro u [.int .i64 i]]=some [.bool (ig i m)]:=by
 refine ai a487 rfl rfl ?_
 simp only[F487,K5]
 simp(disch:=omega)only[go_sem,eD.c]
 rfl
theorem r486 (t u:Nat) (i:Int) (l:List eD) (hl:l.length<=2^63 - 1):res A az 486 [.aa t (msgs l),.func 487 [.ro u [.int .i64 i]]]=some [.int .i64 (bd (ig i) l)]:=by
 refine ai a486 rfl rfl ?_
 simp only[F486,K4]
 simp(disch:=omega)only[go_sem]
 refine W.find l (ig i) (fun k=>⟨[(0,.pv (.aa t (msgs l))),(1,.pv (.func 487 [.ro u [.int .i64 i]])),(7,.pv (.int .i64 l.length)),(8,.pv (.int .i64 k))],⟨[],[],[]⟩⟩) rfl (fun k x hx hk hfd=>?_) (fun hn=>?_)
 .have hfx:=r487 x u i
  simp(disch:=omega)only[go_sem]
  refine Br.aD (fun h=>?_) (fun h=>(h (by omega)).elim)
  unfold eD.c at hfx
  simp(disch:=omega)only[go_sem,hx,eD.c,hfx]
  refine Br.of (fun h2=>?_) (fun h2=>?_)<;>simp(disch:=omega)only[go_sem]
  .rw[(hfd h2).bd]
  .exact aX.of h2 rfl
 .simp(disch:=omega)only[go_sem]
  rw[hn.bd]
def Rf (o:Option eD):eD:=o.getD ⟨0,⟨#[]⟩,0⟩
theorem r476 (x:dx) (i:Int) (hl:x.msgs.length<=2^63 - 1):res A az 476 [.agg x.c,.int .i64 i]=some [.agg (Rf (x.msgs.find? (ig i))).c,.bool (x.msgs.any (ig i))]:=by
 refine ai a476 rfl rfl ?_
 simp only[F476,KX]
 have h486:=fun u=>r486 0 u i x.msgs hl
 have e:x.msgs.map eD.c=msgs x.msgs:=rfl
 simp only[dx.c,e]
 simp(disch:=omega)only[go_sem,h486]
 rcases kZ (ig i) x.msgs with⟨f1,f2⟩|⟨k,m,f1,f2,f3⟩
 .have ha:x.msgs.any (ig i)=false:=by
   rw[Wt]
   exact Xc.1 f1
  rw[f1,f2,ha]
  refine Br.aD (fun c=>?_) (fun c=>absurd (by decide) c)
  simp(disch:=omega)only[go_sem]
  rfl
 .have ha:x.msgs.any (ig i)=true:=by
   rw[W4]
   exact⟨m,List.mem_of_find?_eq_some f1,Xd f1⟩
  rw[f1,f3,ha]
  refine Br.aD (fun c=>absurd c (by omega)) (fun c=>?_)
  simp(disch:=omega)only[go_sem,f2,eD.c]
  rfl
theorem r483 (x:dx) (i:Int) (hl:x.msgs.length<=2^63 - 1):res A az 483 [.agg x.c,.int .i64 i]=some [.agg (Rf (x.msgs.find? (ig i))).c,.bool (x.msgs.any (ig i))]:=by
 refine ai a483 rfl rfl ?_
 simp only[F483,K1]
 have e:x.msgs.map eD.c=msgs x.msgs:=rfl
 simp only[dx.c,e]
 simp(disch:=omega)only[go_sem]
 refine W.find x.msgs (ig i) (fun k=>⟨[(1,.pv (.int .i64 i)),(2,.ptr 2 0),(4,.ptr 4 0),(6,.pv (.int .i64 k))],⟨[(2,[.pv (.str x.name),.pv (.aa 0 (msgs x.msgs)),.pv (.int .i64 x.auto.ay),.pv (.int .i64 x.auto.start),.pv (.aa 0 (x.auto.aw.map Edge.c))]),(4,[.pv (.int .i64 0),.pv (.str ⟨#[]⟩),.pv (.int .i64 0)])],[],[]⟩⟩) rfl (fun k m hx hk hfd=>?_) (fun hn=>?_)
 .simp(disch:=omega)only[go_sem]
  refine Br.aD (fun c=>?_) (fun c=>(c (by omega)).elim)
  simp(disch:=omega)only[go_sem,hx,eD.c]
  have hp:decide (m.id=i)=ig i m:=rfl
  rw[hp]
  refine Br.of (fun g=>?_) (fun g=>?_)<;>simp(disch:=omega)only[go_sem,hx,eD.c]
  .rw[(hfd g).find,(hfd g).any]
   rfl
  .exact aX.of g rfl
 .simp(disch:=omega)only[go_sem]
  rw[hn.find,hn.any]
  rfl
def uf (l:List eD) (k:Nat):Int:=if k=0 then 0 else ((l[k - 1]?).map (·.id)).getD 0
def zB (l:List eD) (k:Nat) (m:eD):Bool:=decide (m.id<=uf l k)||(decide (1000<m.id)||(!isName m.name||cy ((l.take k).map (·.name)) m.name))
def pM (l:List eD) (k:Nat):Bool:=match l[k]? with
 |some m=>zB l k m
 |none=>false
def ij (x:dx):Bool:=!((List.range x.msgs.length).any (pM x.msgs))&&isName x.name
theorem ug {l:List eD} {k:Nat} {m:eD} (h:l[k]?=some m):uf l (k+1)=m.id:=by
 unfold uf
 rw[if_neg (by omega),Nat.add_sub_cancel,h]
 rfl
set_option maxHeartbeats 2000000 in
theorem r482 (x:dx) (hl:x.msgs.length<=2^63 - 1) (hn:bw x.name) (hs:∀m∈x.msgs,bw m.name):res A az 482 [.agg x.c]=some [.bool (ij x)]:=by
 have h310n:=r310 x.name hn
 refine ai a482 rfl rfl ?_
 simp only[F482,K0]
 have e:x.msgs.map eD.c=msgs x.msgs:=rfl
 simp only[dx.c,e]
 simp(disch:=omega)only[go_sem]
 refine W.find (List.range x.msgs.length) (pM x.msgs) (fun k=>⟨[(1,.ptr 1 0),(3,.pv (.int .i64 (uf x.msgs k))),(4,.pv (.int .i64 k))],⟨[(1,[.pv (.str x.name),.pv (.aa 0 (msgs x.msgs)),.pv (.int .i64 x.auto.ay),.pv (.int .i64 x.auto.start),.pv (.aa 0 (x.auto.aw.map Edge.c))])],[],[]⟩⟩) rfl (fun k k' hx hk hfd=>?_) (fun hnw=>?_)
 .obtain⟨rfl,hk⟩:=cL hx
  obtain⟨m,hm⟩:=get_some hk
  have hb:pM x.msgs k'=zB x.msgs k' m:=by unfold pM; rw[hm]
  have h310:=r310 m.name (hs m (Vz hm))
  have done:pM x.msgs k'=true->(some [PV.bool false]:Option (List PV))=some [.bool (ij x)]:=fun h=>by
   unfold ij
   rw[(hfd h).any]
   rfl
  have hln:=ug hm
  rw[hb]at done |-
  unfold zB at done |-
  generalize uf x.msgs k'=la at *
  simp(disch:=omega)only[go_sem]
  refine Br.aD (fun c=>?_) (fun c=>(c (by omega)).elim)
  simp(disch:=omega)only[go_sem,hm,eD.c,h310]
  refine Br.aD (fun c1=>?_) (fun c1=>?_)<;>simp(disch:=omega)only[go_sem,c1,h310]
  .exact done (by simp[c1])
  refine Br.aD (fun c2=>?_) (fun c2=>?_)<;>simp(disch:=omega)only[go_sem,c2,h310]
  .exact done (by simp[c2])
  cases hi:isName m.name with
  |false=>
   simp(disch:=omega)only[go_sem]
   exact done (by simp[hi])
  |true=>
   simp(disch:=omega)only[go_sem]
   rw[hi]at done
   refine W.find (x.msgs.take k') (fun q=>decide (q.name=m.name)) (fun j=>⟨[(1,.ptr 1 0),(4,.pv (.int .i64 k')),(5,.ptr 5 0),(6,.pv (.int .i64 j))],⟨[(1,[.pv (.str x.name),.pv (.aa 0 (msgs x.msgs)),.pv (.int .i64 x.auto.ay),.pv (.int .i64 x.auto.start),.pv (.aa 0 (x.auto.aw.map Edge.c))]),(5,[.pv (.int .i64 m.id),.pv (.str m.name),.pv (.int .i64 m.ty)])],[],[]⟩⟩) rfl (fun j q hj hjl hfd2=>?_) (fun hn2=>?_)
   .have hjl':j<k'/\j<x.msgs.length:=by rw[VH]at hjl; omega
    have hj':x.msgs[j]?=some q:=by
     rw[VN,if_pos hjl'.1]at hj
     exact hj
    simp(disch:=omega)only[go_sem]
    refine Br.aD (fun c=>?_) (fun c=>(c (by omega)).elim)
    simp(disch:=omega)only[go_sem,hj',eD.c]
    refine Br.aD (fun c3=>?_) (fun c3=>?_)<;>simp(disch:=omega)only[go_sem,c3]
    .refine done ?_
     have:cy ((x.msgs.take k').map (·.name)) m.name=true:=by
      unfold cy
      rw[WJ]
      exact(hfd2 (by simp[c3])).any
     rw[this]
     simp
    .exact aX.of (by simp[c3]) rfl
   .have hlx:(x.msgs.take k').length=k':=by rw[VH]; omega
    rw[hlx]
    have hh:cy ((x.msgs.take k').map (·.name)) m.name=false:=by
     unfold cy
     rw[WJ]
     exact hn2.any
    simp(disch:=omega)only[go_sem]
    exact aX.of (by rw[hh]; simp[c1,c2]) (by rw[hln]; rfl)
 .rw[V7]
  have hv:ij x=isName x.name:=by
   unfold ij
   rw[hnw.any]
   simp
  rw[hv]
  simp(disch:=omega)only[go_sem,h310n]
def rj (l:List eD) (k:Nat):List ByteArray:=((l.take k).map (·.name)).foldl qk []
theorem Dk (l:List eD) (k:Nat) (x:ByteArray):cy (rj l k) x=cy ((l.take k).map (·.name)) x:=by
 rw[Wp,jk,jk,rj,qn]
 simp
theorem Bf {l:List eD} {k:Nat} {t:eD} (h:l[k]?=some t):qk (rj l k) t.name=rj l (k+1):=by
 unfold rj
 rw[VT,h,Wk,List.foldl_append]
 rfl
def uh (n:Nat) (x:dx):Int:=
 if 16<x.msgs.length then 3
 else if ij x=false then 1
 else if x.msgs.any (fun m=>dh n m.ty)=true then 4
 else if x.auto.err≠0 then x.auto.err
 else if x.auto.aw.any (fun e=>!x.msgs.any (ig e.label))=true then 4
 else if (x.auto.order.length:Int)≠x.auto.ay then 1 else 0
theorem Ft {a:bj} (h:a.err=0):(a.order.length:Int)<=a.ay:=by
 have hg:=bj.pG.1 h
 have:=hg.pH hg.st
 have h2:=hg.st
 unfold bj.order
 omega
set_option maxHeartbeats 4000000 in
theorem r472 (u:Nat) (T:List (List PV)) (x:dx) (hT:T.length<=2^63 - 1) (hl:x.msgs.length<=2^63 - 1) (hn:bw x.name) (hs:∀m∈x.msgs,bw m.name) (he:x.auto.aw.length<=2000000000):res A az 472 [.agg [.aa u T],.agg x.c]=some [.int .i64 (uh T.length x)]:=by
 have h482:=r482 x hl hn hs
 have h483:=fun i=>r483 x i hl
 have h33:=r33 0 x.auto he
 refine ai a472 rfl rfl ?_
 simp only[F472,KS]
 have e:x.msgs.map eD.c=msgs x.msgs:=rfl
 simp only[dx.c,e]at h482 h483 |-
 unfold uh
 simp(disch:=omega)only[go_sem]
 refine Br.aD (fun c1=>?_) (fun c1=>?_)<;>simp(disch:=omega)only[go_sem,c1,h482]
 .rw[if_pos (by omega)]
 rw[if_neg (by omega)]
 cases hnm:ij x with
 |false=>simp(disch:=omega)only[go_sem,if_true]
 |true=>
  simp(disch:=omega)only[go_sem]
  rw[if_neg (by decide)]
  refine W.find x.msgs (fun m=>dh T.length m.ty) (fun k=>⟨[(2,.ptr 2 0),(3,.ptr 3 0),(5,.pv (.int .i64 k))],⟨[(2,[.pv (.aa u T)]),(3,[.pv (.str x.name),.pv (.aa 0 (msgs x.msgs)),.pv (.int .i64 x.auto.ay),.pv (.int .i64 x.auto.start),.pv (.aa 0 (x.auto.aw.map Edge.c))])],[],[]⟩⟩) rfl (fun k m hx hk hfd=>?_) (fun hnw=>?_)
  .have done:dh T.length m.ty=true->x.msgs.any (fun m=>dh T.length m.ty)=true:=fun g=>(hfd g).any
   unfold dh at done |-
   simp(disch:=omega)only[go_sem]
   refine Br.aD (fun c=>?_) (fun c=>(c (by omega)).elim)
   simp(disch:=omega)only[go_sem,hx,eD.c]
   refine Br.aD (fun c4=>?_) (fun c4=>?_)<;>simp(disch:=omega)only[go_sem,c4,hx,eD.c]
   .rw[if_pos (done (by simp[c4]))]
   refine Br.aD (fun c5=>?_) (fun c5=>?_)<;>simp(disch:=omega)only[go_sem,c5]
   .rw[if_pos (done (by simp[c5]))]
   .exact aX.of (by simp[c4,c5]) rfl
  .rw[hnw.any,if_neg (by decide)]
   by_cases h0:x.auto.err=0
   .rw[if_pos h0]at h33
    rw[if_neg (by simp[h0])]
    simp(disch:=omega)only[go_sem,h33]
    refine W.find x.auto.aw (fun e=>!x.msgs.any (ig e.label)) (fun k=>⟨[(3,.ptr 3 0),(6,.ptr 6 0),(8,.pv (.int .i64 k))],⟨[(3,[.pv (.str x.name),.pv (.aa 0 (msgs x.msgs)),.pv (.int .i64 x.auto.ay),.pv (.int .i64 x.auto.start),.pv (.aa 0 (x.auto.aw.map Edge.c))]),(6,[.pv (.int .i64 x.auto.order.length),.pv (.int .i64 0),.pv (.aa 0 (cB (mn Edge.lt (kept x.auto.order x.auto.aw))))])],[],[]⟩⟩) rfl (fun k d hx hk hfd=>?_) (fun hnw=>?_)
    .have h483:=h483 d.label
     have done:(!x.msgs.any (ig d.label))=true->x.auto.aw.any (fun e=>!x.msgs.any (ig e.label))=true:=fun g=>(hfd g).any
     generalize x.msgs.any (ig d.label)=b at h483 done |-
     generalize x.msgs.find? (ig d.label)=o at h483
     simp only[eD.c]at h483
     simp(disch:=omega)only[go_sem]
     refine Br.aD (fun c=>?_) (fun c=>(c (by omega)).elim)
     simp(disch:=omega)only[go_sem,hx,h483,eD.c]
     cases b
     .simp(disch:=omega)only[go_sem]
      rw[if_pos (done rfl)]
     .simp(disch:=omega)only[go_sem]
      exact aX.of rfl rfl
    .rw[hnw.any,if_neg (by decide)]
     simp(disch:=omega)only[go_sem]
     refine Br.aD (fun c=>?_) (fun c=>?_)<;>simp(disch:=omega)only[go_sem]
     .rw[if_neg (by simp[c])]
     .rw[if_pos c]
   .rw[if_neg h0]at h33
    rw[if_pos h0]
    simp(disch:=omega)only[go_sem,h33]
    refine Br.aD (fun c=>absurd c h0) (fun c=>?_)
    simp(disch:=omega)only[go_sem]
set_option maxHeartbeats 4000000 in
theorem r466 (u:Nat) (T:List (List PV)) (x:dx) (hT:T.length<=2^63 - 1) (hl:x.msgs.length<=2^63 - 1) (hn:bw x.name) (hs:∀m∈x.msgs,bw m.name) (he:x.auto.aw.length<=2000000000):res A az 466 [.agg [.aa u T],.agg x.c]=some [.int .i64 (uh T.length x)]:=by
 have h306n:=r306 x.name hn
 have h476:=fun i=>r476 x i hl
 have h32:=r32 0 x.auto he
 refine ai a466 rfl rfl ?_
 simp only[F466,KP]
 have e:x.msgs.map eD.c=msgs x.msgs:=rfl
 simp only[dx.c,e]at h476 |-
 unfold uh
 simp(disch:=omega)only[go_sem]
 refine Br.aD (fun c1=>?_) (fun c1=>?_)<;>simp(disch:=omega)only[go_sem,c1]
 .rw[if_pos (by omega)]
 rw[if_neg (by omega)]
 refine W.find (List.range x.msgs.length) (pM x.msgs) (fun k=>⟨[(2,.ptr 2 0),(3,.ptr 3 0),(5,.map 0),(6,.pv (.int .i64 (uf x.msgs k))),(23,.pv (.aa 0 (msgs x.msgs))),(24,.pv (.int .i64 x.msgs.length)),(25,.pv (.int .i64 k))],⟨[(2,[.pv (.aa u T)]),(3,[.pv (.str x.name),.pv (.aa 0 (msgs x.msgs)),.pv (.int .i64 x.auto.ay),.pv (.int .i64 x.auto.start),.pv (.aa 0 (x.auto.aw.map Edge.c))])],[],[jj (rj x.msgs k)]⟩⟩) rfl (fun k k' hx hk hfd=>?_) (fun hnw=>?_)
 .obtain⟨rfl,hk⟩:=cL hx
  obtain⟨m,hm⟩:=get_some hk
  have hb:pM x.msgs k'=zB x.msgs k' m:=by unfold pM; rw[hm]
  have h306:=r306 m.name (hs m (Vz hm))
  have done:pM x.msgs k'=true->ij x=false:=fun h=>by
   unfold ij
   rw[(hfd h).any]
   rfl
  have hln:=ug hm
  have hsn:=Bf hm
  rw[hb]at done |-
  unfold zB at done |-
  rw[<- Dk]at done |-
  generalize uf x.msgs k'=la at *
  generalize rj x.msgs k'=sn at *
  simp(disch:=omega)only[go_sem]
  refine Br.aD (fun c=>?_) (fun c=>(c (by omega)).elim)
  simp(disch:=omega)only[go_sem,hm,eD.c,h306]
  refine Br.aD (fun c1=>?_) (fun c1=>?_)<;>simp(disch:=omega)only[go_sem,c1,h306]
  .rw[if_pos (done (by simp[c1]))]
  refine Br.aD (fun c2=>?_) (fun c2=>?_)<;>simp(disch:=omega)only[go_sem,c2,h306]
  .rw[if_pos (done (by simp[c2]))]
  cases hi:isName m.name with
  |false=>
   simp(disch:=omega)only[go_sem]
   rw[if_pos (done (by simp[hi]))]
  |true=>
   rw[hi]at done
   simp(disch:=omega)only[go_sem]
   cases hh:cy sn m.name with
   |true=>
    rw[hh]at done
    simp(disch:=omega)only[go_sem]
    rw[if_pos (done (by simp))]
   |false=>
    simp(disch:=omega)only[go_sem]
    exact aX.of (by simp[c1,c2]) (by rw[hln,<- hsn]; rfl)
 .rw[V7]
  have hv:ij x=isName x.name:=by
   unfold ij
   rw[hnw.any]
   simp
  rw[hv]
  simp(disch:=omega)only[go_sem,h306n]
  generalize rj x.msgs x.msgs.length=sn
  cases hnm:isName x.name with
  |false=>simp(disch:=omega)only[go_sem,if_true]
  |true=>
  simp(disch:=omega)only[go_sem]
  rw[if_neg (by decide)]
  refine W.find x.msgs (fun m=>dh T.length m.ty) (fun k=>⟨[(2,.ptr 2 0),(3,.ptr 3 0),(61,.pv (.aa 0 (msgs x.msgs))),(62,.pv (.int .i64 x.msgs.length)),(63,.pv (.int .i64 k))],⟨[(2,[.pv (.aa u T)]),(3,[.pv (.str x.name),.pv (.aa 0 (msgs x.msgs)),.pv (.int .i64 x.auto.ay),.pv (.int .i64 x.auto.start),.pv (.aa 0 (x.auto.aw.map Edge.c))])],[],[jj sn]⟩⟩) rfl (fun k m hx hk hfd=>?_) (fun hnw=>?_)
  .have done:dh T.length m.ty=true->x.msgs.any (fun m=>dh T.length m.ty)=true:=fun g=>(hfd g).any
   unfold dh at done |-
   simp(disch:=omega)only[go_sem]
   refine Br.aD (fun c=>?_) (fun c=>(c (by omega)).elim)
   simp(disch:=omega)only[go_sem,hx,eD.c]
   refine Br.aD (fun c4=>?_) (fun c4=>?_)<;>simp(disch:=omega)only[go_sem,c4,hx,eD.c]
   .rw[if_pos (done (by simp[c4]))]
   refine Br.aD (fun c5=>?_) (fun c5=>?_)<;>simp(disch:=omega)only[go_sem,c5]
   .rw[if_pos (done (by simp[c5]))]
   .exact aX.of (by simp[c4,c5]) rfl
  .rw[hnw.any,if_neg (by decide)]
   by_cases h0:x.auto.err=0
   .have hle:=Ft h0
    have ho:x.auto.trim.ay=x.auto.order.length:=rfl
    rw[if_pos h0,ho]at h32
    rw[if_neg (by simp[h0])]
    simp(disch:=omega)only[go_sem,h32,if_pos h0,ho]
    refine W.find x.auto.aw (fun e=>!x.msgs.any (ig e.label)) (fun k=>⟨[(3,.ptr 3 0),(11,.ptr 11 0),(90,.pv (.aa 0 (x.auto.aw.map Edge.c))),(91,.pv (.int .i64 x.auto.aw.length)),(92,.pv (.int .i64 k))],⟨[(3,[.pv (.str x.name),.pv (.aa 0 (msgs x.msgs)),.pv (.int .i64 x.auto.ay),.pv (.int .i64 x.auto.start),.pv (.aa 0 (x.auto.aw.map Edge.c))]),(11,[.pv (.int .i64 x.auto.order.length),.pv (.int .i64 0),.pv (.aa 0 (cB x.auto.trim.aw))])],[],[jj sn]⟩⟩) rfl (fun k d hx hk hfd=>?_) (fun hnw=>?_)
    .have h476:=h476 d.label
     have done:(!x.msgs.any (ig d.label))=true->x.auto.aw.any (fun e=>!x.msgs.any (ig e.label))=true:=fun g=>(hfd g).any
     generalize x.msgs.any (ig d.label)=b at h476 done |-
     generalize x.msgs.find? (ig d.label)=o at h476
     simp only[eD.c]at h476
     simp(disch:=omega)only[go_sem]
     refine Br.aD (fun c=>?_) (fun c=>(c (by omega)).elim)
     simp(disch:=omega)only[go_sem,hx,h476,eD.c]
     cases b
     .simp(disch:=omega)only[go_sem]
      rw[if_pos (done rfl)]
     .simp(disch:=omega)only[go_sem]
      exact aX.of rfl rfl
    .rw[hnw.any,if_neg (by decide)]
     simp(disch:=omega)only[go_sem]
     refine Br.aD (fun c=>?_) (fun c=>?_)<;>simp(disch:=omega)only[go_sem]
     .rw[if_pos (by omega)]
     .rw[if_neg (by omega)]
   .rw[if_neg h0]at h32
    rw[if_pos h0]
    simp(disch:=omega)only[go_sem,h32,if_neg h0]
    refine Br.aD (fun c=>absurd c h0) (fun c=>?_)
    simp(disch:=omega)only[go_sem]
theorem r463 (u:Nat) (T:List aC) (x:dx) (hT:T.length<=2147483648) (ho:∀t∈T,t.ok) (hsh:∀t∈T,t.short) (hl:x.msgs.length<=2^63 - 1) (hn:bw x.name) (hs:∀m∈x.msgs,bw m.name) (he:x.auto.aw.length<=2000000000):res A az 463 [.agg [.aa u (T.map aC.c)],.agg x.c]=some [.int .i64 (if bW T≠0 then bW T else uh T.length x)]:=by
 have h268:=r268 u T hT ho hsh
 have h472:=r472 u (T.map aC.c) x (by rw[VB]; omega) hl hn hs he
 rw[VB]at h472
 refine ai a463 rfl rfl ?_
 simp only[F463,KM]
 have e:x.msgs.map eD.c=msgs x.msgs:=rfl
 simp only[dx.c,e]at h472 |-
 simp(disch:=omega)only[go_sem,h268]
 refine Br.aD (fun c=>?_) (fun c=>?_)<;>simp(disch:=omega)only[go_sem,h472]
 .rw[if_neg (by simp[c])]
 .rw[if_pos c]
theorem r444 (u:Nat) (T:List aC) (x:dx) (hT:T.length<=2147483648) (ho:∀t∈T,t.ok) (hsh:∀t∈T,t.short) (hl:x.msgs.length<=2^63 - 1) (hn:bw x.name) (hs:∀m∈x.msgs,bw m.name) (he:x.auto.aw.length<=2000000000):res A az 444 [.agg [.aa u (T.map aC.c)],.agg x.c]=some [.int .i64 (if bW T≠0 then bW T else uh T.length x)]:=by
 have h267:=r267 u T hT ho hsh
 have h466:=r466 u (T.map aC.c) x (by rw[VB]; omega) hl hn hs he
 rw[VB]at h466
 refine ai a444 rfl rfl ?_
 simp only[F444,KE]
 have e:x.msgs.map eD.c=msgs x.msgs:=rfl
 simp only[dx.c,e]at h466 |-
 simp(disch:=omega)only[go_sem,h267]
 refine Br.aD (fun c=>?_) (fun c=>?_)<;>simp(disch:=omega)only[go_sem,h466]
 .rw[if_neg (by simp[c])]
 .rw[if_pos c]
theorem r475 (t:Nat) (l:List ByteArray) (x:ByteArray) (hl:l.length<=2^63 - 1):res A az 475 [.aa t (strs l),.str x]=some [.int .i64 (bd (fun s=>decide (s=x)) l)]:=by
 refine ai a475 rfl rfl ?_
 simp only[F475,KW]
 simp(disch:=omega)only[go_sem]
 refine W.find l (fun s=>decide (s=x)) (fun k=>⟨[(0,.pv (.aa t (strs l))),(1,.pv (.str x)),(7,.pv (.int .i64 l.length)),(8,.pv (.int .i64 k))],⟨[],[],[]⟩⟩) rfl (fun k s hx hk hfd=>?_) (fun hn=>?_)
 .simp(disch:=omega)only[go_sem]
  refine Br.aD (fun h=>?_) (fun h=>(h (by omega)).elim)
  simp(disch:=omega)only[go_sem,hx]
  have e:decide (x=s)=decide (s=x):=decide_eq_decide.2 ⟨fun h=>h.symm,fun h=>h.symm⟩
  rw[e]
  refine Br.of (fun h2=>?_) (fun h2=>?_)<;>simp(disch:=omega)only[go_sem]
  .rw[(hfd h2).bd]
  .exact aX.of h2 rfl
 .simp(disch:=omega)only[go_sem]
  rw[hn.bd]
theorem r465 (t:Nat) (l:List ByteArray) (x:ByteArray) (hl:l.length<=2^63 - 1):res A az 465 [.aa t (strs l),.str x]=some [.bool (cy l x)]:=by
 refine ai a465 rfl rfl ?_
 simp only[F465,KO]
 have h475:=r475 t l x hl
 simp(disch:=omega)only[go_sem,h475]
 have e:decide (0<=bd (fun s=>decide (s=x)) l)=cy l x:=by
  unfold bd cy
  cases h:l.findIdx? (fun s=>decide (s=x))with
  |none=>
   rw[List.any_eq_false.2 fun y hy=>by simpa using List.findIdx?_eq_none_iff.1 h y hy]
   rfl
  |some k=>
   obtain⟨hk,h2,_⟩:=Wd.1 h
   rw[W4.2 ⟨_,Ww hk,h2⟩]
   simp
 rw[e]
theorem Ca (nm:ByteArray) (l:List ByteArray) (hn:bw nm) (hl:l.length<=1000) (Q:Ex->St->Prop)
  (hQ:∀env,if isName nm=false then Q .ret ⟨(4,.pv (.int .i64 1))::env,⟨[(200000,[cY 0 (strs l)])],cm 1 (strs l),[]⟩⟩ else if cy l nm=true then Q .ret ⟨(4,.pv (.int .i64 5))::env,⟨[(200000,[cY 0 (strs l)])],cm 1 (strs l),[]⟩⟩ else Q .ret ⟨(4,.pv (.int .i64 0))::env,⟨[(200000,[cY 0 (strs (l++[nm]))])],cm 1 (strs (l++[nm])),[]⟩⟩):
  W A az F441.body ⟨[(0,.ptr 200000 0),(1,.pv (.str nm))],⟨[(200000,[cY 0 (strs l)])],cm 1 (strs l),[]⟩⟩ Q:=by
 have h306:=r306 nm hn
 have h465:=fun t=>r465 t l nm (by omega)
 have hsl:(strs l).length<=1000:=by rw[fE]; exact hl
 have hg:=fun bx mp=>yN bx mp 1 (strs l) [.str nm] rfl (by omega)
 simp only[F441,GN]
 simp(disch:=omega)only[go_sem,h306]
 cases hi:isName nm with
 |false=>
  rw[hi]at hQ
  simp only[if_true]at hQ
  simp(disch:=omega)only[go_sem]
  exact hQ _
 |true=>
  rw[hi]at hQ
  rw[<- ql]at hQ
  simp only[Bool.true_eq_false,if_false]at hQ
  simp(disch:=omega)only[go_sem,h465]
  cases hh:cy l nm with
  |true=>
   rw[hh]at hQ
   simp only[if_true]at hQ
   simp(disch:=omega)only[go_sem]
   exact hQ []
  |false=>
   rw[hh]at hQ
   simp only[Bool.false_eq_true,if_false]at hQ
   simp(disch:=omega)only[go_sem,hg]
   exact hQ []
theorem Fu (a:aL) (nm:ByteArray) (l:List ByteArray) (hn:bw nm) (hl:l.length<=1000) (Q:Ex->St->Prop)
  (hQ:∀env,if isName nm=false then Q .ret ⟨(4,.pv (.int .i64 1))::env,⟨[(200000,[cY 1 (strs l)])],a::cm 1 (strs l),[]⟩⟩ else if cy l nm=true then Q .ret ⟨(4,.pv (.int .i64 5))::env,⟨[(200000,[cY 1 (strs l)])],a::cm 1 (strs l),[]⟩⟩ else Q .ret ⟨(4,.pv (.int .i64 0))::env,⟨[(200000,[cY 1 (strs (l++[nm]))])],a::cm 1 (strs (l++[nm])),[]⟩⟩):
  W A az F441.body ⟨[(0,.ptr 200000 0),(1,.pv (.str nm))],⟨[(200000,[cY 1 (strs l)])],a::cm 1 (strs l),[]⟩⟩ Q:=by
 have h306:=r306 nm hn
 have h465:=fun t=>r465 t l nm (by omega)
 have hsl:(strs l).length<=1000:=by rw[fE]; exact hl
 have hg:=fun bx mp=>HN bx mp a 1 (strs l) [.str nm] rfl (by omega)
 simp only[F441,GN]
 simp(disch:=omega)only[go_sem,h306]
 cases hi:isName nm with
 |false=>
  rw[hi]at hQ
  simp only[if_true]at hQ
  simp(disch:=omega)only[go_sem]
  exact hQ _
 |true=>
  rw[hi]at hQ
  rw[<- ql]at hQ
  simp only[Bool.true_eq_false,if_false]at hQ
  simp(disch:=omega)only[go_sem,h465]
  cases hh:cy l nm with
  |true=>
   rw[hh]at hQ
   simp only[if_true]at hQ
   simp(disch:=omega)only[go_sem]
   exact hQ []
  |false=>
   rw[hh]at hQ
   simp only[Bool.false_eq_true,if_false]at hQ
   simp(disch:=omega)only[go_sem,hg]
   exact hQ []
def Cb (v:V):Prop:=v=.tl []\/∃a b c d,v=.own a b c d
theorem fa (n:Nat) (rows:List (List PV)):Cb (cY n rows):=by
 cases rows with
 |nil=>exact .inl rfl
 |cons x r=>exact .inr ⟨_,_,_,_,rfl⟩
theorem iN {s:Nat} {v:V} {ar:List aL} {mp:List (List (PV×PV))} {env:List (Nat×V)} {p:PV} {K:V->Tn->Prop} (hv:Cb v) (hp:∃n,p=.int .i64 n) (h:K (.pv p) { all:=some ([(s,[v])],ar,mp) }):CB [.tmp 4] [s] K .mk .ret ⟨(4,.pv p)::env,⟨[(200000,[v])],ar,mp⟩⟩:=by
 obtain⟨n,rfl⟩:=hp
 rcases hv with rfl|⟨_,_,_,_,rfl⟩<;>exact⟨_,rfl,_,rfl,_,rfl,h⟩
theorem call5 {v:V} {ar:List aL} {nm:ByteArray} {a1 a2 a3 a4 a5 b1 b2 b3:PV} {K:V->Tn->Prop} (hv:Cb v) (h:W A az F441.body ⟨[(0,.ptr 200000 0),(1,.pv (.str nm))],⟨[(200000,[v])],ar,[]⟩⟩ (CB [.tmp 4] [5] K)):
  IW A az 441 [.ptr 5 0,.pv (.str nm)] ⟨[(1,[.pv a1,.pv a2,.pv a3,.pv a4,.pv a5]),(5,[v]),(6,[.tl []]),(8,[.pv b1,.pv b2,.pv b3])],ar,[]⟩ K:=by
 rw[Ht a441]
 rcases hv with rfl|⟨_,_,_,_,rfl⟩<;>exact⟨rfl,_,rfl,_,rfl,h⟩
theorem call6 {v:V} {ar:List aL} {nm:ByteArray} {a1 a2 a3 a4 a5 b1 b2:PV} {K:V->Tn->Prop} (hv:Cb v) (h:W A az F441.body ⟨[(0,.ptr 200000 0),(1,.pv (.str nm))],⟨[(200000,[v])],ar,[]⟩⟩ (CB [.tmp 4] [6] K)):
  IW A az 441 [.ptr 6 0,.pv (.str nm)] ⟨[(1,[.pv a1,.pv a2,.pv a3,.pv a4,.pv a5]),(6,[v]),(14,[.pv b1,.pv b2])],ar,[]⟩ K:=by
 rw[Ht a441]
 rcases hv with rfl|⟨_,_,_,_,rfl⟩<;>exact⟨rfl,_,rfl,_,rfl,h⟩
end Go.Pv
