/-
 What the functions of the law give.
-/
import Derived.Test.YtpchfogcccagjaaGreatC1
set_option linter.unusedSimpArgs false
set_option linter.unusedVariables false
open List renaming getElem?_eq_some_iff → V9, mem_of_getElem? → Wa, getElem?_eq_getElem → Wb, mem_iff_getElem? → Wd, getElem?_append_left → We, getElem?_map → Wf, length_map → Wg, mem_map → Wk, getElem?_append_right → Wn, eq_nil_of_length_eq_zero → Wp, pairwise_cons → Wv, length_append → Wz, map_append → WC, mem_cons → WG, length_range → WI, mem_range → WJ, take_add_one → WL, getElem?_eq_none → WS, getElem?_set_self → WU, take_length → WV, ext_getElem? → WW, any_eq_false → WY, mem_cons_of_mem → W3, getElem_of_mem → Xg, mem_singleton → Xj, getElem?_set_ne → Xk, find?_eq_none → Xn, foldl_cons → Xp, range_succ → Xq, map_map → Xw, nodup_append → Xy, find?_some → XH, filterMap_append → XI
open Nat renaming lt_or_ge → Wh, le_refl → Wj, mod_lt → Wt, zero_le → WA
open Int renaming toNat_natCast → WX
open Bool renaming eq_iff_iff → Xb
namespace Go.Pv
def kf (l:List aH) (i:Int):Int:=((l[i.toNat]?).map (·.kind)).getD 0
def lZ (l:List aH) (k:Nat) (t:aH):Bool:=!decide (t.name=⟨#[]⟩)&&cY ((l.take k).map (·.name)) t.name
def dP (n:Nat) (u:Int):Bool:=decide (u<0)||decide ((n:Int)<=u)
def eX (l:List aH) (t:aH):Bool:=decide (t.kind=8)&&!(decide (1<=kf l t.key)&&decide (kf l t.key<=4))
noncomputable def gR (l:List aH) (k:Nat) (t:aH):Int:=if (!dO t||lZ l k t)=true then 1 else if (cT t).any (dP l.length)=true then 4 else if eX l t=true then 1 else 0
noncomputable def eY (l:List aH) (k:Nat):Int:=match l[k]? with
 |some t=>gR l k t
 |none=>0
noncomputable def yw (l:List aH) (o:Option Nat):Int:=match o with
 |some k=>eY l k
 |none=>0
noncomputable def cS (l:List aH):Int:=if 32<l.length then 3 else yw l ((List.range l.length).find? fun k=>decide (eY l k≠0))
def ot (l:List aH) (k:Nat):List ByteArray:=((l.take k).map (·.name)).foldl pK []
theorem pN:∀(m s:List ByteArray) (x:ByteArray),x∈m.foldl pK s↔x∈s\/x∈m
 |[],s,x=>by simp
 |y::m,s,x=>by
  rw[Xp,pN m (pK s y) x,EL,WG]
  constructor
  .rintro ((h|h)|h)
   .exact .inl h
   .exact .inr (.inl h)
   .exact .inr (.inr h)
  .rintro (h|h|h)
   .exact .inl (.inl h)
   .exact .inl (.inr h)
   .exact .inr h
theorem uR (l:List aH) (k:Nat) (x:ByteArray):cY (ot l k) x=cY ((l.take k).map (·.name)) x:=by
 rw[Xb,eI,eI,ot,pN]
 simp
theorem An {l:List aH} {k:Nat} {t:aH} (h:l[k]?=some t):pK (ot l k) t.name=ot l (k+1):=by
 unfold ot
 rw[WL,h,WC,List.foldl_append]
 rfl
theorem ou {t:aH} (h:t.kind=8):t.key∈cT t:=by simp[cT,jF,h]
set_option maxHeartbeats 4000000 in
theorem r267 (v:Nat) (l:List aH) (hl:l.length<=2147483648) (ho:∀t∈l,t.ok) (hs:∀t∈l,t.short):res A aA 267 [.agg [.aq v (l.map aH.c)]]=some [.int .i64 (cS l)]:=by
 refine aw a267 rfl rfl ?_
 simp only[F267,Kx]
 simp(disch:=omega)only[go_sem]
 refine Br.aJ (fun c0=>?_) (fun c0=>?_)<;>simp(disch:=omega)only[go_sem,c0]
 .have:32<l.length:=by omega
  simp[cS,this]
 have h32:¬32<l.length:=by omega
 unfold cS
 rw[if_neg h32]
 obtain⟨G,hG⟩:∃G,yw l ((List.range l.length).find? fun k=>decide (eY l k≠0))=G:=⟨_,rfl⟩
 rw[hG]
 refine W.find (List.range l.length) (fun k=>decide (eY l k≠0)) (fun k=>⟨[(1,.ptr 1 0),(3,.map 0),(14,.pv (.aq v (l.map aH.c))),(15,.pv (.int .i64 l.length)),(16,.pv (.int .i64 k))],⟨[(1,[.pv (.aq v (l.map aH.c))])],[],[iT (ot l k)]⟩⟩) rfl (fun k x hx hk hfd=>?_) (fun hn=>?_)
 .obtain⟨rfl,hk⟩:=ey hx
  have hp:=Wb hk
  generalize l[x]=p at hp
  have hm:=Wa hp
  have h283:=r283 p (ho p hm) (hs p hm)
  have h284:=r284 p (hs p hm)
  have he:eY l x=gR l x p:=by simp only[eY,hp]
  have hnx:=An hp
  have hsn:=uR l x p.name
  have done:∀e:Int,gR l x p=e->e≠0->(some [PV.int .i64 e]:Option (List PV))=some [.int .i64 G]:=fun e h1 h2=>by
   rw[<- hG,(hfd (by rw[he,h1]; simpa using h2)).find,yw,he,h1]
  rw[he]
  have hul:(cT p).length<=1048578:=by
   have:=(hs p hm).bc
   unfold cT jF gM
   rw[Wz,Wz,Wg]
   split<;>split<;>simp<;>omega
  unfold aH.c at h283 h284
  simp(disch:=omega)only[go_sem]
  refine Br.aJ (fun c=>?_) (fun c=>(c (by omega)).elim)
  simp(disch:=omega)only[go_sem,hp,aH.c,h283]
  refine Br.of (fun c1=>?_) (fun c1=>?_)<;>simp(disch:=omega)only[go_sem,c1]
  rotate_left
  .exact done 1 (by simp[gR,c1]) (by decide)
  have nodup:lZ l x p=false->(!dO p||lZ l x p)=false:=fun h=>by rw[c1,h]; rfl
  have dup:lZ l x p=(!decide (p.name=⟨#[]⟩)&&cY (ot l x) p.name):=by rw[uR]; rfl
  have hown:(dO p)=true:=c1
  refine Br.aJ (fun c2=>?_) (fun c2=>?_)
  .have d2:decide (p.name=⟨#[]⟩)=true:=by simp[c2]
   rw[d2]at dup
   have hd:=nodup (by rw[dup]; rfl)
   clear c2
   simp(disch:=omega)only[go_sem,d2,h284,hnx]
   refine W.find (cT p) (dP l.length) (fun j=>⟨[(1,.ptr 1 0),(3,.map 0),(5,.ptr 5 0),(14,.pv (.aq v (l.map aH.c))),(15,.pv (.int .i64 l.length)),(16,.pv (.int .i64 x)),(38,.pv (.aq 0 (ints (cT p)))),(39,.pv (.int .i64 (cT p).length)),(40,.pv (.int .i64 j))],⟨[(1,[.pv (.aq v (l.map aH.c))]),(5,[.pv (.int .i64 p.kind),.pv (.str p.name),.pv (.int .i64 p.low),.pv (.int .i64 p.high),.pv (.int .i64 p.max),.pv (.aq 0 (p.syms.map Sym.c)),.pv (.aq 0 (p.bc.map Mem.c)),.pv (.int .i64 p.key),.pv (.int .i64 p.elem),.pv (.bool p.jO)])],[],[iT (ot l (x+1))]⟩⟩) rfl (fun j u hu hj hfd2=>?_) (fun hn=>?_)
   .have d4:dP l.length u=true->gR l x p=4:=fun g=>by
     rw[gR,hd,(hfd2 g).any]
     rfl
    simp(disch:=omega)only[go_sem]
    refine Br.aJ (fun c=>?_) (fun c=>(c (by omega)).elim)
    simp(disch:=omega)only[go_sem,hu]
    refine Br.aJ (fun c4=>?_) (fun c4=>?_)<;>simp(disch:=omega)only[go_sem,c4]
    .exact done 4 (d4 (by simp[dP,c4])) (by decide)
    refine Br.aJ (fun c5=>?_) (fun c5=>?_)<;>simp(disch:=omega)only[go_sem,c5]
    .exact done 4 (d4 (by simp[dP,c5])) (by decide)
    .exact bB.of (by simp[dP,c4,c5]) rfl
   .have he2:gR l x p=if eX l p=true then 1 else 0:=by
     rw[gR,hd,hn.any]
     rfl
    simp(disch:=omega)only[go_sem]
    refine Br.aJ (fun c4=>?_) (fun c4=>?_)
    .have hku:=ou c4
     have hout:=WY.1 hn.any _ hku
     have hk0:0<=p.key/\p.key<l.length:=by
      simp[dP]at hout
      omega
     have hkk:=Wb (l:=l) (i:=p.key.toNat) (by omega)
     have hka:kf l p.key=(l[p.key.toNat]'(by omega)).kind:=by rw[kf,hkk]; rfl
     generalize l[p.key.toNat]'(by omega)=q at hkk hka
     have d8:decide (p.kind=8)=true:=by simp[c4]
     have hb:eX l p=!(decide (1<=q.kind)&&decide (q.kind<=4)):=by rw[eX,d8,hka]; rfl
     have hidx:jx 10 v (l.map aH.c) (some p.key)=some (V.pv (.ro v q.c)):=by
      rw[gB _ _ _ hk0.1,Wf,hkk]
      rfl
     unfold aH.c at hidx
     unfold aH.c
     simp(disch:=omega)only[go_sem,d8,hidx]
     refine Br.aJ (fun c6=>?_) (fun c6=>?_)<;>simp(disch:=omega)only[go_sem,c6]
     .refine done 1 ?_ (by decide)
      have:¬1<=q.kind:=by omega
      rw[he2,hb]
      simp[this]
     simp(disch:=omega)only[go_sem,hidx]
     refine Br.aJ (fun c7=>?_) (fun c7=>?_)<;>simp(disch:=omega)only[go_sem,c7]
     .refine done 1 ?_ (by decide)
      have:¬q.kind<=4:=by omega
      rw[he2,hb]
      simp[this]
     .refine bB.of ?_ rfl
      have h1:1<=q.kind:=by omega
      have h2:q.kind<=4:=by omega
      rw[he2,hb]
      simp[h1,h2]
    .have d8:decide (p.kind=8)=false:=by simp[c4]
     have hb:eX l p=false:=by rw[eX,d8]; rfl
     simp(disch:=omega)only[go_sem,d8]
     refine bB.of ?_ rfl
     rw[he2,hb]
     rfl
  .have d2:decide (p.name=⟨#[]⟩)=false:=by simp[c2]
   rw[d2]at dup
   simp(disch:=omega)only[go_sem,d2]
   refine Br.of (fun c3=>?_) (fun c3=>?_)<;>simp(disch:=omega)only[go_sem,c3,h284,hnx]
   .refine done 1 ?_ (by decide)
    rw[gR,dup,c3]
    simp
   have hd:=nodup (by rw[dup,c3]; rfl)
   refine W.find (cT p) (dP l.length) (fun j=>⟨[(1,.ptr 1 0),(3,.map 0),(5,.ptr 5 0),(14,.pv (.aq v (l.map aH.c))),(15,.pv (.int .i64 l.length)),(16,.pv (.int .i64 x)),(38,.pv (.aq 0 (ints (cT p)))),(39,.pv (.int .i64 (cT p).length)),(40,.pv (.int .i64 j))],⟨[(1,[.pv (.aq v (l.map aH.c))]),(5,[.pv (.int .i64 p.kind),.pv (.str p.name),.pv (.int .i64 p.low),.pv (.int .i64 p.high),.pv (.int .i64 p.max),.pv (.aq 0 (p.syms.map Sym.c)),.pv (.aq 0 (p.bc.map Mem.c)),.pv (.int .i64 p.key),.pv (.int .i64 p.elem),.pv (.bool p.jO)])],[],[iT (ot l (x+1))]⟩⟩) rfl (fun j u hu hj hfd2=>?_) (fun hn=>?_)
   .have d4:dP l.length u=true->gR l x p=4:=fun g=>by
     rw[gR,hd,(hfd2 g).any]
     rfl
    simp(disch:=omega)only[go_sem]
    refine Br.aJ (fun c=>?_) (fun c=>(c (by omega)).elim)
    simp(disch:=omega)only[go_sem,hu]
    refine Br.aJ (fun c4=>?_) (fun c4=>?_)<;>simp(disch:=omega)only[go_sem,c4]
    .exact done 4 (d4 (by simp[dP,c4])) (by decide)
    refine Br.aJ (fun c5=>?_) (fun c5=>?_)<;>simp(disch:=omega)only[go_sem,c5]
    .exact done 4 (d4 (by simp[dP,c5])) (by decide)
    .exact bB.of (by simp[dP,c4,c5]) rfl
   .have he2:gR l x p=if eX l p=true then 1 else 0:=by
     rw[gR,hd,hn.any]
     rfl
    simp(disch:=omega)only[go_sem]
    refine Br.aJ (fun c4=>?_) (fun c4=>?_)
    .have hku:=ou c4
     have hout:=WY.1 hn.any _ hku
     have hk0:0<=p.key/\p.key<l.length:=by
      simp[dP]at hout
      omega
     have hkk:=Wb (l:=l) (i:=p.key.toNat) (by omega)
     have hka:kf l p.key=(l[p.key.toNat]'(by omega)).kind:=by rw[kf,hkk]; rfl
     generalize l[p.key.toNat]'(by omega)=q at hkk hka
     have d8:decide (p.kind=8)=true:=by simp[c4]
     have hb:eX l p=!(decide (1<=q.kind)&&decide (q.kind<=4)):=by rw[eX,d8,hka]; rfl
     have hidx:jx 10 v (l.map aH.c) (some p.key)=some (V.pv (.ro v q.c)):=by
      rw[gB _ _ _ hk0.1,Wf,hkk]
      rfl
     unfold aH.c at hidx
     unfold aH.c
     simp(disch:=omega)only[go_sem,d8,hidx]
     refine Br.aJ (fun c6=>?_) (fun c6=>?_)<;>simp(disch:=omega)only[go_sem,c6]
     .refine done 1 ?_ (by decide)
      have:¬1<=q.kind:=by omega
      rw[he2,hb]
      simp[this]
     simp(disch:=omega)only[go_sem,hidx]
     refine Br.aJ (fun c7=>?_) (fun c7=>?_)<;>simp(disch:=omega)only[go_sem,c7]
     .refine done 1 ?_ (by decide)
      have:¬q.kind<=4:=by omega
      rw[he2,hb]
      simp[this]
     .refine bB.of ?_ rfl
      have h1:1<=q.kind:=by omega
      have h2:q.kind<=4:=by omega
      rw[he2,hb]
      simp[h1,h2]
    .have d8:decide (p.kind=8)=false:=by simp[c4]
     have hb:eX l p=false:=by rw[eX,d8]; rfl
     simp(disch:=omega)only[go_sem,d8]
     refine bB.of ?_ rfl
     rw[he2,hb]
     rfl
 .rw[hn.find]at hG
  rw[WI]
  simp(disch:=omega)only[go_sem]
  rw[<- hG]
  rfl
theorem CL {s:ByteArray} (h:isName s=true):s≠⟨#[]⟩:=by
 rintro rfl
 cases h
theorem yx {p:aH} (h:dO p=true):p.kind<=9:=by
 unfold dO at h
 simp only[Bool.and_eq_true,decide_eq_true_eq]at h
 exact h.1.2
theorem EN {α:Type} {r:α->α->Prop} (irr:∀x,¬r x x) (tr:∀x y z,r x y->r y z->r x z):∀{l m:List α},l.Pairwise r->m.Pairwise r->(∀x,x∈l↔x∈m)->l=m
 |[],[],_,_,_=>rfl
 |[],y::m,_,_,h=>absurd ((h y).2 (by simp)) (by simp)
 |x::l,[],_,_,h=>absurd ((h x).1 (by simp)) (by simp)
 |x::l,y::m,hl,hm,h=>by
  rw[Wv]at hl hm
  have e:x=y:=by
   rcases List.mem_cons.1 ((h x).1 (by simp))with e|hx
   .exact e
   .rcases List.mem_cons.1 ((h y).2 (by simp))with e|hy
    .exact e.symm
    .exact(irr x (tr x y x (hl.1 y hy) (hm.1 x hx))).elim
  subst e
  congr 1
  refine EN irr tr hl.2 hm.2 fun z=>⟨fun hz=>?_,fun hz=>?_⟩
  .rcases WG.1 ((h z).1 (W3 _ hz))with rfl|hz'
   .exact(irr z (hl.1 z hz)).elim
   .exact hz'
  .rcases WG.1 ((h z).2 (W3 _ hz))with rfl|hz'
   .exact(irr z (hm.1 z hz)).elim
   .exact hz'
theorem yy {l:List Int} {n:Nat} (hn:l.Nodup) (h:∀x∈l,0<=x/\x<n):l.length<=n:=by
 have:=List.Nodup.length_le_of_subset (l₂:=(List.range n).map Int.ofNat) hn (fun x hx=>by
  have:=h x hx
  rw[Wk]
  exact⟨x.toNat,List.mem_range.2 (by omega),by simp; omega⟩)
 simpa using this
section
variable {α:Type} [DecidableEq α]
def fw (o:List α) (x:α):List α:=if x∈o then o else o++[x]
theorem ov {o:List α} {x y:α}:y∈fw o x↔y∈o\/y=x:=by
 unfold fw
 split
 .rename_i h
  exact⟨.inl,fun h'=>h'.elim id (fun e=>e ▸ h)⟩
 .simp
theorem mX {o:List α} {x:α} (h:o.Nodup):(fw o x).Nodup:=by
 unfold fw
 split
 .exact h
 .rename_i hx
  rw[Xy]
  exact⟨h,by simp,fun a ha b hb=>by
   rw[Xj]at hb
   subst hb
   exact fun e=>hx (e ▸ ha)⟩
theorem sL (o:List α) (x:α):o<+:fw o x:=by
 unfold fw
 split
 .exact List.prefix_refl o
 .exact List.prefix_append o [x]
def sM (o:List α) (l:List α):List α:=l.foldl fw o
theorem il (o:List α) (x:α) (l:List α):sM o (x::l)=sM (fw o x) l:=rfl
theorem jG:∀{l o:List α} {y:α},y∈sM o l↔y∈o\/y∈l
 |[],o,y=>by simp[sM]
 |x::l,o,y=>by
  rw[il,jG,ov]
  simp[or_assoc]
theorem kg:∀{l o:List α},o.Nodup->(sM o l).Nodup
 |[],_,h=>h
 |x::l,o,h=>by
  rw[il]
  exact kg (mX h)
theorem sN:∀(o l:List α),o<+:sM o l
 |o,[]=>List.prefix_refl o
 |o,x::l=>by
  rw[il]
  exact(sL o x).trans (sN _ l)
def pO (nx:α->List α):Nat->Nat->List α->List α
 |0,_,o=>o
 |n+1,i,o=>match o[i]? with
  |none=>o
  |some v=>pO nx n (i+1) (sM o (nx v))
theorem yz {nx:α->List α} {n i:Nat} {o:List α} {v:α} (h:o[i]?=some v):pO nx (n+1) i o=pO nx n (i+1) (sM o (nx v)):=by
 simp only[pO,h]
theorem l6 {nx:α->List α}:∀{n i:Nat} {o:List α},o.length<=i->pO nx n i o=o
 |0,_,_,_=>rfl
 |n+1,i,o,h=>by simp only[pO,List.getElem?_eq_none h]
theorem wz {nx:α->List α}:∀(n i:Nat) (o:List α),o<+:pO nx n i o
 |0,_,o=>List.prefix_refl o
 |n+1,i,o=>by
  unfold pO
  split
  .exact List.prefix_refl o
  .exact(sN o _).trans (wz n _ _)
theorem uS {nx:α->List α}:∀(n i:Nat) {o:List α},o.Nodup->(pO nx n i o).Nodup
 |0,_,_,h=>h
 |n+1,i,o,h=>by
  unfold pO
  split
  .exact h
  .exact uS n _ (kg h)
inductive O8 (nx:α->List α) (s:α):α->Prop
 |refl:O8 nx s s
 |step {v x:α}:O8 nx s v->x∈nx v->O8 nx s x
theorem wA {nx:α->List α} {P:α->Prop} (hP:∀v,P v->∀x∈nx v,P x):∀(n i:Nat) {o:List α},(∀v∈o,P v)->∀v∈pO nx n i o,P v
 |0,_,_,h=>h
 |n+1,i,o,h=>by
  unfold pO
  split
  .exact h
  .rename_i v hv
   refine wA hP n _ fun x hx=>?_
   rcases jG.1 hx with hx|hx
   .exact h x hx
   .exact hP v (h v (Wa hv)) x hx
theorem yA {nx:α->List α} {N:Nat} {P:α->Prop} (hP:∀v,P v->∀x∈nx v,P x) (hN:∀o:List α,o.Nodup->(∀v∈o,P v)->o.length<=N):∀(n i:Nat) {o:List α},N<=n+i->o.Nodup->(∀v∈o,P v)->
  (∀j v,j<i->o[j]?=some v->∀x∈nx v,x∈o)->∀v∈pO nx n i o,∀x∈nx v,x∈pO nx n i o
 |0,i,o,hn,hd,ho,hc=>by
  intro v hv x hx
  obtain⟨j,hj,rfl⟩:=Xg hv
  have:=hN o hd ho
  have hlt:j<o.length:=hj
  exact hc j o[j] (by omega) (by simp) x hx
 |n+1,i,o,hn,hd,ho,hc=>by
  unfold pO
  split
  .rename_i hnone
   intro v hv x hx
   obtain⟨j,hj,rfl⟩:=Xg hv
   have:=List.getElem?_eq_none_iff.1 hnone
   exact hc j o[j] (by omega) (by simp) x hx
  .rename_i v hv
   refine yA hP hN n (i+1) (by omega) (kg hd) (fun x hx=>?_) (fun j w hj hw x hx=>?_)
   .rcases jG.1 hx with hx|hx
    .exact ho x hx
    .exact hP v (ho v (Wa hv)) x hx
   .rw[jG]
    have hi:i<o.length:=(V9.1 hv).1
    obtain⟨t,ht⟩:=sN o (nx v)
    rw[<- ht,We (by omega)]at hw
    rcases Wh j i with h|h
    .exact .inl (hc j w h hw x hx)
    .obtain rfl:j=i:=by omega
     rw[hv]at hw
     cases hw
     exact .inr hx
theorem Hv {nx:α->List α} {N:Nat} {P:α->Prop} {s:α} (hP:∀v,P v->∀x∈nx v,P x) (hN:∀o:List α,o.Nodup->(∀v∈o,P v)->o.length<=N) (hs:P s) {v:α}:v∈pO nx N 0 [s]↔O8 nx s v:=by
 constructor
 .exact wA (P:=O8 nx s) (fun v hv x hx=>.step hv hx) N 0 (by simp; exact .refl) v
 .have hc:=yA hP hN N 0 (o:=[s]) (by omega) (by simp) (by simpa using hs) (fun j v hj=>absurd hj (Nat.not_lt_zero _))
  have hp:s∈pO nx N 0 [s]:=(wz N 0 [s]).subset (by simp)
  intro h
  induction h with
  |refl=>exact hp
  |step _ hx ih=>exact hc _ ih _ hx
section
variable {β:Type} [DecidableEq β]
theorem EO {g:α->β} {o:List α} {x:α} (hg:∀y∈o,g y=g x->y=x):fw (o.map g) (g x)=(fw o x).map g:=by
 unfold fw
 by_cases h:x∈o
 .rw[if_pos h,if_pos (List.mem_map_of_mem h)]
 .rw[if_neg h,if_neg (fun hm=>by
   obtain⟨y,hy,e⟩:=Wk.1 hm
   exact h (hg y hy e ▸ hy)),WC]
  rfl
theorem yB {g:α->β} {P:α->Prop} (hg:∀x y,P x->P y->g x=g y->x=y):∀(l:List α) {o:List α},(∀v∈o,P v)->(∀v∈l,P v)->sM (o.map g) (l.map g)=(sM o l).map g
 |[],_,_,_=>rfl
 |x::l,o,ho,hl=>by
  rw[List.map_cons,il,il,EO (fun y hy e=>hg y x (ho y hy) (hl x (by simp)) e)]
  refine yB hg l (fun v hv=>?_) (fun v hv=>hl v (by simp[hv]))
  rcases ov.1 hv with h|h
  .exact ho v h
  .exact h ▸ hl x (by simp)
theorem BG {g:α->β} {P:α->Prop} {nx:α->List α} {nx':β->List β} (hg:∀x y,P x->P y->g x=g y->x=y) (hP:∀v,P v->∀x∈nx v,P x) (hx:∀v,P v->nx' (g v)=(nx v).map g):
  ∀(n i:Nat) {o:List α},(∀v∈o,P v)->pO nx' n i (o.map g)=(pO nx n i o).map g
 |0,_,_,_=>rfl
 |n+1,i,o,ho=>by
  simp only[pO,List.getElem?_map]
  cases h:o[i]? with
  |none=>rfl
  |some v=>
   have hv:=ho v (Wa h)
   simp only[Option.map_some]
   rw[hx v hv,yB hg (nx v) ho (hP v hv)]
   refine BG hg hP hx n (i+1) fun x hx'=>?_
   rcases jG.1 hx' with h'|h'
   .exact ho x h'
   .exact hP v hv x h'
end
end
theorem yC {α:Type} [DecidableEq α] {nx:α->List α} {N:Nat} {P:α->Prop} (hP:∀v,P v->∀x∈nx v,P x) (hN:∀o:List α,o.Nodup->(∀v∈o,P v)->o.length<=N):∀(n m i:Nat) {o:List α},N<=n+i->N<=m+i->o.Nodup->(∀v∈o,P v)->pO nx n i o=pO nx m i o
 |0,m,i,o,h1,_,hd,ho=>by
  have:=hN o hd ho
  rw[l6 (by omega),l6 (by omega)]
 |n+1,0,i,o,_,h2,hd,ho=>by
  have:=hN o hd ho
  rw[l6 (by omega),l6 (by omega)]
 |n+1,m+1,i,o,h1,h2,hd,ho=>by
  simp only[pO]
  cases h:o[i]? with
  |none=>rfl
  |some v=>
   have hv:=ho v (Wa h)
   refine yC hP hN n m (i+1) (by omega) (by omega) (kg hd) fun x hx=>?_
   rcases jG.1 hx with h'|h'
   .exact ho x h'
   .exact hP v hv x h'
end Go.Pv
namespace Go.Pv
def RS:aH:=⟨0,⟨#[]⟩,0,0,0,[],[],0,0,false⟩
def ji (l:List aH) (i:Int):aH:=(l[i.toNat]?).getD RS
structure RT (l:List aH):Prop where
 len:l.length<=32
 own:∀t∈l,dO t=true
 Np:∀t∈l,∀u∈cT t,0<=u/\u<l.length
theorem eZ {l:List aH} (h:cS l=0):RT l:=by
 unfold cS at h
 split at h
 .cases h
 .rename_i hl
  have hz:∀k,k<l.length->eY l k=0:=by
   cases hf:(List.range l.length).find? (fun k=>decide (eY l k≠0))with
   |none=>
    intro k hk
    have:=Xn.1 hf k (WJ.2 hk)
    simpa using this
   |some k=>
    rw[hf]at h
    have:=XH hf
    simp only[yw]at h
    simp[h]at this
  have hone:∀t∈l,dO t=true/\(cT t).any (dP l.length)=false:=by
   intro t ht
   obtain⟨k,hk⟩:=Wd.1 ht
   have:=hz k (V9.1 hk).1
   simp only[eY,hk,gR]at this
   split at this
   .cases this
   .rename_i h1
    split at this
    .cases this
    .rename_i h2
     simp only[Bool.or_eq_true,Bool.not_eq_true',not_or,Bool.not_eq_false]at h1
     exact⟨h1.1,by simpa using h2⟩
  refine⟨by omega,fun t ht=>(hone t ht).1,fun t ht u hu=>?_⟩
  have:=WY.1 (hone t ht).2 u hu
  simp[dP]at this
  omega
theorem uT {l:List aH} {i:Int} (h0:0<=i) (h:i<l.length):l[i.toNat]?=some (ji l i):=by
 have:=Wb (l:=l) (i:=i.toNat) (by omega)
 rw[ji,this]
 rfl
@[go_sem] theorem O9 (h:aa):gL [.tl []] h=some (.dy [],{}):=rfl
@[go_sem] theorem Ao (h:aa):ca h true [.tl []]=some ([.aq 0 []],none):=rfl
@[go_sem] theorem Mn (h:aa) (x:Int):gL [.tl [[.int .i64 x]]] h=some (.dy [],{}):=rfl
variable {P:Program}
theorem UK {n:Nat} {t:TypeId} {cs:List PV} (hu:P.underlying t=some .string) (h:typed P n t cs):∃s,cs=[.str s]/\bC s:=by
 cases n with
 |zero=>exact h.elim
 |succ n=>
  simp only[typed,hu]at h
  exact h
theorem jH {α:Type} {c:α->List PV} {ok:α->Prop} {n:Nat} {t el:TypeId} {cs:List PV} (hu:P.underlying t=some (.slice el)) (he:∀m cs,m+1=n->typed P m el cs->∃x,cs=c x/\ok x) (h:typed P n t cs):∃l:List α,cs=[.aq 0 (l.map c)]/\bP l/\∀x∈l,ok x:=by
 cases n with
 |zero=>exact h.elim
 |succ n=>
  obtain⟨rows,rfl,hl,hr⟩:=yh hu h
  obtain⟨l,rfl⟩:=yi (c:=fun x:{x:α//ok x}=>c x.1) (rows:=rows) (fun r hr'=>by
   obtain⟨x,rfl,hx⟩:=he n r rfl (hr r hr')
   exact⟨⟨x,hx⟩,rfl⟩)
  refine⟨l.map (·.1),by simp,by simpa [bP,maxLen]using hl,fun x hx=>?_⟩
  obtain⟨y,_,rfl⟩:=Wk.1 hx
  exact y.2
structure VJ (P:Program) (sch typ sym mem val raw ls lsym lmem lval lraw tx ti t64 tb:TypeId):Prop where
 i:P.underlying ti=some (.int .i64)
 i64:P.underlying t64=some (.int .i64)
 b:P.underlying tb=some .bool
 x:P.underlying tx=some .string
 l:P.underlying ls=some (.slice typ)
 ly:P.underlying lsym=some (.slice sym)
 lm:P.underlying lmem=some (.slice mem)
 lv:P.underlying lval=some (.slice val)
 lr:P.underlying lraw=some (.slice raw)
 s:∃fs,P.underlying sch=some (.struct fs)/\fs.toList.map (·.type)=[ls]
 t:∃fs,P.underlying typ=some (.struct fs)/\fs.toList.map (·.type)=[ti,tx,t64,t64,ti,lsym,lmem,ti,ti,tb]
 y:∃fs,P.underlying sym=some (.struct fs)/\fs.toList.map (·.type)=[ti,tx]
 m:∃fs,P.underlying mem=some (.struct fs)/\fs.toList.map (·.type)=[ti,tx,ti,tb,tb,val]
 v:∃fs,P.underlying val=some (.struct fs)/\fs.toList.map (·.type)=[ti,tb,t64,tx,ti,lval,lval,lraw]
 r:∃fs,P.underlying raw=some (.struct fs)/\fs.toList.map (·.type)=[ti,tx]
section
variable {sch typ sym mem val raw ls lsym lmem lval lraw tx ti t64 tb:TypeId}
end
end Go.Pv
namespace Go.Pv
theorem yD {k:Nat} {rows:List (List PV)} (h:∀r∈rows,r.length=k):aO k (.inl rows)=true:=by
 simp only[aO,List.all_eq_true,beq_iff_eq]
 exact h
def Holds (ar:List aL) (id ax k:Nat) (rows:List (List PV)):Prop:=∃R,ar[id]?=some ⟨ax,k,.inl R⟩/\R.take rows.length=rows
theorem Holds.whole {ar:List aL} {id ax k:Nat} {rows:List (List PV)} (h:ar[id]?=some ⟨ax,k,.inl rows⟩):Holds ar id ax k rows:=⟨_,h,WV⟩
theorem Holds.lt {ar:List aL} {id ax k:Nat} {rows:List (List PV)} (h:Holds ar id ax k rows):id<ar.length:=by
 obtain⟨R,h,_⟩:=h
 exact(V9.1 h).1
theorem Holds.move {a b:List aL} {id ax k:Nat} {rows:List (List PV)} (h:Holds a id ax k rows) (e:b[id]?=a[id]?):Holds b id ax k rows:=by
 obtain⟨R,h,h2⟩:=h
 exact⟨R,e.trans h,h2⟩
def Home (ar:List aL) (o k:Nat) (v:V) (rows:List (List PV)):Prop:=v=.pv (.aq 0 rows)\/(∃id ax,v=.own id ax 0 rows.length/\id≠o/\Holds ar id ax k rows)\/v=.tl rows
theorem Home.push {ar:List aL} {o k:Nat} {v:V} {rows:List (List PV)} (h:Home ar o k v rows) (x:List aL):Home (ar++x) o k v rows:=by
 rcases h with h|⟨id,ax,h1,h2,h3⟩|h
 .exact .inl h
 .exact .inr (.inl ⟨id,ax,h1,h2,h3.move (We h3.lt)⟩)
 .exact .inr (.inr h)
theorem Home.set {ar:List aL} {o k:Nat} {v:V} {rows:List (List PV)} (h:Home ar o k v rows) (a:aL):Home (ar.set o a) o k v rows:=by
 rcases h with h|⟨id,ax,h1,h2,h3⟩|h
 .exact .inl h
 .exact .inr (.inl ⟨id,ax,h1,h2,h3.move (Xk (fun e=>h2 e.symm))⟩)
 .exact .inr (.inr h)
theorem Home.keep {ar:List aL} {o k:Nat} {v:V} {rows:List (List PV)} (h:Home ar o k v rows) (bx:List (Nat×List V)) (mp:List (List (PV×PV))) (d:Nat):aY ⟨bx,ar,mp⟩ (d+1) v=some (.aq 0 rows):=by
 rcases h with rfl|⟨id,ax,rfl,h2,R,h3,h4⟩|rfl
 .rfl
 .rw[dS,jB,h3]
  simp only[Option.bind_some,if_true,az,bO,List.drop_zero,h4]
 .rfl
def lu (ar:List aL) (o:Nat) (row:List V) (t:aH):Prop:=∃sv mv,row=[.pv (.int .i64 t.kind),.pv (.str t.name),.pv (.int .i64 t.low),.pv (.int .i64 t.high),.pv (.int .i64 t.max),sv,mv,.pv (.int .i64 t.key),.pv (.int .i64 t.elem),.pv (.bool t.jO)]/\
 Home ar o 2 sv (t.syms.map Sym.c)/\Home ar o 13 mv (t.bc.map Mem.c)
theorem lu.push {ar:List aL} {o:Nat} {row:List V} {t:aH} (h:lu ar o row t) (x:List aL):lu (ar++x) o row t:=by
 obtain⟨sv,mv,h1,h2,h3⟩:=h
 exact⟨sv,mv,h1,h2.push x,h3.push x⟩
theorem lu.set {ar:List aL} {o:Nat} {row:List V} {t:aH} (h:lu ar o row t) (a:aL):lu (ar.set o a) o row t:=by
 obtain⟨sv,mv,h1,h2,h3⟩:=h
 exact⟨sv,mv,h1,h2.set a,h3.set a⟩
theorem lu.len {ar:List aL} {o:Nat} {row:List V} {t:aH} (h:lu ar o row t):row.length=10:=by
 obtain⟨sv,mv,rfl,_⟩:=h
 rfl
theorem lu.keep {ar:List aL} {o:Nat} {row:List V} {t:aH} (h:lu ar o row t) (bx:List (Nat×List V)) (mp:List (List (PV×PV))) (d:Nat):ay (aY ⟨bx,ar,mp⟩ (d+1)) row=some t.c:=by
 obtain⟨sv,mv,rfl,h2,h3⟩:=h
 simp only[ay,h2.keep bx mp d,h3.keep bx mp d,ya,PV.perm,if_true]
 rfl
def dX:Sum (List (List PV)) (List (List V))->List (List V)
 |.inl x=>x.map (·.map .pv)
 |.inr x=>x
theorem im (b:Sum (List (List PV)) (List (List V))):(dX b).length=aD b:=by cases b<;>simp[dX,aD]
theorem l7 (a b:Sum (List (List PV)) (List (List V))):dX (aU a b)=dX a++dX b:=by
 cases a<;>cases b<;>simp[dX,aU]
structure lx (ar:List aL) (o:Nat) (rows:List (List V)) (ts:List aH):Prop where
 len:rows.length=ts.length
 row:∀(i:Nat) row t,rows[i]?=some row->ts[i]?=some t->lu ar o row t
theorem lx.push {ar:List aL} {o:Nat} {rows:List (List V)} {ts:List aH} (h:lx ar o rows ts) (x:List aL):lx (ar++x) o rows ts:=⟨h.len,fun i row t h1 h2=>(h.row i row t h1 h2).push x⟩
theorem lx.set {ar:List aL} {o:Nat} {rows:List (List V)} {ts:List aH} (h:lx ar o rows ts) (a:aL):lx (ar.set o a) o rows ts:=⟨h.len,fun i row t h1 h2=>(h.row i row t h1 h2).set a⟩
theorem lx.snoc {ar:List aL} {o:Nat} {rows:List (List V)} {ts:List aH} {row:List V} {t:aH} (h:lx ar o rows ts) (hr:lu ar o row t):lx ar o (rows++[row]) (ts++[t]):=by
 refine⟨by simp[h.len],fun i r u h1 h2=>?_⟩
 rcases Wh i rows.length with hi|hi
 .rw[We hi]at h1
  rw[We (by rw[<- h.len]; exact hi)]at h2
  exact h.row i r u h1 h2
 .rw[Wn hi]at h1
  rw[Wn (by rw[<- h.len]; exact hi)]at h2
  rw[h.len]at h1
  cases hj:i - ts.length with
  |zero=>
   rw[hj]at h1 h2
   cases h1
   cases h2
   exact hr
  |succ j=>
   rw[hj]at h1
   simp at h1
theorem pP {α β γ:Type} {f:α->Option β}:∀{rows:List (List α)} {ts:List γ} {c:γ->List β},rows.length=ts.length->(∀(i:Nat) row t,rows[i]?=some row->ts[i]?=some t->ay f row=some (c t))->ay (ay f) rows=some (ts.map c)
 |[],[],_,_,_=>rfl
 |r::rows,t::ts,c,hl,h=>by
  have h1:=h 0 r t rfl rfl
  have h2:=pP (f:=f) (rows:=rows) (ts:=ts) (c:=c) (by simpa using hl) (fun i row u hi hu=>h (i+1) row u (by simpa using hi) (by simpa using hu))
  simp only[ay,h1,h2,List.map_cons]
theorem sO {h:aa} {d:Nat}:∀{l r:List PV},ay (aY h d) (l.map V.pv)=some r->r=l
 |[],r,he=>by
  cases he
  rfl
 |x::l,r,he=>by
  simp only[List.map_cons,su,ya]at he
  split at he
  .cases hm:ay (aY h d) (l.map V.pv)with
   |none=>simp[hm]at he
   |some y=>
    simp[hm]at he
    rw[<- he,sO hm]
  .simp at he
structure Ap (ar:List aL) (o ax:Nat) (ts:List aH):Prop where
 pos:ts≠[]
 it:∃body,ar[o]?=some ⟨ax,10,body⟩/\lx ar o (dX body) ts
theorem Ap.keep {ar:List aL} {o ax:Nat} {ts:List aH} (h:Ap ar o ax ts) (bx:List (Nat×List V)) (mp:List (List (PV×PV))):aY ⟨bx,ar,mp⟩ 4 (.own o ax 0 ts.length)=some (.aq 0 (ts.map aH.c)):=by
 obtain⟨body,h1,h2⟩:=h.it
 rw[dS,jB,h1]
 simp only[Option.bind_some,if_true]
 have hk:=pP (f:=aY ⟨bx,ar,mp⟩ 3) (c:=aH.c) h2.len (fun i row t hi ht=>(h2.row i row t hi ht).keep bx mp 2)
 cases body with
 |inl R=>
  have hl:R.length=ts.length:=by have:=h2.len; simpa [dX]using this
  simp only[az,bO,List.drop_zero]
  rw[<- hl,WV]
  congr 1
  congr 1
  apply WW
  intro i
  rcases Wh i R.length with hi|hi
  .have e1:=Wb hi
   have e2:=Wb (l:=ts) (i:=i) (by omega)
   rw[Wf,e1,e2]
   have:=(h2.row i (R[i].map V.pv) (ts[i]'(by omega)) (by simp[dX,e1]) e2).keep bx mp 2
   have:=sO this
   rw[Option.map_some,this]
  .rw[WS hi,Wf,WS (by omega)]
   rfl
 |inr R=>
  have hl:R.length=ts.length:=by have:=h2.len; simpa [dX]using this
  simp only[az,bO,List.drop_zero]
  rw[<- hl,WV]
  have hk':ay (ay (aY ⟨bx,ar,mp⟩ 3)) R=some (ts.map aH.c):=hk
  rw[hk']
  rfl
theorem ox {k:Nat} {b:Sum (List (List PV)) (List (List V))} (h:∀r∈dX b,r.length=k):aO k b=true:=by
 cases b with
 |inl x=>
  simp only[aO,List.all_eq_true,beq_iff_eq]
  intro r hr
  have:=h (r.map .pv) (List.mem_map_of_mem hr)
  simpa using this
 |inr x=>
  simp only[aO,List.all_eq_true,beq_iff_eq]
  exact h
theorem CM {bx:List (Nat×List V)} {ar:List aL} {mp:List (List (PV×PV))} {y:V} {new:Sum (List (List PV)) (List (List V))} {rd:Option Nat} {row:List V} (hs:aW ⟨bx,ar,mp⟩ y=some (new,rd)) (hn:dX new=[row]) (hr:row.length=10):
  aK ⟨bx,ar,mp⟩ 10 (.tl []) y=some (.own ar.length 0 0 1,{ push:=[⟨0,10,aU (.inl []) new⟩],ra:=rd,base:=ar.length }):=by
 have h1:aD new=1:=by rw[<- im,hn]; rfl
 have h2:aO 10 new=true:=ox (by rw[hn]; intro r hr'; rw[Xj]at hr'; rw[hr']; exact hr)
 simp only[aK,hs,h2,h1,if_true]
 simp[aO,aN]
theorem EP {bx:List (Nat×List V)} {ar:List aL} {mp:List (List (PV×PV))} {y:V} {new:Sum (List (List PV)) (List (List V))} {rd:Option Nat} {row:List V} {o ax n:Nat} {body:Sum (List (List PV)) (List (List V))} (hs:aW ⟨bx,ar,mp⟩ y=some (new,rd)) (hn:dX new=[row]) (hr:row.length=10)
  (ho:ar[o]?=some ⟨ax,10,body⟩) (hb:aD body=n) (hrd:rd≠some o) (hm:n+1<=2147483648):
  aK ⟨bx,ar,mp⟩ 10 (.own o ax 0 n) y=some (.own o (ax+1) 0 (n+1),{ ar:=some (o,⟨ax+1,10,aU (az 0 n body) new⟩),ra:=rd }):=by
 have h1:aD new=1:=by rw[<- im,hn]; rfl
 have h2:aO 10 new=true:=ox (by rw[hn]; intro r hr'; rw[Xj]at hr'; rw[hr']; exact hr)
 have h3:aB ⟨bx,ar,mp⟩ o ax=some ⟨ax,10,body⟩:=by rw[jB,ho]; simp
 have h4:(⟨ax,10,body⟩:aL).size=n:=by rw[<- hb]; cases body<;>rfl
 simp only[aK,hs,h2,h1,h3,if_true,h4]
 simp[aN,hm,hrd]
theorem BH {ax n:Nat} {b:Sum (List (List PV)) (List (List V))} (_h:aD b=n) (_hv:ax=ax):az 0 n b=b:=by
 subst _h
 cases b<;>simp[az,aD]
def wB (row:List V) (cs:List PV):Prop:=∀h d,ay (aY h (d+1)) row=some cs
theorem ER {w:Nat} {bx:List (Nat×List V)} {ar:List aL} {mp:List (List (PV×PV))} {y:V} {new:Sum (List (List PV)) (List (List V))} {rd:Option Nat} {row:List V} (hs:aW ⟨bx,ar,mp⟩ y=some (new,rd)) (hn:dX new=[row]) (hr:row.length=w):
  aK ⟨bx,ar,mp⟩ w (.tl []) y=some (.own ar.length 0 0 1,{ push:=[⟨0,w,aU (.inl []) new⟩],ra:=rd,base:=ar.length }):=by
 have h1:aD new=1:=by rw[<- im,hn]; rfl
 have h2:aO w new=true:=ox (by rw[hn]; intro r hr'; rw[Xj]at hr'; rw[hr']; exact hr)
 simp only[aK,hs,h2,h1,if_true]
 simp[aO,aN]
theorem Hw {w:Nat} {bx:List (Nat×List V)} {ar:List aL} {mp:List (List (PV×PV))} {y:V} {new:Sum (List (List PV)) (List (List V))} {rd:Option Nat} {row:List V} {o ax n:Nat} {body:Sum (List (List PV)) (List (List V))} (hs:aW ⟨bx,ar,mp⟩ y=some (new,rd)) (hn:dX new=[row]) (hr:row.length=w)
  (ho:ar[o]?=some ⟨ax,w,body⟩) (hb:aD body=n) (hrd:rd≠some o) (hm:n+1<=2147483648):
  aK ⟨bx,ar,mp⟩ w (.own o ax 0 n) y=some (.own o (ax+1) 0 (n+1),{ ar:=some (o,⟨ax+1,w,aU (az 0 n body) new⟩),ra:=rd }):=by
 have h1:aD new=1:=by rw[<- im,hn]; rfl
 have h2:aO w new=true:=ox (by rw[hn]; intro r hr'; rw[Xj]at hr'; rw[hr']; exact hr)
 have h3:aB ⟨bx,ar,mp⟩ o ax=some ⟨ax,w,body⟩:=by rw[jB,ho]; simp
 have h4:(⟨ax,w,body⟩:aL).size=n:=by rw[<- hb]; cases body<;>rfl
 simp only[aK,hs,h2,h1,h3,if_true,h4]
 simp[aN,hm,hrd]
structure Hx (w:Nat) (ar:List aL) (o ax:Nat) (cs:List (List PV)):Prop where
 it:∃body,ar[o]?=some ⟨ax,w,body⟩/\(dX body).length=cs.length/\∀(i:Nat) row c,(dX body)[i]?=some row->cs[i]?=some c->wB row c
def jI (w:Nat) (ar:List aL) (V0:V) (cs:List (List PV)):Prop:=(V0=.tl []/\cs=[])\/∃o ax,V0=.own o ax 0 cs.length/\Hx w ar o ax cs
theorem uU {rows:List (List V)} {cs:List (List PV)} {row:List V} {c:List PV} (h:rows.length=cs.length) (hr:∀(i:Nat) row c,rows[i]?=some row->cs[i]?=some c->wB row c) (hn:wB row c):
  (rows++[row]).length=(cs++[c]).length/\∀(i:Nat) r x,(rows++[row])[i]?=some r->(cs++[c])[i]?=some x->wB r x:=by
 refine⟨by simp[h],fun i r x h1 h2=>?_⟩
 rcases Wh i rows.length with hi|hi
 .rw[We hi]at h1
  rw[We (by rw[<- h]; exact hi)]at h2
  exact hr i r x h1 h2
 .rw[Wn hi]at h1
  rw[Wn (by rw[<- h]; exact hi)]at h2
  rw[h]at h1
  cases hj:i - cs.length with
  |zero=>
   rw[hj]at h1 h2
   cases h1
   cases h2
   exact hn
  |succ j=>
   rw[hj]at h1
   simp at h1
theorem BI {w:Nat} {ar X:List aL} {V0 y:V} {cs:List (List PV)} {c:List PV} {new:Sum (List (List PV)) (List (List V))} {rd:Option Nat} {row:List V} (hO:jI w ar V0 cs) (hm:cs.length+1<=2147483648)
  (hs:∀bx,aW ⟨bx,ar++X,[]⟩ y=some (new,rd)) (hn:dX new=[row]) (hrd:∀o,rd=some o->ar.length<=o) (hw:row.length=w) (hr:wB row c):
  ∃V1 T ar',(∀bx,aK ⟨bx,ar++X,[]⟩ w V0 y=some (V1,T))/\(∀bx,T.apply ⟨bx,ar++X,[]⟩=⟨bx,ar',[]⟩)/\V1.cells=[V1]/\V1.calm=true/\jI w ar' V1 (cs++[c]):=by
 rcases hO with⟨rfl,rfl⟩|⟨o,ax,rfl,hrep⟩
 .refine⟨_,_,(ar++X)++[⟨0,w,aU (.inl []) new⟩],fun bx=>ER (hs bx) hn hw,fun bx=>?_,rfl,rfl,.inr ⟨(ar++X).length,0,rfl,aU (.inl []) new,by simp,?_⟩⟩
  .simp[Tn.apply]
  .rw[l7,hn]
   exact uU (rows:=[]) (cs:=[]) rfl (fun i r x h1=>by simp at h1) hr
 .obtain⟨body,hb1,hb2,hb3⟩:=hrep.it
  have hol:=(V9.1 hb1).1
  have hb1':(ar++X)[o]?=some ⟨ax,w,body⟩:=by rw[We hol]; exact hb1
  have hbl:aD body=cs.length:=by rw[<- im]; exact hb2
  have happ:=fun bx=>Hw (bx:=bx) (mp:=[]) (hs bx) hn hw hb1' hbl (fun e=>by have:=hrd o e; omega) hm
  rw[BH (ax:=ax) hbl rfl]at happ
  refine⟨_,_,(ar++X).set o ⟨ax+1,w,aU body new⟩,happ,fun bx=>?_,rfl,rfl,.inr ⟨o,ax+1,by simp,aU body new,?_,?_⟩⟩
  .simp[Tn.apply]
  .rw[WU (by rw[Wz]; omega)]
  .rw[l7,hn]
   exact uU hb2 hb3 hr
theorem addLit {w:Nat} {ar:List aL} {V0:V} {cs:List (List PV)} {c:List PV} {row:List V} (hO:jI w ar V0 cs) (hm:cs.length+1<=2147483648) (hw:row.length=w) (hr:wB row c):
  ∃V1 T ar',(∀bx,aK ⟨bx,ar++[⟨0,w,.inr [row]⟩],[]⟩ w V0 (.own ar.length 0 0 1)=some (V1,T))/\(∀bx,T.apply ⟨bx,ar++[⟨0,w,.inr [row]⟩],[]⟩=⟨bx,ar',[]⟩)/\V1.cells=[V1]/\V1.calm=true/\jI w ar' V1 (cs++[c]):=by
 refine BI (X:=[⟨0,w,.inr [row]⟩]) (new:=.inr [row]) (rd:=some ar.length) hO hm (fun bx=>?_) rfl (fun o ho=>?_) hw hr
 .simp[aW,aB,az]
 .injection ho with ho
  rw[<- ho]
  exact Wj _
theorem ES {w:Nat} {ar:List aL} {V0:V} {cs:List (List PV)} {c:List PV} (hO:jI w ar V0 cs) (hm:cs.length+1<=2147483648) (hw:c.length=w) (hr:wB (c.map .pv) c):
  ∃V1 T ar',(∀bx,aK ⟨bx,ar,[]⟩ w V0 (.tl [c])=some (V1,T))/\(∀bx,T.apply ⟨bx,ar,[]⟩=⟨bx,ar',[]⟩)/\V1.cells=[V1]/\V1.calm=true/\jI w ar' V1 (cs++[c]):=by
 have:=BI (X:=[]) (y:=.tl [c]) (new:=.inl [c]) (rd:=none) (c:=c) (row:=c.map .pv) hO hm (fun bx=>rfl) rfl (fun o h=>by cases h) (by simp[hw]) hr
 simpa only[List.append_nil]using this
theorem jI.keep {w:Nat} {ar:List aL} {V0:V} {cs:List (List PV)} (h:jI w ar V0 cs) (bx:List (Nat×List V)) (mp:List (List (PV×PV))):aY ⟨bx,ar,mp⟩ 4 V0=some (.aq 0 cs):=by
 rcases h with⟨rfl,rfl⟩|⟨o,ax,rfl,hrep⟩
 .rfl
 obtain⟨body,h1,h2,h3⟩:=hrep.it
 rw[dS,jB,h1]
 simp only[Option.bind_some,if_true]
 have hk:=pP (f:=aY ⟨bx,ar,mp⟩ 3) (c:=id) h2 (fun i row t hi ht=>h3 i row t hi ht _ 2)
 rw[List.map_id]at hk
 cases body with
 |inl R=>
  have hl:R.length=cs.length:=by simpa [dX]using h2
  simp only[az,bO,List.drop_zero]
  rw[<- hl,WV]
  congr 1
  congr 1
  apply WW
  intro i
  rcases Wh i R.length with hi|hi
  .have e1:=Wb hi
   have e2:=Wb (l:=cs) (i:=i) (by omega)
   rw[e1,e2]
   have:=h3 i (R[i].map V.pv) (cs[i]'(by omega)) (by simp[dX,e1]) e2 ⟨bx,ar,mp⟩ 2
   rw[sO this]
  .rw[WS hi,WS (by omega)]
 |inr R=>
  have hl:R.length=cs.length:=by simpa [dX]using h2
  simp only[az,bO,List.drop_zero]
  rw[<- hl,WV]
  have hk':ay (ay (aY ⟨bx,ar,mp⟩ 3)) R=some cs:=hk
  rw[hk']
  rfl
theorem jI.same {w:Nat} {ar:List aL} {V0:V} {cs:List (List PV)} (h:jI w ar V0 cs) (kb:List Nat):dN kb V0=V0:=by
 rcases h with⟨rfl,rfl⟩|⟨o,ax,rfl,_⟩<;>rfl
theorem jI.kept {w:Nat} {ar:List aL} {V0:V} {cs:List (List PV)} (h:jI w ar V0 cs) (bx:List (Nat×List V)) (mp:List (List (PV×PV))):Go.Pv.keep ⟨bx,ar,mp⟩ false V0=some (.aq 0 cs):=by
 have:=h.keep bx mp
 rcases h with⟨rfl,rfl⟩|⟨o,ax,rfl,_⟩<;>exact this
@[go_sem] theorem Pa (p:Part):p.c.length=3:=rfl
@[go_sem] theorem Pb (x:Node):x.cs.length=5:=rfl
theorem RU (a n:Nat):Int.tmod (a:Int) (n:Int)=((a%n:Nat):Int):=(Int.ofNat_tmod a n).symm
theorem gN {k:IntKind} {a n:Nat} (h:n≠0):cB .rem (.pv (.int k (a:Int))) (.pv (.int k (n:Int)))=some (.pv (.int k ((a%n:Nat):Int))):=by
 rw[xY (by omega),RU]
theorem UL (a:Nat):cB .rem (.pv (.int .u8 (a:Int))) (.pv (.int .u8 9))=some (.pv (.int .u8 ((a%9:Nat):Int))):=gN (n:=9) (by decide)
theorem UM (a:Nat):cB .rem (.pv (.int .u8 (a:Int))) (.pv (.int .u8 7))=some (.pv (.int .u8 ((a%7:Nat):Int))):=gN (n:=7) (by decide)
theorem UN (a:Nat):cB .rem (.pv (.int .u8 (a:Int))) (.pv (.int .u8 6))=some (.pv (.int .u8 ((a%6:Nat):Int))):=gN (n:=6) (by decide)
theorem Hy (a:Nat):cB .rem (.pv (.int .u8 (a:Int))) (.pv (.int .u8 4))=some (.pv (.int .u8 ((a%4:Nat):Int))):=gN (n:=4) (by decide)
theorem Hz (a:Nat):cB .rem (.pv (.int .u8 (a:Int))) (.pv (.int .u8 2))=some (.pv (.int .u8 ((a%2:Nat):Int))):=gN (n:=2) (by decide)
theorem RV (a:Nat):cB .rem (.pv (.int .u8 (a:Int))) (.pv (.int .u8 12))=some (.pv (.int .u8 ((a%12:Nat):Int))):=gN (n:=12) (by decide)
theorem Mo {a i:Nat} (h:i<=8):cB .shr (.pv (.int .u8 (a:Int))) (.pv (.int .i64 (i:Int)))=some (.pv (.int .u8 ((a/2^i:Nat):Int))):=by
 have h0:¬(i:Int)<0:=by omega
 have hm:min ((i:Int).toNat) (IntKind.bits .u8)=i:=by
  rw[WX]
  exact Nat.min_eq_left h
 simp only[cB,or_true,if_true,ry,h0,if_false,hm,Option.map_some]
 congr 3
 rw[Int.fdiv_eq_ediv_of_nonneg _ (by exact Int.pow_nonneg (by decide))]
 norm_cast
theorem oy {t:Nat} {d:List Node} {i:Nat} {x:Node} (h:d[i]?=some x):jx 5 t (d.map Node.cs) (some (i:Int))=some (V.pv (.ro t x.cs)):=by
 rw[od,Wf,h]
 rfl
theorem r298 (t:Nat) (d:List Node) (i:Nat) (hi:i<d.length):res A aA 298 [.agg [.aq t (d.map Node.cs)],.int .i64 i]=some [.int .i64 (aI d i)]:=by
 refine aw a298 rfl rfl ?_
 simp only[F298,KF]
 have hx:=Wb hi
 generalize d[i]=x at hx
 have hk:aI d i=1+x.kind%9:=by rw[aI,hx]; rfl
 have hidx:=oy (t:=t) hx
 unfold Node.cs at hidx
 unfold Node.cs
 have hb:x.kind%9<9:=Wt _ (by decide)
 simp(disch:=omega)only[go_sem,hidx,UL]
 rw[hk]
 push_cast
 rfl
theorem r299 (x:Node):res A aA 299 [.agg x.cs]=some [.int .i64 (jD x)]:=by
 refine aw a299 rfl rfl ?_
 simp only[F299,KG]
 unfold Node.cs
 have hb:x.a%7<7:=Wt _ (by decide)
 simp(disch:=omega)only[go_sem,UM]
 rfl
theorem r300 (x:Node):res A aA 300 [.agg x.cs]=some [.int .i64 (lq x)]:=by
 refine aw a300 rfl rfl ?_
 simp only[F300,KH]
 have h:=r299 x
 have e:jD x=((x.a%7:Nat):Int) - 3:=rfl
 unfold Node.cs at *
 have hb:x.a%7<7:=Wt _ (by decide)
 have hc:x.b%6<6:=Wt _ (by decide)
 simp(disch:=omega)only[go_sem,h,UN]
 rfl
theorem r335 (k:Int):res A aA 335 [.int .i64 k]=some [.bool (decide (7<=k))]:=by
 refine aw a335 rfl rfl ?_
 simp only[F335,K1]
 simp(disch:=omega)only[go_sem]
theorem Aq (a n:Nat):iS a (n+1)=if a/2^n%2=1 then iS a n++[n] else iS a n:=by
 unfold iS
 rw[Xq,List.filter_append]
 by_cases h:a/2^n%2=1
 .simp[h]
 .simp[h]
theorem uV (a n:Nat):(iS a n).length<=n:=by
 unfold iS
 exact Nat.le_trans (List.length_filter_le _ _) (by simp)
def my (l:List Nat):List Int:=l.map fun(n:Nat)=>((n+1:Nat):Int)
def tX (l:List Nat):List Int:=l.map fun(n:Nat)=>(n:Int)
theorem Ar (l:List Nat) (n:Nat):my (l++[n])=my l++[((n+1:Nat):Int)]:=by simp[my]
theorem BJ (n:Nat):dh n []=.tl []:=rfl
theorem BK (k:Nat):cK k []=[]:=rfl
theorem r301 (x:Node):res A aA 301 [.agg x.cs]=some [.aq 0 (ints (tX (fP x.a)))]:=by
 refine aw a301 rfl rfl ?_
 simp only[F301,KI]
 obtain⟨k,a,b,c,ps⟩:=x
 unfold Node.cs
 dsimp only
 simp(disch:=omega)only[go_sem]
 refine W.fv 6 (fun j=>⟨[(1,.ptr 1 0),(3,dh 0 (ints (my (iS a j)))),(4,.pv (.int .i64 j))],⟨[(1,[.pv (.int .u8 k),.pv (.int .u8 a),.pv (.int .u8 b),.pv (.int .u8 c),.pv (.aq 0 (ps.map Part.c))])],cK 1 (ints (my (iS a j))),[]⟩⟩) (fun _=>True) rfl trivial (fun j hj _=>?_)
 have hl:(my (iS a j)).length<=j:=by unfold my; rw[Wg]; exact uV a j
 simp(disch:=omega)only[go_sem]
 refine Br.aJ (fun c1=>?_) (fun c1=>?_)
 .have hs:=Mo (a:=a) (i:=j) (by omega)
  have hsucc:=Aq a j
  simp(disch:=omega)only[go_sem,hs,Hz]
  refine Br.aJ (fun c2=>?_) (fun c2=>?_)<;>simp(disch:=omega)only[go_sem]
  .refine .of (by omega) ?_ trivial
   rw[hsucc,if_pos (by omega),Ar]
   rfl
  .refine .of (by omega) ?_ trivial
   rw[hsucc,if_neg (by omega)]
   rfl
 .obtain rfl:j=6:=by omega
  simp(disch:=omega)only[go_sem]
  unfold fP
  refine Br.aJ (fun c2=>?_) (fun c2=>?_)
  .have h0:iS a 6=[]:=by
    unfold my at c2
    rw[Wg]at c2
    exact Wp (by omega)
   rw[if_pos h0,h0]
   simp(disch:=omega)only[go_sem,my,List.map_nil,BJ,BK]
   rfl
  .have h0:¬iS a 6=[]:=fun e=>c2 (by rw[e]; rfl)
   rw[if_neg h0]
   simp(disch:=omega)only[go_sem]
   congr 3
   unfold my tX
   rw[Xw]
   rfl
theorem r321 (t:Nat) (d:List Node) (i code:Nat) (h0:0<d.length) (hl:d.length<=5) (_hi:i<d.length) (hcode:code<=255):res A aA 321 [.agg [.aq t (d.map Node.cs)],.int .i64 i,.int .u8 code]=some [.int .i64 (fH (cJ d i code))]:=by
 refine aw a321 rfl rfl ?_
 simp only[F321,KT]
 have hc:code%d.length<d.length:=Wt _ h0
 have hr:=gN (k:=.i64) (a:=code) (n:=d.length) (by omega)
 unfold cJ
 generalize hm:code%d.length=m at hc hr
 have h298:=fun t=>r298 t d m hc
 simp(disch:=omega)only[go_sem,hr,h298,r335]
 refine Br.aJ (fun c=>?_) (fun c=>?_)
 .have d1:decide ((7:Int)<=aI d m)=true:=by simpa using c
  have h7:7<=aI d m:=by omega
  simp(disch:=omega)only[go_sem,d1]
  rw[if_pos (.inl h7)]
  rfl
 have d1:decide ((7:Int)<=aI d m)=false:=by simpa using c
 have h7:¬7<=aI d m:=by omega
 simp(disch:=omega)only[go_sem,d1]
 refine Br.aJ (fun c2=>?_) (fun c2=>?_)<;>simp(disch:=omega)only[go_sem]
 .rw[if_pos (.inr (by omega))]
  rfl
 rw[if_neg (fun h=>h.elim h7 (fun h=>c2 (by omega)))]
 refine Br.aJ (fun c3=>?_) (fun c3=>?_)
 .have hr2:=gN (k:=.i64) (a:=m) (n:=i) (by omega)
  simp(disch:=omega)only[go_sem,hr2]
  rw[if_pos (by omega)]
  rfl
 rw[if_neg (by omega)]
 obtain⟨G,hG⟩:∃G,fH ((List.range d.length).find? fun k=>decide (7<=aI d k))=G:=⟨_,rfl⟩
 rw[hG]
 simp(disch:=omega)only[go_sem]
 refine W.find (List.range d.length) (fun k=>decide (7<=aI d k)) (fun k=>⟨[(3,.ptr 3 0),(7,.pv (.int .i64 d.length)),(9,.pv (.int .i64 k))],⟨[(3,[.pv (.aq t (d.map Node.cs))])],[],[]⟩⟩) rfl (fun k y hy hk hfd=>?_) (fun hn=>?_)
 .obtain⟨rfl,hk⟩:=ey hy
  have h298:=fun t=>r298 t d y hk
  simp(disch:=omega)only[go_sem]
  refine Br.aJ (fun c=>?_) (fun c=>(c (by omega)).elim)
  simp(disch:=omega)only[go_sem,h298,r335]
  refine Br.aJ (fun g=>?_) (fun g=>?_)<;>simp(disch:=omega)only[go_sem]
  .rw[<- hG,(hfd (by simp; omega)).find]
   rfl
  .exact bB.of (by simp; omega) rfl
 .rw[hn.find]at hG
  rw[WI]
  simp(disch:=omega)only[go_sem]
  rw[<- hG]
  rfl
theorem r303 (t:Nat) (d:List Node) (code:Nat) (h0:0<d.length) (hl:d.length<=5) (hcode:code<=255):res A aA 303 [.agg [.aq t (d.map Node.cs)],.int .u8 code]=some [.int .i64 (fH (js d code))]:=by
 refine aw a303 rfl rfl ?_
 simp only[F303,KK]
 unfold js
 obtain⟨G,hG⟩:∃G,fH (((List.range d.length).find? fun k=>decide (aI d ((code+k)%d.length)<=4)).map fun k=>(code+k)%d.length)=G:=⟨_,rfl⟩
 rw[hG]
 simp(disch:=omega)only[go_sem]
 refine W.find (List.range d.length) (fun k=>decide (aI d ((code+k)%d.length)<=4)) (fun k=>⟨[(1,.pv (.int .u8 code)),(2,.ptr 2 0),(5,.pv (.int .i64 d.length)),(6,.pv (.int .i64 k))],⟨[(2,[.pv (.aq t (d.map Node.cs))])],[],[]⟩⟩) rfl (fun k y hy hk hfd=>?_) (fun hn=>?_)
 .obtain⟨rfl,hk⟩:=ey hy
  have hm:(code+y)%d.length<d.length:=Wt _ h0
  have hr:cB .rem (.pv (.int .i64 ((code:Int)+(y:Int)))) (.pv (.int .i64 (d.length:Int)))=some (.pv (.int .i64 (((code+y)%d.length:Nat):Int))):=gN (k:=.i64) (a:=code+y) (n:=d.length) (by omega)
  have h298:=fun t=>r298 t d _ hm
  have h1:1<=aI d ((code+y)%d.length):=by
   unfold aI
   rw[Wb hm]
   simp[yk]
  generalize hmm:(code+y)%d.length=m at *
  simp(disch:=omega)only[go_sem]
  refine Br.aJ (fun c=>?_) (fun c=>(c (by omega)).elim)
  simp(disch:=omega)only[go_sem,hr,h298,r288]
  refine Br.of (fun g=>?_) (fun g=>?_)<;>simp(disch:=omega)only[go_sem]
  .simp only[Bool.and_eq_true,decide_eq_true_eq]at g
   rw[<- hG,(hfd (by simp; omega)).find]
   show _=some [PV.int .i64 (((code+y)%d.length:Nat):Int)]
   rw[hmm]
  .refine bB.of ?_ rfl
   simp only[Bool.and_eq_false_iff,decide_eq_false_iff_not]at g
   simp
   omega
 .rw[hn.find]at hG
  rw[WI]
  simp(disch:=omega)only[go_sem]
  rw[<- hG]
  rfl
def initK (d:List Node) (i:Nat):Nat:=if aI d i=8/\js d 0=none then 7 else aI d i
def yE (a code:Nat):Nat:=((fP a)[code%(fP a).length]?).getD 0
def dQ (k:Nat) (x:Node) (code:Nat):dz×Bool:=
 if k=1 then ({ bl with kind:=1,bool:=decide (code%2=1) },true)
 else if k=2 then ({ bl with kind:=2,int:=jD x+((code%(x.b%6+1):Nat):Int) },true)
 else if k=3 then ({ bl with kind:=3,str:=if 0<x.a%4/\code%2=1 then ⟨#[97]⟩ else ⟨#[]⟩ },true)
 else if k=4 then ({ bl with kind:=4,id:=yE x.a code },true)
 else if k=5\/k=6 then (bl,false)
 else ({ bl with kind:=k },true)
theorem dt (d:List Node) (i:Nat):1<=aI d i/\aI d i<=9:=by
 unfold aI
 cases d[i]? with
 |none=>decide
 |some x=>
  have:x.kind%9<9:=Wt _ (by decide)
  show 1<=yk x/\yk x<=9
  unfold yk
  omega
theorem jJ (a:Nat):0<(fP a).length/\(fP a).length<=6:=by
 unfold fP
 split
 .decide
 .rename_i h
  rw[Wg]
  exact⟨List.length_pos_iff.2 h,uV a 6⟩
theorem RW (n:Nat):decide ((n:Int)=1)=decide (n=1):=by
 rw[decide_eq_decide]
 omega
theorem yF (o:Option Nat):decide (fH o<0)=decide (o=none):=by
 cases o with
 |none=>rfl
 |some n=>
  have:¬(n:Int)<0:=by omega
  simp[fH,this]
theorem BL {l:List Nat} {i:Nat} (h:i<l.length):(tX l)[i]?=some (((l[i]?).getD 0:Nat):Int):=by
 unfold tX
 rw[Wf,Wb h]
 rfl
set_option maxHeartbeats 1000000 in
theorem r322 (t:Nat) (d:List Node) (i code:Nat) (x:Node) (hx:d[i]?=some x) (h0:i<d.length) (hl:d.length<=5) (hcode:code<=255) (hxo:x.ok):res A aA 322 [.agg [.aq t (d.map Node.cs)],.int .i64 i,.int .u8 code]=some [.agg (dQ (initK d i) x code).1.c,.bool (dQ (initK d i) x code).2]:=by
 refine aw a322 rfl rfl ?_
 simp only[F322,KU]
 have h298:=fun t=>r298 t d i h0
 have h303:∀t,res A aA 303 [.agg [.aq t (d.map Node.cs)],.int .u8 0]=some [.int .i64 (fH (js d 0))]:=fun t=>r303 t d 0 (by omega) hl (by omega)
 obtain⟨k1,k9⟩:=dt d i
 have hidx:=oy (t:=t) hx
 have h299:=r299 x
 have h300:=r300 x
 have h301:=r301 x
 obtain⟨⟨_,xa,xb,_⟩,_⟩:=hxo
 have hxa:x.a%4<4:=Wt _ (by decide)
 have hlo: -3<=jD x/\jD x<=3:=by
  have:x.a%7<7:=Wt _ (by decide)
  unfold jD
  omega
 have hb6:x.b%6<6:=Wt _ (by decide)
 have hhi:lq x=jD x+((x.b%6:Nat):Int):=rfl
 have hr:=gN (k:=.i64) (a:=code) (n:=x.b%6+1) (by omega)
 have e1:jD x+((x.b%6:Nat):Int) - jD x+1=((x.b%6+1:Nat):Int):=by omega
 rw[<- e1]at hr
 have hm:code%(x.b%6+1)<x.b%6+1:=Wt _ (by omega)
 rw[hhi]at h300
 obtain⟨n0,n6⟩:=jJ x.a
 have hn:(tX (fP x.a)).length=(fP x.a).length:=Wg _
 have hr2:=gN (k:=.i64) (a:=code) (n:=(fP x.a).length) (by omega)
 have hat:(tX (fP x.a))[code%(tX (fP x.a)).length]?=some ((yE x.a code:Nat):Int):=by
  rw[hn]
  exact BL (Wt code n0)
 rw[<- hn]at hr2
 unfold Node.cs at *
 have hk0:(aI d i:Int)=1\/(aI d i:Int)=2\/(aI d i:Int)=3\/(aI d i:Int)=4\/(aI d i:Int)=5\/(aI d i:Int)=6\/(aI d i:Int)=7\/(aI d i:Int)=8\/(aI d i:Int)=9:=by omega
 unfold initK
 simp(disch:=omega)only[go_sem,hidx,h298]
 rcases hk0 with hk|hk|hk|hk|hk|hk|hk|hk|hk
 all_goals simp(disch:=omega)only[go_sem,hk,Hz,Hy,h299,h300,h301,h303,RW,yF]
 .have e:aI d i=1:=by omega
  rw[e,if_neg (by omega)]
  rfl
 .simp(disch:=omega)only[go_sem,hr]
  have e:aI d i=2:=by omega
  rw[e,if_neg (by omega)]
  rfl
 .have e:aI d i=3:=by omega
  rw[e,if_neg (by omega)]
  refine Br.aJ (fun c=>?_) (fun c=>?_)<;>simp(disch:=omega)only[go_sem,c,Hz]
  .refine Br.aJ (fun c2=>?_) (fun c2=>?_)<;>simp(disch:=omega)only[go_sem,c2]
   .have e2:0<x.a%4/\code%2=1:=by omega
    simp[dQ,e2,dz.c,bl]
   .have e2:¬(0<x.a%4/\code%2=1):=by omega
    simp[dQ,e2,dz.c,bl]
  .have e2:¬(0<x.a%4/\code%2=1):=by omega
   simp[dQ,e2,dz.c,bl]
 .simp(disch:=omega)only[go_sem,hr2,hat]
  have e:aI d i=4:=by omega
  rw[e,if_neg (by omega)]
  rfl
 .have e:aI d i=5:=by omega
  rw[e,if_neg (by omega)]
  rfl
 .have e:aI d i=6:=by omega
  rw[e,if_neg (by omega)]
  rfl
 .have e:aI d i=7:=by omega
  rw[e,if_neg (by omega)]
  rfl
 .have e:aI d i=8:=by omega
  rw[e]
  refine Br.aJ (fun c=>?_) (fun c=>?_)<;>simp(disch:=omega)only[go_sem]
  .simp only[c,if_true]
   rfl
  .simp only[c,if_false]
   rfl
 .have e:aI d i=9:=by omega
  rw[e,if_neg (by omega)]
  rfl
def gS (id:Nat):ByteArray:=⟨#[109]⟩++Utf8.encode (97+(id:Int))
def mY (d:List Node) (i id:Nat) (p:Part):Bool:=decide (1+p.id%12=id)&&(cJ d i p.type).isSome
def Mp:Node:=⟨0,0,0,0,[]⟩
def nodeAt (d:List Node) (u:Nat):Node:=(d[u]?).getD Mp
def lz (d:List Node) (u:Nat) (p:Part):dz×Bool:=dQ (initK d u) (nodeAt d u) (p.flag/4)
def dC (d:List Node) (i:Nat) (fl:Bool) (id:Nat) (p:Part):Mem:=
 ⟨id,gS id,fH (cJ d i p.type),fl&&decide (p.flag%4=1),fl&&(decide (2<=p.flag%4)&&(lz d ((cJ d i p.type).getD 0) p).2),
  if (fl&&decide (2<=p.flag%4))=true then (lz d ((cJ d i p.type).getD 0) p).1 else bl⟩
def mz (d:List Node) (i:Nat) (fl:Bool) (ps:List Part) (id:Nat):Option Mem:=(ps.find? (mY d i id)).map (dC d i fl id)
def bL (d:List Node) (i:Nat) (fl:Bool) (ps:List Part) (k:Nat):List Mem:=(List.range k).filterMap fun j=>mz d i fl ps (j+1)
theorem qy (d:List Node) (i:Nat) (fl:Bool) (ps:List Part) (k:Nat):bL d i fl ps (k+1)=bL d i fl ps k++(mz d i fl ps (k+1)).toList:=by
 unfold bL
 rw[Xq,XI]
 congr 1
theorem mZ (d:List Node) (i:Nat) (fl:Bool) (ps:List Part) (k:Nat):(bL d i fl ps k).length<=k:=by
 unfold bL
 exact Nat.le_trans (List.length_filterMap_le _ _) (by simp)
theorem ET {t:Nat} {ps:List Part} {i:Nat} {p:Part} (h:ps[i]?=some p):jx 3 t (ps.map Part.c) (some (i:Int))=some (V.pv (.ro t p.c)):=by
 rw[od,Wf,h]
 rfl
theorem kh {d:List Node} {i code u:Nat} (h0:0<d.length) (hi:i<d.length) (h:cJ d i code=some u):u<d.length:=by
 have hm:code%d.length<d.length:=Wt _ h0
 unfold cJ at h
 split at h
 .cases h
  exact hm
 .split at h
  .cases h
   rename_i h1
   exact Nat.lt_trans (Wt _ h1) hi
  .have:=List.mem_of_find?_eq_some h
   simpa using this
theorem wrap_i32 {x:Int} (h1: -2147483648<=x) (h2:x<=2147483647):IntKind.wrap .i32 x=x:=by
 show (if (true&&decide (x%(2^32:Int)≥(2^31:Int)))=true then x%(2^32:Int) - (2^32:Int) else x%(2^32:Int))=x
 simp only[Bool.true_and,decide_eq_true_eq,Int.reducePow]
 by_cases h:x%4294967296≥2147483648
 .rw[if_pos h]; omega
 .rw[if_neg h]; omega
theorem UO {a:Nat} (h:a<=255):cB .quo (.pv (.int .u8 (a:Int))) (.pv (.int .u8 4))=some (.pv (.int .u8 ((a/4:Nat):Int))):=by
 have e:(a:Int).tdiv 4=((a/4:Nat):Int):=(Int.ofNat_tdiv a 4).symm
 rw[xX (by decide),e,wrap_u8 (by omega) (by omega)]
theorem EU {k:Nat} (h:k<12):(Utf8.encode (97+((k+1:Nat):Int))).size=1:=by
 have:∀k:Fin 12,(Utf8.encode (97+((k.val+1:Nat):Int))).size=1:=by decide
 exact this ⟨k,h⟩
theorem CO {k:Nat} (h:k<12):cB .add (.pv (.str ⟨#[109]⟩)) (.pv (.str (Utf8.encode (IntKind.wrap .i32 (97+((k+1:Nat):Int))))))=some (.pv (.str (gS (k+1)))):=by
 rw[wrap_i32 (by omega) (by omega)]
 have h1:(⟨#[109]⟩:ByteArray).size=1:=rfl
 have h2:(1:Nat)+1<=1099511627776:=by omega
 simp only[cB,kI,h1,EU h,h2,if_true,Option.map_some]
 rfl
set_option maxHeartbeats 4000000 in
theorem r302 (t:Nat) (d:List Node) (i:Nat) (fl:Bool) (x:Node) (hx:d[i]?=some x) (h0:i<d.length) (hl:d.length<=5) (hok:∀y∈d,y.ok):
  res A aA 302 [.agg [.aq t (d.map Node.cs)],.int .i64 i,.bool fl]=some [.aq 0 ((bL d i fl x.parts 12).map Mem.c)]:=by
 refine aw a302 rfl rfl ?_
 simp only[F302,KJ]
 have hidx:jx 5 t (d.map Node.cs) (some (i:Int))=some (V.pv (.ro t [.int .u8 x.kind,.int .u8 x.a,.int .u8 x.b,.int .u8 x.c,.aq 0 (x.parts.map Part.c)])):=oy (t:=t) hx
 have hxo:=hok x (Wa hx)
 obtain⟨_,hpl,hpo⟩:=hxo
 unfold bP at hpl
 simp(disch:=omega)only[go_sem,hidx]
 refine W.loop (α:=Nat×List aL×V) (fun y=>⟨[(1,.pv (.int .i64 i)),(2,.pv (.bool fl)),(3,.ptr 3 0),(7,.ptr 7 0),(8,y.2.2),(9,.pv (.int .i64 ((y.1+1:Nat):Int)))],⟨[(3,[.pv (.aq t (d.map Node.cs))]),(7,[.pv (.int .u8 x.kind),.pv (.int .u8 x.a),.pv (.int .u8 x.b),.pv (.int .u8 x.c),.pv (.aq 0 (x.parts.map Part.c))])],y.2.1,[]⟩⟩)
  (fun y=>y.1<=12/\jI 13 y.2.1 y.2.2 ((bL d i fl x.parts y.1).map Mem.c)) (fun y=>12 - y.1) (0,[],.tl []) rfl ⟨WA _,.inl ⟨rfl,rfl⟩⟩ fun y hy=>?_
 obtain⟨k,ar,V0⟩:=y
 obtain⟨hk,hO⟩:=hy
 dsimp only at hk hO
 have hsc:=fun kb=>hO.same kb
 simp(disch:=omega)only[go_sem,hsc]
 refine Br.aJ (fun c=>?_) (fun c=>?_)
 rotate_left
 .obtain rfl:k=12:=by omega
  have hkeep:=fun bx=>hO.kept bx []
  simp(disch:=omega)only[go_sem,hsc,hkeep]
 simp(disch:=omega)only[go_sem,hsc]
 refine W.find x.parts (mY d i (k+1)) (fun j=>⟨[(1,.pv (.int .i64 i)),(2,.pv (.bool fl)),(3,.ptr 3 0),(7,.ptr 7 0),(8,V0),(9,.pv (.int .i64 ((k+1:Nat):Int))),(10,.pv (.int .i64 j))],⟨[(3,[.pv (.aq t (d.map Node.cs))]),(7,[.pv (.int .u8 x.kind),.pv (.int .u8 x.a),.pv (.int .u8 x.b),.pv (.int .u8 x.c),.pv (.aq 0 (x.parts.map Part.c))])],ar,[]⟩⟩) rfl (fun j p hp hj hfd=>?_) (fun hn=>?_)
 rotate_left
 .have e:mz d i fl x.parts (k+1)=none:=by
   unfold mz
   rw[hn.find]
   rfl
  simp(disch:=omega)only[go_sem,hsc]
  refine⟨(k+1,ar,V0),⟨by dsimp only; omega,?_⟩,by dsimp only; omega,rfl⟩
  dsimp only
  rw[qy,e]
  simpa using hO
 have hidp:jx 3 0 (x.parts.map Part.c) (some (j:Int))=some (V.pv (.ro 0 [.int .u8 p.id,.int .u8 p.type,.int .u8 p.flag])):=ET (t:=0) hp
 obtain⟨pi,pt,pf⟩:=hpo p (Wa hp)
 have h321:=fun t=>r321 t d i p.type (by omega) hl h0 pt
 simp(disch:=omega)only[go_sem,hsc]
 refine Br.aJ (fun _=>?_) (fun c=>absurd (by omega) c)
 simp(disch:=omega)only[go_sem,hsc,hidp,h321,RV]
 refine Br.aJ (fun c1=>?_) (fun c1=>?_)<;>simp(disch:=omega)only[go_sem,hsc,c1]
 rotate_left
 .have e:mY d i (k+1) p=false:=by
   have:¬1+p.id%12=k+1:=by omega
   simp[mY,this]
  exact bB.of e rfl
 cases htg:cJ d i p.type with
 |none=>
  have e:mY d i (k+1) p=false:=by simp[mY,htg]
  have en:decide (fH none<0)=true:=rfl
  simp(disch:=omega)only[go_sem,hsc,en]
  exact bB.of e rfl
 |some u=>
  have hu:=kh (by omega) h0 htg
  have en:decide ((u:Int)<0)=false:=by simp
  have eu:fH (some u)=u:=rfl
  have e:mY d i (k+1) p=true:=by
   have:1+p.id%12=k+1:=by omega
   simp[mY,htg,this]
  have em:mz d i fl x.parts (k+1)=some (dC d i fl (k+1) p):=by
   unfold mz
   rw[(hfd e).find]
   rfl
  have hx2:d[u]?=some (nodeAt d u):=by
   unfold nodeAt
   rw[Wb hu]
   rfl
  have h322:=fun t=>r322 t d u (p.flag/4) (nodeAt d u) hx2 hu hl (by omega) (hok _ (Wa hx2))
  have hnm:=CO (k:=k) (by omega)
  have hlen:=mZ d i fl x.parts k
  simp(disch:=omega)only[go_sem,hsc,en,eu,hnm]
  have hnext:(bL d i fl x.parts (k+1)).map Mem.c=(bL d i fl x.parts k).map Mem.c++[(dC d i fl (k+1) p).c]:=by
   rw[qy,em,WC]
   rfl
  have hml:((bL d i fl x.parts k).map Mem.c).length+1<=2147483648:=by
   rw[Wg]
   omega
  have hbare:∀cr:Bool,dC d i fl (k+1) p=⟨(k+1:Nat),gS (k+1),u,cr,false,bl⟩->wB [.pv (.int .i64 ((k+1:Nat):Int)),.pv (.str (gS (k+1))),.pv (.int .i64 u),.pv (.bool cr),.pv (.bool false),.pv (.int .i64 0),.pv (.bool false),.pv (.int .i64 0),.pv (.str ⟨#[]⟩),.pv (.int .i64 0),.tl [],.tl [],.tl []] (dC d i fl (k+1) p).c:=fun cr he h d=>by
   rw[he]
   rfl
  cases fl with
  |false=>
   have hm:dC d i false (k+1) p=⟨(k+1:Nat),gS (k+1),u,false,false,bl⟩:=by simp[dC,htg,fH]
   obtain⟨V1,T,ar',happ,hT,_,_,hO'⟩:=addLit hO hml rfl (hbare _ hm)
   have hsc1:=fun kb=>hO'.same kb
   simp(disch:=omega)only[go_sem,hsc,happ,hT,hsc1]
   refine⟨(k+1,ar',V1),⟨by dsimp only; omega,by dsimp only; rw[hnext]; exact hO'⟩,by dsimp only; omega,rfl⟩
  |true=>
   simp(disch:=omega)only[go_sem,hsc,Hy]
   refine Br.aJ (fun c2=>?_) (fun c2=>?_)<;>simp(disch:=omega)only[go_sem,hsc,c2,Hy]
   .have hm:dC d i true (k+1) p=⟨(k+1:Nat),gS (k+1),u,true,false,bl⟩:=by
     have e1:p.flag%4=1:=by omega
     simp[dC,htg,fH,e1]
    obtain⟨V1,T,ar',happ,hT,_,_,hO'⟩:=addLit hO hml rfl (hbare _ hm)
    have hsc1:=fun kb=>hO'.same kb
    simp(disch:=omega)only[go_sem,happ,hT,hsc1]
    refine⟨(k+1,ar',V1),⟨by dsimp only; omega,by dsimp only; rw[hnext]; exact hO'⟩,by dsimp only; omega,rfl⟩
   .refine Br.aJ (fun c3=>?_) (fun c3=>?_)
    .have hq:=UO pf
     have e1:¬p.flag%4=1:=by omega
     have e2:2<=p.flag%4:=by omega
     have hm:dC d i true (k+1) p=⟨(k+1:Nat),gS (k+1),u,false,(lz d u p).2,(lz d u p).1⟩:=by
      simp[dC,htg,fH,e1,e2]
     have ed:lz d u p=dQ (initK d u) (nodeAt d u) (p.flag/4):=rfl
     rw[<- ed]at h322
     generalize lz d u p=iv at hm h322
     unfold dz.c at h322
     have hthin:wB ((dC d i true (k+1) p).c.map .pv) (dC d i true (k+1) p).c:=fun h d=>by
      rw[hm]
      rfl
     have hadd:=ES hO hml rfl hthin
     rw[hm]at hadd
     unfold Mem.c at hadd
     dsimp only at hadd
     obtain⟨V1,T,ar',happ,hT,_,_,hO'⟩:=hadd
     have hsc1:=fun kb=>hO'.same kb
     simp(disch:=omega)only[go_sem,hsc,hq,h322,happ,hT,hsc1]
     refine⟨(k+1,ar',V1),⟨by dsimp only; omega,by dsimp only; rw[hnext,hm]; exact hO'⟩,by dsimp only; omega,rfl⟩
    .have hm:dC d i true (k+1) p=⟨(k+1:Nat),gS (k+1),u,false,false,bl⟩:=by
      have e1:¬p.flag%4=1:=by omega
      have e2:¬2<=p.flag%4:=by omega
      simp[dC,htg,fH,e1,e2]
     obtain⟨V1,T,ar',happ,hT,_,_,hO'⟩:=addLit hO hml rfl (hbare _ hm)
     have hsc1:=fun kb=>hO'.same kb
     simp(disch:=omega)only[go_sem,happ,hT,hsc1]
     refine⟨(k+1,ar',V1),⟨by dsimp only; omega,by dsimp only; rw[hnext]; exact hO'⟩,by dsimp only; omega,rfl⟩
end Go.Pv
