/-
 What the functions of the law give.
-/
import Derived.Test.YtpchfogcccagjaaGreatC3
set_option linter.unusedSimpArgs false
set_option linter.unusedVariables false
open List renaming mem_of_getElem? → Tf, getElem?_eq_some_iff → Tg, getElem?_eq_getElem → Th, length_map → Tl, getElem?_map → To, getElem?_append_left → Tp, take_of_length_le → Ts, mem_cons → Tu, eq_nil_of_length_eq_zero → Tx, mem_map → TA, getD_eq_getElem?_getD → TC, pairwise_cons → TF, length_append → TH, mem_cons_of_mem → TJ, mem_cons_self → TP, getElem?_set_self → TR, append_assoc → TT, any_eq_false → TU, ext_getElem? → TW, mem_append_left → TX, getElem?_set_ne → T7, getElem?_range → T9, length_set → Ua, mem_append_right → Uc, mem_or_eq_of_mem_set → Un, findIdx?_eq_none_iff → Up, getElem?_replicate → Ut, foldl_cons → Uy, find?_eq_none → UJ, mem_range → UO, length_replicate → UP, find?_some → UU
open Nat renaming le_refl → Tj, lt_or_ge → Tm, eq_zero_or_pos → Ud, add_assoc → Uh, zero_add → UC
open Int renaming toNat_natCast → T0, eq_ofNat_of_zero_le → T6, le_refl → UT
open Option renaming bind_some → UD
namespace Go.Pv
noncomputable def sK (T:List aD) (t:Int) (cs:List PV):Bool:=by
 classical exact decide (∃n,iZ n cs/\eX T n t cs=true)
theorem zD {T:List aD} (hT:Ms T) {n:Nat} {t:Int} {cs:List PV} (h:iZ n cs) (ht:fT t):sK T t cs=eX T n t cs:=by
 have key:∀m,iZ m cs->eX T m t cs=eX T n t cs:=fun m hm=>by
  have h1:=r502 0 T hT n t cs h ht
  have h2:=r502 0 T hT m t cs hm ht
  rw[h1]at h2
  simpa using h2.symm
 classical
 unfold sK
 cases hf:eX T n t cs with
 |true=>exact decide_eq_true ⟨n,h,hf⟩
 |false=>exact decide_eq_false fun⟨m,hm,he⟩=>by rw[key m hm,hf]at he; cases he
theorem r494 (u:Nat) (T:List aD) (hT:Ms T) (n:Nat) (t:Int) (v:cU) (h:iZ n v.c) (ht:fT t):res A ay 494 [.agg [.ai u (T.map aD.c)],.int .i64 t,.agg v.c]=some [.bool (sK T t v.c)]:=by
 have h502:=r502 u T hT n t v.c h ht
 rw[zD hT h ht]
 generalize eX T n t v.c=e at *
 refine aq a494 rfl rfl ?_
 simp only[F494,Jy]
 unfold cU.c at h502 |-
 simp(disch:=omega)only[go_sem,h502]
theorem r495 (u:Nat) (T:List aD) (hT:Ms T) (n:Nat) (t:Int) (v:cU) (h:iZ n v.c) (ht:fT t):res A ay 495 [.agg [.ai u (T.map aD.c)],.int .i64 t,.agg v.c]=some [.bool (sK T t v.c)]:=by
 have h503:=r503 u T hT n t v.c h ht
 rw[zD hT h ht]
 generalize eX T n t v.c=e at *
 refine aq a495 rfl rfl ?_
 simp only[F495,Jz]
 unfold cU.c at h503 |-
 simp(disch:=omega)only[go_sem,h503]
noncomputable def jW (T:List aD) (m:Mem):Bool:=m.has&&!sK T m.type m.fQ.c
noncomputable def oQ (T:List aD) (x:aD):Bool:=x.aS.any (jW T)
noncomputable def CS (T:List aD):Int×Int×Int:=
 if ct T≠0 then (0,0,ct T) else match T.findIdx? (oQ T)with
 |none=>(0,0,0)
 |some k=>(k,((T[k]?).bind fun x=>(x.aS.find? (jW T)).map (·.id)).getD 0,1)
theorem uR {T:List aD} (ho:∀t∈T,t.ok) (h:ct T=0):Ms T:=by
 have hs:=dm h
 refine⟨by have:=hs.len; omega,ho,fun x hx=>?_⟩
 have:=hs.own x hx
 unfold eV at this
 simp only[Bool.and_eq_true,decide_eq_true_eq]at this
 exact this.1
set_option maxHeartbeats 2000000 in
theorem r480 (u:Nat) (T:List aD) (hl:T.length<=2147483648) (ho:∀t∈T,t.ok) (hs:∀t∈T,t.short):res A ay 480 [.agg [.ai u (T.map aD.c)]]=some [.int .i64 (CS T).1,.int .i64 (CS T).2.1,.int .i64 (CS T).2.2]:=by
 have h268:=r268 u T hl ho hs
 refine aq a480 rfl rfl ?_
 simp only[F480,Jk]
 simp(disch:=omega)only[go_sem,h268]
 unfold CS
 refine Br.aB (fun c=>?_) (fun c=>?_)<;>simp(disch:=omega)only[go_sem,c,decide_true,decide_false]
 rotate_left
 .rw[if_pos c]
 rw[if_neg (by simp[c])]
 have hT:=uR ho c
 obtain⟨G,hG⟩:∃G:Int×Int×Int,(match T.findIdx? (oQ T)with
  |none=>(0,0,0)
  |some k=>(k,((T[k]?).bind fun x=>(x.aS.find? (jW T)).map (·.id)).getD 0,1))=G:=⟨_,rfl⟩
 rw[hG]
 refine W.find T (oQ T) (fun k=>⟨[(1,.ptr 1 0),(6,.pv (.int .i64 k))],⟨[(1,[.pv (.ai u (T.map aD.c))])],[],[]⟩⟩) rfl (fun k x hx hk hfd=>?_) (fun hn=>?_)
 .have hxm:=Tf hx
  have hml:=(hs x hxm).aS
  obtain⟨_,⟨_,x9⟩,_,x11⟩:=ho x hxm
  simp(disch:=omega)only[go_sem]
  refine Br.aB (fun c=>?_) (fun c=>(c (by omega)).elim)
  simp(disch:=omega)only[go_sem,hx,Option.map_some,aD.c]
  refine W.find x.aS (jW T) (fun j=>⟨[(1,.ptr 1 0),(6,.pv (.int .i64 k)),(7,.pv (.ai 0 (x.aS.map Mem.c))),(8,.pv (.int .i64 j))],⟨[(1,[.pv (.ai u (T.map aD.c))])],[],[]⟩⟩) rfl (fun j m hm hj hfm=>?_) (fun hn=>?_)
  .obtain⟨_,_,m3,n,m4⟩:=x11 m (Tf hm)
   have h494:=r494 u T hT n m.type m.fQ m4 m3
   have hw:jW T m=(m.has&&!sK T m.type m.fQ.c):=rfl
   generalize sK T m.type m.fQ.c=e at h494 hw
   unfold cU.c at h494
   simp(disch:=omega)only[go_sem]
   refine Br.aB (fun c=>?_) (fun c=>(c (by omega)).elim)
   simp(disch:=omega)only[go_sem,hm,Option.map_some,Mem.c,h494]
   cases hh:m.has with
   |false=>
    rw[hh]at hw
    simp(disch:=omega)only[go_sem]
    exact aN.of (by rw[hw]; rfl) rfl
   |true=>
    rw[hh]at hw
    simp(disch:=omega)only[go_sem,hm,Option.map_some,Mem.c,h494]
    cases e
    .have hf:=hfm (by rw[hw]; rfl)
     have hf2:=hfd hf.any
     simp(disch:=omega)only[go_sem,hm,Option.map_some,Mem.c]
     rw[<- hG,hf2.idx]
     dsimp only
     rw[hx,UD,hf.find]
     rfl
    .simp(disch:=omega)only[go_sem]
     exact aN.of (by rw[hw]; rfl) rfl
  .simp(disch:=omega)only[go_sem]
   exact aN.of hn.any rfl
 .simp(disch:=omega)only[go_sem]
  rw[<- hG,hn.idx]
set_option maxHeartbeats 2000000 in
theorem r484 (u:Nat) (T:List aD) (hl:T.length<=2147483648) (ho:∀t∈T,t.ok) (hs:∀t∈T,t.short):res A ay 484 [.agg [.ai u (T.map aD.c)]]=some [.int .i64 (CS T).1,.int .i64 (CS T).2.1,.int .i64 (CS T).2.2]:=by
 have h267:=r267 u T hl ho hs
 refine aq a484 rfl rfl ?_
 simp only[F484,Jo]
 simp(disch:=omega)only[go_sem,h267]
 unfold CS
 refine Br.aB (fun c=>?_) (fun c=>?_)<;>simp(disch:=omega)only[go_sem,c,decide_true,decide_false]
 rotate_left
 .rw[if_pos c]
 rw[if_neg (by simp[c])]
 have hT:=uR ho c
 obtain⟨G,hG⟩:∃G:Int×Int×Int,(match T.findIdx? (oQ T)with
  |none=>(0,0,0)
  |some k=>(k,((T[k]?).bind fun x=>(x.aS.find? (jW T)).map (·.id)).getD 0,1))=G:=⟨_,rfl⟩
 rw[hG]
 refine W.find T (oQ T) (fun k=>⟨[(1,.ptr 1 0),(16,.pv (.ai u (T.map aD.c))),(17,.pv (.int .i64 T.length)),(18,.pv (.int .i64 k))],⟨[(1,[.pv (.ai u (T.map aD.c))])],[],[]⟩⟩) rfl (fun k x hx hk hfd=>?_) (fun hn=>?_)
 .have hxm:=Tf hx
  have hml:=(hs x hxm).aS
  obtain⟨_,⟨_,x9⟩,_,x11⟩:=ho x hxm
  simp(disch:=omega)only[go_sem]
  refine Br.aB (fun c=>?_) (fun c=>(c (by omega)).elim)
  simp(disch:=omega)only[go_sem,hx,Option.map_some,aD.c]
  refine W.find x.aS (jW T) (fun j=>⟨[(1,.ptr 1 0),(6,.pv (.int .i64 k)),(16,.pv (.ai u (T.map aD.c))),(17,.pv (.int .i64 T.length)),(18,.pv (.int .i64 k)),(24,.pv (.ai 0 (x.aS.map Mem.c))),(25,.pv (.int .i64 x.aS.length)),(26,.pv (.int .i64 j))],⟨[(1,[.pv (.ai u (T.map aD.c))])],[],[]⟩⟩) rfl (fun j m hm hj hfm=>?_) (fun hn=>?_)
  .obtain⟨_,_,m3,n,m4⟩:=x11 m (Tf hm)
   have h495:=r495 u T hT n m.type m.fQ m4 m3
   have hw:jW T m=(m.has&&!sK T m.type m.fQ.c):=rfl
   generalize sK T m.type m.fQ.c=e at h495 hw
   unfold cU.c at h495
   simp(disch:=omega)only[go_sem]
   refine Br.aB (fun c=>?_) (fun c=>(c (by omega)).elim)
   simp(disch:=omega)only[go_sem,hm,Option.map_some,Mem.c,h495]
   cases hh:m.has with
   |false=>
    rw[hh]at hw
    simp(disch:=omega)only[go_sem]
    exact aN.of (by rw[hw]; rfl) rfl
   |true=>
    rw[hh]at hw
    simp(disch:=omega)only[go_sem,hm,Option.map_some,Mem.c,h495]
    cases e
    .have hf:=hfm (by rw[hw]; rfl)
     have hf2:=hfd hf.any
     simp(disch:=omega)only[go_sem,hm,Option.map_some,Mem.c]
     rw[<- hG,hf2.idx]
     dsimp only
     rw[hx,UD,hf.find]
     rfl
    .simp(disch:=omega)only[go_sem]
     exact aN.of (by rw[hw]; rfl) rfl
  .simp(disch:=omega)only[go_sem]
   exact aN.of hn.any rfl
 .simp(disch:=omega)only[go_sem]
  rw[<- hG,hn.idx]
noncomputable def fN (T:List aD):Int:=(CS T).2.2
theorem mo {T:List aD} (h:ct T≠0):fN T=ct T:=by
 unfold fN CS
 rw[if_pos h]
theorem gg {T:List aD} (h:fN T=0):ct T=0/\∀x∈T,∀m∈x.aS,m.has=true->sK T m.type m.fQ.c=true:=by
 by_cases hv:ct T=0
 .refine⟨hv,fun x hx m hm hh=>?_⟩
  unfold fN CS at h
  rw[if_neg (by simp[hv])]at h
  cases hf:T.findIdx? (oQ T)with
  |none=>
   have h1:=Up.1 hf x hx
   have h2:=TU.1 h1 m hm
   unfold jW at h2
   rw[hh]at h2
   simpa using h2
  |some k=>
   rw[hf]at h
   cases h
 .rw[mo hv]at h
  exact absurd h hv
theorem r470 (u:Nat) (T:List aD) (hl:T.length<=2147483648) (ho:∀t∈T,t.ok) (hs:∀t∈T,t.short):res A ay 470 [.agg [.ai u (T.map aD.c)]]=some [.int .i64 (fN T)]:=by
 have h268:=r268 u T hl ho hs
 have h480:=r480 u T hl ho hs
 have hb:=mo (T:=T)
 unfold fN at hb |-
 refine aq a470 rfl rfl ?_
 simp only[F470,Ja]
 simp(disch:=omega)only[go_sem,h268]
 refine Br.aB (fun c=>?_) (fun c=>?_)<;>simp(disch:=omega)only[go_sem,h480,c,decide_true,decide_false]
 rw[hb c]
theorem r473 (u:Nat) (T:List aD) (hl:T.length<=2147483648) (ho:∀t∈T,t.ok) (hs:∀t∈T,t.short):res A ay 473 [.agg [.ai u (T.map aD.c)]]=some [.int .i64 (fN T)]:=by
 have h267:=r267 u T hl ho hs
 have h484:=r484 u T hl ho hs
 have hb:=mo (T:=T)
 unfold fN at hb |-
 refine aq a473 rfl rfl ?_
 simp only[F473,Jd]
 simp(disch:=omega)only[go_sem,h267]
 refine Br.aB (fun c=>?_) (fun c=>?_)<;>simp(disch:=omega)only[go_sem,h484,c,decide_true,decide_false]
 rw[hb c]
def lR (n:List Int) (i:Int):Int:=n.getD i.toNat 0
def lA (b:Bool) (x:aD) (n:List Int):Int:=
 if x.kind=2 then (if x.low=x.high then 1 else 2)
 else if x.kind=3 then (if x.max=0 then 1 else 2)
 else if x.kind=4 then min 2 x.syms.length
 else if x.kind=5 then x.aS.foldl (fun c m=>min 2 (c*lR n m.type)) 1
 else if x.kind=6 then x.aS.foldl (fun c m=>min 2 (c+lR n m.type)) 0
 else if x.kind=7 then (if x.max=0\/lR n x.elem=0 then 1 else 2)
 else if x.kind=8 then (if x.max=0\/lR n x.elem=0\/b=true/\lR n x.key=0 then 1 else 2)
 else if x.kind=9 then min 2 (1+lR n x.elem)
 else 2
def xm (n:List Int):Prop:=∀x∈n,0<=x/\x<=2
def ke (n m:List Int):Prop:=n.length=m.length/\∀k:Nat,n.getD k 0<=m.getD k 0
theorem xm.at {n:List Int} (h:xm n) (k:Nat):0<=n.getD k 0/\n.getD k 0<=2:=by
 rw[TC]
 cases hk:n[k]? with
 |none=>simp
 |some x=>exact h x (Tf hk)
theorem ke.refl (n:List Int):ke n n:=⟨rfl,fun _=>UT _⟩
theorem ke.trans {a b c:List Int} (h:ke a b) (g:ke b c):ke a c:=⟨h.1.trans g.1,fun k=>Int.le_trans (h.2 k) (g.2 k)⟩
theorem ke.Ke {a b:List Int} (h:ke a b) (g:ke b a):a=b:=by
 refine List.ext_getElem h.1 fun k h1 h2=>?_
 have e1:=h.2 k
 have e2:=g.2 k
 rw[TC,TC,Th h1,Th h2]at e1 e2
 simp at e1 e2
 omega
theorem rM {α:Type} (f:Int->α->Int) (hf:∀c a,0<=c->0<=f c a/\f c a<=2):∀(l:List α) (c:Int),0<=c->c<=2->0<=l.foldl f c/\l.foldl f c<=2
 |[],c,h1,h2=>⟨h1,h2⟩
 |a::l,c,h1,_=>rM f hf l _ (hf c a h1).1 (hf c a h1).2
theorem oR {α:Type} {l0:List α} (f g:Int->α->Int) (hf:∀c d a,a∈l0->0<=c->c<=d->0<=f c a/\f c a<=g d a):∀(l:List α) (c d:Int),(∀a∈l,a∈l0)->0<=c->c<=d->l.foldl f c<=l.foldl g d
 |[],_,_,_,_,h2=>h2
 |a::l,c,d,hl,h1,h2=>oR f g hf l _ _ (fun x hx=>hl x (TJ _ hx)) (hf c d a (hl a TP) h1 h2).1 (hf c d a (hl a TP) h1 h2).2
theorem CT {c a:Int} (h1:0<=c) (h2:0<=a):0<=min 2 (c*a)/\min 2 (c*a)<=2:=by
 have:=Int.mul_nonneg h1 h2
 omega
theorem uS (b:Bool) (x:aD) {n:List Int} (hn:xm n):0<=lA b x n/\lA b x n<=2:=by
 have ha:∀i,0<=lR n i/\lR n i<=2:=fun i=>hn.at _
 unfold lA
 repeat' split
 all_goals first|decide|skip
 .omega
 .exact rM _ (fun c m h=>CT h (ha _).1) _ _ (by decide) (by decide)
 .exact rM _ (fun c m h=>by have:=ha m.type; omega) _ _ (by decide) (by decide)
 .have:=ha x.elem
  omega
theorem rN (b:Bool) (x:aD) {n m:List Int} (hn:xm n) (h:ke n m):lA b x n<=lA b x m:=by
 have ha:∀i,0<=lR n i:=fun i=>(hn.at _).1
 have hm:∀i,lR n i<=lR m i:=fun i=>h.2 _
 unfold lA
 repeat' split
 all_goals first|decide|omega|skip
 .refine oR (l0:=x.aS) _ _ (fun c d a _ h1 h2=>?_) _ _ _ (fun _ h=>h) (by decide) (UT _)
  refine⟨(CT h1 (ha _)).1,?_⟩
  have:=Int.mul_le_mul h2 (hm a.type) (ha _) (by omega)
  omega
 .refine oR (l0:=x.aS) _ _ (fun c d a _ h1 h2=>?_) _ _ _ (fun _ h=>h) (by decide) (UT _)
  have:=ha a.type
  have:=hm a.type
  omega
 .rename_i h1 h2
  have e1:=ha x.elem
  have e2:=hm x.elem
  exact absurd (h2.imp id fun h=>by omega) h1
 .rename_i h1 h2
  have e1:=ha x.elem
  have e2:=hm x.elem
  have e3:=ha x.key
  have e4:=hm x.key
  exact absurd (h2.imp id fun h=>h.imp (fun h=>by omega) (fun h=>⟨h.1,by omega⟩)) h1
 .have:=hm x.elem
  omega
theorem Kf (x:aD) (n:List Int) (hn:xm n):lA true x n<=lA false x n:=by
 have ha:∀i,0<=lR n i:=fun i=>(hn.at _).1
 unfold lA
 repeat' split
 all_goals first|decide|omega|skip
 rename_i h1 h2
 exact absurd (h2.imp id fun h=>h.imp id (fun h=>⟨by simp at h,by simp at h⟩)) h1
def swp (b:Bool) (T:List aD) (n:List Int):Nat->List Int
 |0=>n
 |k+1=>match T[k]? with
  |some x=>(swp b T n k).set k (lA b x (swp b T n k))
  |none=>swp b T n k
theorem gU {n:List Int} {k:Nat} {x:Int} (i:Nat) (hk:k<n.length):(n.set k x).getD i 0=if i=k then x else n.getD i 0:=by
 rw[TC,List.getElem?_set]
 by_cases h:k=i
 .subst h
  rw[if_pos rfl,if_pos hk,if_pos rfl]
  rfl
 .rw[if_neg h,if_neg (fun e=>h e.symm),TC]
def zE (b:Bool) (T:List aD) (n:List Int):Prop:=n.length=T.length/\xm n/\∀k x,T[k]?=some x->n.getD k 0<=lA b x n
theorem xm.set {n:List Int} (h:xm n) {k:Nat} {x:Int} (hx:0<=x/\x<=2):xm (n.set k x):=fun y hy=>by
 rcases Un hy with h1|rfl
 .exact h y h1
 .exact hx
theorem ke.set {n:List Int} {k:Nat} {x:Int} (hk:k<n.length) (hx:n.getD k 0<=x):ke n (n.set k x):=by
 refine⟨(Ua ..).symm,fun i=>?_⟩
 rw[gU i hk]
 split
 .rename_i h
  rw[h]
  exact hx
 .exact UT _
theorem zE.step {b:Bool} {T:List aD} {n:List Int} (h:zE b T n) {k:Nat} {x:aD} (hx:T[k]?=some x):zE b T (n.set k (lA b x n))/\ke n (n.set k (lA b x n)):=by
 obtain⟨h1,h2,h3⟩:=h
 have hk:k<n.length:=h1 ▸ (Tg.1 hx).1
 have hle:=ke.set hk (h3 k x hx)
 refine⟨⟨by rw[Ua,h1],h2.set (uS b x h2),fun j y hy=>?_⟩,hle⟩
 have hm:=rN b y h2 hle
 rw[gU j hk]
 split
 .rename_i e
  rw[e,hx]at hy
  cases hy
  exact hm
 .exact Int.le_trans (h3 j y hy) hm
theorem zE.swp {b:Bool} {T:List aD} {n:List Int} (h:zE b T n):∀k,zE b T (swp b T n k)/\ke n (swp b T n k)
 |0=>⟨h,ke.refl n⟩
 |k+1=>by
  obtain⟨h1,h2⟩:=zE.swp h k
  unfold Go.Pv.swp
  split
  .rename_i x hx
   obtain⟨h3,h4⟩:=h1.step hx
   exact⟨h3,h2.trans h4⟩
  .exact⟨h1,h2⟩
def Fix (b:Bool) (T:List aD) (n:List Int):Prop:=n.length=T.length/\xm n/\∀k x,T[k]?=some x->n.getD k 0=lA b x n
def pC (b:Bool) (T:List aD) (n:List Int):Prop:=Fix b T n/\∀m,Fix b T m->ke n m
theorem pC.uniq {b:Bool} {T:List aD} {n m:List Int} (h:pC b T n) (g:pC b T m):n=m:=(h.2 m g.1).Ke (g.2 n h.1)
theorem yB {b:Bool} {T:List aD} {n m:List Int} (hn:xm n) (hm:Fix b T m) (h:ke n m) {k:Nat} {x:aD} (hx:T[k]?=some x):ke (n.set k (lA b x n)) m:=by
 have hk:k<n.length:=by rw[h.1,hm.1]; exact(Tg.1 hx).1
 refine⟨by rw[Ua,h.1],fun i=>?_⟩
 rw[gU i hk]
 split
 .rename_i e
  rw[e,hm.2.2 k x hx]
  exact rN b x hn h
 .exact h.2 i
theorem lB {b:Bool} {T:List aD} {n m:List Int} (hn:zE b T n) (hm:Fix b T m) (h:ke n m):∀k,ke (swp b T n k) m
 |0=>h
 |k+1=>by
  unfold swp
  split
  .rename_i x hx
   exact yB (hn.swp k).1.2.1 hm (lB hn hm h k) hx
  .exact lB hn hm h k
theorem CU {b:Bool} {T:List aD} {n:List Int} (hn:zE b T n) (h:ke (swp b T n T.length) n):Fix b T n:=by
 have key:∀k,k<=T.length->swp b T n k=n:=fun k hk=>by
  have up:∀j,ke (swp b T n k) (swp b T n (k+j)):=fun j=>by
   induction j with
   |zero=>exact ke.refl _
   |succ j ih=>
    rw[<- Uh]
    refine ih.trans ?_
    show ke _ (match T[k+j]? with
     |some x=>(swp b T n (k+j)).set (k+j) (lA b x (swp b T n (k+j)))
     |none=>swp b T n (k+j))
    split
    .rename_i x hx
     exact((hn.swp (k+j)).1.step hx).2
    .exact ke.refl _
  have:=up (T.length - k)
  rw[show k+(T.length - k)=T.length by omega]at this
  exact(this.trans h).Ke (hn.swp k).2
 refine⟨hn.1,hn.2.1,fun k x hx=>?_⟩
 have hk:=(Tg.1 hx).1
 have h1:=key (k+1) hk
 have h2:=key k (by omega)
 unfold swp at h1
 rw[hx]at h1
 dsimp only at h1
 rw[h2]at h1
 have h3:=gU (n:=n) (x:=lA b x n) k (by rw[hn.1]; exact hk)
 rw[h1,if_pos rfl]at h3
 exact h3
def oT (n:List Int):Int:=n.foldl (·+·) 0
theorem rO:∀(n:List Int) (a:Int),n.foldl (·+·) a=a+oT n
 |[],a=>by simp[oT]
 |x::n,a=>by
  show n.foldl (·+·) (a+x)=a+n.foldl (·+·) (0+x)
  rw[rO n (a+x),rO n (0+x)]
  omega
theorem oU (x:Int) (n:List Int):oT (x::n)=x+oT n:=by
 show n.foldl (·+·) (0+x)=_
 rw[rO]
 omega
theorem uT:∀{a b:List Int},ke a b->oT a<=oT b/\(a≠b->oT a<oT b)
 |[],[],_=>⟨UT _,fun h=>(h rfl).elim⟩
 |[],_::_,h=>absurd h.1 (by simp)
 |_::_,[],h=>absurd h.1 (by simp)
 |x::a,y::b,h=>by
  have h0:=h.2 0
  have ht:ke a b:=⟨by have:=h.1; simpa using this,fun k=>by simpa using h.2 (k+1)⟩
  obtain⟨h1,h2⟩:=uT ht
  simp at h0
  rw[oU,oU]
  refine⟨by omega,fun hne=>?_⟩
  by_cases e:a=b
  .have:x≠y:=fun e2=>hne (by rw[e,e2])
   omega
  .have:=h2 e
   omega
theorem nF:∀{n:List Int},xm n->0<=oT n/\oT n<=2*n.length
 |[],_=>by simp[oT]
 |x::n,h=>by
  have h1:=h x TP
  have h2:=nF (n:=n) fun y hy=>h y (TJ _ hy)
  rw[oU,List.length_cons]
  omega
def gr (b:Bool) (T:List aD):Nat->List Int
 |0=>List.replicate T.length 0
 |r+1=>swp b T (gr b T r) T.length
theorem wS (b:Bool) (T:List aD):zE b T (List.replicate T.length 0):=by
 have h2:xm (List.replicate T.length 0):=fun x hx=>by
  rw[List.mem_replicate]at hx
  omega
 refine⟨UP,h2,fun k x _=>?_⟩
 have h1:=uS b x h2
 rw[TC,Ut]
 split<;>simpa using h1.1
theorem fp (b:Bool) (T:List aD):∀r,zE b T (gr b T r)
 |0=>wS b T
 |r+1=>((fp b T r).swp _).1
theorem mq {b:Bool} {T:List aD} {m:List Int} (hm:Fix b T m):∀r,ke (gr b T r) m
 |0=>by
  refine⟨by rw[hm.1]; exact UP,fun k=>?_⟩
  have h1:=hm.2.1.at k
  show (List.replicate T.length (0:Int)).getD k 0<=_
  rw[TC,Ut]
  split<;>simpa using h1.1
 |r+1=>lB (fp b T r) hm (mq hm r) _
theorem zF {b:Bool} {T:List aD} {n:List Int} (h:Fix b T n):∀k,swp b T n k=n
 |0=>rfl
 |k+1=>by
  unfold swp
  rw[zF h k]
  split
  .rename_i x hx
   have hk:k<n.length:=by rw[h.1]; exact(Tg.1 hx).1
   rw[<- h.2.2 k x hx,TC,Th hk]
   simp
  .rfl
theorem rP (b:Bool) (T:List aD):pC b T (gr b T (2*T.length+1)):=by
 have key:∀r,Fix b T (gr b T r)\/(r:Int)<=oT (gr b T r):=fun r=>by
  induction r with
  |zero=>exact .inr (nF (wS b T).2.1).1
  |succ r ih=>
   rcases ih with h|h
   .left
    show Fix b T (swp b T (gr b T r) T.length)
    rw[zF h]
    exact h
   .have hl:=fp b T r
    by_cases e:gr b T r=gr b T (r+1)
    .left
     rw[<- e]
     exact CU hl (by show ke (gr b T (r+1)) _; rw[<- e]; exact ke.refl _)
    .right
     have:=(uT (hl.swp T.length).2).2 e
     have e2:gr b T (r+1)=swp b T (gr b T r) T.length:=rfl
     rw[e2]
     omega
 refine⟨(key _).resolve_right fun h=>?_,fun m hm=>mq hm _⟩
 have h1:=nF (fp b T (2*T.length+1)).2.1
 rw[(fp b T (2*T.length+1)).1]at h1
 omega
theorem AX {T:List aD} {n:List Int} (h:pC true T n) (hk:∀x∈T,x.kind=8->lR n x.key≠0):pC false T n:=by
 obtain⟨⟨h1,h2,h3⟩,h4⟩:=h
 have hf:Fix false T n:=⟨h1,h2,fun k x hx=>by
  rw[h3 k x hx]
  have:=hk x (Tf hx)
  unfold lA
  by_cases c:x.kind=8
  .have:=this c
   simp[c,this]
  .simp[c]⟩
 refine⟨hf,fun m hm=>?_⟩
 have hr:=rP true T
 have e:n=gr true T (2*T.length+1):=pC.uniq ⟨⟨h1,h2,h3⟩,h4⟩ hr
 rw[e]
 have key:∀r,ke (gr true T r) m:=fun r=>by
  induction r with
  |zero=>
   refine⟨by rw[hm.1]; exact UP,fun k=>?_⟩
   have h1:=hm.2.1.at k
   show (List.replicate T.length (0:Int)).getD k 0<=_
   rw[TC,Ut]
   split<;>simpa using h1.1
  |succ r ih=>
   have:∀k,ke (swp true T (gr true T r) k) m:=fun k=>by
    induction k with
    |zero=>exact ih
    |succ k ih2=>
     unfold swp
     split
     .rename_i x hx
      have hl:=((fp true T r).swp k).1.2.1
      have hk:k<(swp true T (gr true T r) k).length:=by rw[ih2.1,hm.1]; exact(Tg.1 hx).1
      refine⟨by rw[Ua,ih2.1],fun i=>?_⟩
      rw[gU i hk]
      split
      .rename_i e
       rw[e,hm.2.2 k x hx]
       exact Int.le_trans (Kf x _ hl) (rN false x hl ih2)
      .exact ih2.2 i
     .exact ih2
   exact this _
 exact key _
def CV (x:aD) (n:List Int):Int:=
 if x.kind=4 then x.syms.length
 else if x.kind=6 then x.aS.foldl (fun c m=>c+lR n m.type) 0
 else if x.kind=9 then 1+lR n x.elem
 else lA true x n
theorem wT {n:List Int} (ha:∀i,0<=lR n i):∀(l:List Mem) (c:Int),0<=c->min 2 (l.foldl (fun c m=>c+lR n m.type) c)=l.foldl (fun c m=>min 2 (c+lR n m.type)) (min 2 c)
 |[],_,_=>rfl
 |m::l,c,h=>by
  have h1:=ha m.type
  rw[Uy,Uy,wT ha l _ (by omega)]
  congr 1
  omega
theorem CX (x:aD) {n:List Int} (hn:xm n):min 2 (CV x n)=lA true x n:=by
 have h:=uS true x hn
 unfold CV
 repeat' split
 .rename_i h1
  unfold lA
  rw[if_neg (by omega),if_neg (by omega),if_pos h1]
 .rename_i h1
  rw[wT (fun i=>(hn.at _).1) _ _ (by decide)]
  unfold lA
  rw[if_neg (by omega),if_neg (by omega),if_neg (by omega),if_neg (by omega),if_pos h1]
  rfl
 .rename_i h1
  unfold lA
  rw[if_neg (by omega),if_neg (by omega),if_neg (by omega),if_neg (by omega),if_neg (by omega),if_neg (by omega),if_neg (by omega),if_pos h1]
 .omega
theorem rQ {t:Nat} {n:List Int} {i:Int} (h0:0<=i) (h:i<n.length):lF 1 t (ints n) (some i)=some (V.pv (.ro t [.int .i64 (lR n i)])):=by
 rw[dv _ _ _ h0,Ct,Th (show i.toNat<n.length by omega)]
 unfold lR
 rw[TC,Th (show i.toNat<n.length by omega)]
 rfl
theorem zG {c a:Int} (h1:0<=c) (h2:c<=2) (h3:0<=a) (h4:a<=2):0<=c*a/\c*a<=4:=by
 have:c=0\/c=1\/c=2:=by omega
 rcases this with rfl|rfl|rfl<;>omega
theorem rR {x:aD} {m:Mem} (h:m∈x.aS):m.type∈cY x:=by
 unfold cY
 exact TX _ (TX _ (TA.2 ⟨m,h,rfl⟩))
theorem oV {x:aD} (h:x.kind=7\/x.kind=8\/x.kind=9):x.elem∈cY x:=by
 unfold cY oK
 refine Uc _ ?_
 rcases h with h|h|h<;>simp[h]
set_option maxHeartbeats 4000000 in
theorem r481 (x:aD) (n:List Int) (t:Nat) (hk:1<=x.kind/\x.kind<=9) (hs:x.short) (hn:xm n) (hu:∀u∈cY x,0<=u/\u<n.length):res A ay 481 [.agg x.c,.ai t (ints n)]=some [.int .i64 (lA false x n)]:=by
 refine aq a481 rfl rfl ?_
 simp only[F481,Jl]
 have ha:∀i,0<=lR n i/\lR n i<=2:=fun i=>hn.at _
 have hm:=fun m hm=>hu _ (rR (x:=x) (m:=m) hm)
 have hml:=hs.aS
 have hsl:=hs.syms
 have hel:=fun h=>hu _ (oV (x:=x) h)
 unfold lA
 obtain⟨kind,name,low,high,max,syms,aS,key,elem,lL⟩:=x
 unfold aD.c
 dsimp only at *
 rcases nine hk with rfl|rfl|rfl|rfl|rfl|rfl|rfl|rfl|rfl
 .simp(disch:=omega)only[go_sem,decide_true,decide_false,Int.reduceEq,if_true,if_false]
 .simp(disch:=omega)only[go_sem,decide_true,decide_false,Int.reduceEq,if_true,if_false]
  refine Br.aB (fun c=>?_) (fun c=>?_)<;>simp(disch:=omega)only[go_sem,c,if_true,if_false]
 .simp(disch:=omega)only[go_sem,decide_true,decide_false,Int.reduceEq,if_true,if_false]
  refine Br.aB (fun c=>?_) (fun c=>?_)<;>simp(disch:=omega)only[go_sem,c,if_true,if_false]
 .simp(disch:=omega)only[go_sem,decide_true,decide_false,Int.reduceEq,if_true,if_false]
 .simp(disch:=omega)only[go_sem,decide_true,decide_false,Int.reduceEq,if_true,if_false]
  refine W.fold aS (fun c m=>min 2 (c*lR n m.type)) 1 (fun k acc=>⟨[(1,.pv (.ai t (ints n))),(2,.ptr 2 0),(5,.pv (.int .i64 acc)),(6,.pv (.int .i64 k))],⟨[(2,[.pv (.int .i64 5),.pv (.str name),.pv (.int .i64 low),.pv (.int .i64 high),.pv (.int .i64 max),.pv (.ai 0 (syms.map Sym.c)),.pv (.ai 0 (aS.map Mem.c)),.pv (.int .i64 key),.pv (.int .i64 elem),.pv (.bool lL)])],[],[]⟩⟩) (fun _ acc=>0<=acc/\acc<=2) rfl (by decide) (fun k m acc hm1 hk1 _ hi=>?_) (fun acc hacc hi=>?_)
  .obtain⟨u1,u2⟩:=hm m (Tf hm1)
   have he:=fun t=>rQ (t:=t) u1 u2
   obtain⟨p1,p2⟩:=zG hi.1 hi.2 (ha m.type).1 (ha m.type).2
   generalize hp:acc*lR n m.type=p at p1 p2
   simp(disch:=omega)only[go_sem]
   refine Br.aB (fun c=>?_) (fun c=>(c (by omega)).elim)
   simp(disch:=omega)only[go_sem,hm1,Option.map_some,Mem.c,he,hp]
   exact bQ.of rfl (by omega)
  .simp(disch:=omega)only[go_sem]
   rw[<- hacc]
 .simp(disch:=omega)only[go_sem,decide_true,decide_false,Int.reduceEq,if_true,if_false]
  refine W.fold aS (fun c m=>min 2 (c+lR n m.type)) 0 (fun k acc=>⟨[(1,.pv (.ai t (ints n))),(2,.ptr 2 0),(7,.pv (.int .i64 acc)),(8,.pv (.int .i64 k))],⟨[(2,[.pv (.int .i64 6),.pv (.str name),.pv (.int .i64 low),.pv (.int .i64 high),.pv (.int .i64 max),.pv (.ai 0 (syms.map Sym.c)),.pv (.ai 0 (aS.map Mem.c)),.pv (.int .i64 key),.pv (.int .i64 elem),.pv (.bool lL)])],[],[]⟩⟩) (fun _ acc=>0<=acc/\acc<=2) rfl (by decide) (fun k m acc hm1 hk1 _ hi=>?_) (fun acc hacc hi=>?_)
  .obtain⟨u1,u2⟩:=hm m (Tf hm1)
   have he:=fun t=>rQ (t:=t) u1 u2
   have hat:=ha m.type
   simp(disch:=omega)only[go_sem]
   refine Br.aB (fun c=>?_) (fun c=>(c (by omega)).elim)
   simp(disch:=omega)only[go_sem,hm1,Option.map_some,Mem.c,he]
   exact bQ.of rfl (by omega)
  .simp(disch:=omega)only[go_sem]
   rw[<- hacc]
 .obtain⟨e1,e2⟩:=hel (by decide)
  have he:=fun t=>rQ (t:=t) e1 e2
  simp(disch:=omega)only[go_sem,decide_true,decide_false,Int.reduceEq,if_true,if_false,he]
  refine Br.aB (fun c=>?_) (fun c=>?_)<;>simp(disch:=omega)only[go_sem,c,if_true,if_false,he]
  .rw[if_pos (.inl trivial)]
  .refine Br.aB (fun d=>?_) (fun d=>?_)<;>simp(disch:=omega)only[go_sem,d]
   .rw[if_pos (by simp)]
   .rw[if_neg (by simp[c])]
 .obtain⟨e1,e2⟩:=hel (by decide)
  have he:=fun t=>rQ (t:=t) e1 e2
  simp(disch:=omega)only[go_sem,decide_true,decide_false,Int.reduceEq,if_true,if_false,he]
  refine Br.aB (fun c=>?_) (fun c=>?_)<;>simp(disch:=omega)only[go_sem,c,if_true,if_false,he]
  .rw[if_pos (.inl trivial)]
  .refine Br.aB (fun d=>?_) (fun d=>?_)<;>simp(disch:=omega)only[go_sem,d]
   .rw[if_pos (by simp)]
   .rw[if_neg (by simp[c])]
 .obtain⟨e1,e2⟩:=hel (by decide)
  have he:=fun t=>rQ (t:=t) e1 e2
  have:=ha elem
  simp(disch:=omega)only[go_sem,decide_true,decide_false,Int.reduceEq,if_true,if_false,he]
set_option maxHeartbeats 4000000 in
theorem r485 (x:aD) (n:List Int) (t:Nat) (hk:1<=x.kind/\x.kind<=9) (hs:x.short) (hn:xm n) (hu:∀u∈cY x,0<=u/\u<n.length):res A ay 485 [.agg x.c,.ai t (ints n)]=some [.int .i64 (CV x n)]:=by
 refine aq a485 rfl rfl ?_
 simp only[F485,Jp]
 have ha:∀i,0<=lR n i/\lR n i<=2:=fun i=>hn.at _
 have hm:=fun m hm=>hu _ (rR (x:=x) (m:=m) hm)
 have hml:=hs.aS
 have hsl:=hs.syms
 have hel:=fun h=>hu _ (oV (x:=x) h)
 have hkey:=fun h=>hu _ (kL (t:=x) h)
 unfold CV lA
 obtain⟨kind,name,low,high,max,syms,aS,key,elem,lL⟩:=x
 unfold aD.c
 dsimp only at *
 rcases nine hk with rfl|rfl|rfl|rfl|rfl|rfl|rfl|rfl|rfl
 .simp(disch:=omega)only[go_sem,decide_true,decide_false,Int.reduceEq,if_true,if_false]
 .simp(disch:=omega)only[go_sem,decide_true,decide_false,Int.reduceEq,if_true,if_false]
  refine Br.aB (fun c=>?_) (fun c=>?_)<;>simp(disch:=omega)only[go_sem,c,if_true,if_false]
 .simp(disch:=omega)only[go_sem,decide_true,decide_false,Int.reduceEq,if_true,if_false]
  refine Br.aB (fun c=>?_) (fun c=>?_)<;>simp(disch:=omega)only[go_sem,c,if_true,if_false]
 .simp(disch:=omega)only[go_sem,decide_true,decide_false,Int.reduceEq,if_true,if_false]
 .simp(disch:=omega)only[go_sem,decide_true,decide_false,Int.reduceEq,if_true,if_false]
  refine W.fold aS (fun c m=>min 2 (c*lR n m.type)) 1 (fun k acc=>⟨[(1,.pv (.ai t (ints n))),(5,.pv (.int .i64 acc)),(33,.pv (.ai 0 (aS.map Mem.c))),(34,.pv (.int .i64 aS.length)),(35,.pv (.int .i64 k))],⟨[],[],[]⟩⟩) (fun _ acc=>0<=acc/\acc<=2) rfl (by decide) (fun k m acc hm1 hk1 _ hi=>?_) (fun acc hacc hi=>?_)
  .obtain⟨u1,u2⟩:=hm m (Tf hm1)
   have he:=fun t=>rQ (t:=t) u1 u2
   obtain⟨p1,p2⟩:=zG hi.1 hi.2 (ha m.type).1 (ha m.type).2
   generalize hp:acc*lR n m.type=p at p1 p2
   simp(disch:=omega)only[go_sem]
   refine Br.aB (fun c=>?_) (fun c=>(c (by omega)).elim)
   simp(disch:=omega)only[go_sem,hm1,Option.map_some,Mem.c,he,hp]
   exact bQ.of rfl (by omega)
  .simp(disch:=omega)only[go_sem]
   rw[<- hacc]
 .simp(disch:=omega)only[go_sem,decide_true,decide_false,Int.reduceEq,if_true,if_false]
  refine W.fold aS (fun c m=>c+lR n m.type) 0 (fun k acc=>⟨[(1,.pv (.ai t (ints n))),(8,.pv (.int .i64 acc)),(52,.pv (.ai 0 (aS.map Mem.c))),(53,.pv (.int .i64 aS.length)),(54,.pv (.int .i64 k))],⟨[],[],[]⟩⟩) (fun k acc=>0<=acc/\acc<=2*(k:Int)) rfl (by decide) (fun k m acc hm1 hk1 _ hi=>?_) (fun acc hacc hi=>?_)
  .obtain⟨u1,u2⟩:=hm m (Tf hm1)
   have he:=fun t=>rQ (t:=t) u1 u2
   have hat:=ha m.type
   simp(disch:=omega)only[go_sem]
   refine Br.aB (fun c=>?_) (fun c=>(c (by omega)).elim)
   simp(disch:=omega)only[go_sem,hm1,Option.map_some,Mem.c,he]
   exact bQ.of rfl (by omega)
  .simp(disch:=omega)only[go_sem]
   rw[<- hacc]
 .obtain⟨e1,e2⟩:=hel (by decide)
  have he:=fun t=>rQ (t:=t) e1 e2
  simp(disch:=omega)only[go_sem,decide_true,decide_false,Int.reduceEq,if_true,if_false,he]
  refine Br.aB (fun c=>?_) (fun c=>?_)<;>simp(disch:=omega)only[go_sem,c,if_true,if_false,he]
  .rw[if_pos (.inl trivial)]
  .refine Br.aB (fun d=>?_) (fun d=>?_)<;>simp(disch:=omega)only[go_sem,d]
   .rw[if_pos (by simp)]
   .rw[if_neg (by simp[c])]
 .obtain⟨e1,e2⟩:=hel (by decide)
  obtain⟨k1,k2⟩:=hkey (by decide)
  have he:=fun t=>rQ (t:=t) e1 e2
  have hke:=fun t=>rQ (t:=t) k1 k2
  simp(disch:=omega)only[go_sem,decide_true,decide_false,Int.reduceEq,if_true,if_false,he]
  refine Br.aB (fun c=>?_) (fun c=>?_)<;>simp(disch:=omega)only[go_sem,c,if_true,if_false,he]
  .rw[if_pos (.inl trivial)]
  .refine Br.aB (fun d=>?_) (fun d=>?_)<;>simp(disch:=omega)only[go_sem,d,hke]
   .rw[if_pos (by simp)]
   .refine Br.aB (fun e=>?_) (fun e=>?_)<;>simp(disch:=omega)only[go_sem,e]
    .rw[if_pos (by simp)]
    .rw[if_neg (by simp[c,d])]
 .obtain⟨e1,e2⟩:=hel (by decide)
  have he:=fun t=>rQ (t:=t) e1 e2
  have:=ha elem
  simp(disch:=omega)only[go_sem,decide_true,decide_false,Int.reduceEq,if_true,if_false,he]
structure aO.Good (a:aO):Prop where
 st:0<=a.start/\a.start<a.af
 mx:a.af<=12
 len:a.aa.length<=100
 fit:∀e∈a.aa,e.fits a.af=true
 SB:a.aa.Pairwise (fun x y=>Edge.lt x y=true)
theorem Edge.Gc (x y z:Edge) (h1:Edge.lt x y=true) (h2:Edge.lt y z=true):Edge.lt x z=true:=by
 unfold Edge.lt at *
 by_cases a1:x.fr=y.fr<;>by_cases a2:y.fr=z.fr<;>by_cases b1:x.send=y.send<;>by_cases b2:y.send=z.send<;>simp_all<;>(try omega)
 all_goals (try (have:¬x.fr=z.fr:=by omega); simp_all; omega)
theorem Edge.zH {x y:Edge}:nw Edge.lt x y↔¬(x.fr=y.fr/\x.send=y.send/\x.label=y.label):=by
 unfold nw Edge.lt
 by_cases a1:x.fr=y.fr
 .cases h1:x.send<;>cases h2:y.send<;>simp[a1]<;>omega
 .have:¬y.fr=x.fr:=fun h=>a1 h.symm
  simp[a1,this]
  omega
theorem zI {n:Int}:∀{p:Option Edge} {l:List Edge},rA n p l=true->l.Pairwise (fun x y=>Edge.lt x y=true)/\∀q,p=some q->∀e∈l,Edge.lt q e=true
 |_,[],_=>⟨List.Pairwise.nil,fun _ _ e he=>absurd he (by simp)⟩
 |p,x::r,h=>by
  simp only[rA,Bool.and_eq_true]at h
  obtain⟨h1,h2⟩:=zI h.2
  refine⟨TF.2 ⟨h2 x rfl,h1⟩,fun q hq e he=>?_⟩
  subst hq
  have hx:Edge.lt q x=true:=h.1.2
  rcases Tu.1 he with rfl|he
  .exact hx
  .exact Edge.Gc _ _ _ hx (h2 x rfl e he)
theorem CY {n:Int}:∀{p:Option Edge} {l:List Edge},l.Pairwise (fun x y=>Edge.lt x y=true)->(∀e∈l,e.fits n=true)->(∀q,p=some q->∀e∈l,Edge.lt q e=true)->rA n p l=true
 |_,[],_,_,_=>rfl
 |p,x::r,h1,h2,h3=>by
  obtain⟨g1,g2⟩:=TF.1 h1
  simp only[rA,Bool.and_eq_true]
  refine⟨⟨h2 x (by simp),?_⟩,CY g2 (fun e he=>h2 e (by simp[he])) fun q hq e he=>?_⟩
  .cases p with
   |none=>rfl
   |some q=>exact h3 q rfl x (by simp)
  .cases hq
   exact g1 e he
theorem aO.kN {a:aO}:a.err=0↔a.Good:=by
 unfold aO.err
 constructor
 .intro h
  split at h
  .cases h
  .split at h
   .split at h
    .rename_i h1 h2 h3
     exact⟨h2,by omega,by omega,wo h3,(zI h3).1⟩
    .cases h
   .cases h
 .intro h
  have:=h.mx; have:=h.len
  rw[if_neg (by omega),if_pos h.st,if_pos (CY h.SB h.fit (fun q hq=>by cases hq))]
theorem cW {s:Int} {d:Bool} {x t:Int}:∀{es:List Edge},es.Pairwise (nw Edge.lt)->(aU s d x es=some t↔⟨s,d,x,t⟩∈es)
 |[],_=>by simp[aU]
 |e::r,h=>by
  obtain⟨h1,h2⟩:=TF.1 h
  unfold aU
  split
  .rename_i hc
   constructor
   .intro h
    cases h
    obtain⟨rfl,rfl,rfl⟩:=hc
    exact TP ..
   .intro hm
    rcases Tu.1 hm with hm|hm
    .rw[<- hm]
    .exact(Edge.zH.1 (h1 _ hm) hc).elim
  .rename_i hc
   rw[cW h2,Tu]
   refine⟨.inr,fun h=>h.elim (fun h=>?_) id⟩
   rw[<- h]at hc
   exact(hc ⟨rfl,rfl,rfl⟩).elim
theorem aO.Good.nw {a:aO} (h:a.Good):a.aa.Pairwise (nw Edge.lt):=h.SB.imp .inl
def outs (es:List Edge) (v:Int):List Int:=(es.filter fun e=>e.fr==v).map (·.to)
theorem CZ {es:List Edge} {v x:Int}:x∈outs es v↔∃e∈es,e.fr=v/\e.to=x:=by simp[outs,and_assoc]
def aO.from (a:aO) (s:Int):List Int:=AK (outs a.aa) a.af.toNat 0 [s]
def aO.order (a:aO):List Int:=a.from a.start
def aO.inr (a:aO) (v:Int):Prop:=0<=v/\v<a.af
theorem aO.Good.EY {a:aO} (h:a.Good):∀v,a.inr v->∀x∈outs a.aa v,a.inr x:=by
 intro v _ x hx
 obtain⟨e,he,_,rfl⟩:=CZ.1 hx
 have:=ew.1 (h.fit e he)
 exact⟨this.2.2.1,this.2.2.2.1⟩
theorem aO.bound {a:aO}:∀o:List Int,o.Nodup->(∀v∈o,a.inr v)->o.length<=a.af.toNat:=fun o hd ho=>wF hd fun x hx=>by
 have:=ho x hx
 unfold aO.inr at this
 omega
theorem aO.yC (a:aO) (s:Int):(a.from s).Nodup:=tP _ _ (by simp)
theorem aO.Good.EZ {a:aO} (h:a.Good) {s:Int} (hs:a.inr s):∀v∈a.from s,a.inr v:=zx h.EY _ _ (by simpa using hs)
theorem aO.Good.rS {a:aO} (h:a.Good) {s:Int} (hs:a.inr s):(a.from s).length<=a.af.toNat:=a.bound _ (a.yC s) (h.EZ hs)
theorem rT {x:Int}:∀{l:List Int} {k:Nat},x∈l->∃j,er x k l=((k+j:Nat):Int)/\l[j]?=some x
 |[],_,h=>absurd h (by simp)
 |y::r,k,h=>by
  unfold er
  split
  .rename_i hy
   exact⟨0,rfl,by simp[hy]⟩
  .rename_i hy
   rcases Tu.1 h with rfl|h
   .exact(hy rfl).elim
   .obtain⟨j,h1,h2⟩:=rT (k:=k+1) h
    exact⟨j+1,by rw[h1]; omega,by simpa using h2⟩
theorem zJ {x:Int} {l:List Int} (h:x∈l):∃j:Nat,rK x l=(j:Int)/\l[j]?=some x:=by
 obtain⟨j,h1,h2⟩:=rT (k:=0) h
 exact⟨j,by unfold rK; rw[h1,UC],h2⟩
theorem E0 {x y:Int} {l:List Int} (hx:x∈l) (hy:y∈l) (h:rK x l=rK y l):x=y:=by
 obtain⟨i,h1,h2⟩:=zJ hx
 obtain⟨j,g1,g2⟩:=zJ hy
 rw[h1,g1]at h
 have:i=j:=by omega
 subst this
 rw[h2]at g2
 exact Option.some.inj g2
def iota (n:Nat):List Int:=(List.range n).map Int.ofNat
theorem nG {n:Nat} {x:Int}:x∈iota n↔0<=x/\x<n:=by
 unfold iota
 rw[TA]
 constructor
 .rintro ⟨k,hk,rfl⟩
  have:=UO.1 hk
  simp
  omega
 .intro h
  exact⟨x.toNat,List.mem_range.2 (by omega),by simp; omega⟩
def Edge.Pf (o:List Int) (e:Edge):Edge:=⟨rK e.fr o,e.send,e.label,rK e.to o⟩
def kept (o:List Int) (es:List Edge):List Edge:=(es.filter fun e=>decide (e.fr∈o)).map (Edge.Pf o)
def aO.trim (a:aO):aO:=⟨a.order.length,0,dz Edge.lt (kept a.order a.aa)⟩
theorem C0 {o:List Int} {es:List Edge} (h:es.Pairwise (nw Edge.lt)):(kept o es).Pairwise (nw Edge.lt):=by
 unfold kept
 rw[List.pairwise_map]
 have h2:=h.filter (fun e=>decide (e.fr∈o))
 refine List.Pairwise.imp_of_mem (fun {x y} hx hy hxy=>?_) h2
 have hx':=(List.mem_filter.1 hx).2
 have hy':=(List.mem_filter.1 hy).2
 simp only[decide_eq_true_eq]at hx' hy'
 rw[Edge.zH]at hxy |-
 exact fun⟨e1,e2,e3⟩=>hxy ⟨E0 hx' hy' e1,e2,e3⟩
def aO.proper (a:aO):Bool:=a.order.all fun v=>(a.from v).any fun w=>CM w a.aa
@[go_sem] theorem Kg (l:List Edge) (f:Int) (d:Bool) (x t:Int):bG l++[[.int .i64 f,.bool d,.int .i64 x,.int .i64 t]]=bG (l++[⟨f,d,x,t⟩]):=by simp[bG,Edge.c]
theorem C1 (e:Edge):(⟨e.fr,e.send,e.label,e.to⟩:Edge)=e:=rfl
@[go_sem] theorem Kh {id row aA:Nat} {f x t:Int} {d:Bool} {l:List Edge} (h1:row<l.length):ea id row 0 [.pv (.int .i64 f),.pv (.bool d),.pv (.int .i64 x),.pv (.int .i64 t)] ⟨aA,4,.inl (bG l)⟩=some { ar:=some (id,⟨aA,4,.inl (bG (l.set row ⟨f,d,x,t⟩))⟩) }:=by
 rw[ni (l:=[.int .i64 f,.bool d,.int .i64 x,.int .i64 t]) (by rw[bM]; exact h1) rfl (by simp) rfl]
 have:over row 0 [.int .i64 f,.bool d,.int .i64 x,.int .i64 t] (bG l)=bG (l.set row ⟨f,d,x,t⟩):=by
  unfold over bG
  rw[List.map_set]
  congr 1
  obtain⟨e,he⟩:∃e,l[row]?=some e:=⟨l[row],by simp[h1]⟩
  simp[he,Edge.c]
 rw[this]
set_option maxHeartbeats 2000000 in
@[go_sem] theorem r43 (t:Nat) (a:aO) (hl:a.aa.length<=2000000000):
  res A ay 43 [.agg [.int .i64 a.af,.int .i64 a.start,.ai t (a.aa.map Edge.c)]]=some [.agg [.int .i64 a.af,.int .i64 a.start,.ai 0 (bG (wN Edge.lt a.aa))]]:=by
 refine aq a43 rfl rfl ?_
 simp only[F43,RE]
 simp(disch:=omega)only[go_sem]
 refine W.fold a.aa (fun o x=>CG Edge.lt x o) [] (fun k o=>⟨[(1,.ptr 1 0),(2,.ptr 2 0),(3,.ptr 3 0),(4,.pv (.int .i64 k))],⟨[(1,[.pv (.int .i64 a.af),.pv (.int .i64 a.start),.pv (.ai t (a.aa.map Edge.c))]),(2,[.pv (.int .i64 0),.pv (.int .i64 0),.tl []]),(3,[.pv (.int .i64 a.af),.pv (.int .i64 a.start),dR 0 (bG o)])],et 4 (bG o),[]⟩⟩) (fun k o=>o.length=k) rfl rfl (fun k e o he hk _ hi=>?_) (fun o ho hi=>?_)
 .simp(disch:=omega)only[go_sem]
  refine Br.aB (fun h=>?_) (fun h=>(h (by omega)).elim)
  simp(disch:=omega)only[go_sem,he]
  have hlen:(bG (o++[e])).length=o.length+1:=by simp[bG]
  refine W.du o.length (fun j=>⟨[(1,.ptr 1 0),(2,.ptr 2 0),(3,.ptr 3 0),(4,.pv (.int .i64 k)),(5,.pv (.int .i64 (o.length - j:Nat)))],⟨[(1,[.pv (.int .i64 a.af),.pv (.int .i64 a.start),.pv (.ai t (a.aa.map Edge.c))]),(2,[.pv (.int .i64 0),.pv (.int .i64 0),.tl []]),(3,[.pv (.int .i64 a.af),.pv (.int .i64 a.start),.own 0 o.length 0 (o.length+1)])],[⟨o.length,4,.inl (bG (mn e o (o.length - j)))⟩],[]⟩⟩)
   (fun j=>ET Edge.lt e o o.length=ET Edge.lt e o (o.length - j)) ?_ rfl fun j hj hq=>?_
  .rw[qj hlen,ll hlen,show (((o.length+1:Nat):Int) - 1)=((o.length - 0:Nat):Int) by omega]
   simp[mn]
  have hpl:=rJ e o (o.length - j) (by omega)
  have hp0:=zy e o (o.length - j) (by omega)
  simp(disch:=omega)only[go_sem]
  have fin:ET Edge.lt e o o.length=o.length - j->CG Edge.lt e o=mn e o (o.length - j):=fun hb=>by unfold CG; rw[hb]
  refine Br.aB (fun f1=>?_) (fun f1=>?_)
  .obtain⟨p,hp⟩:∃p,o.length - j=p+1:=⟨o.length - j - 1,by omega⟩
   have hpb:=yw e o p (by omega)
   have hpd:=AT e o p (by omega)
   have e1:((p+1:Nat):Int) - 1=(p:Int):=by omega
   have e2:o.length - (j+1)=p:=by omega
   rw[hp]at hq hpl hp0 fin
   have f2:(0:Int)<((p+1:Nat):Int):=by omega
   have hpl2:((mn e o (p+1)).set (p+1) (o.getD p default)).length=o.length+1:=by rw[Ua]; exact hpl
   simp(disch:=omega)only[go_sem,hp,hp0,f2,e1,hpb]
   refine Br.of (fun f3=>?_) (fun f3=>?_)<;>simp(disch:=omega)only[go_sem,f3,hp0,e1,hpb,hpd,C1]
   .refine .of (by omega) ?_ ?_
    .show _=St.mk _ _
     rw[e2]
    .rw[hq,e2]
     simp only[ET,f3,if_true]
   .refine bQ.of ?_ ?_
    .show _=St.mk _ _
     rw[fin (by rw[hq]; simp only[ET,f3,Bool.false_eq_true,if_false]),qj (by rw[bM]; exact hpl),ll (by rw[bM]; exact hpl)]
     rfl
    .rw[wM]
     omega
  .have h0:o.length - j=0:=by omega
   simp(disch:=omega)only[go_sem,f1]
   rw[h0]at hq hpl hp0 fin |-
   refine bQ.of ?_ ?_
   .show _=St.mk _ _
    rw[fin hq,qj (by rw[bM]; exact hpl),ll (by rw[bM]; exact hpl)]
    rfl
   .rw[wM]
    omega
 .simp(disch:=omega)only[go_sem]
  rw[ho]
  rfl
theorem fold_filter {α β:Type} (p:α->Bool) (f:α->β):∀(l:List α) (o:List β),l.foldl (fun o x=>if p x=true then o++[f x] else o) o=o++(l.filter p).map f
 |[],o=>by simp
 |x::l,o=>by
  rw[Uy,fold_filter p f l]
  by_cases h:p x=true<;>simp[h]
@[go_sem] theorem r43e (t:Nat) (n s:Int) (l:List Edge) (hl:l.length<=2000000000):res A ay 43 [.agg [.int .i64 n,.int .i64 s,.ai t (bG l)]]=some [.agg [.int .i64 n,.int .i64 s,.ai 0 (bG (wN Edge.lt l))]]:=r43 t ⟨n,s,l⟩ hl
theorem pD (h:aw) (t:Nat) (l:List Edge) (ht:t<=1) (hl:l.length<=2147483648):cd 4 [.pv (.ai t (l.map Edge.c))] h=some (if l.length=0 then (.tl [],{}) else (.own h.ar.length 0 0 l.length,{ push:=[⟨0,4,.inl (bG l)⟩],base:=h.ar.length })):=by
 have h1:((l.map Edge.c).all fun x=>x.length==4)=true:=by simp[Edge.c]
 have h2:l.length<=aT:=hl
 by_cases h0:l.length=0<;>simp[cd,bB,aW,ht,h1,h2,h0,bG]
theorem C2 (l:List Edge):az Edge.dec (bG l)=some l:=by
 induction l with
 |nil=>rfl
 |cons x l ih=>
  show az Edge.dec (x.c::bG l)=_
  have:Edge.dec x.c=some x:=rfl
  simp only[az,this,ih]
theorem yD {h:aw} {id aA n:Nat} {l:List Edge} (hn:n=l.length) (ho:aE h id aA=some ⟨aA,4,.inl (bG l)⟩) (h0:l.length≠0) (hm:l.length<=2147483648) (hap:l.Pairwise (nw Edge.lt)):
  jk 4 (gb Edge.c Edge.dec Edge.lt) 47 [.own id aA 0 n,.func 47 []] h=some (.dp [],{ ar:=some (id,⟨aA,4,.inl (bG (dz Edge.lt l))⟩) }):=by
 subst hn
 have e1:(bG l).length=l.length:=bM l
 have hr:=tQ (wO Edge.Gc hap)
 simp[jk,ho,h0,e1,aT,hm,gb,C2,hr,List.take_of_length_le (Nat.le_of_eq e1),List.drop_eq_nil_of_le (Nat.le_of_eq e1)]
 rfl
structure Gd where
 fr:Int
 act:Int
 to:Int
 deriving DecidableEq,Inhabited
structure nH where
 n:Int
 FC:List Gd
 deriving DecidableEq,Inhabited
def Gd.c (x:Gd):List PV:=[.int .u8 x.fr,.int .u8 x.act,.int .u8 x.to]
def Gd.ok (x:Gd):Prop:=(0<=x.fr/\x.fr<=255)/\(0<=x.act/\x.act<=255)/\(0<=x.to/\x.to<=255)
def nH.ok (d:nH):Prop:=(0<=d.n/\d.n<=255)/\d.FC.length<=2^63 - 1/\∀x∈d.FC,x.ok
def Gd.R6 (st:Int) (x:Gd):Edge:=⟨x.fr%st,decide (x.act%2=1),1+x.act/2%3,x.to%st⟩
def R7 (es:List Edge) (e:Edge):List Edge:=if (aU e.fr e.send e.label es).isSome=true then es else es++[e]
def nH.raw (d:nH):List Edge:=(d.FC.take 12).foldl (fun es x=>R7 es (x.R6 (1+d.n%4))) []
def nH.auto (d:nH):aO:=⟨1+d.n%4,0,wN Edge.lt d.raw⟩
attribute [go_sem] wrap_u8
theorem tR (es:List Edge) (v:Int):∀o:List Int,es.foldl (fun o e=>if e.fr=v then fM o e.to else o) o=wH o (outs es v):=by
 induction es with
 |nil=>intro o; rfl
 |cons e es ih=>
  intro o
  rw[Uy,ih]
  by_cases h:e.fr=v
  .rw[if_pos h]
   simp[outs,h,oN]
  .rw[if_neg h]
   simp[outs,h]
theorem nI {n b:Nat} {o:List Int} {x:Int} (h:b<=o.length):sG n b (ints (o++[x]))=.own n (o.length - b) 0 (o.length+1):=by
 rw[<- ln,Cy (by rw[bq]; exact h),bq]
theorem nJ {b:Nat} {o:List Int} {x:Int} (h:b<=o.length):AG 1 b (ints (o++[x]))=[⟨o.length - b,1,.inl (ints (o++[x]))⟩]:=by
 rw[<- ln,Cz (by rw[bq]; exact h),bq]
theorem cj (l:List Int):(ints l).length=l.length:=bq l
set_option maxHeartbeats 4000000 in
@[go_sem] theorem r52 (t:Nat) (a:aO) (hg:a.Good):
  res A ay 52 [.agg [.int .i64 a.af,.int .i64 a.start,.ai t (a.aa.map Edge.c)]]=some [.ai 0 (ints a.order)]:=by
 refine aq a52 rfl rfl ?_
 simp only[F52,RK]
 obtain⟨g1,g2,g3,g4,g5⟩:=hg
 have hg:a.Good:=⟨g1,g2,g3,g4,g5⟩
 simp(disch:=omega)only[go_sem]
 refine W.loop (α:=Nat×List Int) (fun x=>⟨[(1,.ptr 1 0),(3,sG 0 1 (ints x.2)),(4,.pv (.int .i64 x.1))],⟨[(1,[.pv (.int .i64 a.af),.pv (.int .i64 a.start),.pv (.ai t (a.aa.map Edge.c))])],AG 1 1 (ints x.2),[]⟩⟩)
  (fun x=>x.2.Nodup/\(∀v∈x.2,a.inr v)/\1<=x.2.length/\x.1<=x.2.length/\AK (outs a.aa) (a.af.toNat - x.1) x.1 x.2=a.order) (fun x=>a.af.toNat - x.1) (0,[a.start]) rfl ⟨by simp,fun w hw=>(List.mem_singleton.1 hw) ▸ hg.st,by simp,by simp,rfl⟩ fun x hx=>?_
 obtain⟨i,o⟩:=x
 obtain⟨hd,hin,h1,h2,hb⟩:=hx
 dsimp only at hd hin h1 h2 hb
 have hlen:=a.bound o hd hin
 simp(disch:=omega)only[go_sem]
 refine Br.aB (fun h=>?_) (fun h=>?_)
 .obtain⟨v,hv⟩:=get_at (l:=o) (k:=i) (by omega)
  simp(disch:=omega)only[go_sem]
  refine W.fold a.aa (fun o e=>if e.fr=v then fM o e.to else o) o (fun k o=>⟨[(1,.ptr 1 0),(3,sG 0 1 (ints o)),(4,.pv (.int .i64 i)),(5,.pv (.int .i64 k))],⟨[(1,[.pv (.int .i64 a.af),.pv (.int .i64 a.start),.pv (.ai t (a.aa.map Edge.c))])],AG 1 1 (ints o),[]⟩⟩)
   (fun _ o=>o.Nodup/\(∀v∈o,a.inr v)/\1<=o.length/\o[i]?=some v) rfl ⟨hd,hin,h1,hv⟩ (fun k e o he hk _ hi=>?_) (fun o ho hi=>?_)
  .obtain⟨hd,hin,h1,hv⟩:=hi
   have hlen:=a.bound o hd hin
   have hef:=ew.1 (g4 e (Tf he))
   have hto:a.inr e.to:=⟨hef.2.2.1,hef.2.2.2.1⟩
   have hI:(if e.fr=v then fM o e.to else o).Nodup/\(∀w∈(if e.fr=v then fM o e.to else o),a.inr w)/\1<=(if e.fr=v then fM o e.to else o).length/\(if e.fr=v then fM o e.to else o)[i]?=some v:=by
    split
    .obtain⟨r,hr⟩:=wG o e.to
     have hil:=(Tg.1 hv).1
     refine⟨mm hd,fun x hx=>(rH.1 hx).elim (hin x) (fun q=>q ▸ hto),by rw[<- hr,TH]; omega,by rw[<- hr,Tp hil]; exact hv⟩
    .exact⟨hd,hin,h1,hv⟩
   have hstay:e.fr=v->¬rK e.to o<0->(if e.fr=v then fM o e.to else o)=o:=fun h1 h2=>by rw[if_pos h1,fM,if_pos (qk.1 (by omega))]
   have hmore:e.fr=v->rK e.to o<0->(if e.fr=v then fM o e.to else o)=o++[e.to]:=fun h1 h2=>by rw[if_pos h1,fM,if_neg (ny.1 h2)]
   rcases wy (b:=1) (rows:=ints o)with hc|⟨m,hc⟩
   .rw[lq hc,lu hc]
    rw[cj]at hc
    simp(disch:=omega)only[go_sem]
    refine Br.aB (fun h=>?_) (fun h=>(h (by omega)).elim)
    simp(disch:=omega)only[go_sem,he,hv]
    refine Br.aB (fun f1=>?_) (fun f1=>?_)<;>simp(disch:=omega)only[go_sem,f1]
    .refine Br.aB (fun f2=>?_) (fun f2=>?_)<;>simp(disch:=omega)only[go_sem,f2]
     .refine bQ.of ?_ hI
      show _=St.mk _ _
      rw[hmore f1 f2,nI h1,nJ h1,show o.length - 1=0 by omega]
      rfl
     .refine bQ.of ?_ hI
      show _=St.mk _ _
      rw[hstay f1 f2,lq (by rw[cj]; exact hc),lu (by rw[cj]; exact hc)]
      rfl
    .refine bQ.of ?_ hI
     show _=St.mk _ _
     rw[if_neg f1,lq (by rw[cj]; exact hc),lu (by rw[cj]; exact hc)]
     rfl
   .rw[jQ hc,jR hc]
    rw[cj]at hc
    have hil:=(Tg.1 hv).1
    have ht:o.take (1+m+1)=o:=Ts (by omega)
    have hi0:(0:Int)<=(i:Int):=by omega
    simp(disch:=omega)only[go_sem]
    refine Br.aB (fun h=>?_) (fun h=>(h (by omega)).elim)
    simp(disch:=omega)only[go_sem,he,hv]
    refine Br.aB (fun f1=>?_) (fun f1=>?_)<;>simp(disch:=omega)only[go_sem,f1,ht]
    .refine Br.aB (fun f2=>?_) (fun f2=>?_)<;>simp(disch:=omega)only[go_sem,f2]
     .refine bQ.of ?_ hI
      show _=St.mk _ _
      rw[hmore f1 f2,nI h1,nJ h1,show o.length - 1=m+1 by omega,hc]
      rfl
     .refine bQ.of ?_ hI
      show _=St.mk _ _
      rw[hstay f1 f2,jQ (by rw[cj]; exact hc),jR (by rw[cj]; exact hc)]
      rfl
    .refine bQ.of ?_ hI
     show _=St.mk _ _
     rw[if_neg f1,jQ (by rw[cj]; exact hc),jR (by rw[cj]; exact hc)]
     rfl
  .rw[tR]at ho
   simp(disch:=omega)only[go_sem]
   obtain⟨hd',hin',h1',hv'⟩:=hi
   have hl':=a.bound o hd' hin'
   have hil:=(Tg.1 hv').1
   refine⟨(i+1,o),⟨hd',hin',h1',hil,?_⟩,by dsimp only; omega,rfl⟩
   dsimp only
   rw[<- hb,ho]
   obtain⟨q,hq⟩:∃q,a.af.toNat - i=q+1:=⟨a.af.toNat - i - 1,by omega⟩
   rw[hq,wJ hv]
   congr 1
   omega
 .simp(disch:=omega)only[go_sem]
  rw[zw (by omega)]at hb
  rw[hb]
def jd (x y:Int) (n k:Nat):List Int:=List.replicate k x++List.replicate (n - k) y
theorem yE {x y:Int} {n k:Nat} (h:k<=n):(jd x y n k).length=n:=by simp[jd]; omega
theorem wU (x y:Int) (n:Nat):jd x y n 0=List.replicate n y:=by simp[jd]
theorem yF (x y:Int) (n:Nat):jd x y n n=List.replicate n x:=by simp[jd]
theorem wV {x y:Int} {n k:Nat} (h:k<n):(jd x y n k).set k x=jd x y n (k+1):=by
 unfold jd
 rw[List.set_append_right _ _ (by simp)]
 obtain⟨m,hm⟩:∃m,n - k=m+1:=⟨n - k - 1,by omega⟩
 have:n - (k+1)=m:=by omega
 rw[hm,this,List.replicate_succ' (n:=k),TT]
 simp[List.replicate_succ]
def gu (n:Nat) (o:List Int):List Int:=(List.range n).map fun(v:Nat)=>rK (v:Int) o
theorem eK (n:Nat) (o:List Int):(gu n o).length=n:=by simp[gu]
theorem fO {n:Nat} {o:List Int} {v:Int} (h:0<=v/\v<n):(gu n o)[v.toNat]?=some (rK v o):=by
 unfold gu
 rw[To,T9 (by omega)]
 simp only[Option.map_some]
 rw[show ((v.toNat:Nat):Int)=v by omega]
theorem pE {x y:Int}:∀{l:List Int} {k:Nat},x∉l->er y k (l++[x])=if y∈l then er y k l else if y=x then ((k+l.length:Nat):Int) else -1
 |[],k,_=>by
  simp only[List.nil_append,er,List.not_mem_nil,if_false,List.length_nil,Nat.add_zero]
  by_cases h:x=y
  .simp[h]
  .have:¬y=x:=fun e=>h e.symm
   simp[h,this]
 |z::l,k,hx=>by
  simp only[List.mem_cons,not_or]at hx
  simp only[List.cons_append,er]
  by_cases h:z=y
  .simp[h]
  .have hz:¬y=z:=fun e=>h e.symm
   rw[if_neg h,pE hx.2]
   simp only[List.mem_cons,hz,false_or,List.length_cons]
   split
   .rfl
   .split
    .congr 1
     omega
    .rfl
theorem C3 {x y:Int} {l:List Int} (hx:x∉l):rK y (l++[x])=if y∈l then rK y l else if y=x then (l.length:Int) else -1:=by
 unfold rK
 rw[pE hx]
 simp
theorem C4 {x:Int} {l:List Int} (h:x∉l):rK x l= -1:=by
 have:∀{l:List Int} {k:Nat},x∉l->er x k l= -1:=by
  intro l
  induction l with
  |nil=>intro k _; rfl
  |cons y l ih=>
   intro k h
   simp only[List.mem_cons,not_or]at h
   unfold er
   rw[if_neg (fun e=>h.1 e.symm),ih h.2]
 exact this h
theorem kO {n:Nat} {o:List Int} {x:Int} (hx:x∉o) (h:0<=x/\x<n):(gu n o).set x.toNat (o.length:Int)=gu n (o++[x]):=by
 apply TW
 intro i
 rcases Tm i n with hi|hi
 .have e1:=fO (n:=n) (o:=o++[x]) (v:=(i:Int)) (by omega)
  rw[T0]at e1
  rw[e1,C3 hx]
  by_cases hix:x.toNat=i
  .have:(i:Int)=x:=by omega
   rw[hix,TR (by rw[eK]; exact hi),if_neg (by rw[this]; exact hx),if_pos this]
  .have hne:¬(i:Int)=x:=by omega
   have e2:=fO (n:=n) (o:=o) (v:=(i:Int)) (by omega)
   rw[T0]at e2
   rw[T7 hix,e2]
   split
   .rfl
   .rename_i hno
    first
     |rw[C4 hno]
     |rw[if_neg hne,C4 hno]
 .rw[List.getElem?_eq_none (by simp[eK,hi]),List.getElem?_eq_none (by simp[eK,hi])]
theorem yG (n:Nat):gu n []=List.replicate n (-1):=by
 apply TW
 intro i
 rcases Tm i n with hi|hi
 .have e1:=fO (n:=n) (o:=[]) (v:=(i:Int)) (by omega)
  rw[T0]at e1
  rw[e1]
  simp[hi]
  rfl
 .rw[List.getElem?_eq_none (by simp[eK,hi]),List.getElem?_eq_none (by simp[hi])]
set_option maxHeartbeats 4000000 in
@[go_sem] theorem r50 (t:Nat) (a:aO) (hg:a.Good):
  res A ay 50 [.agg [.int .i64 a.af,.int .i64 a.start,.ai t (a.aa.map Edge.c)]]=some [.ai 0 (ints a.order),.ai 0 (ints (gu a.af.toNat a.order))]:=by
 refine aq a50 rfl rfl ?_
 simp only[F50,RJ]
 obtain⟨g1,g2,g3,g4,g5⟩:=hg
 have hg:a.Good:=⟨g1,g2,g3,g4,g5⟩
 simp(disch:=omega)only[go_sem]
 refine W.du a.af.toNat (fun k=>⟨[(1,.ptr 1 0),(4,.own 0 0 0 a.af.toNat),(14,.pv (.int .i64 a.af.toNat)),(15,.pv (.int .i64 k))],⟨[(1,[.pv (.int .i64 a.af),.pv (.int .i64 a.start),.pv (.ai t (a.aa.map Edge.c))])],[⟨0,1,.inl (ints (jd (-1) 0 a.af.toNat k))⟩],[]⟩⟩) (fun _=>True) (by rw[wU]; rfl) trivial fun k hk _=>?_
 simp(disch:=omega)only[go_sem]
 refine Br.aB (fun h=>?_) (fun h=>?_)
 .have ho:=yE (x:= -1) (y:=0) (n:=a.af.toNat) (k:=k) (by omega)
  simp(disch:=omega)only[go_sem,wV (show k<a.af.toNat by omega)]
  exact .of (by omega) rfl trivial
 obtain rfl:k=a.af.toNat:=by omega
 clear h hk
 have hn:(List.replicate a.af.toNat (-1:Int)).length=a.af.toNat:=UP
 have hp0:=kO (n:=a.af.toNat) (o:=[]) (x:=a.start) (by simp) (by omega)
 rw[yG]at hp0
 simp only[List.length_nil,List.nil_append]at hp0
 have hp0':(List.replicate a.af.toNat (-1:Int)).set a.start.toNat 0=gu a.af.toNat [a.start]:=hp0
 simp(disch:=omega)only[go_sem,yF,hp0']
 refine W.loop (α:=Nat×List Int) (fun x=>⟨[(1,.ptr 1 0),(4,.own 0 0 0 a.af.toNat),(6,sG 1 1 (ints x.2)),(7,.pv (.int .i64 x.1))],⟨[(1,[.pv (.int .i64 a.af),.pv (.int .i64 a.start),.pv (.ai t (a.aa.map Edge.c))])],⟨0,1,.inl (ints (gu a.af.toNat x.2))⟩::AG 1 1 (ints x.2),[]⟩⟩)
  (fun x=>x.2.Nodup/\(∀v∈x.2,a.inr v)/\1<=x.2.length/\x.1<=x.2.length/\AK (outs a.aa) (a.af.toNat - x.1) x.1 x.2=a.order) (fun x=>a.af.toNat - x.1) (0,[a.start]) rfl ⟨by simp,fun w hw=>(List.mem_singleton.1 hw) ▸ hg.st,by simp,by simp,rfl⟩ fun x hx=>?_
 obtain⟨i,o⟩:=x
 obtain⟨hd,hin,h1,h2,hb⟩:=hx
 dsimp only at hd hin h1 h2 hb
 have hlen:=a.bound o hd hin
 simp(disch:=omega)only[go_sem]
 refine Br.aB (fun h=>?_) (fun h=>?_)
 .obtain⟨v,hv⟩:=get_at (l:=o) (k:=i) (by omega)
  simp(disch:=omega)only[go_sem]
  refine W.fold a.aa (fun o e=>if e.fr=v then fM o e.to else o) o (fun k o=>⟨[(1,.ptr 1 0),(4,.own 0 0 0 a.af.toNat),(6,sG 1 1 (ints o)),(7,.pv (.int .i64 i)),(36,.pv (.ai t (a.aa.map Edge.c))),(37,.pv (.int .i64 a.aa.length)),(38,.pv (.int .i64 k))],⟨[(1,[.pv (.int .i64 a.af),.pv (.int .i64 a.start),.pv (.ai t (a.aa.map Edge.c))])],⟨0,1,.inl (ints (gu a.af.toNat o))⟩::AG 1 1 (ints o),[]⟩⟩)
   (fun _ o=>o.Nodup/\(∀v∈o,a.inr v)/\1<=o.length/\o[i]?=some v) rfl ⟨hd,hin,h1,hv⟩ (fun k e o he hk _ hi=>?_) (fun o ho hi=>?_)
  .obtain⟨hd,hin,h1,hv⟩:=hi
   have hlen:=a.bound o hd hin
   have hef:=ew.1 (g4 e (Tf he))
   have hto:a.inr e.to:=⟨hef.2.2.1,hef.2.2.2.1⟩
   have hI:(if e.fr=v then fM o e.to else o).Nodup/\(∀w∈(if e.fr=v then fM o e.to else o),a.inr w)/\1<=(if e.fr=v then fM o e.to else o).length/\(if e.fr=v then fM o e.to else o)[i]?=some v:=by
    split
    .obtain⟨r,hr⟩:=wG o e.to
     have hil:=(Tg.1 hv).1
     refine⟨mm hd,fun x hx=>(rH.1 hx).elim (hin x) (fun q=>q ▸ hto),by rw[<- hr,TH]; omega,by rw[<- hr,Tp hil]; exact hv⟩
    .exact⟨hd,hin,h1,hv⟩
   have hstay:e.fr=v->¬rK e.to o<0->(if e.fr=v then fM o e.to else o)=o:=fun h1 h2=>by rw[if_pos h1,fM,if_pos (qk.1 (by omega))]
   have hmore:e.fr=v->rK e.to o<0->(if e.fr=v then fM o e.to else o)=o++[e.to]:=fun h1 h2=>by rw[if_pos h1,fM,if_neg (ny.1 h2)]
   have hpl:=eK a.af.toNat o
   have hpg:=fO (n:=a.af.toNat) (o:=o) (v:=e.to) (by omega)
   rcases wy (b:=1) (rows:=ints o)with hc|⟨m,hc⟩
   .rw[lq hc,lu hc]
    rw[cj]at hc
    simp(disch:=omega)only[go_sem]
    refine Br.aB (fun h=>?_) (fun h=>(h (by omega)).elim)
    simp(disch:=omega)only[go_sem,he,hv]
    refine Br.aB (fun f1=>?_) (fun f1=>?_)<;>simp(disch:=omega)only[go_sem,f1,hpg]
    .refine Br.aB (fun f2=>?_) (fun f2=>?_)<;>simp(disch:=omega)only[go_sem,f2]
     .refine bQ.of ?_ hI
      show _=St.mk _ _
      rw[hmore f1 f2,nI h1,nJ h1,show o.length - 1=0 by omega,<- kO (ny.1 f2) (by omega)]
      rfl
     .refine bQ.of ?_ hI
      show _=St.mk _ _
      rw[hstay f1 f2,lq (by rw[cj]; exact hc),lu (by rw[cj]; exact hc)]
      rfl
    .refine bQ.of ?_ hI
     show _=St.mk _ _
     rw[if_neg f1,lq (by rw[cj]; exact hc),lu (by rw[cj]; exact hc)]
     rfl
   .rw[jQ hc,jR hc]
    rw[cj]at hc
    have hil:=(Tg.1 hv).1
    have ht:o.take (1+m+1)=o:=Ts (by omega)
    have hi0:(0:Int)<=(i:Int):=by omega
    simp(disch:=omega)only[go_sem]
    refine Br.aB (fun h=>?_) (fun h=>(h (by omega)).elim)
    simp(disch:=omega)only[go_sem,he,hv]
    refine Br.aB (fun f1=>?_) (fun f1=>?_)<;>simp(disch:=omega)only[go_sem,f1,hpg]
    .refine Br.aB (fun f2=>?_) (fun f2=>?_)<;>simp(disch:=omega)only[go_sem,f2]
     .refine bQ.of ?_ hI
      show _=St.mk _ _
      rw[hmore f1 f2,nI h1,nJ h1,<- kO (ny.1 f2) (by omega),show o.length - 1=m+1 by omega,hc]
      rfl
     .refine bQ.of ?_ hI
      show _=St.mk _ _
      rw[hstay f1 f2,jQ (by rw[cj]; exact hc),jR (by rw[cj]; exact hc)]
      rfl
    .refine bQ.of ?_ hI
     show _=St.mk _ _
     rw[if_neg f1,jQ (by rw[cj]; exact hc),jR (by rw[cj]; exact hc)]
     rfl
  .rw[tR]at ho
   simp(disch:=omega)only[go_sem]
   obtain⟨hd',hin',h1',hv'⟩:=hi
   have hl':=a.bound o hd' hin'
   have hil:=(Tg.1 hv').1
   refine⟨(i+1,o),⟨hd',hin',h1',hil,?_⟩,by dsimp only; omega,rfl⟩
   dsimp only
   rw[<- hb,ho]
   obtain⟨q,hq⟩:∃q,a.af.toNat - i=q+1:=⟨a.af.toNat - i - 1,by omega⟩
   rw[hq,wJ hv]
   congr 1
   omega
 .simp(disch:=omega)only[go_sem]
  rw[zw (by omega)]at hb
  rw[hb,Ts (by rw[eK]; exact Tj _)]
theorem tS (o:List Int) (es:List Edge):es.foldl (fun r e=>if 0<=rK e.fr o then r++[e.Pf o] else r) []=kept o es:=by
 have h:=fold_filter (fun e:Edge=>decide (e.fr∈o)) (Edge.Pf o) es []
 rw[List.nil_append]at h
 rw[<- show _=kept o es from h]
 congr 1
 funext r e
 by_cases hc:e.fr∈o
 .simp[hc,qk]
 .simp[hc,qk]
theorem wW (o:List Int) (es:List Edge):(kept o es).length<=es.length:=by
 unfold kept
 rw[Tl]
 exact List.length_filter_le _ _
set_option maxHeartbeats 2000000 in
@[go_sem] theorem r33 (t:Nat) (a:aO) (hl:a.aa.length<=2000000000):
  res A ay 33 [.agg [.int .i64 a.af,.int .i64 a.start,.ai t (a.aa.map Edge.c)]]=some (if a.err=0 then [.agg [.int .i64 a.order.length,.int .i64 0,.ai 0 (bG (wN Edge.lt (kept a.order a.aa)))],.int .i64 0] else [.agg [.int .i64 0,.int .i64 0,.ai 0 []],.int .i64 a.err]):=by
 refine aq a33 rfl rfl ?_
 simp only[F33,Rw]
 simp(disch:=omega)only[go_sem]
 refine Br.aB (fun h1=>?_) (fun h1=>?_)<;>simp(disch:=omega)only[go_sem,h1]
 have hg:=aO.kN.1 h1
 have hol:=hg.rS hg.st
 have hmx:=hg.mx
 have hol':a.order.length<=12:=by unfold aO.order; omega
 have hkl:=wW a.order a.aa
 simp(disch:=omega)only[go_sem,r52 t a hg]
 refine W.fold a.aa (fun r e=>if 0<=rK e.fr a.order then r++[e.Pf a.order] else r) [] (fun k r=>⟨[(1,.ptr 1 0),(2,.ptr 2 0),(5,.pv (.ai 0 (ints a.order))),(6,.ptr 6 0),(7,.pv (.int .i64 k))],⟨[(1,[.pv (.int .i64 a.af),.pv (.int .i64 a.start),.pv (.ai t (a.aa.map Edge.c))]),(2,[.pv (.int .i64 0),.pv (.int .i64 0),.tl []]),(6,[.pv (.int .i64 a.order.length),.pv (.int .i64 0),dR 0 (bG r)])],et 4 (bG r),[]⟩⟩) (fun k r=>r.length<=k) rfl (Tj _) (fun k e r he hk _ hi=>?_) (fun r hr hi=>?_)
 .simp(disch:=omega)only[go_sem]
  refine Br.aB (fun h=>?_) (fun h=>(h (by omega)).elim)
  simp(disch:=omega)only[go_sem,he]
  refine Br.aB (fun f=>?_) (fun f=>?_)<;>simp(disch:=omega)only[go_sem,f]
  .refine bQ.of ?_ (by rw[if_pos f]; simp; omega)
   show _=St.mk _ _
   rw[if_pos f]
   rfl
  .refine bQ.of ?_ (by rw[if_neg f]; omega)
   show _=St.mk _ _
   rw[if_neg f]
   rfl
 .rw[tS]at hr
  subst hr
  simp(disch:=omega)only[go_sem]
  rw[if_pos h1]
def AY (l:List Edge):Tn:=if l.length=0 then {} else { ar:=some (0,⟨l.length - 1,4,.inl (bG (dz Edge.lt l))⟩) }
theorem C5 {bx:List (Nat×List V)} {mp:List (List (PV×PV))} {l:List Edge} (hm:l.length<=2147483648) (hap:l.Pairwise (nw Edge.lt)):
  jk 4 (gb Edge.c Edge.dec Edge.lt) 47 [dR 0 (bG l),.func 47 []] ⟨bx,et 4 (bG l),mp⟩=some (.dp [],AY l):=by
 rcases Ud l.length with h|h
 .have:l=[]:=Tx h
  subst this
  simp[AY,bG,dR,jk]
 .obtain⟨m,hm'⟩:∃m,(bG l).length=m+1:=⟨l.length - 1,by rw[bM]; omega⟩
  rw[qj hm',ll hm']
  rw[bM]at hm'
  rw[yD (l:=l) hm'.symm (by simp[aE]) (by omega) hm hap,AY,if_neg (by omega),hm']
  rfl
@[go_sem] theorem Ki (bx:List (Nat×List V)) (mp:List (List (PV×PV))) (l:List Edge):(AY l).apply ⟨bx,et 4 (bG l),mp⟩=⟨bx,et 4 (bG (dz Edge.lt l)),mp⟩:=by
 have hp:=(eb Edge.lt l).length_eq
 rcases Ud l.length with h|h
 .have:l=[]:=Tx h
  subst this
  simp[AY,bG,dz,Tn.apply,et]
 .obtain⟨m,hm'⟩:∃m,(bG l).length=m+1:=⟨l.length - 1,by rw[bM]; omega⟩
  have hm2:(bG (dz Edge.lt l)).length=m+1:=by rw[bM,hp,<- bM]; exact hm'
  rw[ll hm',ll hm2]
  rw[bM]at hm'
  simp[AY,Tn.apply,hm']
theorem E1 {n:Nat} {a b:List (List PV)} (h:a.length=b.length):dR n a=dR n b:=by
 cases a<;>cases b<;>simp_all [dR]
set_option maxHeartbeats 2000000 in
@[go_sem] theorem r32 (t:Nat) (a:aO) (hl:a.aa.length<=2000000000):
  res A ay 32 [.agg [.int .i64 a.af,.int .i64 a.start,.ai t (a.aa.map Edge.c)]]=some (if a.err=0 then [.agg [.int .i64 a.trim.af,.int .i64 0,.ai 0 (bG a.trim.aa)],.int .i64 0] else [.agg [.int .i64 0,.int .i64 0,.ai 0 []],.int .i64 a.err]):=by
 refine aq a32 rfl rfl ?_
 simp only[F32,Rv]
 simp(disch:=omega)only[go_sem]
 refine Br.aB (fun h1=>?_) (fun h1=>?_)<;>simp(disch:=omega)only[go_sem,h1]
 have hg:=aO.kN.1 h1
 have hol:=hg.rS hg.st
 have hmx:=hg.mx
 have hol':a.order.length<=12:=by unfold aO.order; omega
 have hkl:=wW a.order a.aa
 have hpl:=eK a.af.toNat a.order
 simp(disch:=omega)only[go_sem,r50 t a hg]
 refine W.fold a.aa (fun r e=>if 0<=rK e.fr a.order then r++[e.Pf a.order] else r) [] (fun k r=>⟨[(2,.ptr 2 0),(6,.pv (.ai 0 (ints (gu a.af.toNat a.order)))),(7,.ptr 7 0),(25,.pv (.ai t (a.aa.map Edge.c))),(26,.pv (.int .i64 a.aa.length)),(27,.pv (.int .i64 k))],⟨[(2,[.pv (.int .i64 0),.pv (.int .i64 0),.tl []]),(7,[.pv (.int .i64 a.order.length),.pv (.int .i64 0),dR 0 (bG r)])],et 4 (bG r),[]⟩⟩) (fun k r=>r.length<=k) rfl (Tj _) (fun k e r he hk _ hi=>?_) (fun r hr hi=>?_)
 .have hef:=ew.1 (hg.fit e (Tf he))
  have q1:=fO (n:=a.af.toNat) (o:=a.order) (v:=e.fr) (by omega)
  have q2:=fO (n:=a.af.toNat) (o:=a.order) (v:=e.to) (by omega)
  obtain⟨j1,hj1⟩:=T6 hef.1
  obtain⟨j2,hj2⟩:=T6 hef.2.2.1
  simp(disch:=omega)only[go_sem]
  refine Br.aB (fun h=>?_) (fun h=>(h (by omega)).elim)
  simp(disch:=omega)only[go_sem,he,dv,q1]
  refine Br.aB (fun f=>?_) (fun f=>?_)<;>simp(disch:=omega)only[go_sem,f,dv,q1,q2]
  .refine bQ.of ?_ (by rw[if_pos f]; simp; omega)
   show _=St.mk _ _
   rw[if_pos f]
   rfl
  .refine bQ.of ?_ (by rw[if_neg f]; omega)
   show _=St.mk _ _
   rw[if_neg f]
   rfl
 .rw[tS]at hr
  subst hr
  simp(disch:=omega)only[go_sem]
  rw[C5 (by omega) (C0 hg.nw)]
  have hp:=(eb Edge.lt (kept a.order a.aa)).length_eq
  simp(disch:=omega)only[go_sem]
  rw[E1 (show (bG (kept a.order a.aa)).length=(bG (dz Edge.lt (kept a.order a.aa))).length by rw[bM,bM,hp])]
  simp(disch:=omega)only[go_sem]
  rw[if_pos h1]
  rfl
def E2 (x:Bool×Int):List PV:=[.bool x.1,.int .i64 x.2]
@[go_sem] theorem QH (x:Bool×Int):E2 x=[.bool x.1,.int .i64 x.2]:=rfl
def fw (l:List (Bool×Int)):List (List PV):=l.map E2
@[go_sem] theorem iO (l:List (Bool×Int)):(fw l).length=l.length:=by simp[fw]
def nK {α:Type} (p:α->Bool) (l:List α):Int:=match l.findIdx? p with
 |some k=>k
 |none=> -1
theorem Found.nK {α:Type} {l:List α} {p:α->Bool} {k:Nat} {x:α} (h:Found l p k x):nK p l=k:=by
 unfold Pv.nK
 rw[h.idx]
theorem gK.nK {α:Type} {l:List α} {p:α->Bool} (h:gK l p):nK p l= -1:=by
 unfold Pv.nK
 rw[h.idx]
def SU (l:List (Int×Int)):List (List PV):=l.map fun x=>[.int .i64 x.1,.int .i64 x.2]
@[go_sem] theorem QI:SU []=[]:=rfl
def dF {α β:Type} (f:α->β) (y:β) (l:List α) (k:Nat):List β:=(l.take k).map f++List.replicate (l.length - k) y
theorem iz {α β:Type} (f:α->β) (y:β) (l:List α) {k:Nat} (h:k<=l.length):(dF f y l k).length=l.length:=by simp[dF]; omega
theorem iP {α β:Type} (f:α->β) (y:β) (l:List α):dF f y l 0=List.replicate l.length y:=by simp[dF]
theorem jX {α β:Type} (f:α->β) (y:β) (l:List α):dF f y l l.length=l.map f:=by simp[dF]
theorem iA {α β:Type} {f:α->β} {y:β} {l:List α} {k:Nat} {x:α} (h:l[k]?=some x):(dF f y l k).set k (f x)=dF f y l (k+1):=by
 have hk:=(Tg.1 h).1
 unfold dF
 rw[List.set_append_right _ _ (by simp; omega),List.take_add_one,h]
 obtain⟨m,hm⟩:∃m,l.length - k=m+1:=⟨l.length - k - 1,by omega⟩
 have:l.length - (k+1)=m:=by omega
 rw[hm,this]
 simp[Nat.min_eq_left (Nat.le_of_lt hk),List.replicate_succ]
def R8 (ars:List aR) (x:V) (l:List Int):Prop:=
 ((x=.tl []\/x=.pv (.ai 0 []))/\l=[])\/∃id aA,x=.own (id+1) aA 0 l.length/\l≠[]/\ars[id]?=some ⟨aA,1,.inl (ints l)⟩
structure SL (n:Nat) (s:List (List Int)) (xs:List V) (ars:List aR):Prop where
 xl:xs.length=n
 sl:s.length=n
 own:∀(v:Nat) (x:V) (l:List Int),xs[v]?=some x->s[v]?=some l->R8 ars x l
 Tc:∀(v w:Nat) (x y:V) (i:Nat),xs[v]?=some x->xs[w]?=some y->fx x=some i->fx y=some i->v=w
def bf (xs:List V):List (List V):=xs.map fun x=>[x]
@[go_sem] theorem jq (xs:List V):(bf xs).length=xs.length:=by simp[bf]
@[go_sem] theorem Mt (xs:List V) (i:Nat):(bf xs)[i]?=xs[i]?.map fun x=>[x]:=by simp[bf]
theorem AZ (xs:List V) (i:Nat) (x:V):(bf xs).set i [x]=bf (xs.set i x):=by simp[bf,List.map_set]
theorem pF {id row aA:Nat} {xs:List V} {y:V} (h1:row<xs.length) (hc:y.calm=true):ea id row 0 [y] ⟨aA,1,.inr (bf xs)⟩=some { ar:=some (id,⟨aA,1,.inr (bf (xs.set row y))⟩) }:=by
 have h2:row<(⟨aA,1,.inr (bf xs)⟩:aR).size:=by simp[aR.size,bf,h1]
 obtain⟨z,hz⟩:∃z,xs[row]?=some z:=⟨xs[row],by simp[h1]⟩
 have h3:(bf xs).getD row []=[z]:=by simp[bf,hz]
 simp[ea,h2,hc,setBody,<- AZ]
 simp[bf,hz]
theorem yH (n:Nat):bY n [.tl []]=.inr (bf (List.replicate n (.tl []))):=by
 simp[bY,az,V.bR,bf]
attribute [go_sem] yH
def QJ (s:List (List Int)):List (List PV):=s.map fun l=>[.ai 0 (ints l)]
@[go_sem] theorem QK (s:List (List Int)) (i:Nat):(QJ s)[i]?=s[i]?.map fun l=>[.ai 0 (ints l)]:=by simp[QJ]
variable {A:Nat->Option aj} {Pr:bd}
def Kj {α:Type} (kt kb:List Nat) (S:α->St) (P:α->Prop) (m:α->Nat) (x:α) (Q:Ex->St->Prop) (_t:mZ (kt,kb,S,P,m,x,Q):=.mk):Ex->St->Prop
 |.normal,s=>∃y,P y/\m y<m x/\s.mask kt kb=S y
 |.exit i,s=>Q (.exit i) s
 |.ret,s=>Q .ret s
@[go_sem] theorem Mu {α:Type} (kt kb:List Nat) (S:α->St) (P:α->Prop) (m:α->Nat) (x:α) (Q:Ex->St->Prop) (i:Nat) (s:St):Kj kt kb S P m x Q .mk (.exit i) s=Q (.exit i) s:=rfl
@[go_sem] theorem Pg {α:Type} (kt kb:List Nat) (S:α->St) (P:α->Prop) (m:α->Nat) (x:α) (Q:Ex->St->Prop) (s:St):Kj kt kb S P m x Q .mk .ret s=Q .ret s:=rfl
theorem W.wX {α:Type} {a:AC} {kt kb:List Nat} {s:St} {Q:Ex->St->Prop} (S:α->St) (P:α->Prop) (m:α->Nat) (x0:α) (hs:s.mask kt kb=S x0) (h0:P x0) (hr:∀x,P x->W A Pr a (S x) (Kj kt kb S P m x Q)):W A Pr (.loop (.mask kt kb a)) s Q:=by
 have key:∀n x s,m x<=n->s.mask kt kb=S x->P x->W A Pr (.loop (.mask kt kb a)) s Q:=by
  intro n
  induction n with
  |zero=>
   intro x s hm hs hp
   obtain⟨ex,s',h1,h2⟩:=hr x hp
   rw[<- hs]at h1
   have h1:=ca.mask h1
   cases ex with
   |normal=>obtain⟨y,_,h3,_⟩:=h2; omega
   |exit i=>exact⟨_,_,ca.fZ h1 (by simp),h2⟩
   |ret=>exact⟨_,_,ca.fZ h1 (by simp),h2⟩
  |succ n ih=>
   intro x s hm hs hp
   obtain⟨ex,s',h1,h2⟩:=hr x hp
   rw[<- hs]at h1
   have h1:=ca.mask h1
   cases ex with
   |normal=>
    obtain⟨y,hy,h3,h6⟩:=h2
    obtain⟨e2,s2,h4,h5⟩:=ih y s' (by omega) h6 hy
    exact⟨e2,s2,ca.tD h1 h4,h5⟩
   |exit i=>exact⟨_,_,ca.fZ h1 (by simp),h2⟩
   |ret=>exact⟨_,_,ca.fZ h1 (by simp),h2⟩
 exact key _ x0 s (Tj _) hs h0
end Go.Pv
namespace Go.Pv
theorem tT {T:List aD} (h:Pb T) {x:aD} (hx:x∈T) {n:List Int} (hn:n.length=T.length):∀u∈cY x,0<=u/\u<n.length:=fun u hu=>by
 rw[hn]
 exact h.KE x hx u hu
theorem nL {b:Bool} {T:List aD} {n:List Int} {k:Nat} {x:aD} (h:T[k]?=some x):swp b T n (k+1)=(swp b T n k).set k (lA b x (swp b T n k)):=by
 show (match T[k]? with
  |some x=>(swp b T n k).set k (lA b x (swp b T n k))
  |none=>swp b T n k)=_
 rw[h]
set_option maxHeartbeats 2000000 in
theorem r471 (u:Nat) (T:List aD) (ho:∀t∈T,t.ok) (hs:∀t∈T,t.short) (hv:ct T=0):res A ay 471 [.agg [.ai u (T.map aD.c)]]=some [.ai 0 (ints (gr false T (2*T.length+1)))]:=by
 have hS:=dm hv
 have hT:=uR ho hv
 have h32:=hS.len
 refine aq a471 rfl rfl ?_
 simp only[F471,Jb]
 simp(disch:=omega)only[go_sem]
 refine W.du (2*T.length+1) (fun r=>⟨[(1,.ptr 1 0),(3,.own 0 0 0 T.length),(4,.pv (.int .i64 r))],⟨[(1,[.pv (.ai u (T.map aD.c))])],[⟨0,1,.inl (ints (gr false T r))⟩],[]⟩⟩) (fun _=>True) rfl trivial fun r hr _=>?_
 have hl:=fp false T r
 have hll:=hl.1
 simp(disch:=omega)only[go_sem]
 refine Br.aB (fun c=>?_) (fun c=>?_)
 .have hnx:gr false T (r+1)=swp false T (gr false T r) T.length:=rfl
  generalize gr false T r=n at hl hll hnx
  simp(disch:=omega)only[go_sem]
  refine W.du T.length (fun k=>⟨[(1,.ptr 1 0),(3,.own 0 0 0 T.length),(4,.pv (.int .i64 r)),(5,.pv (.int .i64 k))],⟨[(1,[.pv (.ai u (T.map aD.c))])],[⟨0,1,.inl (ints (swp false T n k))⟩],[]⟩⟩) (fun _=>True) rfl trivial fun k hk _=>?_
  have hw:=(hl.swp k).1
  have hwl:=hw.1
  simp(disch:=omega)only[go_sem]
  refine Br.aB (fun c=>?_) (fun c=>?_)
  .obtain⟨x,hx⟩:=get_some (l:=T) (k:=k) (by omega)
   have hxm:=Tf hx
   have hsx:=nL (b:=false) (n:=n) hx
   have h481:=fun t=>r481 x (swp false T n k) t (hT.2.2 x hxm) (hs x hxm) hw.2.1 (tT hS hxm hwl)
   generalize swp false T n k=m at *
   generalize lA false x m=q at *
   have hmt:m.take T.length=m:=Ts (by omega)
   simp only[aD.c]at h481
   simp(disch:=omega)only[go_sem,hx,Option.map_some,aD.c,h481,hmt]
   refine .of (by omega) ?_ trivial
   rw[hsx]
   rfl
  .obtain rfl:k=T.length:=by omega
   simp(disch:=omega)only[go_sem]
   refine .of (by omega) ?_ trivial
   rw[hnx]
   rfl
 .obtain rfl:r=2*T.length+1:=by omega
  have hmt:(gr false T (2*T.length+1)).take T.length=gr false T (2*T.length+1):=Ts (by omega)
  simp(disch:=omega)only[go_sem,hmt]
@[go_sem] theorem Mw (p:Part):p.c.length=3:=rfl
@[go_sem] theorem Mx (x:Node):x.cs.length=5:=rfl
theorem yI {l:List aD} (h:ct l=0):∀k,k<l.length->ep l k=0:=by
 unfold ct at h
 split at h
 .cases h
 .cases hf:(List.range l.length).find? (fun k=>decide (ep l k≠0))with
  |none=>
   intro k hk
   have:=UJ.1 hf k (UO.2 hk)
   simpa using this
  |some k=>
   rw[hf]at h
   have:=UU hf
   simp only[rF]at h
   simp[h]at this
theorem A1 {l:List aD} {k:Nat} {t:aD} (h:ct l=0) (hk:l[k]?=some t):dO l t=false:=by
 have:=yI h k (Tg.1 hk).1
 simp only[ep,hk,ee]at this
 split at this
 .cases this
 .split at this
  .cases this
  .split at this
   .cases this
   .rename_i h3
    simpa using h3
end Go.Pv
