/-
 What the functions of the law give.
-/
import Derived.Test.YtpchfogcccagjaaGreatC7
set_option linter.unusedSimpArgs false
set_option linter.unusedVariables false
open List renaming getElem?_eq_some_iff → V9, mem_of_getElem? → Wa, mem_iff_getElem? → Wd, getElem?_map → Wf, length_map → Wg, mem_map → Wk, eq_nil_of_length_eq_zero → Wp, take_of_length_le → Wq, getD_eq_getElem?_getD → Ws, all_eq_true → Wu, map_append → WC, mem_cons_self → WH, length_range → WI, mem_range → WJ, any_eq_false → WY, mem_cons_of_mem → W3, mem_filterMap → W4, pairwise_iff_getElem → Xd, findIdx?_eq_none_iff → Xe, mem_singleton → Xj, mem_filter → Xl, any_eq_true → Xm, find?_eq_none → Xn, foldl_cons → Xp, range_succ → Xq, getElem?_range → Xr, nodup_append → Xy, take_append_drop → XG, find?_some → XH, filterMap_append → XI
open Nat renaming le_refl → Wj, mod_lt → Wt, le_trans → WM, le_succ → XM, mod_eq_of_lt → XO
open Option renaming map_eq_some_iff → Wx, bind_eq_some_iff → XP
open Int renaming toNat_natCast → WX, emod_nonneg → XJ, emod_lt_of_pos → XR
open Bool renaming eq_false_iff → Xz, and_eq_true → XX
namespace Go.Pv
@[go_sem] theorem cw404 (vs:List V) (h:aa) (K:V->Tn->Prop):CW A aA 404 vs h K=CN A aA false 404 vs h K:=cd vs h K
theorem F1 {T:List aH} (hv:cS T=0) (h:∀x∈T,∀m∈x.bc,m.has=true->tZ T m.type m.ib.c=true):gi T=0:=by
 unfold gi I2
 rw[if_neg (by simp[hv])]
 have:T.findIdx? (pR T)=none:=by
  rw[Xe]
  intro x hx
  unfold pR
  rw[WY]
  intro m hm
  unfold ng
  cases hh:m.has with
  |false=>simp
  |true=>rw[h x hx m hm hh]; simp
 rw[this]
theorem F2 {T:List aH} {n:Nat} {t:Int} {cs:List PV} (h:mu n cs) (hf:fa T n t cs=true):tZ T t cs=true:=by
 classical
 unfold tZ
 exact decide_eq_true ⟨n,h,hf⟩
def ga (d:List Node):List aH:=(List.range d.length).map (aS d)
theorem p8 {d:List Node} {u:Nat} (hu:u<d.length):(ga d)[u]?=some (aS d u):=by
 unfold ga
 rw[Wf,Xr hu]
 rfl
theorem me {d:List Node} (h0:0<d.length) (c:Nat):js d c=none↔∀i,i<d.length->¬aI d i<=4:=by
 unfold js
 rw[Option.map_eq_none_iff,Xn]
 constructor
 .intro h i hi hk
  have hc:c%d.length<d.length:=Wt _ h0
  refine h ((i+d.length - c%d.length)%d.length) (WJ.2 (Wt _ h0)) ?_
  have e:(c+(i+d.length - c%d.length)%d.length)%d.length=i:=by
   rw[Nat.add_mod_mod,<- Nat.mod_add_mod,show c%d.length+(i+d.length - c%d.length)=i+d.length by omega,Nat.add_mod_right,XO hi]
  rw[e]
  exact decide_eq_true hk
 .intro h k _ hk
  exact h _ (Wt _ h0) (of_decide_eq_true hk)
theorem F3 (a code:Nat):yE a code∈fP a:=by
 have h:=jJ a
 obtain⟨x,hx⟩:=get_some (l:=fP a) (k:=code%(fP a).length) (Wt _ h.1)
 unfold yE
 rw[hx]
 exact Wa hx
theorem Dv {α:Type} {p:α->Bool} {l:List α} {x:α} (hx:x∈l) (hp:p x=true):0<=bj p l:=by
 unfold bj
 cases h:l.findIdx? p with
 |none=>
  have:=Xe.1 h x hx
  rw[hp]at this
  cases this
 |some k=>simp
theorem F4 {d:List Node} {u code:Nat} (hu:u<d.length) (h:(dQ (initK d u) (nodeAt d u) code).2=true):fa (ga d) 1 u (dQ (initK d u) (nodeAt d u) code).1.c=true:=by
 have h0:0<d.length:=by omega
 rw[sU,if_neg (by omega),WX,p8 hu]
 have hz:∀v:dz,km v=true↔((v.kind=1\/v.bool=false)/\(v.kind=2\/v.int=0)/\(v.kind=3\/v.str=⟨#[]⟩)/\(v.kind=4\/v.kind=6\/v.id=0)/\(v.kind=8\/v.keys=[])/\(5<=v.kind\/v.items=[])/\(v.kind=5\/v.kind=6\/v.rest=[])):=fun v=>by
  unfold km
  rw[decide_eq_true_eq]
 have hz8:km ⟨8,false,0,⟨#[]⟩,0,[],[],[]⟩=true:=(hz _).2 (by simp)
 have hz7:km ⟨7,false,0,⟨#[]⟩,0,[],[],[]⟩=true:=(hz _).2 (by simp)
 have hz9:km ⟨9,false,0,⟨#[]⟩,0,[],[],[]⟩=true:=(hz _).2 (by simp)
 rcases dG d u with hk|hk|hk|hk|hk|hk|hk|hk|hk
 .have hi:initK d u=1:=by simp[initK,hk]
  have ht:aS d u=aX 1 ⟨#[]⟩:=by simp[aS,hk]
  rw[hi,ht]
  have:=fun b=>(hz ⟨1,b,0,⟨#[]⟩,0,[],[],[]⟩).2 (by simp)
  simp[dQ,bl,aX,gh,this]
 .have hi:initK d u=2:=by simp[initK,hk]
  have ht:aS d u={ aX 2 ⟨#[]⟩ with low:=jD (nodeAt d u),high:=lq (nodeAt d u) }:=by simp[aS,hk]
  rw[hi,ht]
  have:=fun i=>(hz ⟨2,false,i,⟨#[]⟩,0,[],[],[]⟩).2 (by simp)
  have h6:code%((nodeAt d u).b%6+1)<(nodeAt d u).b%6+1:=Wt _ (by omega)
  have e:((code:Int)%((nodeAt d u).b%6+1))=((code%((nodeAt d u).b%6+1):Nat):Int):=by simp
  simp[dQ,bl,aX,gh,this,lq]
  omega
 .have hi:initK d u=3:=by simp[initK,hk]
  have ht:aS d u={ aX 3 ⟨#[]⟩ with max:=((nodeAt d u).a%4:Nat) }:=by simp[aS,hk]
  rw[hi,ht]
  have:=fun s=>(hz ⟨3,false,0,s,0,[],[],[]⟩).2 (by simp)
  have s1:(⟨#[97]⟩:ByteArray).size=1:=rfl
  have s0:(⟨#[]⟩:ByteArray).size=0:=rfl
  simp[dQ,bl,aX,gh,this]
  split<;>simp only[s0,s1]<;>omega
 .have hi:initK d u=4:=by simp[initK,hk]
  have ht:aS d u={ aX 4 (cC u)with syms:=iU (nodeAt d u).a,jO:=decide ((nodeAt d u).b%2=1) }:=by simp[aS,hk]
  rw[hi,ht]
  have:=fun i=>(hz ⟨4,false,0,⟨#[]⟩,i,[],[],[]⟩).2 (by simp)
  have hf:=Dv (p:=qQ (yE (nodeAt d u).a code:Int)) (List.mem_map.2 ⟨_,F3 (nodeAt d u).a code,rfl⟩:nc (yE (nodeAt d u).a code)∈iU (nodeAt d u).a) (by simp[qQ,nc])
  simp[dQ,bl,aX,gh,this]
  exact hf
 .have hi:initK d u=5:=by simp[initK,hk]
  rw[hi]at h
  simp[dQ]at h
 .have hi:initK d u=6:=by simp[initK,hk]
  rw[hi]at h
  simp[dQ]at h
 .have hi:initK d u=7:=by simp[initK,hk]
  have ht:aS d u={ aX 7 ⟨#[]⟩ with max:=((nodeAt d u).a%4:Nat),elem:=((nodeAt d u).c%d.length:Nat) }:=by simp[aS,hk]
  rw[hi,ht]
  simp[dQ,bl,aX,gh,hz7]
  omega
 .rw[nf hk]
  by_cases hn:js d 0=none
  .have hi:initK d u=7:=by simp[initK,hk,hn]
   rw[if_pos ((me h0 _).2 ((me h0 0).1 hn)),hi]
   simp[dQ,bl,aX,gh,hz7]
   omega
  .have hi:initK d u=8:=by simp[initK,hk,hn]
   rw[if_neg (fun e=>hn ((me h0 0).2 ((me h0 _).1 e))),hi]
   simp[dQ,bl,aX,gh,hz8,C1]
   omega
 .have hi:initK d u=9:=by simp[initK,hk]
  have ht:aS d u={ aX 9 ⟨#[]⟩ with elem:=((nodeAt d u).c%d.length:Nat) }:=by simp[aS,hk]
  rw[hi,ht]
  simp[dQ,bl,aX,gh,hz9]
theorem Dw {d:List Node} {i:Nat} {m:Mem} (h:m∈(aS d i).bc):∃fl,m∈bL d i fl (nodeAt d i).parts 12:=by
 rcases dG d i with hk|hk|hk|hk|hk|hk|hk|hk|hk
 case inr.inr.inr.inr.inr.inl=>
  rw[lA hk]at h
  split at h
  .simp[aX]at h
  .exact⟨false,h⟩
 case inr.inr.inr.inr.inl=>
  have ht:aS d i={ aX 5 (cC i)with bc:=bL d i true (nodeAt d i).parts 12 }:=by simp[aS,hk]
  rw[ht]at h
  exact⟨true,h⟩
 case inr.inr.inr.inr.inr.inr.inr.inl=>
  rw[nf hk]at h
  split at h<;>simp[aX]at h
 all_goals simp[aS,hk,aX]at h
theorem F5 {d:List Node} {i:Nat} (h0:0<d.length) (hi:i<d.length) {m:Mem} (h:m∈(aS d i).bc):∃(fl:Bool) (id:Nat) (p:Part) (u:Nat),m=dC d i fl id p/\cJ d i p.type=some u/\u<d.length/\m.type=u:=by
 obtain⟨fl,h⟩:=Dw h
 obtain⟨id,p,rfl,hh,_⟩:=kj h
 unfold mY at hh
 cases ht:cJ d i p.type with
 |none=>simp[ht]at hh
 |some u=>
  refine⟨fl,id,p,u,rfl,ht,kh h0 hi ht,?_⟩
  show fH (cJ d i p.type)=u
  rw[ht]
  rfl
theorem zi {d:List Node} (h0:0<d.length) (h5:d.length<=5):gi (ga d)=0:=by
 refine F1 (CV h0 h5) fun x hx m hm hh=>?_
 obtain⟨i,hi,rfl⟩:=Wk.1 hx
 obtain⟨fl,id,p,u,rfl,ht,hu,ht2⟩:=F5 h0 (WJ.1 hi) hm
 have hd:(dC d i fl id p).has=(fl&&(decide (2<=p.flag%4)&&(lz d u p).2)):=by
  unfold dC
  rw[ht]
  rfl
 rw[hd,XX,XX]at hh
 have hv:(dC d i fl id p).ib=(lz d u p).1:=by
  unfold dC
  rw[ht,hh.1,hh.2.1]
  rfl
 rw[hv,ht2]
 have hk:=yJ (initK d u) (by
  unfold initK
  split
  .omega
  .exact(dt d u).2) (nodeAt d u) (p.flag/4)
 exact F2 hk (F4 hu hh.2.2)
theorem wT {d:List Node} {i code u:Nat} (h:cJ d i code=some u):7<=aI d u\/u<i:=by
 unfold cJ at h
 split at h
 .rename_i hc
  cases h
  exact hc
 .split at h
  .rename_i hi
   cases h
   exact .inr (Wt _ hi)
  .have:=XH h
   exact .inl (of_decide_eq_true this)
theorem tD {N:List Int}:∀(l:List Mem) (c:Int),1<=c->(∀m∈l,1<=kF N m.type)->1<=l.foldl (fun c m=>min 2 (c*kF N m.type)) c
 |[],_,h,_=>h
 |m::l,c,h,hm=>tD l _ (by
  have h1:=hm m WH
  have:1<=c*kF N m.type:=by
   have:=Int.mul_le_mul h h1 (by omega) (by omega)
   omega
  show 1<=min 2 (c*kF N m.type)
  omega) fun x hx=>hm x (W3 _ hx)
theorem fold_add {N:List Int}:∀(l:List Mem) (c:Int),1<=c->(∀m∈l,1<=kF N m.type)->1<=l.foldl (fun c m=>min 2 (c+kF N m.type)) c
 |[],_,h,_=>h
 |m::l,c,h,hm=>fold_add l _ (by have:=hm m WH; show 1<=min 2 (c+kF N m.type); omega) fun x hx=>hm x (W3 _ hx)
theorem MV {N:List Int} (h:yQ N) (i:Int):0<=kF N i:=(h.at i.toNat).1
theorem tE {x:aH} {N:List Int} (h:yQ N) (hk:x.kind=7\/x.kind=8\/x.kind=9):1<=jN false x N:=by
 have:=MV h x.elem
 unfold jN
 rcases hk with hk|hk|hk<;>rw[hk]
 .simp only[Int.reduceEq,if_false,if_true]
  split<;>decide
 .simp only[Int.reduceEq,if_false,if_true]
  split<;>decide
 .simp only[Int.reduceEq,if_false,if_true]
  omega
theorem qH {d:List Node} {u:Nat} (h:7<=aI d u):(aS d u).kind=7\/(aS d u).kind=8\/(aS d u).kind=9:=by
 have:=dt d u
 rcases dG d u with hk|hk|hk|hk|hk|hk|hk|hk|hk
 case inr.inr.inr.inr.inr.inr.inr.inl=>
  rw[nf hk]
  split<;>simp[aX]
 all_goals first
  |omega
  |simp[aS,hk,aX]
theorem Dx {d:List Node} (h0:0<d.length) {N:List Int} (hN:Fix false (ga d) N):∀i,i<d.length->1<=N.getD i 0:=by
 intro i
 induction i using Nat.strongRecOn with
 |ind i ih=>
  intro hi
  have hc:=hN.2.2 i _ (p8 hi)
  rw[hc]
  have hm:∀m∈(aS d i).bc,1<=kF N m.type:=fun m hm=>by
   obtain⟨fl,id,p,u,_,ht,hu,ht2⟩:=F5 h0 hi hm
   unfold kF
   rw[ht2,WX]
   rcases wT ht with h7|hlt
   .rw[hN.2.2 u _ (p8 hu)]
    exact tE hN.2.1 (qH h7)
   .exact ih u hlt hu
  rcases dG d i with hk|hk|hk|hk|hk|hk|hk|hk|hk
  .have ht:(aS d i).kind=1:=by simp[aS,hk,aX]
   simp[jN,ht]
  .have ht:(aS d i).kind=2:=by simp[aS,hk,aX]
   simp only[jN,ht,if_true]
   split<;>decide
  .have ht:(aS d i).kind=3:=by simp[aS,hk,aX]
   simp only[jN,ht,Int.reduceEq,if_false,if_true]
   split<;>decide
  .have ht:aS d i={ aX 4 (cC i)with syms:=iU (nodeAt d i).a,jO:=decide ((nodeAt d i).b%2=1) }:=by simp[aS,hk]
   have hl:=(jJ (nodeAt d i).a).1
   have hl2:(iU (nodeAt d i).a).length=(fP (nodeAt d i).a).length:=Wg _
   rw[ht]
   simp only[jN,aX,Int.reduceEq,if_false,if_true]
   omega
  .have ht:(aS d i).kind=5:=by simp[aS,hk,aX]
   simp only[jN,ht,Int.reduceEq,if_false,if_true]
   exact tD _ _ (by decide) hm
  .by_cases he:(bL d i false (nodeAt d i).parts 12).length=0
   .have ht:(aS d i).kind=5:=by rw[lA hk,if_pos he]; rfl
    simp only[jN,ht,Int.reduceEq,if_false,if_true]
    exact tD _ _ (by decide) hm
   .have ht:(aS d i).kind=6:=by rw[lA hk,if_neg he]; rfl
    have hl:(aS d i).bc.length≠0:=by rw[lA hk,if_neg he]; exact he
    simp only[jN,ht,Int.reduceEq,if_false,if_true]
    cases hs:(aS d i).bc with
    |nil=>rw[hs]at hl; exact absurd rfl hl
    |cons m l=>
     rw[hs]at hm
     rw[Xp]
     exact fold_add _ _ (by have:=hm m WH; omega) fun x hx=>hm x (W3 _ hx)
  all_goals exact tE hN.2.1 (qH (by omega))
theorem zj {d:List Node} (h0:0<d.length) (h5:d.length<=5):iW (ga d)=0:=by
 have hf:=(ni false (ga d)).1
 have hp:=Dx h0 hf
 unfold iW
 rw[if_neg (by simp[zi h0 h5]),if_pos]
 rw[Wu]
 intro b hb
 unfold AS vf at hb
 obtain⟨x,hx,rfl⟩:=Wk.1 hb
 obtain⟨i,hi⟩:=Wd.1 hx
 have hl:=(V9.1 hi).1
 have h1:=hf.1
 have h2:(ga d).length=d.length:=by simp[ga]
 have:=hp i (by omega)
 rw[Ws,hi]at this
 unfold oO
 simp at this |-
 omega
def wU (c:UInt8):Prop:=(∀k:Fin 3,isName (fX c k.val)=true)/\∀j k:Fin 3,fX c j.val=fX c k.val->j=k
theorem Vz:wU 67:=⟨by decide,by decide⟩
theorem VA:wU 84:=⟨by decide,by decide⟩
theorem VB:wU 83:=⟨by decide,by decide⟩
theorem Po:wU 77:=⟨by decide,by decide⟩
theorem wU.nm {c:UInt8} (h:wU c) {k:Nat} (hk:k<3):isName (fX c k)=true:=h.1 ⟨k,hk⟩
theorem wU.inj {c:UInt8} (h:wU c) {j k:Nat} (hj:j<3) (hk:k<3) (e:fX c j=fX c k):j=k:=by
 have:=h.2 ⟨j,hj⟩ ⟨k,hk⟩ e
 simpa using this
theorem mf {α:Type} {f:α->ByteArray} {l:List α} (h:(l.map f).Nodup) {k:Nat} {c:α} (hc:l[k]?=some c):cY ((l.map f).take k) (f c)=false:=by
 rw[Xz]
 intro hh
 obtain⟨i,hi,e⟩:=List.mem_take_iff_getElem.1 (eI.1 hh)
 rw[Wg]at hi
 obtain⟨hk,e2⟩:=V9.1 hc
 rw[List.nodup_iff_pairwise_ne,Xd]at h
 refine h i k (by rw[Wg]; omega) (by rw[Wg]; exact hk) (by omega) ?_
 rw[e,List.getElem_map,e2]
theorem oT {α:Type} {f:α->ByteArray} {c:UInt8} (hc:wU c) (g:Nat->Option α) (hg:∀i x,g i=some x->f x=fX c i):∀K,K<=3->(((List.range K).filterMap g).map f).Nodup
 |0,_=>by simp
 |K+1,hK=>by
  have ih:=oT hc g hg K (by omega)
  rw[Xq,XI,WC]
  cases hx:g K with
  |none=>simpa [hx]using ih
  |some x=>
   simp only[List.filterMap_cons,hx,List.filterMap_nil,List.map_cons,List.map_nil]
   rw[Xy]
   refine⟨ih,by simp,?_⟩
   intro a ha b hb e
   rw[Xj]at hb
   obtain⟨y,hy,rfl⟩:=Wk.1 ha
   obtain⟨i,hi,he⟩:=W4.1 hy
   have hi:=WJ.1 hi
   rw[hb,hg i y he,hg K x hx]at e
   have:=hc.inj (by omega) (by omega) e
   omega
theorem tF {n:Nat} (h:1<=n) (x:Int):dP n (x%n)=false:=by
 have h0:=XJ x (b:=(n:Int)) (by omega)
 have h1:=XR x (b:=(n:Int)) (by omega)
 unfold dP
 simp
 omega
theorem F6 {P:Int->Prop} {es:List Edge} {e:Edge} (h:∀x∈es,P x.label) (he:P e.label):∀x∈nk es e,P x.label:=fun x hx=>by
 rcases yX hx with h1|h1
 .exact h x h1
 .exact h1 ▸ he
theorem Cb {st:Int}:∀(l:List vb) (es:List Edge),(∀x∈es,1<=x.label/\x.label<=3)->∀x∈l.foldl (fun es x=>nk es (x.pV st)) es,1<=x.label/\x.label<=3
 |[],_,h=>h
 |a::l,es,h=>Cb l _ (F6 (P:=fun x=>1<=x/\x<=3) h (by
  show 1<=1+a.act/2%3/\1+a.act/2%3<=3
  omega))
theorem F7 {d:ej} {e:Edge} (h:e∈d.auto.trim.af):1<=e.label/\e.label<=3:=by
 obtain⟨x,hx,_,rfl⟩:=aP.ta.1 h
 have hx:=(kl Edge.lt d.raw).subset hx
 exact Cb (d.gH.take 12) [] (fun y hy=>by simp at hy) x hx
theorem Dy {T:List aH} {u:Int} (h:u∈dD T T.length):0<=u/\u<T.length:=by
 unfold dD at h
 obtain⟨i,hi,rfl⟩:=Wk.1 h
 have:=WJ.1 (Xl.1 hi).1
 omega
theorem F8 {T:List aH} {s:vo} {i:Nat} (hi:i<3) (hN:dD T T.length≠[]) (hg:s.a.auto.Good):te T.length ⟨fX 83 i,ek (dD T T.length) s,s.a.auto.trim⟩=0:=by
 have n0:=Po.nm (k:=0) (by omega)
 have n1:=Po.nm (k:=1) (by omega)
 have n2:=Po.nm (k:=2) (by omega)
 have d01:fX 77 0≠fX 77 1:=fun e=>by have:=Po.inj (by omega) (by omega) e; omega
 have d02:fX 77 0≠fX 77 2:=fun e=>by have:=Po.inj (by omega) (by omega) e; omega
 have d12:fX 77 1≠fX 77 2:=fun e=>by have:=Po.inj (by omega) (by omega) e; omega
 have hp:=fun x=>Dy (Wa (vp hN x).2)
 unfold te
 have hm:lH ⟨fX 83 i,ek (dD T T.length) s,s.a.auto.trim⟩=true:=by
  unfold lH ek
  simp[VB.nm hi,List.range_succ,vi,B2,vh,n0,n1,n2,cY,d01,d02,d12]
 rw[if_neg (by simp[ek]),if_neg (by rw[hm]; decide),if_neg,if_neg,if_neg,if_neg]
 .rw[hg.AH]
  unfold iota
  rw[Wg,WI]
  simp[aP.trim]
 .intro h
  obtain⟨e,he,hn⟩:=Xm.1 h
  have:=F7 he
  have hl:e.label=1\/e.label=2\/e.label=3:=by omega
  rcases hl with hl|hl|hl<;>simp[ek,lG,hl]at hn
 .intro h
  exact h (aP.iV.2 hg.trim)
 .intro h
  obtain⟨m,hm,hn⟩:=Xm.1 h
  unfold dP at hn
  have:∃x,m.ty=fY (dD T T.length) x:=by
   unfold ek at hm
   simp only[List.mem_cons,List.not_mem_nil,or_false]at hm
   rcases hm with rfl|rfl|rfl
   .exact⟨_,rfl⟩
   .exact⟨_,rfl⟩
   .exact⟨_,rfl⟩
  obtain⟨x,hx⟩:=this
  have:=hp x
  rw[hx]at hn
  simp at hn
  omega
theorem F9 {nm:ByteArray} {d:Dg} {v:ij} (hn:isName nm=true) (hd:d.ok) (h:MH nm d=some v):cH v:=by
 unfold MH at h
 split at h
 rotate_left
 .cases h
 rename_i hc
 obtain⟨c1,c2,c3,c4⟩:=hc
 cases h
 have hD:¬(d.s.length<1\/5<d.s.length):=by
  intro hx
  unfold qR at c1
  rw[if_pos hx]at c1
  cases c1
 have hT:(qR d.s).1=ga d.s:=by
  unfold qR
  rw[if_neg hD]
  rfl
 have hl:(ga d.s).length=d.s.length:=by simp[ga]
 rw[hT]
 have l1:(eo (ga d.s).length d.calls d.calls.length).length<=3:=WM (eJ _ _) c2
 have l2:(fZ (ga d.s) d.aG d.aG.length).length<=2:=WM (eJ _ _) c3
 have l3:(gT (ga d.s).length d.aT d.aT.length).length<=3:=WM (eJ _ _) c4
 have q1:((eo (ga d.s).length d.calls d.calls.length).map mi.name).Nodup:=oT Vz _ (fun i x hx=>by
  obtain⟨y,_,rfl⟩:=Wx.1 hx
  rfl) _ c2
 have q2:((fZ (ga d.s) d.aG d.aG.length).map eE.name).Nodup:=oT VB _ (fun i x hx=>by
  obtain⟨y,_,hx⟩:=XP.1 hx
  unfold ub at hx
  split at hx
  .cases hx
   rfl
  .cases hx) _ (by omega)
 have q3:((gT (ga d.s).length d.aT d.aT.length).map mj.name).Nodup:=oT VA _ (fun i x hx=>by
  obtain⟨y,_,rfl⟩:=Wx.1 hx
  rfl) _ c4
 refine⟨⟨by dsimp only; omega,by dsimp only; omega,by dsimp only; omega⟩,hn,zj (by omega) (by omega),fun k c hk=>?_,fun k c hk=>?_,fun k c hk=>?_⟩
 .have hh:=mf q1 hk
  obtain⟨i,hi,he⟩:=W4.1 (Wa hk)
  have hi:=WJ.1 hi
  obtain⟨y,_,rfl⟩:=Wx.1 he
  unfold qS
  dsimp only at hh |-
  rw[if_neg (by rw[Vz.nm (by omega)]; decide),hh,if_neg (by decide),tF (by omega),tF (by omega)]
  rfl
 .have hh:=mf q2 hk
  obtain⟨i,s,hi,_,hN,rfl,hg⟩:=y9 c3 hd.w c (Wa hk)
  unfold pY
  dsimp only at hh |-
  rw[hh,if_neg (by decide)]
  exact F8 (by omega) hN hg
 .have hh:=mf q3 hk
  obtain⟨i,hi,he⟩:=W4.1 (Wa hk)
  have hi:=WJ.1 hi
  obtain⟨y,_,rfl⟩:=Wx.1 he
  unfold pX
  dsimp only at hh |-
  rw[if_neg (by rw[VA.nm (by omega)]; decide),hh,if_neg (by decide),tF (by omega)]
  rfl
theorem Dz {k:Nat} {rows:List (List PV)} (hr:∀r∈rows,r.length=k) (hm:rows.length<=2147483648):(rows=[]/\∀h,aZ k [.pv (.aq 0 rows)] h=some (.tl [],{}))\/(rows≠[]/\∀h,aZ k [.pv (.aq 0 rows)] h=some (.own h.ar.length 0 0 rows.length,{ push:=[⟨0,k,.inl rows⟩],base:=h.ar.length })):=by
 have hf:aO k (.inl rows)=true:=by
  simp only[aO,List.all_eq_true,beq_iff_eq]
  exact hr
 by_cases h0:rows=[]
 .subst h0
  exact .inl ⟨rfl,fun h=>by simp[aZ,aW,aO]⟩
 .refine .inr ⟨h0,fun h=>?_⟩
  have hl:¬rows.length=0:=fun e=>h0 (Wp e)
  have h01:(0:Nat)<=1:=by decide
  simp[aZ,aW,hf,hl,aN,hm]
theorem A6 {α:Type} (c:α->List PV) {k:Nat} (hk:∀x,(c x).length=k) {l:List α} (hm:l.length<=2147483648):(l=[]/\∀h,aZ k [.pv (.aq 0 (l.map c))] h=some (.tl [],{}))\/(l≠[]/\∀h,aZ k [.pv (.aq 0 (l.map c))] h=some (.own h.ar.length 0 0 l.length,{ push:=[⟨0,k,.inl (l.map c)⟩],base:=h.ar.length })):=by
 rcases Dz (k:=k) (rows:=l.map c) (fun r hr=>by obtain⟨x,_,rfl⟩:=Wk.1 hr; exact hk x) (by rw[Wg]; omega)with⟨h0,hc⟩|⟨h0,hc⟩
 .cases l with
  |nil=>exact .inl ⟨rfl,hc⟩
  |cons x r=>simp at h0
 .rw[Wg]at hc
  exact .inr ⟨fun h=>h0 (by rw[h]; rfl),hc⟩
theorem cH.of {v:ij} (zn:v.calls.length<=8/\v.aG.length<=8/\v.aT.length<=8) (nm:isName v.name=true) (sound:iW v.types=0)
  (c:(v.calls.map mi.name).Nodup/\∀c∈v.calls,isName c.name=true/\(0<=c.ud/\c.ud<v.types.length)/\0<=c.rep/\c.rep<v.types.length)
  (s:(v.aG.map eE.name).Nodup/\∀w∈v.aG,te v.types.length w=0)
  (t:(v.aT.map mj.name).Nodup/\∀c∈v.aT,isName c.name=true/\0<=c.ty/\c.ty<v.types.length):cH v:=by
 have ho:∀{n:Nat} {u:Int},0<=u/\u<n->dP n u=false:=fun h=>by
  unfold dP
  simp
  omega
 refine⟨zn,nm,sound,fun k x hk=>?_,fun k x hk=>?_,fun k x hk=>?_⟩
 .obtain⟨h1,h2,h3⟩:=c.2 x (Wa hk)
  unfold qS
  rw[if_neg (by rw[h1]; decide),mf c.1 hk,if_neg (by decide),ho h2,ho h3]
  rfl
 .unfold pY
  rw[mf s.1 hk,if_neg (by decide)]
  exact s.2 x (Wa hk)
 .obtain⟨h1,h2⟩:=t.2 x (Wa hk)
  unfold pX
  rw[if_neg (by rw[h1]; decide),mf t.1 hk,if_neg (by decide),ho h2]
  rfl
theorem cH.ch {v:ij} (h:cH v):∀c∈v.calls,isName c.name=true/\(0<=c.ud/\c.ud<v.types.length)/\0<=c.rep/\c.rep<v.types.length:=fun c hc=>by
 obtain⟨k,hk⟩:=Wd.1 hc
 have:=pZ (h.TA k c hk)
 exact⟨this.1,this.2.2⟩
theorem cH.df {v:ij} (h:cH v):∀c∈v.aT,isName c.name=true/\0<=c.ty/\c.ty<v.types.length:=fun c hc=>by
 obtain⟨k,hk⟩:=Wd.1 hc
 have:=p4 (h.top k c hk)
 exact⟨this.1,this.2.2⟩
theorem cH.MW {v:ij} (h:cH v):∀w∈v.aG,te v.types.length w=0:=fun c hc=>by
 obtain⟨k,hk⟩:=Wd.1 hc
 have:=h.TB k c hk
 unfold pY at this
 split at this
 .cases this
 .exact this
theorem ft {α:Type} {i j:Nat} (l:List α) (hij:i<=j):List.Sublist (bz i j l) l:=by
 have h:List.Sublist (l.drop j) (l.drop i):=by
  rw[show j=i+(j - i) by omega,<- List.drop_drop]
  exact List.drop_sublist _ _
 have:=List.Sublist.append (List.Sublist.refl (l.take i)) h
 rw[XG]at this
 exact this
theorem lN {α β:Type} (f:α->β) {i j:Nat} (l:List α):bz i j (l.map f)=(bz i j l).map f:=by
 simp[bz,List.map_take,List.map_drop]
theorem MX {k:Nat} {rows:List (List PV)} {len:Nat} {x:Int} (bx:List (Nat×List V)) (mp:List (List (PV×PV))) (hl:rows.length=len) (h0:0<=x) (hx:x<len) (hm:len<=2147483648):
  dq k [.own 0 0 0 len,.pv (.int .i64 x),.pv (.int .i64 (x+1))] ⟨bx,[⟨0,k,.inl rows⟩],mp⟩=some (.own 0 1 0 (len - 1),{ ar:=some (0,⟨1,k,.inl (bz x.toNat (x.toNat+1) rows)⟩) }):=by
 have e1:(x+1).toNat=x.toNat+1:=by omega
 have e2:rows.take len=rows:=Wq (by omega)
 simp only[dq,aB,List.getElem?_cons_zero,if_true,List.drop_zero,e1,e2]
 rw[if_pos ⟨h0,by omega,by omega,by unfold aN; omega,trivial⟩]
 congr 3
 omega
def Ga (i:Nat) (v:ij):ij:=⟨v.name,v.types,bz i (i+1) v.calls,v.aG,v.aT⟩
def Gb (i:Nat) (v:ij):ij:=⟨v.name,v.types,v.calls,bz i (i+1) v.aG,v.aT⟩
def Gc (i:Nat) (v:ij):ij:=⟨v.name,v.types,v.calls,v.aG,bz i (i+1) v.aT⟩
theorem p9 {α:Type} {f:α->ByteArray} {l m:List α} (h:(l.map f).Nodup) (hs:List.Sublist m l):(m.map f).Nodup:=List.Nodup.sublist (hs.map f) h
theorem vF {i:Nat} {v:ij} (h:cH v):cH (Ga i v):=by
 have hs:=ft v.calls (XM i)
 exact .of ⟨WM hs.length_le h.zn.1,h.zn.2⟩ h.nm h.sound ⟨p9 h.BT hs,fun c hc=>h.ch c (hs.subset hc)⟩ ⟨h.HB,h.MW⟩ ⟨h.HC,h.df⟩
theorem vG {i:Nat} {v:ij} (h:cH v):cH (Gb i v):=by
 have hs:=ft v.aG (XM i)
 exact .of ⟨h.zn.1,WM hs.length_le h.zn.2.1,h.zn.2.2⟩ h.nm h.sound ⟨h.BT,h.ch⟩ ⟨p9 h.HB hs,fun c hc=>h.MW c (hs.subset hc)⟩ ⟨h.HC,h.df⟩
theorem vH {i:Nat} {v:ij} (h:cH v):cH (Gc i v):=by
 have hs:=ft v.aT (XM i)
 exact .of ⟨h.zn.1,h.zn.2.1,WM hs.length_le h.zn.2.2⟩ h.nm h.sound ⟨h.BT,h.ch⟩ ⟨h.HB,h.MW⟩ ⟨p9 h.HC hs,fun c hc=>h.df c (hs.subset hc)⟩
theorem tG {i:Nat} {v:ij} (h:iX v):iX (Ga i v):=by
 have hs:=ft v.calls (XM i)
 exact⟨h.nm,h.tl,h.to,h.ts,WM hs.length_le h.cl,fun c hc=>h.cs c (hs.subset hc),h.sl,h.ss,h.pl,h.ps⟩
theorem tH {i:Nat} {v:ij} (h:iX v):iX (Gb i v):=by
 have hs:=ft v.aG (XM i)
 exact⟨h.nm,h.tl,h.to,h.ts,h.cl,h.cs,WM hs.length_le h.sl,fun c hc=>h.ss c (hs.subset hc),h.pl,h.ps⟩
theorem tI {i:Nat} {v:ij} (h:iX v):iX (Gc i v):=by
 have hs:=ft v.aT (XM i)
 exact⟨h.nm,h.tl,h.to,h.ts,h.cl,h.cs,h.sl,h.ss,WM hs.length_le h.pl,fun c hc=>h.ps c (hs.subset hc)⟩
theorem tJ {v w:ij} (hv:cH v) (hw:cH w) (h:v.calls.length≠w.calls.length\/v.aG.length≠w.aG.length\/v.aT.length≠w.aT.length):(vE v w).1=false/\(vE v w).2=0:=by
 unfold vE
 rw[if_neg (by rw[hv.err]; decide),if_neg (by rw[hw.err]; decide)]
 refine⟨?_,rfl⟩
 unfold FZ
 rcases h with h|h|h<;>simp[h]
set_option maxHeartbeats 16000000 in
theorem r403 (r404:res A aA 404 []=some [.bool true]) (d:Dg) (hd:d.ok) (p:Int) (hp:0<=p/\p<=255):res A aA 403 [.agg d.c,.int .u8 p]=some [.bool true]:=by
 refine aw a403 rfl rfl ?_
 simp only[F403,K7]
 have h419:=r419 ⟨#[118,49]⟩ d hd
 cases ho:MH ⟨#[118,49]⟩ d with
 |none=>
  rw[ho]at h419
  simp only[Dg.c]at h419 |-
  simp(disch:=omega)only[go_sem,r404,h419]
 |some v=>
  rw[ho]at h419
  obtain⟨hv,l1,l2,l3,l4,l5⟩:=Di (by unfold bC; decide) hd ho
  have hg:=F9 (by decide) hd ho
  have eC:=fun i=>tJ hg (vF (i:=i) hg)
  have eS:=fun i=>tJ hg (vG (i:=i) hg)
  have eP:=fun i=>tJ hg (vH (i:=i) hg)
  have hC:=fun i u2 u3 u4=>r421 0 0 0 0 0 u2 u3 u4 v (Ga i v) hv (tG hv)
  have hS:=fun i u2 u3 u4=>r421 0 0 0 0 0 u2 u3 u4 v (Gb i v) hv (tH hv)
  have hP:=fun i u2 u3 u4=>r421 0 0 0 0 0 u2 u3 u4 v (Gc i v) hv (tI hv)
  have vC:=fun i u2 u3 u4=>r407 0 u2 u3 u4 (Ga i v) (tG hv)
  have vS:=fun i u2 u3 u4=>r407 0 u2 u3 u4 (Gb i v) (tH hv)
  have vP:=fun i u2 u3 u4=>r407 0 u2 u3 u4 (Gc i v) (tI hv)
  simp only[(vF hg).err,(vG hg).err,(vH hg).err]at vC vS vP
  clear hg hv ho
  obtain⟨nm,T,C,S,P⟩:=v
  simp only[Dg.c,lB,Ga,Gb,Gc]at *
  simp(disch:=omega)only[go_sem,r404,h419]
  obtain⟨x,hx⟩:∃x,p%(↑C.length+↑S.length+↑P.length)=x:=⟨_,rfl⟩
  refine Br.aJ (fun h0=>?_) (fun h0=>?_)
  .simp(disch:=omega)only[go_sem]
  have hx0:0<=x:=by rw[<- hx]; exact XJ _ h0
  have hx1:x<↑C.length+↑S.length+↑P.length:=by rw[<- hx]; exact XR _ (by omega)
  simp(disch:=omega)only[go_sem,hx]
  refine Br.aJ (fun h1=>?_) (fun h1=>?_)
  .have hcl:(C=[]/\∀h,aZ 3 [.pv (.aq 0 (ch C))] h=some (.tl [],{}))\/(C≠[]/\∀h,aZ 3 [.pv (.aq 0 (ch C))] h=some (.own h.ar.length 0 0 C.length,{ push:=[⟨0,3,.inl (ch C)⟩],base:=h.ar.length })):=A6 mi.c (fun _=>rfl) (by omega)
   rcases hcl with⟨rfl,_⟩|⟨_,hcl⟩
   .simp only[List.length_nil]at *
    omega
   obtain⟨y,hy⟩:∃y,x=y:=⟨_,rfl⟩
   have hy0:0<=y:=by omega
   have hy1:y<↑C.length:=by omega
   have hdel:=fun bx mp=>MX (k:=3) (rows:=ch C) (len:=C.length) bx mp (oj _) hy0 hy1 (by omega)
   have hln:(bz y.toNat (y.toNat+1) C).length=C.length - 1:=by rw[ef (by omega) (by omega)]; omega
   have hrw:bz y.toNat (y.toNat+1) (ch C)=ch (bz y.toNat (y.toNat+1) C):=lN mi.c C
   have htk:(ch (bz y.toNat (y.toNat+1) C)).take (C.length - 1)=ch (bz y.toNat (y.toNat+1) C):=Wq (by rw[oj,hln]; exact Wj _)
   have q:=eC y.toNat (.inl (by rw[hln]; omega))
   have hq:=hC y.toNat
   simp only[q.1,q.2]at hq
   have hw:=vC y.toNat
   rw[hrw]at hdel
   simp(disch:=omega)only[go_sem,hx,hy,hcl,hdel,htk,hq,hw]
  simp(disch:=omega)only[go_sem,hx]
  refine Br.aJ (fun h2=>?_) (fun h2=>?_)
  .have hcl:(S=[]/\∀h,aZ 5 [.pv (.aq 0 (aG S))] h=some (.tl [],{}))\/(S≠[]/\∀h,aZ 5 [.pv (.aq 0 (aG S))] h=some (.own h.ar.length 0 0 S.length,{ push:=[⟨0,5,.inl (aG S)⟩],base:=h.ar.length })):=A6 eE.c (fun _=>rfl) (by omega)
   rcases hcl with⟨rfl,_⟩|⟨_,hcl⟩
   .simp only[List.length_nil]at *
    omega
   obtain⟨y,hy⟩:∃y,x - ↑C.length=y:=⟨_,rfl⟩
   have hy0:0<=y:=by omega
   have hy1:y<↑S.length:=by omega
   have hdel:=fun bx mp=>MX (k:=5) (rows:=aG S) (len:=S.length) bx mp (yl _) hy0 hy1 (by omega)
   have hln:(bz y.toNat (y.toNat+1) S).length=S.length - 1:=by rw[ef (by omega) (by omega)]; omega
   have hrw:bz y.toNat (y.toNat+1) (aG S)=aG (bz y.toNat (y.toNat+1) S):=lN eE.c S
   have htk:(aG (bz y.toNat (y.toNat+1) S)).take (S.length - 1)=aG (bz y.toNat (y.toNat+1) S):=Wq (by rw[yl,hln]; exact Wj _)
   have q:=eS y.toNat (.inr<|.inl (by rw[hln]; omega))
   have hq:=hS y.toNat
   simp only[q.1,q.2]at hq
   have hw:=vS y.toNat
   rw[hrw]at hdel
   simp(disch:=omega)only[go_sem,hx,hy,hcl,hdel,htk,hq,hw]
  .have hcl:(P=[]/\∀h,aZ 2 [.pv (.aq 0 (df P))] h=some (.tl [],{}))\/(P≠[]/\∀h,aZ 2 [.pv (.aq 0 (df P))] h=some (.own h.ar.length 0 0 P.length,{ push:=[⟨0,2,.inl (df P)⟩],base:=h.ar.length })):=A6 mj.c (fun _=>rfl) (by omega)
   rcases hcl with⟨rfl,_⟩|⟨_,hcl⟩
   .simp only[List.length_nil]at *
    omega
   obtain⟨y,hy⟩:∃y,x - ↑C.length - ↑S.length=y:=⟨_,rfl⟩
   have hy0:0<=y:=by omega
   have hy1:y<↑P.length:=by omega
   have hdel:=fun bx mp=>MX (k:=2) (rows:=df P) (len:=P.length) bx mp (sG _) hy0 hy1 (by omega)
   have hln:(bz y.toNat (y.toNat+1) P).length=P.length - 1:=by rw[ef (by omega) (by omega)]; omega
   have hrw:bz y.toNat (y.toNat+1) (df P)=df (bz y.toNat (y.toNat+1) P):=lN mj.c P
   have htk:(df (bz y.toNat (y.toNat+1) P)).take (P.length - 1)=df (bz y.toNat (y.toNat+1) P):=Wq (by rw[sG,hln]; exact Wj _)
   have q:=eP y.toNat (.inr<|.inr (by rw[hln]; omega))
   have hq:=hP y.toNat
   simp only[q.1,q.2]at hq
   have hw:=vP y.toNat
   rw[hrw]at hdel
   simp(disch:=omega)only[go_sem,hx,hy,hcl,hdel,htk,hq,hw]
theorem r404:res A aA 404 []=some [.bool true]:=jz.2 ⟨3000,by kernel_rfl⟩
variable {P:Program}
theorem qI {n:Nat} {t:TypeId} {cs:List PV} (hu:P.underlying t=some (.int .u8)) (h:typed P n t cs):∃x:Nat,cs=[.int .u8 x]/\x<=255:=by
 cases n with
 |zero=>exact h.elim
 |succ n=>
  obtain⟨x,rfl,h1,h2⟩:=CF hu h
  have h1:(0:Int)<=x:=h1
  have h2:x<=(255:Int):=h2
  refine⟨x.toNat,?_,by omega⟩
  rw[Int.toNat_of_nonneg h1]
structure tK (P:Program) (dr nd pt ln lp t8:TypeId):Prop where
 u:P.underlying t8=some (.int .u8)
 n:P.underlying ln=some (.slice nd)
 p:P.underlying lp=some (.slice pt)
 d:∃fs,P.underlying dr=some (.struct fs)/\fs.toList.map (·.type)=[ln]
 x:∃fs,P.underlying nd=some (.struct fs)/\fs.toList.map (·.type)=[t8,t8,t8,t8,lp]
 q:∃fs,P.underlying pt=some (.struct fs)/\fs.toList.map (·.type)=[t8,t8,t8]
section
variable {dr nd pt ln lp t8:TypeId}
theorem A7 (T:tK P dr nd pt ln lp t8) {n:Nat} {cs:List PV} (h:typed P n pt cs):∃p:Part,cs=p.c/\p.ok:=by
 cases n with
 |zero=>exact h.elim
 |succ n=>
  obtain⟨fs,hu,hts⟩:=T.q
  obtain⟨r0,q0,rfl,h0,r1,q1,rfl,h1,r2,q2,rfl,h2,rfl⟩:=dK hu hts h
  obtain⟨a,rfl,ha⟩:=qI T.u h0
  obtain⟨b,rfl,hb⟩:=qI T.u h1
  obtain⟨c,rfl,hc⟩:=qI T.u h2
  exact⟨⟨a,b,c⟩,rfl,ha,hb,hc⟩
theorem A8 (T:tK P dr nd pt ln lp t8) {n:Nat} {cs:List PV} (h:typed P n nd cs):∃x:Node,cs=x.cs/\x.ok:=by
 cases n with
 |zero=>exact h.elim
 |succ n=>
  obtain⟨fs,hu,hts⟩:=T.x
  obtain⟨r0,q0,rfl,h0,r1,q1,rfl,h1,r2,q2,rfl,h2,r3,q3,rfl,h3,r4,q4,rfl,h4,rfl⟩:=dK hu hts h
  obtain⟨k,rfl,hk⟩:=qI T.u h0
  obtain⟨a,rfl,ha⟩:=qI T.u h1
  obtain⟨b,rfl,hb⟩:=qI T.u h2
  obtain⟨c,rfl,hc⟩:=qI T.u h3
  obtain⟨ps,rfl,hl,hp⟩:=jH T.p (fun m cs _ hh=>A7 T hh) h4
  exact⟨⟨k,a,b,c,ps⟩,by simp[Node.cs],⟨hk,ha,hb,hc⟩,hl,hp⟩
theorem zk (T:tK P dr nd pt ln lp t8) {n:Nat} {cs:List PV} (h:typed P n dr cs):∃d:List Node,cs=[.aq 0 (d.map Node.cs)]/\bP d/\∀x∈d,x.ok:=by
 cases n with
 |zero=>exact h.elim
 |succ n=>
  obtain⟨fs,hu,hts⟩:=T.d
  obtain⟨r0,q0,rfl,h0,rfl⟩:=dK hu hts h
  obtain⟨l,rfl,k,g⟩:=jH T.n (fun m cs _ hh=>A8 T hh) h0
  exact⟨l,by simp,k,g⟩
end
end Go.Pv
namespace Go.Pv
variable {P:Program}
structure DA (P:Program) (vd sd lc cl ls ss ad la ar a3 lt t8:TypeId):Prop where
 u:P.underlying t8=some (.int .u8)
 v:∃fs,P.underlying vd=some (.struct fs)/\fs.toList.map (·.type)=[sd,lc,ls,lt]
 lc:P.underlying lc=some (.slice cl)
 c:P.underlying cl=some (.array 2 t8)
 ls:P.underlying ls=some (.slice ss)
 s:∃fs,P.underlying ss=some (.struct fs)/\fs.toList.map (·.type)=[ad,a3]
 a:∃fs,P.underlying ad=some (.struct fs)/\fs.toList.map (·.type)=[t8,la]
 la:P.underlying la=some (.slice ar)
 r:∃fs,P.underlying ar=some (.struct fs)/\fs.toList.map (·.type)=[t8,t8,t8]
 b:P.underlying a3=some (.array 3 t8)
 lt:P.underlying lt=some (.slice t8)
section
variable {vd sd lc cl ls ss ad la ar a3 lt t8 nd pt ln lp:TypeId}
theorem iZ {n:Nat} {t:TypeId} {cs:List PV} (hu:P.underlying t=some (.int .u8)) (h:typed P n t cs):∃x:Int,cs=[.int .u8 x]/\MG x:=by
 obtain⟨x,rfl,hx⟩:=qI hu h
 exact⟨x,rfl,by unfold MG; omega⟩
theorem DB (T:DA P vd sd lc cl ls ss ad la ar a3 lt t8) {n:Nat} {cs:List PV} (h:typed P n cl cs):∃c:Int×Int,cs=Pj c/\MG c.1/\MG c.2:=by
 cases n with
 |zero=>exact h.elim
 |succ n=>
  obtain⟨r0,q0,rfl,h0,r1,q1,rfl,h1,rfl⟩:=qw T.c h
  obtain⟨x,rfl,hx⟩:=iZ T.u h0
  obtain⟨y,rfl,hy⟩:=iZ T.u h1
  exact⟨(x,y),rfl,hx,hy⟩
theorem DC (T:DA P vd sd lc cl ls ss ad la ar a3 lt t8) {n:Nat} {cs:List PV} (h:typed P n ar cs):∃x:vb,cs=x.c/\x.ok:=by
 cases n with
 |zero=>exact h.elim
 |succ n=>
  obtain⟨fs,hu,hts⟩:=T.r
  obtain⟨r0,q0,rfl,h0,r1,q1,rfl,h1,r2,q2,rfl,h2,rfl⟩:=dK hu hts h
  obtain⟨x,rfl,hx⟩:=iZ T.u h0
  obtain⟨y,rfl,hy⟩:=iZ T.u h1
  obtain⟨z,rfl,hz⟩:=iZ T.u h2
  exact⟨⟨x,y,z⟩,rfl,hx,hy,hz⟩
theorem DD (T:DA P vd sd lc cl ls ss ad la ar a3 lt t8) {n:Nat} {cs:List PV} (h:typed P n ad cs):∃d:ej,cs=[.int .u8 d.n,.aq 0 (d.gH.map vb.c)]/\d.ok:=by
 cases n with
 |zero=>exact h.elim
 |succ n=>
  obtain⟨fs,hu,hts⟩:=T.a
  obtain⟨r0,q0,rfl,h0,r1,q1,rfl,h1,rfl⟩:=dK hu hts h
  obtain⟨x,rfl,hx⟩:=iZ T.u h0
  obtain⟨l,rfl,hl,ho⟩:=jH T.la (fun m cs _ h=>DC T h) h1
  exact⟨⟨x,l⟩,rfl,hx,hl,ho⟩
theorem DE (T:DA P vd sd lc cl ls ss ad la ar a3 lt t8) {n:Nat} {cs:List PV} (h:typed P n ss cs):∃s:vo,cs=s.c/\s.ok:=by
 cases n with
 |zero=>exact h.elim
 |succ n=>
  obtain⟨fs,hu,hts⟩:=T.s
  obtain⟨r0,q0,rfl,h0,r1,q1,rfl,h1,rfl⟩:=dK hu hts h
  obtain⟨d,rfl,hd⟩:=DD T h0
  cases n with
  |zero=>exact h1.elim
  |succ n=>
   obtain⟨r3,q3,rfl,g0,r4,q4,rfl,g1,r5,q5,rfl,g2,rfl⟩:=qw T.b h1
   obtain⟨x,rfl,hx⟩:=iZ T.u g0
   obtain⟨y,rfl,hy⟩:=iZ T.u g1
   obtain⟨z,rfl,hz⟩:=iZ T.u g2
   exact⟨⟨d,x,y,z⟩,rfl,hd,hx,hy,hz.1,hz.2⟩
theorem DF (T:DA P vd sd lc cl ls ss ad la ar a3 lt t8) (U:tK P sd nd pt ln lp t8) {n:Nat} {cs:List PV} (h:typed P n vd cs):∃d:Dg,cs=d.c/\d.ok:=by
 cases n with
 |zero=>exact h.elim
 |succ n=>
  obtain⟨fs,hu,hts⟩:=T.v
  obtain⟨r0,q0,rfl,h0,r1,q1,rfl,h1,r2,q2,rfl,h2,r3,q3,rfl,h3,rfl⟩:=dK hu hts h
  obtain⟨s,rfl,hl,ho⟩:=zk U h0
  obtain⟨c,rfl,hc,hco⟩:=jH T.lc (fun m cs _ h=>DB T h) h1
  obtain⟨w,rfl,hw,hwo⟩:=jH T.ls (fun m cs _ h=>DE T h) h2
  obtain⟨t,rfl,ht,hto⟩:=jH (c:=Pk) T.lt (fun m cs _ h=>iZ T.u h) h3
  exact⟨⟨s,c,w,t⟩,rfl,ho,hl,hco,hc,hwo,hw,hto,ht⟩
end
end Go.Pv
