/-
 What the functions of the law give.
-/
import Derived.Test.YtpchfogcccagjaaGreatC10
set_option linter.unusedSimpArgs false
set_option linter.unusedVariables false
open List renaming mem_of_getElem? → Wa, getElem?_eq_some_iff → V9, getElem?_eq_getElem → Wb, length_map → Wg, mem_iff_getElem? → Wd, getElem?_map → Wf, mem_map → Wk, getD_eq_getElem?_getD → Ws, mem_cons_of_mem → W3, all_eq_true → Wu, length_range → WI, mem_cons_self → WH, map_append → WC, mem_range → WJ, any_eq_false → WY, mem_append_left → Xa, findIdx?_eq_none_iff → Xe, map_map → Xw, mem_singleton → Xj, mem_append_right → Xt, mem_filterMap → W4, foldl_cons → Xp, length_set → Xx, mem_map_of_mem → abQ, any_eq_true → Xm, pairwise_iff_getElem → Xd, getElem?_range → Xr, map_take → abp, any_map → abr, length_replicate → XV, find?_eq_none → Xn, getElem?_replicate → XA, mem_filter → Xl, range_succ → Xq, map_congr_left → afr, nodup_append → Xy, find?_some → XH, filterMap_append → XI, mem_of_find?_eq_some → afu, mem_flatMap → afw, ext_getElem → afC, map_id → afD
open Nat renaming mod_lt → Wt, le_trans → WM, mod_eq_of_lt → XO
open Option renaming map_eq_some_iff → Wx, bind_eq_some_iff → XP
open Int renaming toNat_natCast → WX, toNat_of_nonneg → aby, le_refl → XS, emod_nonneg → XJ, emod_lt_of_pos → XR
open Bool renaming eq_iff_iff → Xb, eq_false_iff → Xz, and_eq_true → XX
namespace Go.Pv
@[go_sem] theorem cw404 (vs:List V)(h:aa)(K:V->Tn->Prop):CW A aA 404 vs h K=CN A aA false 404 vs h K:=cd vs h K
theorem F1 {T:List aH}(hv:cS T=0)(h:∀x∈T,∀m∈x.bc,m.has=true->tZ T m.type m.ib.c=true):gi T=0:=by
 unfold gi I2;rw[if_neg (by simp[hv])];have:T.findIdx? (pR T)=none:=by
  rw[Xe];intro x hx;unfold pR;rw[WY];intro m hm;unfold ng;cases hh:m.has with
  |false=>simp
  |true=>rw[h x hx m hm hh];simp
 rw[this]
theorem F2 {T:List aH}{n:Nat}{t:Int}{cs:List PV}(h:mu n cs)(hf:fa T n t cs=true):tZ T t cs=true:=by
 classical
 unfold tZ;exact decide_eq_true ⟨n,h,hf⟩
def ga (d:List Node):List aH:=(List.range d.length).map (e9 d)
theorem p8 {d:List Node}{u:Nat}(hu:u<d.length):(ga d)[u]?=some (e9 d u):=by
 unfold ga;rw[Wf,Xr hu];rfl
theorem me {d:List Node}(h0:0<d.length)(c:Nat):js d c=none↔∀i,i<d.length->¬aI d i<=4:=by
 unfold js;rw[Option.map_eq_none_iff,Xn];constructor
 .intro h i hi hk;have hc:c%d.length<d.length:=Wt _ h0;refine h ((i+d.length - c%d.length)%d.length) (WJ.2 (Wt _ h0)) ?_;have e:(c+(i+d.length - c%d.length)%d.length)%d.length=i:=by
   rw[Nat.add_mod_mod,<- Nat.mod_add_mod,show c%d.length+(i+d.length - c%d.length)=i+d.length by omega,Nat.add_mod_right,XO hi]
  rw[e];exact decide_eq_true hk
 .intro h k _ hk;exact h _ (Wt _ h0) (of_decide_eq_true hk)
theorem F3 (a code:Nat):yE a code∈fP a:=by
 have h:=jJ a;obtain⟨x,hx⟩:=get_some (l:=fP a) (k:=code%(fP a).length) (Wt _ h.1);unfold yE;rw[hx];exact Wa hx
theorem Dv {α:Type}{p:α->Bool}{l:List α}{x:α}(hx:x∈l)(hp:p x=true):0<=bj p l:=by
 unfold bj;cases h:l.findIdx? p with
 |none=>
  have:=Xe.1 h x hx;rw[hp]at this;cases this
 |some k=>simp
theorem F4 {d:List Node}{u code:Nat}(hu:u<d.length)(h:(dQ (initK d u) (nodeAt d u) code).2=true):fa (ga d) 1 u (dQ (initK d u) (nodeAt d u) code).1.c=true:=by
 have h0:0<d.length:=by omega
 rw[sU,if_neg (by omega),WX,p8 hu];have hz:∀v:dz,km v=true↔((v.kind=1\/v.bool=false)/\(v.kind=2\/v.int=0)/\(v.kind=3\/v.str=⟨#[]⟩)/\(v.kind=4\/v.kind=6\/v.id=0)/\(v.kind=8\/v.keys=[])/\(5<=v.kind\/v.items=[])/\(v.kind=5\/v.kind=6\/v.rest=[])):=λv=>by
  unfold km;rw[decide_eq_true_eq]
 have hz8:km ⟨8,false,0,⟨#[]⟩,0,[],[],[]⟩=true:=(hz _).2 (by simp);have hz7:km ⟨7,false,0,⟨#[]⟩,0,[],[],[]⟩=true:=(hz _).2 (by simp);have hz9:km ⟨9,false,0,⟨#[]⟩,0,[],[],[]⟩=true:=(hz _).2 (by simp);rcases dG d u with hk|hk|hk|hk|hk|hk|hk|hk|hk
 .have hi:initK d u=1:=by simp[initK,hk]
  have ht:e9 d u=aX 1 ⟨#[]⟩:=by simp[e9,hk]
  rw[hi,ht];have:=λb=>(hz ⟨1,b,0,⟨#[]⟩,0,[],[],[]⟩).2 (by simp);simp[dQ,bl,aX,gh,this]
 .have hi:initK d u=2:=by simp[initK,hk]
  have ht:e9 d u={aX 2 ⟨#[]⟩ with low:=jD (nodeAt d u),high:=lq (nodeAt d u)}:=by simp[e9,hk]
  rw[hi,ht];have:=λi=>(hz ⟨2,false,i,⟨#[]⟩,0,[],[],[]⟩).2 (by simp);have h6:code%((nodeAt d u).b%6+1)<(nodeAt d u).b%6+1:=Wt _ (by omega);have e:((code:Int)%((nodeAt d u).b%6+1))=((code%((nodeAt d u).b%6+1):Nat):Int):=by simp
  simp[dQ,bl,aX,gh,this,lq];omega
 .have hi:initK d u=3:=by simp[initK,hk]
  have ht:e9 d u={aX 3 ⟨#[]⟩ with max:=((nodeAt d u).a%4:Nat)}:=by simp[e9,hk]
  rw[hi,ht];have:=λs=>(hz ⟨3,false,0,s,0,[],[],[]⟩).2 (by simp);have s1:(⟨#[97]⟩:ByteArray).size=1:=rfl;have s0:(⟨#[]⟩:ByteArray).size=0:=rfl;simp[dQ,bl,aX,gh,this];split<;>simp only[s0,s1]<;>omega
 .have hi:initK d u=4:=by simp[initK,hk]
  have ht:e9 d u={aX 4 (cC u)with syms:=iU (nodeAt d u).a,jO:=decide ((nodeAt d u).b%2=1)}:=by simp[e9,hk]
  rw[hi,ht];have:=λi=>(hz ⟨4,false,0,⟨#[]⟩,i,[],[],[]⟩).2 (by simp);have hf:=Dv (p:=qQ (yE (nodeAt d u).a code:Int)) (List.mem_map.2 ⟨_,F3 (nodeAt d u).a code,rfl⟩:nc (yE (nodeAt d u).a code)∈iU (nodeAt d u).a) (by simp[qQ,nc]);simp[dQ,bl,aX,gh,this];exact hf
 .have hi:initK d u=5:=by simp[initK,hk]
  rw[hi]at h;simp[dQ]at h
 .have hi:initK d u=6:=by simp[initK,hk]
  rw[hi]at h;simp[dQ]at h
 .have hi:initK d u=7:=by simp[initK,hk]
  have ht:e9 d u={aX 7 ⟨#[]⟩ with max:=((nodeAt d u).a%4:Nat),elem:=((nodeAt d u).c%d.length:Nat)}:=by simp[e9,hk]
  rw[hi,ht];simp[dQ,bl,aX,gh,hz7];omega
 .rw[nf hk];by_cases hn:js d 0=none
  .have hi:initK d u=7:=by simp[initK,hk,hn]
   rw[if_pos ((me h0 _).2 ((me h0 0).1 hn)),hi];simp[dQ,bl,aX,gh,hz7];omega
  .have hi:initK d u=8:=by simp[initK,hk,hn]
   rw[if_neg (λe=>hn ((me h0 0).2 ((me h0 _).1 e))),hi];simp[dQ,bl,aX,gh,hz8,C1];omega
 .have hi:initK d u=9:=by simp[initK,hk]
  have ht:e9 d u={aX 9 ⟨#[]⟩ with elem:=((nodeAt d u).c%d.length:Nat)}:=by simp[e9,hk]
  rw[hi,ht];simp[dQ,bl,aX,gh,hz9]
theorem Dw {d:List Node}{i:Nat}{m:Mem}(h:m∈(e9 d i).bc):∃fl,m∈bL d i fl (nodeAt d i).parts 12:=by
 rcases dG d i with hk|hk|hk|hk|hk|hk|hk|hk|hk
 case inr.inr.inr.inr.inr.inl=>
  rw[lA hk]at h;split at h
  .simp[aX]at h
  .exact⟨false,h⟩
 case inr.inr.inr.inr.inl=>
  have ht:e9 d i={aX 5 (cC i)with bc:=bL d i true (nodeAt d i).parts 12}:=by simp[e9,hk]
  rw[ht]at h;exact⟨true,h⟩
 case inr.inr.inr.inr.inr.inr.inr.inl=>
  rw[nf hk]at h;split at h<;>simp[aX]at h
 all_goals simp[e9,hk,aX]at h
theorem F5 {d:List Node}{i:Nat}(h0:0<d.length)(hi:i<d.length){m:Mem}(h:m∈(e9 d i).bc):∃(fl:Bool)(id:Nat)(p:Part)(u:Nat),m=dC d i fl id p/\cJ d i p.type=some u/\u<d.length/\m.type=u:=by
 obtain⟨fl,h⟩:=Dw h;obtain⟨id,p,rfl,hh,_⟩:=kj h;unfold mY at hh;cases ht:cJ d i p.type with
 |none=>simp[ht]at hh
 |some u=>
  refine⟨fl,id,p,u,rfl,ht,kh h0 hi ht,?_⟩;show fH (cJ d i p.type)=u;rw[ht];rfl
theorem zi {d:List Node}(h0:0<d.length)(h5:d.length<=5):gi (ga d)=0:=by
 refine F1 (CV h0 h5) λx hx m hm hh=>?_;obtain⟨i,hi,rfl⟩:=Wk.1 hx;obtain⟨fl,id,p,u,rfl,ht,hu,ht2⟩:=F5 h0 (WJ.1 hi) hm;have hd:(dC d i fl id p).has=(fl&&(decide (2<=p.flag%4)&&(lz d u p).2)):=by
  unfold dC;rw[ht];rfl
 rw[hd,XX,XX]at hh;have hv:(dC d i fl id p).ib=(lz d u p).1:=by
  unfold dC;rw[ht,hh.1,hh.2.1];rfl
 rw[hv,ht2];have hk:=yJ (initK d u) (by
  unfold initK;split
  .omega
  .exact(dt d u).2) (nodeAt d u) (p.flag/4)
 exact F2 hk (F4 hu hh.2.2)
theorem wT {d:List Node}{i code u:Nat}(h:cJ d i code=some u):7<=aI d u\/u<i:=by
 unfold cJ at h;split at h
 .rename_i hc;cases h;exact hc
 .split at h
  .rename_i hi;cases h;exact .inr (Wt _ hi)
  .have:=XH h
   exact .inl (of_decide_eq_true this)
theorem tD {N:List Int}:∀(l:List Mem)(c:Int),1<=c->(∀m∈l,1<=X1 N m.type)->1<=l.foldl (λc m=>min 2 (c*X1 N m.type)) c
 |[],_,h,_=>h
 |m::l,c,h,hm=>tD l _ (by
  have h1:=hm m WH;have:1<=c*X1 N m.type:=by
   have:=Int.mul_le_mul h h1 (by omega) (by omega);omega
  show 1<=min 2 (c*X1 N m.type);omega) λx hx=>hm x (W3 _ hx)
theorem fold_add {N:List Int}:∀(l:List Mem)(c:Int),1<=c->(∀m∈l,1<=X1 N m.type)->1<=l.foldl (λc m=>min 2 (c+X1 N m.type)) c
 |[],_,h,_=>h
 |m::l,c,h,hm=>fold_add l _ (by have:=hm m WH;show 1<=min 2 (c+X1 N m.type);omega) λx hx=>hm x (W3 _ hx)
theorem MV {N:List Int}(h:yQ N)(i:Int):0<=X1 N i:=(h.at i.toNat).1
theorem tE {x:aH}{N:List Int}(h:yQ N)(hk:x.kind=7\/x.kind=8\/x.kind=9):1<=jN false x N:=by
 have:=MV h x.elem;unfold jN;rcases hk with hk|hk|hk<;>rw[hk]
 .simp only[Int.reduceEq,if_false,if_true];split<;>decide
 .simp only[Int.reduceEq,if_false,if_true];split<;>decide
 .simp only[Int.reduceEq,if_false,if_true];omega
theorem qH {d:List Node}{u:Nat}(h:7<=aI d u):(e9 d u).kind=7\/(e9 d u).kind=8\/(e9 d u).kind=9:=by
 have:=dt d u;rcases dG d u with hk|hk|hk|hk|hk|hk|hk|hk|hk
 case inr.inr.inr.inr.inr.inr.inr.inl=>
  rw[nf hk];split<;>simp[aX]
 all_goals first
  |omega
  |simp[e9,hk,aX]
theorem Dx {d:List Node}(h0:0<d.length){N:List Int}(hN:Fix false (ga d) N):∀i,i<d.length->1<=N.getD i 0:=by
 intro i
 induction i using Nat.strongRecOn with
 |ind i ih=>
  intro hi;have hc:=hN.2.2 i _ (p8 hi);rw[hc];have hm:∀m∈(e9 d i).bc,1<=X1 N m.type:=λm hm=>by
   obtain⟨fl,id,p,u,_,ht,hu,ht2⟩:=F5 h0 hi hm;unfold X1;rw[ht2,WX];rcases wT ht with h7|hlt
   .rw[hN.2.2 u _ (p8 hu)];exact tE hN.2.1 (qH h7)
   .exact ih u hlt hu
  rcases dG d i with hk|hk|hk|hk|hk|hk|hk|hk|hk
  .have ht:(e9 d i).kind=1:=by simp[e9,hk,aX]
   simp[jN,ht]
  .have ht:(e9 d i).kind=2:=by simp[e9,hk,aX]
   simp only[jN,ht,if_true];split<;>decide
  .have ht:(e9 d i).kind=3:=by simp[e9,hk,aX]
   simp only[jN,ht,Int.reduceEq,if_false,if_true];split<;>decide
  .have ht:e9 d i={aX 4 (cC i)with syms:=iU (nodeAt d i).a,jO:=decide ((nodeAt d i).b%2=1)}:=by simp[e9,hk]
   have hl:=(jJ (nodeAt d i).a).1;have hl2:(iU (nodeAt d i).a).length=(fP (nodeAt d i).a).length:=Wg _;rw[ht];simp only[jN,aX,Int.reduceEq,if_false,if_true];omega
  .have ht:(e9 d i).kind=5:=by simp[e9,hk,aX]
   simp only[jN,ht,Int.reduceEq,if_false,if_true];exact tD _ _ (by decide) hm
  .by_cases he:(bL d i false (nodeAt d i).parts 12).length=0
   .have ht:(e9 d i).kind=5:=by rw[lA hk,if_pos he];rfl
    simp only[jN,ht,Int.reduceEq,if_false,if_true];exact tD _ _ (by decide) hm
   .have ht:(e9 d i).kind=6:=by rw[lA hk,if_neg he];rfl
    have hl:(e9 d i).bc.length≠0:=by rw[lA hk,if_neg he];exact he
    simp only[jN,ht,Int.reduceEq,if_false,if_true];cases hs:(e9 d i).bc with
    |nil=>rw[hs]at hl;exact absurd rfl hl
    |cons m l=>
     rw[hs]at hm;rw[Xp];exact fold_add _ _ (by have:=hm m WH;omega) λx hx=>hm x (W3 _ hx)
  all_goals exact tE hN.2.1 (qH (by omega))
theorem zj {d:List Node}(h0:0<d.length)(h5:d.length<=5):iW (ga d)=0:=by
 have hf:=(ni false (ga d)).1;have hp:=Dx h0 hf;unfold iW;rw[if_neg (by simp[zi h0 h5]),if_pos];rw[Wu];intro b hb;unfold AS vf at hb;obtain⟨x,hx,rfl⟩:=Wk.1 hb;obtain⟨i,hi⟩:=Wd.1 hx;have hl:=(V9.1 hi).1;have h1:=hf.1;have h2:(ga d).length=d.length:=by simp[ga]
 have:=hp i (by omega);rw[Ws,hi]at this;unfold oO;simp at this |-;omega
def wU (c:UInt8):Prop:=(∀k:Fin 3,isName (fX c k.val)=true)/\∀j k:Fin 3,fX c j.val=fX c k.val->j=k
theorem Vz:wU 67:=⟨by decide,by decide⟩
theorem VA:wU 84:=⟨by decide,by decide⟩
theorem VB:wU 83:=⟨by decide,by decide⟩
theorem Po:wU 77:=⟨by decide,by decide⟩
theorem wU.nm {c:UInt8}(h:wU c){k:Nat}(hk:k<3):isName (fX c k)=true:=h.1 ⟨k,hk⟩
theorem wU.inj {c:UInt8}(h:wU c){j k:Nat}(hj:j<3)(hk:k<3)(e:fX c j=fX c k):j=k:=by
 have:=h.2 ⟨j,hj⟩ ⟨k,hk⟩ e;simpa using this
theorem mf {α:Type}{f:α->ByteArray}{l:List α}(h:(l.map f).Nodup){k:Nat}{c:α}(hc:l[k]?=some c):cY ((l.map f).take k) (f c)=false:=by
 rw[Xz];intro hh;obtain⟨i,hi,e⟩:=List.mem_take_iff_getElem.1 (eI.1 hh);rw[Wg]at hi;obtain⟨hk,e2⟩:=V9.1 hc;rw[List.nodup_iff_pairwise_ne,Xd]at h;refine h i k (by rw[Wg];omega) (by rw[Wg];exact hk) (by omega) ?_;rw[e,List.getElem_map,e2]
theorem oT {α:Type}{f:α->ByteArray}{c:UInt8}(hc:wU c)(g:Nat->Option α)(hg:∀i x,g i=some x->f x=fX c i):∀K,K<=3->(((List.range K).filterMap g).map f).Nodup
 |0,_=>by simp
 |K+1,hK=>by
  have ih:=oT hc g hg K (by omega);rw[Xq,XI,WC];cases hx:g K with
  |none=>simpa [hx]using ih
  |some x=>
   simp only[List.filterMap_cons,hx,List.filterMap_nil,List.map_cons,List.map_nil];rw[Xy];refine⟨ih,by simp,?_⟩;intro a ha b hb e;rw[Xj]at hb;obtain⟨y,hy,rfl⟩:=Wk.1 ha;obtain⟨i,hi,he⟩:=W4.1 hy;have hi:=WJ.1 hi;rw[hb,hg i y he,hg K x hx]at e;have:=hc.inj (by omega) (by omega) e;omega
theorem tF {n:Nat}(h:1<=n)(x:Int):dP n (x%n)=false:=by
 have h0:=XJ x (b:=(n:Int)) (by omega);have h1:=XR x (b:=(n:Int)) (by omega);unfold dP;simp;omega
theorem F6 {P:Int->Prop}{es:List Edge}{e:Edge}(h:∀x∈es,P x.label)(he:P e.label):∀x∈nk es e,P x.label:=λx hx=>by
 rcases yX hx with h1|h1
 .exact h x h1
 .exact h1 ▸ he
theorem Cb {st:Int}:∀(l:List vb)(es:List Edge),(∀x∈es,1<=x.label/\x.label<=3)->∀x∈l.foldl (λes x=>nk es (x.pV st)) es,1<=x.label/\x.label<=3
 |[],_,h=>h
 |a::l,es,h=>Cb l _ (F6 (P:=λx=>1<=x/\x<=3) h (by
  show 1<=1+a.act/2%3/\1+a.act/2%3<=3;omega))
theorem F7 {d:ej}{e:Edge}(h:e∈d.auto.trim.af):1<=e.label/\e.label<=3:=by
 obtain⟨x,hx,_,rfl⟩:=aP.ta.1 h;have hx:=(kl Edge.lt d.raw).subset hx;exact Cb (d.gH.take 12) [] (λy hy=>by simp at hy) x hx
theorem Dy {T:List aH}{u:Int}(h:u∈dD T T.length):0<=u/\u<T.length:=by
 unfold dD at h;obtain⟨i,hi,rfl⟩:=Wk.1 h;have:=WJ.1 (Xl.1 hi).1;omega
theorem F8 {T:List aH}{s:vo}{i:Nat}(hi:i<3)(hN:dD T T.length≠[])(hg:s.a.auto.Good):te T.length ⟨fX 83 i,ek (dD T T.length) s,s.a.auto.trim⟩=0:=by
 have n0:=Po.nm (k:=0) (by omega);have n1:=Po.nm (k:=1) (by omega);have n2:=Po.nm (k:=2) (by omega);have d01:fX 77 0≠fX 77 1:=λe=>by have:=Po.inj (by omega) (by omega) e;omega
 have d02:fX 77 0≠fX 77 2:=λe=>by have:=Po.inj (by omega) (by omega) e;omega
 have d12:fX 77 1≠fX 77 2:=λe=>by have:=Po.inj (by omega) (by omega) e;omega
 have hp:=λx=>Dy (Wa (vp hN x).2);unfold te;have hm:lH ⟨fX 83 i,ek (dD T T.length) s,s.a.auto.trim⟩=true:=by
  unfold lH ek;simp[VB.nm hi,List.range_succ,vi,B2,vh,n0,n1,n2,cY,d01,d02,d12]
 rw[if_neg (by simp[ek]),if_neg (by rw[hm];decide),if_neg,if_neg,if_neg,if_neg]
 .rw[hg.AH];unfold iota;rw[Wg,WI];simp[aP.trim]
 .intro h;obtain⟨e,he,hn⟩:=Xm.1 h;have:=F7 he;have hl:e.label=1\/e.label=2\/e.label=3:=by omega
  rcases hl with hl|hl|hl<;>simp[ek,lG,hl]at hn
 .intro h;exact h (aP.iV.2 hg.trim)
 .intro h;obtain⟨m,hm,hn⟩:=Xm.1 h;unfold dP at hn;have:∃x,m.ty=fY (dD T T.length) x:=by
   unfold ek at hm;simp only[List.mem_cons,List.not_mem_nil,or_false]at hm;rcases hm with rfl|rfl|rfl
   .exact⟨_,rfl⟩
   .exact⟨_,rfl⟩
   .exact⟨_,rfl⟩
  obtain⟨x,hx⟩:=this;have:=hp x;rw[hx]at hn;simp at hn;omega
theorem F9 {nm:ByteArray}{d:Dg}{v:ij}(hn:isName nm=true)(hd:d.ok)(h:MH nm d=some v):cH v:=by
 unfold MH at h;split at h
 rotate_left
 .cases h
 rename_i hc;obtain⟨c1,c2,c3,c4⟩:=hc;cases h;have hD:¬(d.s.length<1\/5<d.s.length):=by
  intro hx;unfold qR at c1;rw[if_pos hx]at c1;cases c1
 have hT:(qR d.s).1=ga d.s:=by
  unfold qR;rw[if_neg hD];rfl
 have hl:(ga d.s).length=d.s.length:=by simp[ga]
 rw[hT];have l1:(eo (ga d.s).length d.calls d.calls.length).length<=3:=WM (eJ _ _) c2;have l2:(fZ (ga d.s) d.aG d.aG.length).length<=2:=WM (eJ _ _) c3;have l3:(gT (ga d.s).length d.aT d.aT.length).length<=3:=WM (eJ _ _) c4;have q1:((eo (ga d.s).length d.calls d.calls.length).map Cal.name).Nodup:=oT Vz _ (λi x hx=>by
  obtain⟨y,_,rfl⟩:=Wx.1 hx;rfl) _ c2
 have q2:((fZ (ga d.s) d.aG d.aG.length).map eE.name).Nodup:=oT VB _ (λi x hx=>by
  obtain⟨y,_,hx⟩:=XP.1 hx;unfold acN at hx;split at hx
  .cases hx;rfl
  .cases hx) _ (by omega)
 have q3:((gT (ga d.s).length d.aT d.aT.length).map Tpc.name).Nodup:=oT VA _ (λi x hx=>by
  obtain⟨y,_,rfl⟩:=Wx.1 hx;rfl) _ c4
 refine⟨⟨by dsimp only;omega,by dsimp only;omega,by dsimp only;omega⟩,hn,zj (by omega) (by omega),λk c hk=>?_,λk c hk=>?_,λk c hk=>?_⟩
 .have hh:=mf q1 hk;obtain⟨i,hi,he⟩:=W4.1 (Wa hk);have hi:=WJ.1 hi;obtain⟨y,_,rfl⟩:=Wx.1 he;unfold qS;dsimp only at hh |-;rw[if_neg (by rw[Vz.nm (by omega)];decide),hh,if_neg (by decide),tF (by omega),tF (by omega)];rfl
 .have hh:=mf q2 hk;obtain⟨i,s,hi,_,hN,rfl,hg⟩:=y9 c3 hd.w c (Wa hk);unfold pY;dsimp only at hh |-;rw[hh,if_neg (by decide)];exact F8 (by omega) hN hg
 .have hh:=mf q3 hk;obtain⟨i,hi,he⟩:=W4.1 (Wa hk);have hi:=WJ.1 hi;obtain⟨y,_,rfl⟩:=Wx.1 he;unfold pX;dsimp only at hh |-;rw[if_neg (by rw[VA.nm (by omega)];decide),hh,if_neg (by decide),tF (by omega)];rfl
theorem adO {b:Bool}{T:List aH}{n m:List Int}(hn:BV b T n)(hl:m.length=T.length)(hm:∀k x,T[k]?=some x->jN b x m<=m.getD k 0)(h:kH n m):∀k,kH (swp b T n k) m
 |0=>h
 |k+1=>by
  have ih:=adO hn hl hm h k;have hw:=(hn.swp k).1;unfold swp;split
  .rename_i x hx;have hk:k<(swp b T n k).length:=by rw[ih.1,hl];exact(V9.1 hx).1
   refine⟨by rw[Xx,ih.1],λi=>?_⟩;rw[ir i hk];split
   .rename_i e;rw[e];exact Int.le_trans (sX b x hw.2.1 ih) (hm k x hx)
   .exact ih.2 i
  .exact ih
theorem adv {b:Bool}{T:List aH}{m:List Int}(hl:m.length=T.length)(h2:yQ m)(hm:∀k x,T[k]?=some x->jN b x m<=m.getD k 0):∀r,kH (kG b T r) m
 |0=>by
  refine⟨by rw[hl];exact XV,λk=>?_⟩;have h1:=h2.at k;show (List.replicate T.length (0:Int)).getD k 0<=_;rw[Ws,XA];split<;>simpa using h1.1
 |r+1=>adO (gF b T r) hl hm (adv hl h2 hm r) _
theorem acL {α:Type}{f g:α->Bool}{l:List α}(h:∀a∈l,f a=g a):l.all f=l.all g:=by
 rw[Xb,Wu,Wu];exact⟨λk a ha=>by rw[<- h a ha];exact k a ha,λk a ha=>by rw[h a ha];exact k a ha⟩
theorem acs {α:Type}{f g:Int->α->Int}:∀(l:List α)(c:Int),(∀c,∀a∈l,f c a=g c a)->l.foldl f c=l.foldl g c
 |[],_,_=>rfl
 |a::l,c,h=>by
  rw[Xp,Xp,h c a WH];exact acs l _ λc b hb=>h c b (W3 _ hb)
theorem ad7 {L:List Int}{x:aH}{N M:List Int}(h:∀u∈cT x,X1 N (fA L u)=X1 M u):jN false (fB L x) N=jN false x M:=by
 have h5:=acs (f:=λc m=>min 2 (c*X1 N (qb L m).type)) (g:=λc m=>min 2 (c*X1 M m.type)) x.bc 1 λc m hm=>by
  show min 2 (c*X1 N (fA L m.type))=_;rw[h _ (abY hm)]
 have h6:=acs (f:=λc m=>min 2 (c+X1 N (qb L m).type)) (g:=λc m=>min 2 (c+X1 M m.type)) x.bc 0 λc m hm=>by
  show min 2 (c+X1 N (fA L m.type))=_;rw[h _ (abY hm)]
 have he:7<=x.kind->X1 N (fA L x.elem)=X1 M x.elem:=λh7=>h _ (acf h7);unfold jN fB;dsimp only;rw[List.foldl_map,List.foldl_map,h5,h6];by_cases h7:7<=x.kind
 .rw[if_pos h7,he h7];simp
 .simp[show ¬x.kind=7 by omega,show ¬x.kind=8 by omega,show ¬x.kind=9 by omega]
theorem abV.pos {l:List aH}{L:List Int}(h:abV l L)(hp:∀i,i<l.length->1<=(vf l).getD i 0):∀k,k<L.length->1<=(vf (G2 l L)).getD k 0:=by
 obtain⟨f1,f2,f3⟩:=(ni false (G2 l L)).1;have hl:(G2 l L).length=L.length:=by simp[G2]
 have hN:vf (G2 l L)=kG false (G2 l L) (2*(G2 l L).length+1):=rfl;rw[<- hN]at f1 f2 f3;generalize vf (G2 l L)=N at *
 let M:List Int:=(List.range l.length).map λ(u:Nat)=>if (u:Int)∈L then X1 N (fA L u) else 2
 have hM:∀u:Nat,u<l.length->M.getD u 0=if (u:Int)∈L then X1 N (fA L u) else 2:=λu hu=>by
  rw[Ws,Wf,Xr hu];rfl
 have hM2:yQ M:=λx hx=>by
  obtain⟨u,_,rfl⟩:=Wk.1 hx;split
  .exact f2.at _
  .omega
 have hML:M.length=l.length:=by simp[M]
 have hMi:∀u∈L,X1 M u=X1 N (fA L u):=λu hu=>by
  obtain⟨u0,u1⟩:=h.VD u hu;have:=hM u.toNat (by omega);rw[aby u0,if_pos hu]at this;exact this
 have hpre:=adv (b:=false) hML hM2 (λk x hx=>by
  have hk:=(V9.1 hx).1;rw[hM k hk];split
  .rename_i hkL;obtain⟨i0,i1,i2⟩:=abO hkL;have hc:=f3 _ _ (abZ i2);have hxt:ji l (k:Int)=x:=by
    have:=uT (l:=l) (i:=k) (by omega) (by omega);rw[WX,hx]at this;exact(Option.some.inj this).symm
   rw[hxt]at hc;rw[show X1 N (fA L k)=N.getD (fA L k).toNat 0 from rfl,hc,ad7 λu hu=>(hMi u (h.cl k hkL u (by rw[hxt];exact hu))).symm];exact XS _
  .exact(wE false x hM2).2) (2*l.length+1)
 intro k hk;obtain⟨u,hu⟩:=get_some hk;have huL:=Wa hu;obtain⟨u0,u1⟩:=h.VD u huL;have h1:=hp u.toNat (by omega);have h2:=hpre.2 u.toNat;have h3:=hMi u huL;rw[ac5 h.nodup hu]at h3;unfold X1 at h3;rw[WX]at h3;have h4:(vf l).getD u.toNat 0=(kG false l (2*l.length+1)).getD u.toNat 0:=rfl;omega
theorem abV.fit {l:List aH}{L:List Int}(h:abV l L):∀(n:Nat)(t:Int)(cs:List PV),t∈L->fa (G2 l L) n (fA L t) cs=fa l n t cs
 |0,_,_,_=>rfl
 |n+1,t,cs,ht=>by
  have ih:=abV.fit h n;obtain⟨t0,t1⟩:=h.VD t ht;obtain⟨i0,i1,i2⟩:=abO ht;have e1:(if fA L t<0 then none else (G2 l L)[(fA L t).toNat]?)=some (fB L (ji l t)):=by
   rw[if_neg (by omega),abZ i2]
  have e2:(if t<0 then none else l[t.toNat]?)=some (ji l t):=by
   rw[if_neg (by omega),uT t0 t1]
  have hu:=h.cl t ht;have hlow:=H7 ((eZ h.v).own _ (Wa (uT t0 t1)));generalize ji l t=x at *;have hx:∀v:dz,gh (fa (G2 l L) n) (fB L x) v=gh (fa l n) x v:=λv=>by
   have k5:((x.bc.map (qb L)).zip v.items).all (λq=>fa (G2 l L) n q.1.type q.2)=(x.bc.zip v.items).all λq=>fa l n q.1.type q.2:=by
    rw[List.zip_map_left,List.all_map];refine acL λq hq=>?_;exact ih _ _ (hu _ (abY (List.of_mem_zip hq).1))
   have k6:(x.bc.map (qb L)).find? (qP v.id)=(x.bc.find? (qP v.id)).map (qb L):=by
    rw[List.find?_map];rfl
   have ke:∀r,7<=x.kind->fa (G2 l L) n (fA L x.elem) r=fa l n x.elem r:=λr h7=>ih _ _ (hu _ (acf h7));have kk:∀r,x.kind=8->fa (G2 l L) n (fA L x.key) r=fa l n x.key r:=λr h8=>ih _ _ (hu _ (ou h8));unfold gh fB;dsimp only;rw[k5,k6,Wg];by_cases h7:7<=x.kind
   .have h7':∀q:List (List PV),q.all (fa (G2 l L) n (fA L x.elem))=q.all (fa l n x.elem):=λq=>acL λr _=>ke r h7;rw[if_pos h7];simp only[show ¬x.kind=1 by omega,show ¬x.kind=2 by omega,show ¬x.kind=3 by omega,show ¬x.kind=4 by omega,show ¬x.kind=5 by omega,show ¬x.kind=6 by omega,if_false,h7'];by_cases h8:x.kind=8
    .have h8':∀q:List (List PV),q.all (fa (G2 l L) n (fA L x.key))=q.all (fa l n x.key):=λq=>acL λr _=>kk r h8;simp only[h8,if_true,h8']
    .simp only[h8,if_false]
   .simp only[show ¬x.kind=7 by omega,show ¬x.kind=8 by omega,if_false,h7];by_cases h6:x.kind=6
    .simp only[h6,if_true];cases hf:x.bc.find? (qP v.id)with
     |none=>rfl
     |some m=>
      have hm:=ih m.type;have:=hu _ (abY (afu hf));cases hi:v.items with
      |nil=>rfl
      |cons r q=>
       cases q with
       |nil=>
        exact hm r this
       |cons=>rfl
    .rcases(show x.kind=1\/x.kind=2\/x.kind=3\/x.kind=4\/x.kind=5 by omega)with hk|hk|hk|hk|hk<;>simp only[hk,Int.reduceEq,if_true,if_false]
  unfold fa;split
  .rw[e1,e2];dsimp only;rw[hx];rfl
  .rfl
theorem abV.right {l:List aH}{L:List Int}(h:abV l L)(hr:gi l=0):gi (G2 l L)=0:=by
 obtain⟨hv,hm⟩:=lD hr;refine F1 h.valid λx hx m' hm' hh=>?_;obtain⟨u,hu,rfl⟩:=Wk.1 hx;obtain⟨m,hmm,rfl⟩:=Wk.1 hm';obtain⟨u0,u1⟩:=h.VD u hu;have hul:=Wa (uT u0 u1);have hf:=hm _ hul m hmm hh;have huse:=h.cl u hu _ (abY hmm)
 classical
 unfold tZ at hf |-;obtain⟨n,h1,h2⟩:=of_decide_eq_true hf;exact decide_eq_true ⟨n,h1,by
  show fa (G2 l L) n (fA L m.type) m.ib.c=true;rw[h.fit n _ _ huse];exact h2⟩
theorem ac3 {T:List aH}:iW T=0↔gi T=0/\∀i,i<T.length->1<=(vf T).getD i 0:=by
 have hl:=vg T;unfold iW;by_cases hr:gi T=0
 .rw[if_neg (by simp[hr])];by_cases ha:(AS T).all id=true
  .rw[if_pos ha];refine⟨λ_=>⟨hr,λi hi=>?_⟩,λ_=>rfl⟩;rw[Wu]at ha;obtain⟨x,hx⟩:=get_some (l:=vf T) (k:=i) (by omega);have:=ha (oO x) (abQ (Wa hx));rw[Ws,hx];unfold oO at this;simp at this |-;omega
  .rw[if_neg ha];refine⟨λh=>(by cases h),λh=>absurd ?_ ha⟩;rw[Wu];intro b hb;obtain⟨x,hx,rfl⟩:=Wk.1 hb;obtain⟨i,hi⟩:=Wd.1 hx;have:=h.2 i (by have:=(V9.1 hi).1;omega);rw[Ws,hi]at this;unfold oO;simp at this |-;omega
 .rw[if_pos hr];exact⟨λh=>absurd h hr,λh=>absurd h.1 hr⟩
theorem abV.sound {l:List aH}{L:List Int}(h:abV l L)(hs:iW l=0):iW (G2 l L)=0:=by
 obtain⟨h1,h2⟩:=ac3.1 hs;have hl:(G2 l L).length=L.length:=by simp[G2]
 exact ac3.2 ⟨h.right h1,λi hi=>h.pos h2 i (by omega)⟩
structure V5 (v:ij):Prop where
 o:∀t∈v.types,t.ok
 s:∀t∈v.types,t.held
 sl:v.aG.length<=2^63 - 1
 n:bC v.name
 c:∀c∈v.calls,bC c.name
 w:∀w∈v.aG,bC w.name/\∀m∈w.msgs,bC m.name
 p:∀c∈v.aT,bC c.name
theorem aem {v w:ij}(hv:cH v)(hw:cH w)(h:FZ v w=true):(vE v w).1=true/\(vE v w).2=0:=by
 unfold vE;rw[if_neg (by rw[hv.err];decide),if_neg (by rw[hw.err];decide)];exact⟨h,rfl⟩
theorem cH.of {v:ij}(zn:v.calls.length<=8/\v.aG.length<=8/\v.aT.length<=8)(nm:isName v.name=true)(sound:iW v.types=0)
  (c:(v.calls.map Cal.name).Nodup/\∀c∈v.calls,isName c.name=true/\(0<=c.ud/\c.ud<v.types.length)/\0<=c.rep/\c.rep<v.types.length)
  (s:(v.aG.map eE.name).Nodup/\∀w∈v.aG,te v.types.length w=0)
  (t:(v.aT.map Tpc.name).Nodup/\∀c∈v.aT,isName c.name=true/\0<=c.ty/\c.ty<v.types.length):cH v:=by
 have ho:∀{n:Nat}{u:Int},0<=u/\u<n->dP n u=false:=λh=>by
  unfold dP;simp;omega
 refine⟨zn,nm,sound,λk x hk=>?_,λk x hk=>?_,λk x hk=>?_⟩
 .obtain⟨h1,h2,h3⟩:=c.2 x (Wa hk);unfold qS;rw[if_neg (by rw[h1];decide),mf c.1 hk,if_neg (by decide),ho h2,ho h3];rfl
 .unfold pY;rw[mf s.1 hk,if_neg (by decide)];exact s.2 x (Wa hk)
 .obtain⟨h1,h2⟩:=t.2 x (Wa hk);unfold pX;rw[if_neg (by rw[h1];decide),mf t.1 hk,if_neg (by decide),ho h2];rfl
theorem cH.ch {v:ij}(h:cH v):∀c∈v.calls,isName c.name=true/\(0<=c.ud/\c.ud<v.types.length)/\0<=c.rep/\c.rep<v.types.length:=λc hc=>by
 obtain⟨k,hk⟩:=Wd.1 hc;have:=pZ (h.TA k c hk);exact⟨this.1,this.2.2⟩
theorem cH.df {v:ij}(h:cH v):∀c∈v.aT,isName c.name=true/\0<=c.ty/\c.ty<v.types.length:=λc hc=>by
 obtain⟨k,hk⟩:=Wd.1 hc;have:=p4 (h.top k c hk);exact⟨this.1,this.2.2⟩
theorem ab9 {v:ij}(h:cS v.types=0):abV v.types (ae v) where
 v:=h
 Ps:=ac0 _ _
 VD u hu:=by
  obtain⟨h0,h1,_⟩:=za.1 hu;exact⟨h0,h1⟩
 cl u hu x hx:=za.2 (ac1 (za.1 hu) hx)
theorem aca (v:ij):(cg v).types=G2 v.types (ae v):=rfl
theorem acu (v:ij):(cg v).types.length=(ae v).length:=by rw[aca];simp[G2]
theorem acd {v:ij}{u:Int}(hu:u∈ae v):0<=fA (ae v) u/\fA (ae v) u<(cg v).types.length:=by
 obtain⟨h0,h1,_⟩:=abO hu;rw[acu];exact⟨h0,h1⟩
structure ae1 (v:ij):Prop where
 c:∀c∈v.calls,c.ud∈ae v/\c.rep∈ae v
 s:∀w∈v.aG,∀m∈w.msgs,m.ty∈ae v
 t:∀c∈v.aT,c.ty∈ae v
theorem cH.adK {v:ij}(h:cH v):ae1 v:=by
 have hr:∀r∈A1 v,r∈ae v:=λr hr=>za.2 (acz h.valid h.root r hr);refine⟨λc hc=>⟨hr _ ?_,hr _ ?_⟩,λw hw m hm=>hr _ ?_,λc hc=>hr _ ?_⟩
 .exact List.mem_append_left _ (List.mem_append_left _ (List.mem_flatMap.2 ⟨c,hc,by simp⟩))
 .exact List.mem_append_left _ (List.mem_append_left _ (List.mem_flatMap.2 ⟨c,hc,by simp⟩))
 .exact Xa _ (Xt _ (afw.2 ⟨w,hw,abQ hm⟩))
 .exact Xt _ (abQ hc)
theorem acC {α:Type}{f:α->ByteArray}{g:α->α}(h:∀x,f (g x)=f x)(l:List α):(l.map g).map f=l.map f:=by
 rw[Xw];exact afr λx _=>h x
theorem ad8 {n:Nat}{w:eE}(h:Fz n w):te n w=0:=by
 unfold te;rw[if_neg (by have:=h.zn;omega),if_neg (by rw[h.V7];decide),if_neg,if_neg (by rw[h.au];decide),if_neg,if_neg (λk=>k h.all)]
 .intro k;obtain⟨e,he,hn⟩:=Xm.1 k;rw[h.V8 e he]at hn;cases hn
 .intro k;obtain⟨m,hm,hn⟩:=Xm.1 k;have:=h.ty m hm;unfold dP at hn;simp at hn;omega
theorem adw (L:List Int)(w:eE):lH (fC L w)=lH w:=by
 have e1:∀k,(fC L w).msgs[k]?=w.msgs[k]?.map (abM L):=λk=>Wf;have e2:∀k,vh (fC L w).msgs k=vh w.msgs k:=λk=>by
  unfold vh;rw[e1];cases w.msgs[k - 1]?<;>rfl
 have e3:∀k,((fC L w).msgs.take k).map (·.name)=(w.msgs.take k).map (·.name):=λk=>by
  show ((w.msgs.map (abM L)).take k).map (·.name)=_;rw[<- abp,Xw];rfl
 have e4:∀k,vi (fC L w).msgs k=vi w.msgs k:=λk=>by
  unfold vi;rw[e1];cases w.msgs[k]? with
  |none=>rfl
  |some m=>
   dsimp only[Option.map_some];unfold B2;rw[e2,e3];rfl
 have e5:(fC L w).msgs.length=w.msgs.length:=Wg _;unfold lH;rw[e5,funext e4];rfl
theorem ace {v:ij}(h:cH v):cH (cg v):=by
 have hs:=ab9 h.valid;have hr:=h.adK;refine .of (by have:=h.zn;simp only[cg,List.length_map];exact this) h.nm (hs.sound h.sound) ⟨?_,λc hc=>?_⟩ ⟨?_,λw hw=>?_⟩ ⟨?_,λc hc=>?_⟩
 .show ((v.calls.map (kF (ae v))).map Cal.name).Nodup;rw[acC (f:=Cal.name) (g:=kF _) λ_=>rfl];exact h.BT
 .obtain⟨c,hm,rfl⟩:=Wk.1 hc;exact⟨(h.ch c hm).1,acd (hr.c c hm).1,acd (hr.c c hm).2⟩
 .show ((v.aG.map (fC (ae v))).map eE.name).Nodup;rw[acC (f:=eE.name) (g:=fC _) λ_=>rfl];exact h.HB
 .obtain⟨w,hw2,rfl⟩:=Wk.1 hw;have hg:=h.wK w hw2;refine ad8 ⟨by rw[show (fC (ae v) w).msgs.length=_ from Wg _];exact hg.zn,by rw[adw];exact hg.V7,λm hm=>?_,hg.au,λe he=>?_,hg.all⟩
  .obtain⟨m,hm2,rfl⟩:=Wk.1 hm;exact acd (hr.s w hw2 m hm2)
  .show (w.msgs.map (abM (ae v))).any (lG e.label)=true;rw[abr];exact hg.V8 e he
 .show ((v.aT.map (lg (ae v))).map Tpc.name).Nodup;rw[acC (f:=Tpc.name) (g:=lg _) λ_=>rfl];exact h.HC
 .obtain⟨c,hm,rfl⟩:=Wk.1 hc;exact⟨(h.df c hm).1,acd (hr.t c hm)⟩
theorem adL (L:List Int)(t:aH):p5 (fB L t)=(p5 t).map λu=>(u.1,fA L u.2):=by
 have e1:oP (t.bc.map (qb L))=(oP t.bc).map λu=>(u.1,fA L u.2):=by
  unfold oP;rw[Xw,Xw];rfl
 unfold p5 fB;dsimp only;rw[e1,WC,WC];by_cases h8:t.kind=8
 .simp[h8]
 .by_cases h7:7<=t.kind<;>simp[h8,h7]
theorem adx (L:List Int)(t:aH):ep t (fB L t)=true:=by
 have:HP (fB L t)=HP t:=by
  unfold HP fB;dsimp only;rw[Xw];rfl
 unfold ep;rw[this,fI]
theorem ab4 {v:ij}(h:cH v)(tv:FO v.types){u:Int}(hu:u∈ae v):gG v.types (cg v).types u (fA (ae v) u)=true:=by
 have hs:=ab9 h.valid;have hat:∀u∈ae v,ji (G2 v.types (ae v)) (fA (ae v) u)=fB (ae v) (ji v.types u):=λu hu=>by
  obtain⟨_,_,h2⟩:=abO hu;unfold ji;rw[abZ h2];rfl
 obtain⟨u0,u1⟩:=hs.VD u hu;obtain⟨i0,i1⟩:=acd hu;have hc:∀u:Int,u∈ae v->((u.toNat:Nat):Int)=u/\(((fA (ae v) u).toNat:Nat):Int)=fA (ae v) u:=λu hu=>by
  obtain⟨u0,_⟩:=hs.VD u hu;obtain⟨i0,_⟩:=acd hu;exact⟨aby u0,aby i0⟩
 have:=Zi (A:=v.types) (B:=(cg v).types) (S:=λp q=>∃u∈ae v,p=u.toNat/\q=(fA (ae v) u).toNat) (λp q ⟨u,hu,hp,hq⟩=>by
  obtain⟨u0,u1⟩:=hs.VD u hu;obtain⟨i0,i1⟩:=acd hu;omega) (λp q ⟨u,hu,hp,hq⟩=>by
  rw[hp,hq,(hc u hu).1,(hc u hu).2,aca,hat u hu];exact adx _ _) (λM hM p q ⟨u,hu,hp,hq⟩=>by
  rw[hp,hq,(hc u hu).1,(hc u hu).2,aca,hat u hu];unfold HQ;rw[adL];refine Yt.2 ⟨(Wg _).symm,λi a b ha hb=>?_⟩;rw[Wf,ha]at hb;cases hb;have hxu:a.2∈ae v:=by
   obtain⟨u0,u1⟩:=hs.VD u hu;have hm:=Wa (uT u0 u1);have ho:=(eZ h.valid).own _ hm;exact hs.cl u hu _ (Dq (Wa ha) ⟨H7 ho,yx ho⟩)
  have:=hM _ _ ⟨a.2,hxu,rfl,rfl⟩;rw[(hc _ hxu).1,(hc _ hxu).2]at this;exact this) u.toNat (fA (ae v) u).toNat ⟨u,hu,rfl,rfl⟩
 rw[(hc u hu).1,(hc u hu).2]at this;exact this
theorem acM {v:ij}(h:cH v)(tv:FO v.types):FZ v (cg v)=true:=by
 have hg:=ace h;have hr:=h.adK;refine(Y5 v (cg v)).2 ⟨⟨(Wg _).symm,(Wg _).symm,(Wg _).symm⟩,Wu.2 λc hc=>(YA hg.BT).2 ⟨_,abQ hc,rfl,?_⟩,Wu.2 λc hc=>(YA hg.HC).2 ⟨_,abQ hc,rfl,?_⟩,Wu.2 λc hc=>(YA hg.HB).2 ⟨_,abQ hc,rfl,?_⟩⟩
 .show (gG _ _ c.ud (fA (ae v) c.ud)&&gG _ _ c.rep (fA (ae v) c.rep))=true;rw[ab4 h tv (hr.c c hc).1,ab4 h tv (hr.c c hc).2];rfl
 .show gG _ _ c.ty (fA (ae v) c.ty)=true;rw[ab4 h tv (hr.t c hc)]
 .have hsg:=h.wK c hc;unfold Sd;rw[show Ic c.auto (fC (ae v) c).auto=true from ael hsg.au,Bool.and_true];refine Yt.2 ⟨(Wg _).symm,λi m n hm hn=>?_⟩;rw[show (fC (ae v) c).msgs[i]?=_ from Wf,hm]at hn;cases hn;show (decide (m.id=m.id)&&gG _ _ m.ty (fA (ae v) m.ty))=true;rw[ab4 h tv (hr.s c hc m (Wa hm)),decide_eq_true rfl];rfl
theorem ady (v:ij):A1 (cg v)=(A1 v).map (fA (ae v)):=by
 unfold A1 BT HB HC cg;simp only[List.map_append,List.map_flatMap,List.flatMap_map,List.map_map];have e:(λa=>UP (fC (ae v) a).msgs)=λa=>(UP a.msgs).map (fA (ae v)):=funext λa=>by
  unfold UP fC;simp only[List.map_map];rfl
 rw[e];rfl
theorem ac8 {v:ij}(h:cH v):cg (cg v)=cg v:=by
 have hg:=ace h;have hs:=ab9 h.valid;have hlen:=acu v;have hrs:∀r∈A1 v,r∈ae v:=λr hr=>za.2 (acz h.valid h.root r hr);have hk:ae (cg v)=upI (cg v).types.length:=by
  refine aer (ac0 _ _) (adM _) λx=>?_;rw[za];constructor
  .rintro ⟨x0,x1,_⟩
   exact Wk.2 ⟨x.toNat,WJ.2 (by omega),by omega⟩
  .intro hx;obtain⟨k,hk,rfl⟩:=Wk.1 hx;have hk:=WJ.1 hk;obtain⟨u,hu⟩:=get_some (l:=ae v) (k:=k) (by omega);have huL:=Wa hu;have hik:fA (ae v) u=k:=ac5 hs.nodup hu;obtain⟨u0,u1,u2⟩:=za.1 huL;obtain⟨r,hr,hur⟩:=(acb u0).1 u2;refine⟨by omega,by omega,(acb (by omega)).2 ⟨fA (ae v) r,by rw[ady];exact abQ hr,?_⟩⟩;obtain⟨r0,r1⟩:=h.root r hr;have hRr:O8 (nxT v.types) r u:=by
    have hkn:=adm h.valid r0 r1;unfold ma at hur;rw[if_neg (λh=>h hkn)]at hur;have hur:=(dc Gz _).mem_iff.1 hur;unfold ab7 at hur;rw[Hv (P:=inT v.types) (eZ h.valid).next abI ⟨r0,r1⟩]at hur;exact hur
   obtain⟨_,hgo⟩:=hs.afa (hrs r hr) hRr;obtain⟨i0,i1⟩:=acd (hrs r hr);have hkn:=adm hg.valid i0 i1;unfold ma;rw[if_neg (λh=>h hkn)];refine(dc Gz _).mem_iff.2 ?_;unfold ab7;rw[Hv (P:=inT (cg v).types) (eZ hg.valid).next abI ⟨i0,i1⟩,<- hik];exact hgo
 have hr:=hg.adK;have hin:∀x∈ae (cg v),fA (upI (cg v).types.length) x=x:=λx hx=>by
  obtain⟨x0,x1,_⟩:=za.1 hx;exact aev x0 x1
 have hshow:cg (cg v)=⟨(cg v).name,(ae (cg v)).map λu=>fB (ae (cg v)) (ji (cg v).types u),(cg v).calls.map (kF (ae (cg v))),(cg v).aG.map (fC (ae (cg v))),(cg v).aT.map (lg (ae (cg v)))⟩:=rfl;have hs2:=ab9 hg.valid;have e1:((ae (cg v)).map λu=>fB (ae (cg v)) (ji (cg v).types u))=(cg v).types:=by
  have:((ae (cg v)).map λu=>fB (ae (cg v)) (ji (cg v).types u))=(ae (cg v)).map λu=>ji (cg v).types u:=by
   refine afr λu hu=>adG λx hx=>?_;have hx:=hs2.cl u hu x hx;have:=hin x hx;rw[<- hk]at this;exact this
  rw[this,hk];apply afC
  .simp[upI]
  .intro i h1 h2;simp only[upI,List.map_map,List.getElem_map,List.getElem_range,Function.comp];exact oQ (Wb h2)
 have e2:(cg v).calls.map (kF (ae (cg v)))=(cg v).calls:=by
  rw[afr (g:=id) (λc hc=>?_),afD];have:=hr.c c hc;unfold kF;rw[hk]at this |-;rw[hin c.ud (by rw[hk];exact this.1),hin c.rep (by rw[hk];exact this.2)];rfl
 have e3:(cg v).aG.map (fC (ae (cg v)))=(cg v).aG:=by
  rw[afr (g:=id) (λw hw=>?_),afD];unfold fC;rw[afr (g:=id) (λm hm=>?_),afD]
  .rfl
  have:=hr.s w hw m hm;unfold abM;rw[hk]at this |-;rw[hin m.ty (by rw[hk];exact this)];rfl
 have e4:(cg v).aT.map (lg (ae (cg v)))=(cg v).aT:=by
  rw[afr (g:=id) (λc hc=>?_),afD];have:=hr.t c hc;unfold lg;rw[hk]at this |-;rw[hin c.ty (by rw[hk];exact this)];rfl
 rw[hshow,e1,e2,e3,e4]
theorem adz {L:List Int}{t:aH}(h:t.held):(fB L t).held:=⟨h.syms,by
 show (t.bc.map (qb L)).length<=_;rw[Wg];exact h.bc⟩
theorem ac9 {v:ij}(hv:iX v)(hl:v.types.length<=5):iX (cg v):=by
 have hin:∀t∈(cg v).types,∃x∈v.types,t=fB (ae v) x:=λt ht=>by
  obtain⟨u,hu,rfl⟩:=Wk.1 ht;obtain⟨u0,u1,_⟩:=za.1 hu;exact⟨_,Wa (uT u0 u1),rfl⟩
 have hk:(ae v).length<=v.types.length:=by
  unfold ae abN;rw[Wg];exact acg _ _
 refine⟨hv.nm,by rw[acu];omega,λt ht=>?_,λt ht=>?_,by rw[show (cg v).calls.length=_ from Wg _];exact hv.cl,λc hc=>?_,by rw[show (cg v).aG.length=_ from Wg _];exact hv.sl,λw hw=>?_,by rw[show (cg v).aT.length=_ from Wg _];exact hv.pl,λc hc=>?_⟩
 .obtain⟨x,hx,rfl⟩:=hin t ht;exact ac2 (by omega) (hv.to x hx)
 .obtain⟨x,hx,rfl⟩:=hin t ht;exact adz (hv.ts x hx)
 .obtain⟨x,hx,rfl⟩:=Wk.1 hc;exact hv.cs x hx
 .obtain⟨x,hx,rfl⟩:=Wk.1 hw;obtain⟨h1,h2,h3,h4⟩:=hv.ss x hx;refine⟨h1,by rw[show (fC (ae v) x).msgs.length=_ from Wg _];exact h2,λm hm=>?_,h4⟩;obtain⟨y,hy,rfl⟩:=Wk.1 hm;exact h3 y hy
 .obtain⟨x,hx,rfl⟩:=Wk.1 hc;exact hv.ps x hx
set_option maxRecDepth 20000 in
set_option maxHeartbeats 8000000 in
theorem r399 (r404:res A aA 404 []=some [.bool true])(d:Dg)(hd:d.ok):res A aA 399 [.agg d.c]=some [.bool true]:=by
 refine aw a399 rfl rfl ?_;simp only[F399,aeI];have h419:=r419 ⟨#[118,49]⟩ d hd;cases ho:MH ⟨#[118,49]⟩ d with
 |none=>
  rw[ho]at h419;simp only[Dg.c]at h419 |-;simp(disch:=omega)only[go_sem,r404,h419]
 |some v=>
  rw[ho]at h419;obtain⟨hv,l1,l2,l3,l4,l5⟩:=Di (by unfold bC;decide) hd ho;have hg:=F9 (by decide) hd ho;have tv:=(hg.vt hv).vW;have hs:=ace hg;have hw:=ac9 hv l1;have e2:=aem hg hs (acM hg tv);have h421:=r421 0 0 0 0 0 0 0 0 v (cg v) hv hw;rw[e2.1,e2.2]at h421;have h408:=r408 0 0 0 0 v hv;have h408':=r408 0 0 0 0 (cg v) hw;rw[if_pos hg.err]at h408;rw[if_pos hs.err,ac8 hg]at h408';have h407:=r407 0 0 0 0 (cg v) hw;have h406:=r406 0 0 0 0 (cg v) hw;rw[hs.err]at h407 h406;have h409':=adu hv l1 l2 l3 l4 l5;generalize cg v=sv at *;simp only[Dg.c,lB]at *;simp(disch:=omega)only[go_sem,r404,h419,h408,h408',h421,h407,h406,h409']
theorem r404:res A aA 404 []=some [.bool true]:=jz.2 ⟨3000,by kernel_rfl⟩
variable {P:Program}
theorem qI {n:Nat}{t:TypeId}{cs:List PV}(hu:P.underlying t=some (.int .u8))(h:typed P n t cs):∃x:Nat,cs=[.int .u8 x]/\x<=255:=by
 cases n with
 |zero=>exact h.elim
 |succ n=>
  obtain⟨x,rfl,h1,h2⟩:=CF hu h;have h1:(0:Int)<=x:=h1;have h2:x<=(255:Int):=h2;refine⟨x.toNat,?_,by omega⟩;rw[aby h1]
structure tK (P:Program)(dr nd pt ln lp t8:TypeId):Prop where
 u:P.underlying t8=some (.int .u8)
 n:P.underlying ln=some (.slice nd)
 p:P.underlying lp=some (.slice pt)
 d:∃fs,P.underlying dr=some (.struct fs)/\fs.toList.map (·.type)=[ln]
 x:∃fs,P.underlying nd=some (.struct fs)/\fs.toList.map (·.type)=[t8,t8,t8,t8,lp]
 q:∃fs,P.underlying pt=some (.struct fs)/\fs.toList.map (·.type)=[t8,t8,t8]
section
variable {dr nd pt ln lp t8:TypeId}
theorem A7 (T:tK P dr nd pt ln lp t8){n:Nat}{cs:List PV}(h:typed P n pt cs):∃p:Part,cs=p.c/\p.ok:=by
 cases n with
 |zero=>exact h.elim
 |succ n=>
  obtain⟨fs,hu,hts⟩:=T.q;obtain⟨r0,q0,rfl,h0,r1,q1,rfl,h1,r2,q2,rfl,h2,rfl⟩:=dK hu hts h;obtain⟨a,rfl,ha⟩:=qI T.u h0;obtain⟨b,rfl,hb⟩:=qI T.u h1;obtain⟨c,rfl,hc⟩:=qI T.u h2;exact⟨⟨a,b,c⟩,rfl,ha,hb,hc⟩
theorem A8 (T:tK P dr nd pt ln lp t8){n:Nat}{cs:List PV}(h:typed P n nd cs):∃x:Node,cs=x.cs/\x.ok:=by
 cases n with
 |zero=>exact h.elim
 |succ n=>
  obtain⟨fs,hu,hts⟩:=T.x;obtain⟨r0,q0,rfl,h0,r1,q1,rfl,h1,r2,q2,rfl,h2,r3,q3,rfl,h3,r4,q4,rfl,h4,rfl⟩:=dK hu hts h;obtain⟨k,rfl,hk⟩:=qI T.u h0;obtain⟨a,rfl,ha⟩:=qI T.u h1;obtain⟨b,rfl,hb⟩:=qI T.u h2;obtain⟨c,rfl,hc⟩:=qI T.u h3;obtain⟨ps,rfl,hl,hp⟩:=jH T.p (λm cs _ hh=>A7 T hh) h4;exact⟨⟨k,a,b,c,ps⟩,by simp[Node.cs],⟨hk,ha,hb,hc⟩,hl,hp⟩
theorem zk (T:tK P dr nd pt ln lp t8){n:Nat}{cs:List PV}(h:typed P n dr cs):∃d:List Node,cs=[.aq 0 (d.map Node.cs)]/\bP d/\∀x∈d,x.ok:=by
 cases n with
 |zero=>exact h.elim
 |succ n=>
  obtain⟨fs,hu,hts⟩:=T.d;obtain⟨r0,q0,rfl,h0,rfl⟩:=dK hu hts h;obtain⟨l,rfl,k,g⟩:=jH T.n (λm cs _ hh=>A8 T hh) h0;exact⟨l,by simp,k,g⟩
end
end Go.Pv
namespace Go.Pv
variable {P:Program}
structure DA (P:Program)(vd sd lc cl ls ss ad la ar a3 lt t8:TypeId):Prop where
 u:P.underlying t8=some (.int .u8)
 v:∃fs,P.underlying vd=some (.struct fs)/\fs.toList.map (·.type)=[sd,lc,ls,lt]
 lc:P.underlying lc=some (.slice cl)
 c:P.underlying cl=some (.array 2 t8)
 ls:P.underlying ls=some (.slice ss)
 s:∃fs,P.underlying ss=some (.struct fs)/\fs.toList.map (·.type)=[ad,a3]
 a:∃fs,P.underlying ad=some (.struct fs)/\fs.toList.map (·.type)=[t8,la]
 la:P.underlying la=some (.slice ar)
 r:∃fs,P.underlying ar=some (.struct fs)/\fs.toList.map (·.type)=[t8,t8,t8]
 b:P.underlying a3=some (.array 3 t8)
 lt:P.underlying lt=some (.slice t8)
section
variable {vd sd lc cl ls ss ad la ar a3 lt t8 nd pt ln lp:TypeId}
theorem iZ {n:Nat}{t:TypeId}{cs:List PV}(hu:P.underlying t=some (.int .u8))(h:typed P n t cs):∃x:Int,cs=[.int .u8 x]/\MG x:=by
 obtain⟨x,rfl,hx⟩:=qI hu h;exact⟨x,rfl,by unfold MG;omega⟩
theorem DB (T:DA P vd sd lc cl ls ss ad la ar a3 lt t8){n:Nat}{cs:List PV}(h:typed P n cl cs):∃c:Int×Int,cs=Pj c/\MG c.1/\MG c.2:=by
 cases n with
 |zero=>exact h.elim
 |succ n=>
  obtain⟨r0,q0,rfl,h0,r1,q1,rfl,h1,rfl⟩:=qw T.c h;obtain⟨x,rfl,hx⟩:=iZ T.u h0;obtain⟨y,rfl,hy⟩:=iZ T.u h1;exact⟨(x,y),rfl,hx,hy⟩
theorem DC (T:DA P vd sd lc cl ls ss ad la ar a3 lt t8){n:Nat}{cs:List PV}(h:typed P n ar cs):∃x:vb,cs=x.c/\x.ok:=by
 cases n with
 |zero=>exact h.elim
 |succ n=>
  obtain⟨fs,hu,hts⟩:=T.r;obtain⟨r0,q0,rfl,h0,r1,q1,rfl,h1,r2,q2,rfl,h2,rfl⟩:=dK hu hts h;obtain⟨x,rfl,hx⟩:=iZ T.u h0;obtain⟨y,rfl,hy⟩:=iZ T.u h1;obtain⟨z,rfl,hz⟩:=iZ T.u h2;exact⟨⟨x,y,z⟩,rfl,hx,hy,hz⟩
theorem DD (T:DA P vd sd lc cl ls ss ad la ar a3 lt t8){n:Nat}{cs:List PV}(h:typed P n ad cs):∃d:ej,cs=[.int .u8 d.n,.aq 0 (d.gH.map vb.c)]/\d.ok:=by
 cases n with
 |zero=>exact h.elim
 |succ n=>
  obtain⟨fs,hu,hts⟩:=T.a;obtain⟨r0,q0,rfl,h0,r1,q1,rfl,h1,rfl⟩:=dK hu hts h;obtain⟨x,rfl,hx⟩:=iZ T.u h0;obtain⟨l,rfl,hl,ho⟩:=jH T.la (λm cs _ h=>DC T h) h1;exact⟨⟨x,l⟩,rfl,hx,hl,ho⟩
theorem DE (T:DA P vd sd lc cl ls ss ad la ar a3 lt t8){n:Nat}{cs:List PV}(h:typed P n ss cs):∃s:vo,cs=s.c/\s.ok:=by
 cases n with
 |zero=>exact h.elim
 |succ n=>
  obtain⟨fs,hu,hts⟩:=T.s;obtain⟨r0,q0,rfl,h0,r1,q1,rfl,h1,rfl⟩:=dK hu hts h;obtain⟨d,rfl,hd⟩:=DD T h0;cases n with
  |zero=>exact h1.elim
  |succ n=>
   obtain⟨r3,q3,rfl,g0,r4,q4,rfl,g1,r5,q5,rfl,g2,rfl⟩:=qw T.b h1;obtain⟨x,rfl,hx⟩:=iZ T.u g0;obtain⟨y,rfl,hy⟩:=iZ T.u g1;obtain⟨z,rfl,hz⟩:=iZ T.u g2;exact⟨⟨d,x,y,z⟩,rfl,hd,hx,hy,hz.1,hz.2⟩
theorem DF (T:DA P vd sd lc cl ls ss ad la ar a3 lt t8)(U:tK P sd nd pt ln lp t8){n:Nat}{cs:List PV}(h:typed P n vd cs):∃d:Dg,cs=d.c/\d.ok:=by
 cases n with
 |zero=>exact h.elim
 |succ n=>
  obtain⟨fs,hu,hts⟩:=T.v;obtain⟨r0,q0,rfl,h0,r1,q1,rfl,h1,r2,q2,rfl,h2,r3,q3,rfl,h3,rfl⟩:=dK hu hts h;obtain⟨s,rfl,hl,ho⟩:=zk U h0;obtain⟨c,rfl,hc,hco⟩:=jH T.lc (λm cs _ h=>DB T h) h1;obtain⟨w,rfl,hw,hwo⟩:=jH T.ls (λm cs _ h=>DE T h) h2;obtain⟨t,rfl,ht,hto⟩:=jH (c:=Pk) T.lt (λm cs _ h=>iZ T.u h) h3;exact⟨⟨s,c,w,t⟩,rfl,ho,hl,hco,hc,hwo,hw,hto,ht⟩
end
end Go.Pv
