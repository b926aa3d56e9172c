/-
 What the functions of the law give.
-/
import Derived.Test.YtpchfogcccagjaaGreatC10
set_option linter.unusedSimpArgs false
set_option linter.unusedVariables false
open List renaming mem_of_getElem? → Wa, getElem?_eq_some_iff → V9, mem_iff_getElem? → Wd, length_map → Wg, getElem?_map → Wf, mem_map → Wk, length_range → WI, getD_eq_getElem?_getD → Ws, mem_cons_of_mem → W3, map_append → WC, all_eq_true → Wu, mem_cons_self → WH, mem_range → WJ, any_eq_false → WY, mem_singleton → Xj, mem_filterMap → W4, findIdx?_eq_none_iff → Xe, getElem?_range → Xr, range_succ → Xq, any_eq_true → Xm, pairwise_iff_getElem → Xd, mem_filter → Xl, foldl_cons → Xp, find?_eq_none → Xn, nodup_append → Xy, find?_some → XH, filterMap_append → XI, mem_map_of_mem → abQ
open Option renaming map_eq_some_iff → Wx, bind_eq_some_iff → XP
open Nat renaming mod_lt → Wt, le_trans → WM, mod_eq_of_lt → XO
open Int renaming toNat_natCast → WX, emod_nonneg → XJ, emod_lt_of_pos → XR, toNat_of_nonneg → aby
open Bool renaming and_eq_true → XX, eq_false_iff → Xz
namespace Go.Pv
@[go_sem] theorem cw404 (vs:List V)(h:aa)(K:V->Tn->Prop):CW A aA 404 vs h K=CN A aA false 404 vs h K:=cd vs h K
theorem F1 {T:List aH}(hv:cS T=0)(h:∀x∈T,∀m∈x.bc,m.has=true->tZ T m.type m.ib.c=true):gi T=0:=by
 unfold gi I2;rw[if_neg (by simp[hv])];have:T.findIdx? (pR T)=none:=by
  rw[Xe];intro x hx;unfold pR;rw[WY];intro m hm;unfold ng;cases hh:m.has with
  |false=>simp
  |true=>rw[h x hx m hm hh];simp
 rw[this]
theorem F2 {T:List aH}{n:Nat}{t:Int}{cs:List PV}(h:mu n cs)(hf:fa T n t cs=true):tZ T t cs=true:=by
 classical
 unfold tZ;exact decide_eq_true ⟨n,h,hf⟩
def ga (d:List Node):List aH:=(List.range d.length).map (aS d)
theorem p8 {d:List Node}{u:Nat}(hu:u<d.length):(ga d)[u]?=some (aS d u):=by
 unfold ga;rw[Wf,Xr hu];rfl
theorem me {d:List Node}(h0:0<d.length)(c:Nat):js d c=none↔∀i,i<d.length->¬aI d i<=4:=by
 unfold js;rw[Option.map_eq_none_iff,Xn];constructor
 .intro h i hi hk;have hc:c%d.length<d.length:=Wt _ h0;refine h ((i+d.length - c%d.length)%d.length) (WJ.2 (Wt _ h0)) ?_;have e:(c+(i+d.length - c%d.length)%d.length)%d.length=i:=by
   rw[Nat.add_mod_mod,<- Nat.mod_add_mod,show c%d.length+(i+d.length - c%d.length)=i+d.length by omega,Nat.add_mod_right,XO hi]
  rw[e];exact decide_eq_true hk
 .intro h k _ hk;exact h _ (Wt _ h0) (of_decide_eq_true hk)
theorem F3 (a code:Nat):yE a code∈fP a:=by
 have h:=jJ a;obtain⟨x,hx⟩:=get_some (l:=fP a) (k:=code%(fP a).length) (Wt _ h.1);unfold yE;rw[hx];exact Wa hx
theorem Dv {α:Type}{p:α->Bool}{l:List α}{x:α}(hx:x∈l)(hp:p x=true):0<=bj p l:=by
 unfold bj;cases h:l.findIdx? p with
 |none=>
  have:=Xe.1 h x hx;rw[hp]at this;cases this
 |some k=>simp
theorem F4 {d:List Node}{u code:Nat}(hu:u<d.length)(h:(dQ (initK d u) (nodeAt d u) code).2=true):fa (ga d) 1 u (dQ (initK d u) (nodeAt d u) code).1.c=true:=by
 have h0:0<d.length:=by omega
 rw[sU,if_neg (by omega),WX,p8 hu];have hz:∀v:dz,km v=true↔((v.kind=1\/v.bool=false)/\(v.kind=2\/v.int=0)/\(v.kind=3\/v.str=⟨#[]⟩)/\(v.kind=4\/v.kind=6\/v.id=0)/\(v.kind=8\/v.keys=[])/\(5<=v.kind\/v.items=[])/\(v.kind=5\/v.kind=6\/v.rest=[])):=λv=>by
  unfold km;rw[decide_eq_true_eq]
 have hz8:km ⟨8,false,0,⟨#[]⟩,0,[],[],[]⟩=true:=(hz _).2 (by simp);have hz7:km ⟨7,false,0,⟨#[]⟩,0,[],[],[]⟩=true:=(hz _).2 (by simp);have hz9:km ⟨9,false,0,⟨#[]⟩,0,[],[],[]⟩=true:=(hz _).2 (by simp);rcases dG d u with hk|hk|hk|hk|hk|hk|hk|hk|hk
 .have hi:initK d u=1:=by simp[initK,hk]
  have ht:aS d u=aX 1 ⟨#[]⟩:=by simp[aS,hk]
  rw[hi,ht];have:=λb=>(hz ⟨1,b,0,⟨#[]⟩,0,[],[],[]⟩).2 (by simp);simp[dQ,bl,aX,gh,this]
 .have hi:initK d u=2:=by simp[initK,hk]
  have ht:aS d u={aX 2 ⟨#[]⟩ with low:=jD (nodeAt d u),high:=lq (nodeAt d u)}:=by simp[aS,hk]
  rw[hi,ht];have:=λi=>(hz ⟨2,false,i,⟨#[]⟩,0,[],[],[]⟩).2 (by simp);have h6:code%((nodeAt d u).b%6+1)<(nodeAt d u).b%6+1:=Wt _ (by omega);have e:((code:Int)%((nodeAt d u).b%6+1))=((code%((nodeAt d u).b%6+1):Nat):Int):=by simp
  simp[dQ,bl,aX,gh,this,lq];omega
 .have hi:initK d u=3:=by simp[initK,hk]
  have ht:aS d u={aX 3 ⟨#[]⟩ with max:=((nodeAt d u).a%4:Nat)}:=by simp[aS,hk]
  rw[hi,ht];have:=λs=>(hz ⟨3,false,0,s,0,[],[],[]⟩).2 (by simp);have s1:(⟨#[97]⟩:ByteArray).size=1:=rfl;have s0:(⟨#[]⟩:ByteArray).size=0:=rfl;simp[dQ,bl,aX,gh,this];split<;>simp only[s0,s1]<;>omega
 .have hi:initK d u=4:=by simp[initK,hk]
  have ht:aS d u={aX 4 (cC u)with syms:=iU (nodeAt d u).a,jO:=decide ((nodeAt d u).b%2=1)}:=by simp[aS,hk]
  rw[hi,ht];have:=λi=>(hz ⟨4,false,0,⟨#[]⟩,i,[],[],[]⟩).2 (by simp);have hf:=Dv (p:=qQ (yE (nodeAt d u).a code:Int)) (List.mem_map.2 ⟨_,F3 (nodeAt d u).a code,rfl⟩:nc (yE (nodeAt d u).a code)∈iU (nodeAt d u).a) (by simp[qQ,nc]);simp[dQ,bl,aX,gh,this];exact hf
 .have hi:initK d u=5:=by simp[initK,hk]
  rw[hi]at h;simp[dQ]at h
 .have hi:initK d u=6:=by simp[initK,hk]
  rw[hi]at h;simp[dQ]at h
 .have hi:initK d u=7:=by simp[initK,hk]
  have ht:aS d u={aX 7 ⟨#[]⟩ with max:=((nodeAt d u).a%4:Nat),elem:=((nodeAt d u).c%d.length:Nat)}:=by simp[aS,hk]
  rw[hi,ht];simp[dQ,bl,aX,gh,hz7];omega
 .rw[nf hk];by_cases hn:js d 0=none
  .have hi:initK d u=7:=by simp[initK,hk,hn]
   rw[if_pos ((me h0 _).2 ((me h0 0).1 hn)),hi];simp[dQ,bl,aX,gh,hz7];omega
  .have hi:initK d u=8:=by simp[initK,hk,hn]
   rw[if_neg (λe=>hn ((me h0 0).2 ((me h0 _).1 e))),hi];simp[dQ,bl,aX,gh,hz8,C1];omega
 .have hi:initK d u=9:=by simp[initK,hk]
  have ht:aS d u={aX 9 ⟨#[]⟩ with elem:=((nodeAt d u).c%d.length:Nat)}:=by simp[aS,hk]
  rw[hi,ht];simp[dQ,bl,aX,gh,hz9]
theorem Dw {d:List Node}{i:Nat}{m:Mem}(h:m∈(aS d i).bc):∃fl,m∈bL d i fl (nodeAt d i).parts 12:=by
 rcases dG d i with hk|hk|hk|hk|hk|hk|hk|hk|hk
 case inr.inr.inr.inr.inr.inl=>
  rw[lA hk]at h;split at h
  .simp[aX]at h
  .exact⟨false,h⟩
 case inr.inr.inr.inr.inl=>
  have ht:aS d i={aX 5 (cC i)with bc:=bL d i true (nodeAt d i).parts 12}:=by simp[aS,hk]
  rw[ht]at h;exact⟨true,h⟩
 case inr.inr.inr.inr.inr.inr.inr.inl=>
  rw[nf hk]at h;split at h<;>simp[aX]at h
 all_goals simp[aS,hk,aX]at h
theorem F5 {d:List Node}{i:Nat}(h0:0<d.length)(hi:i<d.length){m:Mem}(h:m∈(aS d i).bc):∃(fl:Bool)(id:Nat)(p:Part)(u:Nat),m=dC d i fl id p/\cJ d i p.type=some u/\u<d.length/\m.type=u:=by
 obtain⟨fl,h⟩:=Dw h;obtain⟨id,p,rfl,hh,_⟩:=kj h;unfold mY at hh;cases ht:cJ d i p.type with
 |none=>simp[ht]at hh
 |some u=>
  refine⟨fl,id,p,u,rfl,ht,kh h0 hi ht,?_⟩;show fH (cJ d i p.type)=u;rw[ht];rfl
theorem zi {d:List Node}(h0:0<d.length)(h5:d.length<=5):gi (ga d)=0:=by
 refine F1 (CV h0 h5) λx hx m hm hh=>?_;obtain⟨i,hi,rfl⟩:=Wk.1 hx;obtain⟨fl,id,p,u,rfl,ht,hu,ht2⟩:=F5 h0 (WJ.1 hi) hm;have hd:(dC d i fl id p).has=(fl&&(decide (2<=p.flag%4)&&(lz d u p).2)):=by
  unfold dC;rw[ht];rfl
 rw[hd,XX,XX]at hh;have hv:(dC d i fl id p).ib=(lz d u p).1:=by
  unfold dC;rw[ht,hh.1,hh.2.1];rfl
 rw[hv,ht2];have hk:=yJ (initK d u) (by
  unfold initK;split
  .omega
  .exact(dt d u).2) (nodeAt d u) (p.flag/4)
 exact F2 hk (F4 hu hh.2.2)
theorem wT {d:List Node}{i code u:Nat}(h:cJ d i code=some u):7<=aI d u\/u<i:=by
 unfold cJ at h;split at h
 .rename_i hc;cases h;exact hc
 .split at h
  .rename_i hi;cases h;exact .inr (Wt _ hi)
  .have:=XH h
   exact .inl (of_decide_eq_true this)
theorem tD {N:List Int}:∀(l:List Mem)(c:Int),1<=c->(∀m∈l,1<=X1 N m.type)->1<=l.foldl (λc m=>min 2 (c*X1 N m.type)) c
 |[],_,h,_=>h
 |m::l,c,h,hm=>tD l _ (by
  have h1:=hm m WH;have:1<=c*X1 N m.type:=by
   have:=Int.mul_le_mul h h1 (by omega) (by omega);omega
  show 1<=min 2 (c*X1 N m.type);omega) λx hx=>hm x (W3 _ hx)
theorem fold_add {N:List Int}:∀(l:List Mem)(c:Int),1<=c->(∀m∈l,1<=X1 N m.type)->1<=l.foldl (λc m=>min 2 (c+X1 N m.type)) c
 |[],_,h,_=>h
 |m::l,c,h,hm=>fold_add l _ (by have:=hm m WH;show 1<=min 2 (c+X1 N m.type);omega) λx hx=>hm x (W3 _ hx)
theorem MV {N:List Int}(h:yQ N)(i:Int):0<=X1 N i:=(h.at i.toNat).1
theorem tE {x:aH}{N:List Int}(h:yQ N)(hk:x.kind=7\/x.kind=8\/x.kind=9):1<=jN false x N:=by
 have:=MV h x.elem;unfold jN;rcases hk with hk|hk|hk<;>rw[hk]
 .simp only[Int.reduceEq,if_false,if_true];split<;>decide
 .simp only[Int.reduceEq,if_false,if_true];split<;>decide
 .simp only[Int.reduceEq,if_false,if_true];omega
theorem qH {d:List Node}{u:Nat}(h:7<=aI d u):(aS d u).kind=7\/(aS d u).kind=8\/(aS d u).kind=9:=by
 have:=dt d u;rcases dG d u with hk|hk|hk|hk|hk|hk|hk|hk|hk
 case inr.inr.inr.inr.inr.inr.inr.inl=>
  rw[nf hk];split<;>simp[aX]
 all_goals first
  |omega
  |simp[aS,hk,aX]
theorem Dx {d:List Node}(h0:0<d.length){N:List Int}(hN:Fix false (ga d) N):∀i,i<d.length->1<=N.getD i 0:=by
 intro i
 induction i using Nat.strongRecOn with
 |ind i ih=>
  intro hi;have hc:=hN.2.2 i _ (p8 hi);rw[hc];have hm:∀m∈(aS d i).bc,1<=X1 N m.type:=λm hm=>by
   obtain⟨fl,id,p,u,_,ht,hu,ht2⟩:=F5 h0 hi hm;unfold X1;rw[ht2,WX];rcases wT ht with h7|hlt
   .rw[hN.2.2 u _ (p8 hu)];exact tE hN.2.1 (qH h7)
   .exact ih u hlt hu
  rcases dG d i with hk|hk|hk|hk|hk|hk|hk|hk|hk
  .have ht:(aS d i).kind=1:=by simp[aS,hk,aX]
   simp[jN,ht]
  .have ht:(aS d i).kind=2:=by simp[aS,hk,aX]
   simp only[jN,ht,if_true];split<;>decide
  .have ht:(aS d i).kind=3:=by simp[aS,hk,aX]
   simp only[jN,ht,Int.reduceEq,if_false,if_true];split<;>decide
  .have ht:aS d i={aX 4 (cC i)with syms:=iU (nodeAt d i).a,jO:=decide ((nodeAt d i).b%2=1)}:=by simp[aS,hk]
   have hl:=(jJ (nodeAt d i).a).1;have hl2:(iU (nodeAt d i).a).length=(fP (nodeAt d i).a).length:=Wg _;rw[ht];simp only[jN,aX,Int.reduceEq,if_false,if_true];omega
  .have ht:(aS d i).kind=5:=by simp[aS,hk,aX]
   simp only[jN,ht,Int.reduceEq,if_false,if_true];exact tD _ _ (by decide) hm
  .by_cases he:(bL d i false (nodeAt d i).parts 12).length=0
   .have ht:(aS d i).kind=5:=by rw[lA hk,if_pos he];rfl
    simp only[jN,ht,Int.reduceEq,if_false,if_true];exact tD _ _ (by decide) hm
   .have ht:(aS d i).kind=6:=by rw[lA hk,if_neg he];rfl
    have hl:(aS d i).bc.length≠0:=by rw[lA hk,if_neg he];exact he
    simp only[jN,ht,Int.reduceEq,if_false,if_true];cases hs:(aS d i).bc with
    |nil=>rw[hs]at hl;exact absurd rfl hl
    |cons m l=>
     rw[hs]at hm;rw[Xp];exact fold_add _ _ (by have:=hm m WH;omega) λx hx=>hm x (W3 _ hx)
  all_goals exact tE hN.2.1 (qH (by omega))
theorem zj {d:List Node}(h0:0<d.length)(h5:d.length<=5):iW (ga d)=0:=by
 have hf:=(ni false (ga d)).1;have hp:=Dx h0 hf;unfold iW;rw[if_neg (by simp[zi h0 h5]),if_pos];rw[Wu];intro b hb;unfold AS vf at hb;obtain⟨x,hx,rfl⟩:=Wk.1 hb;obtain⟨i,hi⟩:=Wd.1 hx;have hl:=(V9.1 hi).1;have h1:=hf.1;have h2:(ga d).length=d.length:=by simp[ga]
 have:=hp i (by omega);rw[Ws,hi]at this;unfold oO;simp at this |-;omega
def wU (c:UInt8):Prop:=(∀k:Fin 3,isName (fX c k.val)=true)/\∀j k:Fin 3,fX c j.val=fX c k.val->j=k
theorem Vz:wU 67:=⟨by decide,by decide⟩
theorem VA:wU 84:=⟨by decide,by decide⟩
theorem VB:wU 83:=⟨by decide,by decide⟩
theorem Po:wU 77:=⟨by decide,by decide⟩
theorem wU.nm {c:UInt8}(h:wU c){k:Nat}(hk:k<3):isName (fX c k)=true:=h.1 ⟨k,hk⟩
theorem wU.inj {c:UInt8}(h:wU c){j k:Nat}(hj:j<3)(hk:k<3)(e:fX c j=fX c k):j=k:=by
 have:=h.2 ⟨j,hj⟩ ⟨k,hk⟩ e;simpa using this
theorem mf {α:Type}{f:α->ByteArray}{l:List α}(h:(l.map f).Nodup){k:Nat}{c:α}(hc:l[k]?=some c):cY ((l.map f).take k) (f c)=false:=by
 rw[Xz];intro hh;obtain⟨i,hi,e⟩:=List.mem_take_iff_getElem.1 (eI.1 hh);rw[Wg]at hi;obtain⟨hk,e2⟩:=V9.1 hc;rw[List.nodup_iff_pairwise_ne,Xd]at h;refine h i k (by rw[Wg];omega) (by rw[Wg];exact hk) (by omega) ?_;rw[e,List.getElem_map,e2]
theorem oT {α:Type}{f:α->ByteArray}{c:UInt8}(hc:wU c)(g:Nat->Option α)(hg:∀i x,g i=some x->f x=fX c i):∀K,K<=3->(((List.range K).filterMap g).map f).Nodup
 |0,_=>by simp
 |K+1,hK=>by
  have ih:=oT hc g hg K (by omega);rw[Xq,XI,WC];cases hx:g K with
  |none=>simpa [hx]using ih
  |some x=>
   simp only[List.filterMap_cons,hx,List.filterMap_nil,List.map_cons,List.map_nil];rw[Xy];refine⟨ih,by simp,?_⟩;intro a ha b hb e;rw[Xj]at hb;obtain⟨y,hy,rfl⟩:=Wk.1 ha;obtain⟨i,hi,he⟩:=W4.1 hy;have hi:=WJ.1 hi;rw[hb,hg i y he,hg K x hx]at e;have:=hc.inj (by omega) (by omega) e;omega
theorem tF {n:Nat}(h:1<=n)(x:Int):dP n (x%n)=false:=by
 have h0:=XJ x (b:=(n:Int)) (by omega);have h1:=XR x (b:=(n:Int)) (by omega);unfold dP;simp;omega
theorem F6 {P:Int->Prop}{es:List Edge}{e:Edge}(h:∀x∈es,P x.label)(he:P e.label):∀x∈nk es e,P x.label:=λx hx=>by
 rcases yX hx with h1|h1
 .exact h x h1
 .exact h1 ▸ he
theorem Cb {st:Int}:∀(l:List vb)(es:List Edge),(∀x∈es,1<=x.label/\x.label<=3)->∀x∈l.foldl (λes x=>nk es (x.pV st)) es,1<=x.label/\x.label<=3
 |[],_,h=>h
 |a::l,es,h=>Cb l _ (F6 (P:=λx=>1<=x/\x<=3) h (by
  show 1<=1+a.act/2%3/\1+a.act/2%3<=3;omega))
theorem F7 {d:ej}{e:Edge}(h:e∈d.auto.trim.af):1<=e.label/\e.label<=3:=by
 obtain⟨x,hx,_,rfl⟩:=aP.ta.1 h;have hx:=(kl Edge.lt d.raw).subset hx;exact Cb (d.gH.take 12) [] (λy hy=>by simp at hy) x hx
theorem Dy {T:List aH}{u:Int}(h:u∈dD T T.length):0<=u/\u<T.length:=by
 unfold dD at h;obtain⟨i,hi,rfl⟩:=Wk.1 h;have:=WJ.1 (Xl.1 hi).1;omega
theorem F8 {T:List aH}{s:vo}{i:Nat}(hi:i<3)(hN:dD T T.length≠[])(hg:s.a.auto.Good):te T.length ⟨fX 83 i,ek (dD T T.length) s,s.a.auto.trim⟩=0:=by
 have n0:=Po.nm (k:=0) (by omega);have n1:=Po.nm (k:=1) (by omega);have n2:=Po.nm (k:=2) (by omega);have d01:fX 77 0≠fX 77 1:=λe=>by have:=Po.inj (by omega) (by omega) e;omega
 have d02:fX 77 0≠fX 77 2:=λe=>by have:=Po.inj (by omega) (by omega) e;omega
 have d12:fX 77 1≠fX 77 2:=λe=>by have:=Po.inj (by omega) (by omega) e;omega
 have hp:=λx=>Dy (Wa (vp hN x).2);unfold te;have hm:lH ⟨fX 83 i,ek (dD T T.length) s,s.a.auto.trim⟩=true:=by
  unfold lH ek;simp[VB.nm hi,List.range_succ,vi,B2,vh,n0,n1,n2,cY,d01,d02,d12]
 rw[if_neg (by simp[ek]),if_neg (by rw[hm];decide),if_neg,if_neg,if_neg,if_neg]
 .rw[hg.AH];unfold iota;rw[Wg,WI];simp[aP.trim]
 .intro h;obtain⟨e,he,hn⟩:=Xm.1 h;have:=F7 he;have hl:e.label=1\/e.label=2\/e.label=3:=by omega
  rcases hl with hl|hl|hl<;>simp[ek,lG,hl]at hn
 .intro h;exact h (aP.iV.2 hg.trim)
 .intro h;obtain⟨m,hm,hn⟩:=Xm.1 h;unfold dP at hn;have:∃x,m.ty=fY (dD T T.length) x:=by
   unfold ek at hm;simp only[List.mem_cons,List.not_mem_nil,or_false]at hm;rcases hm with rfl|rfl|rfl
   .exact⟨_,rfl⟩
   .exact⟨_,rfl⟩
   .exact⟨_,rfl⟩
  obtain⟨x,hx⟩:=this;have:=hp x;rw[hx]at hn;simp at hn;omega
theorem F9 {nm:ByteArray}{d:Dg}{v:ij}(hn:isName nm=true)(hd:d.ok)(h:MH nm d=some v):cH v:=by
 unfold MH at h;split at h
 rotate_left
 .cases h
 rename_i hc;obtain⟨c1,c2,c3,c4⟩:=hc;cases h;have hD:¬(d.s.length<1\/5<d.s.length):=by
  intro hx;unfold qR at c1;rw[if_pos hx]at c1;cases c1
 have hT:(qR d.s).1=ga d.s:=by
  unfold qR;rw[if_neg hD];rfl
 have hl:(ga d.s).length=d.s.length:=by simp[ga]
 rw[hT];have l1:(eo (ga d.s).length d.calls d.calls.length).length<=3:=WM (eJ _ _) c2;have l2:(fZ (ga d.s) d.aG d.aG.length).length<=2:=WM (eJ _ _) c3;have l3:(gT (ga d.s).length d.aT d.aT.length).length<=3:=WM (eJ _ _) c4;have q1:((eo (ga d.s).length d.calls d.calls.length).map gX.name).Nodup:=oT Vz _ (λi x hx=>by
  obtain⟨y,_,rfl⟩:=Wx.1 hx;rfl) _ c2
 have q2:((fZ (ga d.s) d.aG d.aG.length).map eE.name).Nodup:=oT VB _ (λi x hx=>by
  obtain⟨y,_,hx⟩:=XP.1 hx;unfold acN at hx;split at hx
  .cases hx;rfl
  .cases hx) _ (by omega)
 have q3:((gT (ga d.s).length d.aT d.aT.length).map hC.name).Nodup:=oT VA _ (λi x hx=>by
  obtain⟨y,_,rfl⟩:=Wx.1 hx;rfl) _ c4
 refine⟨⟨by dsimp only;omega,by dsimp only;omega,by dsimp only;omega⟩,hn,zj (by omega) (by omega),λk c hk=>?_,λk c hk=>?_,λk c hk=>?_⟩
 .have hh:=mf q1 hk;obtain⟨i,hi,he⟩:=W4.1 (Wa hk);have hi:=WJ.1 hi;obtain⟨y,_,rfl⟩:=Wx.1 he;unfold qS;dsimp only at hh |-;rw[if_neg (by rw[Vz.nm (by omega)];decide),hh,if_neg (by decide),tF (by omega),tF (by omega)];rfl
 .have hh:=mf q2 hk;obtain⟨i,s,hi,_,hN,rfl,hg⟩:=y9 c3 hd.w c (Wa hk);unfold pY;dsimp only at hh |-;rw[hh,if_neg (by decide)];exact F8 (by omega) hN hg
 .have hh:=mf q3 hk;obtain⟨i,hi,he⟩:=W4.1 (Wa hk);have hi:=WJ.1 hi;obtain⟨y,_,rfl⟩:=Wx.1 he;unfold pX;dsimp only at hh |-;rw[if_neg (by rw[VA.nm (by omega)];decide),hh,if_neg (by decide),tF (by omega)];rfl
theorem r457 (u:Nat)(ns:List Node)(cs:List YD)(hn:ns.length*32<=140737488351232)(hc:cs.length<=2000000)(hp:X7 ns)(hco:∀c∈cs,c.ok):∃ms,ms.length=ns.length/\X7 ms/\res A aA 457 [.agg [.aq 0 (ns.map Node.cs)],.aq u (cs.map YD.c)]=some [.agg [.aq 0 (ms.map Node.cs)]]:=by
 have h:=abm u ns cs hn hc hp hco (λex s=>∃ms:List Node,(ms.length=ns.length/\X7 ms)/\GZ F457.results F457.fresh [.agg [.aq 0 (ms.map Node.cs)]] .mk ex s) (λms ar v hl ho hv=>by
  refine⟨ms,⟨hl,ho⟩,?_⟩;simp only[F457,Z8];rcases hv with⟨rfl,rfl⟩|⟨rfl,body,hb,hr⟩
  .simp only[go_sem]
  .have k:=Zn.keep (⟨body,hb,hr⟩:Zn ar 0 0 5 (ms.map Node.cs)) [(4,[.own 0 0 0 ms.length])] [];rw[Wg]at k;simp only[go_sem,k])
 obtain⟨ms,⟨h1,h2⟩,hw⟩:=W.some h;exact⟨ms,h1,h2,aw a457 rfl rfl hw⟩
theorem r422 (u:Nat)(d:Dg)(cs:List YD)(hn:d.s.length*32<=140737488351232)(hc:cs.length<=2000000)(hp:X7 d.s)(hco:∀c∈cs,c.ok):∃ms,ms.length=d.s.length/\X7 ms/\res A aA 422 [.agg d.c,.aq u (cs.map YD.c)]=some [.agg (Dg.c {d with s:=ms})]:=by
 obtain⟨ms,h1,h2,h3⟩:=r457 u d.s cs hn hc hp hco;refine⟨ms,h1,h2,aw a422 rfl rfl ?_⟩;simp only[F422,aaB,Dg.c];simp(disch:=omega)only[go_sem,h3]
theorem made (nm:ByteArray)(h1:isName nm=true)(h2:bC nm)(d:Dg)(hd:d.ok):∃v b,res A aA 419 [.agg d.c,.str nm]=some [.agg (lB 0 0 0 0 v),.bool b]/\(b=true->iX v/\cH v):=by
 have h:=r419 nm d hd;cases ho:MH nm d with
 |none=>
  rw[ho]at h;exact⟨aa7,false,h,nofun⟩
 |some v=>
  rw[ho]at h;exact⟨v,true,h,λ_=>⟨(Di h2 hd ho).1,F9 h1 hd ho⟩⟩
theorem YC {v w:ij}(hv:iX v)(hw:iX w)(gv:cH v)(gw:cH w):vE w v=vE v w:=by
 simp only[vE,gv.err,gw.err,ne_eq,not_true,if_false,ZH gw gv (gw.vt hw).vW (gv.vt hv).vW]
set_option maxRecDepth 20000 in
set_option maxHeartbeats 16000000 in
theorem r400 (r404:res A aA 404 []=some [.bool true])(d o:Dg)(hd:d.ok)(ho:o.ok)(hs:d.s.length*32<=140737488351232)(hp:∀x∈d.s,x.parts.length*3<=140737488351232)(l:List YD)(hl:bP l)(hc:∀c∈l,c.ok):res A aA 400 [.agg d.c,.aq 0 (l.map YD.c),.agg o.c]=some [.bool true]:=by
 refine aw a400 rfl rfl ?_;simp only[F400,aaw];unfold bP at hl;have c0:d.c=[.aq 0 (d.s.map Node.cs),.aq 0 (d.calls.map Pj),.aq 0 (d.aG.map vo.c),.aq 0 (d.aT.map Pk)]:=rfl;have c1:o.c=[.aq 0 (o.s.map Node.cs),.aq 0 (o.calls.map Pj),.aq 0 (o.aG.map vo.c),.aq 0 (o.aT.map Pk)]:=rfl;by_cases h5:5<l.length
 .rw[c0,c1];simp(disch:=omega)only[go_sem,r404];refine Br.aJ (λh=>?_) (λh=>?_)
  .simp(disch:=omega)only[go_sem,r404]
  .omega
 obtain⟨ms,m1,m2,h422⟩:=r422 0 d l (by omega) (by omega) (λx hx=>⟨hd.s x hx,by have:=hp x hx;omega⟩) hc;obtain⟨v1,b1,e1,f1⟩:=made ⟨#[118,49]⟩ (by decide) (by unfold bC;decide) d hd;obtain⟨v2,b2,e2,f2⟩:=made ⟨#[118,50]⟩ (by decide) (by unfold bC;decide) {d with s:=ms} ⟨λx hx=>(m2 x hx).1,by unfold bP;dsimp only;omega,hd.c,hd.cl,hd.w,hd.wl,hd.t,hd.tl⟩;obtain⟨v3,b3,e3,f3⟩:=made ⟨#[118,51]⟩ (by decide) (by unfold bC;decide) o ho;have c2:Dg.c {d with s:=ms}=[.aq 0 (ms.map Node.cs),.aq 0 (d.calls.map Pj),.aq 0 (d.aG.map vo.c),.aq 0 (d.aT.map Pk)]:=rfl;rw[c0]at e1 h422 |-;rw[c1]at e3 |-;rw[c2]at e2 h422;clear c0 c1 c2 hd ho;simp only[lB]at e1 e2 e3;simp(disch:=omega)only[go_sem,r404];refine Br.aJ (λh=>?_) (λh=>?_)
 .omega
 cases b1 with
 |false=>
  cases b2<;>cases b3<;>simp(disch:=omega)only[go_sem,r404,e1,e2,e3,h422]
 |true=>
  cases b2 with
  |false=>cases b3<;>simp(disch:=omega)only[go_sem,r404,e1,e2,e3,h422]
  |true=>
   cases b3 with
   |false=>simp(disch:=omega)only[go_sem,r404,e1,e2,e3,h422]
   |true=>
    simp(disch:=omega)only[go_sem,r404,e1,e2,e3,h422];obtain⟨s1,g1⟩:=f1 rfl;obtain⟨s2,g2⟩:=f2 rfl;obtain⟨s3,g3⟩:=f3 rfl;have a2:=r423 0 0 0 0 0 0 0 0 v1 v2 s1 s2;have a3:=r423 0 0 0 0 0 0 0 0 v1 v3 s1 s3;have b2:=r421 0 0 0 0 0 0 0 0 v1 v2 s1 s2;have b3:=r421 0 0 0 0 0 0 0 0 v1 v3 s1 s3;have c2:=r421 0 0 0 0 0 0 0 0 v2 v1 s2 s1;have c3:=r421 0 0 0 0 0 0 0 0 v3 v1 s3 s1;rw[YC s1 s2 g1 g2]at c2;rw[YC s1 s3 g1 g3]at c3;generalize (vE v1 v2).1=p2 at *;generalize (vE v1 v2).2=q2 at *;generalize (vE v1 v3).1=p3 at *;generalize (vE v1 v3).2=q3 at *;simp only[lB]at a2 a3 b2 b3 c2 c3;refine W.fv 2 (λk=>⟨[(7,.ptr 7 0),(59,.tl [[.str v2.name,.aq 0 (v2.types.map aH.c),.aq 0 (ch v2.calls),.aq 0 (aG v2.aG),.aq 0 (df v2.aT)],[.str v3.name,.aq 0 (v3.types.map aH.c),.aq 0 (ch v3.calls),.aq 0 (aG v3.aG),.aq 0 (df v3.aT)]]),(60,.pv (.int .i64 ((2:Nat):Int))),(61,.pv (.int .i64 k))],⟨[(7,[.pv (.str v1.name),.pv (.aq 0 (v1.types.map aH.c)),.pv (.aq 0 (ch v1.calls)),.pv (.aq 0 (aG v1.aG)),.pv (.aq 0 (df v1.aT))])],[],[]⟩⟩) (λ_=>True) rfl trivial λk hk _=>?_;obtain rfl|rfl|rfl:k=0\/k=1\/k=2:=by omega
    .simp(disch:=omega)only[go_sem];refine Br.aJ (λh=>?_) (λh=>?_)
     .simp(disch:=omega)only[go_sem,a2,b2,c2];exact .of (by omega) rfl trivial
     .omega
    .simp(disch:=omega)only[go_sem];refine Br.aJ (λh=>?_) (λh=>?_)
     .simp(disch:=omega)only[go_sem,a3,b3,c3];exact .of (by omega) rfl trivial
     .omega
    .simp(disch:=omega)only[go_sem]
theorem r404:res A aA 404 []=some [.bool true]:=jz.2 ⟨3000,by kernel_rfl⟩
variable {P:Program}
theorem qI {n:Nat}{t:TypeId}{cs:List PV}(hu:P.underlying t=some (.int .u8))(h:typed P n t cs):∃x:Nat,cs=[.int .u8 x]/\x<=255:=by
 cases n with
 |zero=>exact h.elim
 |succ n=>
  obtain⟨x,rfl,h1,h2⟩:=CF hu h;have h1:(0:Int)<=x:=h1;have h2:x<=(255:Int):=h2;refine⟨x.toNat,?_,by omega⟩;rw[aby h1]
structure tK (P:Program)(dr nd pt ln lp t8:TypeId):Prop where
 u:P.underlying t8=some (.int .u8)
 n:P.underlying ln=some (.slice nd)
 p:P.underlying lp=some (.slice pt)
 d:∃fs,P.underlying dr=some (.struct fs)/\fs.toList.map (·.type)=[ln]
 x:∃fs,P.underlying nd=some (.struct fs)/\fs.toList.map (·.type)=[t8,t8,t8,t8,lp]
 q:∃fs,P.underlying pt=some (.struct fs)/\fs.toList.map (·.type)=[t8,t8,t8]
section
variable {dr nd pt ln lp t8:TypeId}
theorem A7 (T:tK P dr nd pt ln lp t8){n:Nat}{cs:List PV}(h:typed P n pt cs):∃p:Part,cs=p.c/\p.ok:=by
 cases n with
 |zero=>exact h.elim
 |succ n=>
  obtain⟨fs,hu,hts⟩:=T.q;obtain⟨r0,q0,rfl,h0,r1,q1,rfl,h1,r2,q2,rfl,h2,rfl⟩:=dK hu hts h;obtain⟨a,rfl,ha⟩:=qI T.u h0;obtain⟨b,rfl,hb⟩:=qI T.u h1;obtain⟨c,rfl,hc⟩:=qI T.u h2;exact⟨⟨a,b,c⟩,rfl,ha,hb,hc⟩
theorem A8 (T:tK P dr nd pt ln lp t8){n:Nat}{cs:List PV}(h:typed P n nd cs):∃x:Node,cs=x.cs/\x.ok:=by
 cases n with
 |zero=>exact h.elim
 |succ n=>
  obtain⟨fs,hu,hts⟩:=T.x;obtain⟨r0,q0,rfl,h0,r1,q1,rfl,h1,r2,q2,rfl,h2,r3,q3,rfl,h3,r4,q4,rfl,h4,rfl⟩:=dK hu hts h;obtain⟨k,rfl,hk⟩:=qI T.u h0;obtain⟨a,rfl,ha⟩:=qI T.u h1;obtain⟨b,rfl,hb⟩:=qI T.u h2;obtain⟨c,rfl,hc⟩:=qI T.u h3;obtain⟨ps,rfl,hl,hp⟩:=jH T.p (λm cs _ hh=>A7 T hh) h4;exact⟨⟨k,a,b,c,ps⟩,by simp[Node.cs],⟨hk,ha,hb,hc⟩,hl,hp⟩
theorem zk (T:tK P dr nd pt ln lp t8){n:Nat}{cs:List PV}(h:typed P n dr cs):∃d:List Node,cs=[.aq 0 (d.map Node.cs)]/\bP d/\∀x∈d,x.ok:=by
 cases n with
 |zero=>exact h.elim
 |succ n=>
  obtain⟨fs,hu,hts⟩:=T.d;obtain⟨r0,q0,rfl,h0,rfl⟩:=dK hu hts h;obtain⟨l,rfl,k,g⟩:=jH T.n (λm cs _ hh=>A8 T hh) h0;exact⟨l,by simp,k,g⟩
end
end Go.Pv
namespace Go.Pv
variable {P:Program}
structure DA (P:Program)(vd sd lc cl ls ss ad la ar a3 lt t8:TypeId):Prop where
 u:P.underlying t8=some (.int .u8)
 v:∃fs,P.underlying vd=some (.struct fs)/\fs.toList.map (·.type)=[sd,lc,ls,lt]
 lc:P.underlying lc=some (.slice cl)
 c:P.underlying cl=some (.array 2 t8)
 ls:P.underlying ls=some (.slice ss)
 s:∃fs,P.underlying ss=some (.struct fs)/\fs.toList.map (·.type)=[ad,a3]
 a:∃fs,P.underlying ad=some (.struct fs)/\fs.toList.map (·.type)=[t8,la]
 la:P.underlying la=some (.slice ar)
 r:∃fs,P.underlying ar=some (.struct fs)/\fs.toList.map (·.type)=[t8,t8,t8]
 b:P.underlying a3=some (.array 3 t8)
 lt:P.underlying lt=some (.slice t8)
section
variable {vd sd lc cl ls ss ad la ar a3 lt t8 nd pt ln lp:TypeId}
theorem iZ {n:Nat}{t:TypeId}{cs:List PV}(hu:P.underlying t=some (.int .u8))(h:typed P n t cs):∃x:Int,cs=[.int .u8 x]/\MG x:=by
 obtain⟨x,rfl,hx⟩:=qI hu h;exact⟨x,rfl,by unfold MG;omega⟩
theorem DB (T:DA P vd sd lc cl ls ss ad la ar a3 lt t8){n:Nat}{cs:List PV}(h:typed P n cl cs):∃c:Int×Int,cs=Pj c/\MG c.1/\MG c.2:=by
 cases n with
 |zero=>exact h.elim
 |succ n=>
  obtain⟨r0,q0,rfl,h0,r1,q1,rfl,h1,rfl⟩:=qw T.c h;obtain⟨x,rfl,hx⟩:=iZ T.u h0;obtain⟨y,rfl,hy⟩:=iZ T.u h1;exact⟨(x,y),rfl,hx,hy⟩
theorem DC (T:DA P vd sd lc cl ls ss ad la ar a3 lt t8){n:Nat}{cs:List PV}(h:typed P n ar cs):∃x:vb,cs=x.c/\x.ok:=by
 cases n with
 |zero=>exact h.elim
 |succ n=>
  obtain⟨fs,hu,hts⟩:=T.r;obtain⟨r0,q0,rfl,h0,r1,q1,rfl,h1,r2,q2,rfl,h2,rfl⟩:=dK hu hts h;obtain⟨x,rfl,hx⟩:=iZ T.u h0;obtain⟨y,rfl,hy⟩:=iZ T.u h1;obtain⟨z,rfl,hz⟩:=iZ T.u h2;exact⟨⟨x,y,z⟩,rfl,hx,hy,hz⟩
theorem DD (T:DA P vd sd lc cl ls ss ad la ar a3 lt t8){n:Nat}{cs:List PV}(h:typed P n ad cs):∃d:ej,cs=[.int .u8 d.n,.aq 0 (d.gH.map vb.c)]/\d.ok:=by
 cases n with
 |zero=>exact h.elim
 |succ n=>
  obtain⟨fs,hu,hts⟩:=T.a;obtain⟨r0,q0,rfl,h0,r1,q1,rfl,h1,rfl⟩:=dK hu hts h;obtain⟨x,rfl,hx⟩:=iZ T.u h0;obtain⟨l,rfl,hl,ho⟩:=jH T.la (λm cs _ h=>DC T h) h1;exact⟨⟨x,l⟩,rfl,hx,hl,ho⟩
theorem DE (T:DA P vd sd lc cl ls ss ad la ar a3 lt t8){n:Nat}{cs:List PV}(h:typed P n ss cs):∃s:vo,cs=s.c/\s.ok:=by
 cases n with
 |zero=>exact h.elim
 |succ n=>
  obtain⟨fs,hu,hts⟩:=T.s;obtain⟨r0,q0,rfl,h0,r1,q1,rfl,h1,rfl⟩:=dK hu hts h;obtain⟨d,rfl,hd⟩:=DD T h0;cases n with
  |zero=>exact h1.elim
  |succ n=>
   obtain⟨r3,q3,rfl,g0,r4,q4,rfl,g1,r5,q5,rfl,g2,rfl⟩:=qw T.b h1;obtain⟨x,rfl,hx⟩:=iZ T.u g0;obtain⟨y,rfl,hy⟩:=iZ T.u g1;obtain⟨z,rfl,hz⟩:=iZ T.u g2;exact⟨⟨d,x,y,z⟩,rfl,hd,hx,hy,hz.1,hz.2⟩
theorem DF (T:DA P vd sd lc cl ls ss ad la ar a3 lt t8)(U:tK P sd nd pt ln lp t8){n:Nat}{cs:List PV}(h:typed P n vd cs):∃d:Dg,cs=d.c/\d.ok:=by
 cases n with
 |zero=>exact h.elim
 |succ n=>
  obtain⟨fs,hu,hts⟩:=T.v;obtain⟨r0,q0,rfl,h0,r1,q1,rfl,h1,r2,q2,rfl,h2,r3,q3,rfl,h3,rfl⟩:=dK hu hts h;obtain⟨s,rfl,hl,ho⟩:=zk U h0;obtain⟨c,rfl,hc,hco⟩:=jH T.lc (λm cs _ h=>DB T h) h1;obtain⟨w,rfl,hw,hwo⟩:=jH T.ls (λm cs _ h=>DE T h) h2;obtain⟨t,rfl,ht,hto⟩:=jH (c:=Pk) T.lt (λm cs _ h=>iZ T.u h) h3;exact⟨⟨s,c,w,t⟩,rfl,ho,hl,hco,hc,hwo,hw,hto,ht⟩
end
end Go.Pv
namespace Go.Pv
variable {P:Program}
def gX.ok (x:gX):Prop:=bC x.name/\eH x.ud/\eH x.rep
def hC.ok (x:hC):Prop:=bC x.name/\eH x.ty
def gI.ok (x:gI):Prop:=eH x.id/\bC x.name/\eH x.ty
def eE.ok (x:eE):Prop:=bC x.name/\(bP x.msgs/\∀m∈x.msgs,m.ok)/\x.auto.r64
def ij.ok (v:ij):Prop:=bC v.name/\(bP v.types/\∀t∈v.types,t.ok)/\(bP v.calls/\∀c∈v.calls,c.ok)/\(bP v.aG/\∀w∈v.aG,w.ok)/\bP v.aT/\∀c∈v.aT,c.ok
structure aep (P:Program)(ax sch lc cl ls ss lm mg lp tp au le ed ti tx tb:TypeId):Prop where
 i:P.underlying ti=some (.int .i64)
 b:P.underlying tb=some .bool
 x:P.underlying tx=some .string
 v:∃fs,P.underlying ax=some (.struct fs)/\fs.toList.map (·.type)=[tx,sch,lc,ls,lp]
 lc:P.underlying lc=some (.slice cl)
 c:∃fs,P.underlying cl=some (.struct fs)/\fs.toList.map (·.type)=[tx,ti,ti]
 ls:P.underlying ls=some (.slice ss)
 s:∃fs,P.underlying ss=some (.struct fs)/\fs.toList.map (·.type)=[tx,lm,au]
 lm:P.underlying lm=some (.slice mg)
 m:∃fs,P.underlying mg=some (.struct fs)/\fs.toList.map (·.type)=[ti,tx,ti]
 lp:P.underlying lp=some (.slice tp)
 t:∃fs,P.underlying tp=some (.struct fs)/\fs.toList.map (·.type)=[tx,ti]
 a:∃fs,P.underlying au=some (.struct fs)/\fs.toList.map (·.type)=[ti,ti,le]
 le:P.underlying le=some (.slice ed)
 e:∃fs,P.underlying ed=some (.struct fs)/\fs.toList.map (·.type)=[ti,tb,ti,ti]
section
variable {ax sch lc cl ls ss lm mg lp tp au le ed ti tx tb:TypeId}
theorem afj (T:aep P ax sch lc cl ls ss lm mg lp tp au le ed ti tx tb){n:Nat}{cs:List PV}(h:typed P n cl cs):∃x:gX,cs=x.c/\x.ok:=by
 cases n with
 |zero=>exact h.elim
 |succ n=>
  obtain⟨fs,hu,hts⟩:=T.c;obtain⟨r0,q0,rfl,h0,r1,q1,rfl,h1,r2,q2,rfl,h2,rfl⟩:=dK hu hts h;obtain⟨s,rfl,hs⟩:=UK T.x h0;obtain⟨a,rfl,ha⟩:=gM T.i h1;obtain⟨b,rfl,hb⟩:=gM T.i h2;exact⟨⟨s,a,b⟩,rfl,hs,ha,hb⟩
theorem afk (T:aep P ax sch lc cl ls ss lm mg lp tp au le ed ti tx tb){n:Nat}{cs:List PV}(h:typed P n tp cs):∃x:hC,cs=x.c/\x.ok:=by
 cases n with
 |zero=>exact h.elim
 |succ n=>
  obtain⟨fs,hu,hts⟩:=T.t;obtain⟨r0,q0,rfl,h0,r1,q1,rfl,h1,rfl⟩:=dK hu hts h;obtain⟨s,rfl,hs⟩:=UK T.x h0;obtain⟨a,rfl,ha⟩:=gM T.i h1;exact⟨⟨s,a⟩,rfl,hs,ha⟩
theorem afl (T:aep P ax sch lc cl ls ss lm mg lp tp au le ed ti tx tb){n:Nat}{cs:List PV}(h:typed P n mg cs):∃x:gI,cs=x.c/\x.ok:=by
 cases n with
 |zero=>exact h.elim
 |succ n=>
  obtain⟨fs,hu,hts⟩:=T.m;obtain⟨r0,q0,rfl,h0,r1,q1,rfl,h1,r2,q2,rfl,h2,rfl⟩:=dK hu hts h;obtain⟨a,rfl,ha⟩:=gM T.i h0;obtain⟨s,rfl,hs⟩:=UK T.x h1;obtain⟨b,rfl,hb⟩:=gM T.i h2;exact⟨⟨a,s,b⟩,rfl,ha,hs,hb⟩
theorem afm (T:aep P ax sch lc cl ls ss lm mg lp tp au le ed ti tx tb){n:Nat}{cs:List PV}(h:typed P n ed cs):∃x:Edge,cs=x.c/\x.r64:=by
 cases n with
 |zero=>exact h.elim
 |succ n=>
  obtain⟨fs,hu,hts⟩:=T.e;obtain⟨r0,q0,rfl,h0,r1,q1,rfl,h1,r2,q2,rfl,h2,r3,q3,rfl,h3,rfl⟩:=dK hu hts h;obtain⟨a,rfl,ha⟩:=gM T.i h0;obtain⟨d,rfl⟩:=mj T.b h1;obtain⟨b,rfl,hb⟩:=gM T.i h2;obtain⟨c,rfl,hc⟩:=gM T.i h3;unfold eH at ha hb hc;exact⟨⟨a,d,b,c⟩,rfl,ha,hb,hc⟩
theorem afn (T:aep P ax sch lc cl ls ss lm mg lp tp au le ed ti tx tb){n:Nat}{cs:List PV}(h:typed P n au cs):∃a:aP,cs=[.int .i64 a.aj,.int .i64 a.start,.aq 0 (a.af.map Edge.c)]/\a.r64:=by
 cases n with
 |zero=>exact h.elim
 |succ n=>
  obtain⟨fs,hu,hts⟩:=T.a;obtain⟨r0,q0,rfl,h0,r1,q1,rfl,h1,r2,q2,rfl,h2,rfl⟩:=dK hu hts h;obtain⟨a,rfl,ha⟩:=gM T.i h0;obtain⟨b,rfl,hb⟩:=gM T.i h1;obtain⟨l,rfl,hl,ho⟩:=jH T.le (λm cs _ h=>afm T h) h2;unfold eH at ha hb;exact⟨⟨a,b,l⟩,rfl,ha,hb,by simpa [bP,maxLen]using hl,ho⟩
theorem afo (T:aep P ax sch lc cl ls ss lm mg lp tp au le ed ti tx tb){n:Nat}{cs:List PV}(h:typed P n ss cs):∃x:eE,cs=x.c/\x.ok:=by
 cases n with
 |zero=>exact h.elim
 |succ n=>
  obtain⟨fs,hu,hts⟩:=T.s;obtain⟨r0,q0,rfl,h0,r1,q1,rfl,h1,r2,q2,rfl,h2,rfl⟩:=dK hu hts h;obtain⟨s,rfl,hs⟩:=UK T.x h0;obtain⟨l,rfl,hl,ho⟩:=jH T.lm (λm cs _ h=>afl T h) h1;obtain⟨a,rfl,ha⟩:=afn T h2;exact⟨⟨s,l,a⟩,rfl,hs,⟨hl,ho⟩,ha⟩
theorem afI (T:aep P ax sch lc cl ls ss lm mg lp tp au le ed ti tx tb){typ sym mem val raw lt lsym lmem lval lraw t64:TypeId}(U:VJ P sch typ sym mem val raw lt lsym lmem lval lraw tx ti t64 tb){n:Nat}{cs:List PV}(h:typed P n ax cs):∃v:ij,cs=[.str v.name,.aq 0 (v.types.map aH.c),.aq 0 (ch v.calls),.aq 0 (aG v.aG),.aq 0 (df v.aT)]/\v.ok:=by
 cases n with
 |zero=>exact h.elim
 |succ n=>
  obtain⟨fs,hu,hts⟩:=T.v;obtain⟨r0,q0,rfl,h0,r1,q1,rfl,h1,r2,q2,rfl,h2,r3,q3,rfl,h3,r4,q4,rfl,h4,rfl⟩:=dK hu hts h;obtain⟨s,rfl,hs⟩:=UK T.x h0;obtain⟨l,rfl,hl,ho⟩:=afb U h1;obtain⟨c,rfl,hc,hco⟩:=jH T.lc (λm cs _ h=>afj T h) h2;obtain⟨w,rfl,hw,hwo⟩:=jH T.ls (λm cs _ h=>afo T h) h3;obtain⟨p,rfl,hp,hpo⟩:=jH T.lp (λm cs _ h=>afk T h) h4;exact⟨⟨s,l,c,w,p⟩,rfl,hs,⟨hl,ho⟩,⟨hc,hco⟩,⟨hw,hwo⟩,hp,hpo⟩
end
end Go.Pv
namespace Go.Pv
variable {P:Program}
def abb (P:Program)(M n:Nat):List TypeId->List PV->Prop
 |[],cs=>cs=[]
 |t::ts,cs=>∃r q,cs=r++q/\ei P M n t r/\abb P M n ts q
theorem abg {M n:Nat}{t:TypeId}{fs:Array Field}{ts:List TypeId}{cs:List PV}(hu:P.underlying t=some (.struct fs))(hts:fs.toList.map (·.type)=ts)(h:ei P M (n+1) t cs):abb P M n ts cs:=by
 simp only[ei,hu]at h;obtain⟨parts,h1,rfl,h3⟩:=h;subst hts;have key:∀(l:List Field)(parts:List (List PV)),parts.length=l.length->(∀(i:Nat)(f:Field)(r:List PV),l[i]?=some f->parts[i]?=some r->ei P M n f.type r)->abb P M n (l.map (·.type)) parts.flatten:=by
  intro l
  induction l with
  |nil=>intro parts hl _;simp[List.eq_nil_of_length_eq_zero hl,abb]
  |cons f l ih=>
   intro parts hl hp
   match parts,hl with
   |r::parts,hl=>exact⟨r,parts.flatten,rfl,hp 0 f r rfl rfl,ih parts (by simpa using hl) (λi g q hg hq=>hp (i+1) g q (by simpa using hg) (by simpa using hq))⟩
 exact key fs.toList parts (by simpa using h1) (λi f r hf hr=>h3 i f r (by simpa using hf) hr)
theorem sliceB {M n:Nat}{t el:TypeId}{cs:List PV}(hu:P.underlying t=some (.slice el))(h:ei P M n t cs):∃rows,cs=[.aq 0 rows]/\rows.length*P.bytesOf el<=M/\∀r∈rows,ei P M (n - 1) el r:=by
 cases n with
 |zero=>exact h.elim
 |succ n=>
  simp only[ei,hu]at h;obtain⟨rows,h1,h2,h3⟩:=h;exact⟨rows,h1,h2.2,h3⟩
theorem afG {M n:Nat}{t:TypeId}{k:IntKind}{cs:List PV}(hu:P.underlying t=some (.int k))(h:ei P M n t cs):∃c,cs=[c]:=by
 cases n with
 |zero=>exact h.elim
 |succ n=>
  simp only[ei,hu]at h;obtain⟨x,rfl,_⟩:=h;exact⟨_,rfl⟩
theorem afJ {M n:Nat}{t:TypeId}{cs:List PV}(hu:P.underlying t=some .string)(h:ei P M n t cs):∃c,cs=[c]:=by
 cases n with
 |zero=>exact h.elim
 |succ n=>
  simp only[ei,hu]at h;obtain⟨x,rfl,_⟩:=h;exact⟨_,rfl⟩
section
variable {sch typ sym mem val raw ls lsym lmem lval lraw tx ti t64 tb:TypeId}
theorem afp (T:VJ P sch typ sym mem val raw ls lsym lmem lval lraw tx ti t64 tb)(hy:24<=P.bytesOf sym)(hm:24<=P.bytesOf mem){M n:Nat}(hM:M<=140737488351232){x:aH}(h:ei P M n typ x.c):x.held:=by
 cases n with
 |zero=>exact h.elim
 |succ n=>
  obtain⟨fs,hu,hts⟩:=T.t;obtain⟨r0,q0,e0,h0,r1,q1,rfl,h1,r2,q2,rfl,h2,r3,q3,rfl,h3,r4,q4,rfl,h4,r5,q5,rfl,h5,r6,q6,rfl,h6,_⟩:=abg hu hts h;obtain⟨x0,rfl⟩:=afG T.i h0;obtain⟨x1,rfl⟩:=afJ T.x h1;obtain⟨x2,rfl⟩:=afG T.i64 h2;obtain⟨x3,rfl⟩:=afG T.i64 h3;obtain⟨x4,rfl⟩:=afG T.i h4;obtain⟨a,rfl,ha,_⟩:=sliceB T.ly h5;obtain⟨b,rfl,hb,_⟩:=sliceB T.lm h6;simp only[aH.c,List.cons_append,List.nil_append,List.cons.injEq,PV.aq.injEq]at e0;have e1:=congrArg List.length e0.2.2.2.2.2.1.2;have e2:=congrArg List.length e0.2.2.2.2.2.2.1.2;rw[Wg]at e1 e2;have a1:=Nat.mul_le_mul_left a.length hy;have b1:=Nat.mul_le_mul_left b.length hm;exact⟨by omega,by omega⟩
theorem afq (T:VJ P sch typ sym mem val raw ls lsym lmem lval lraw tx ti t64 tb)(hy:24<=P.bytesOf sym)(hm:24<=P.bytesOf mem){M n:Nat}(hM:M<=140737488351232){l:List aH}(h:ei P M n sch [.aq 0 (l.map aH.c)]):∀t∈l,t.held:=by
 cases n with
 |zero=>exact h.elim
 |succ n=>
  obtain⟨fs,hu,hts⟩:=T.s;obtain⟨r0,q0,e0,h0,rfl⟩:=abg hu hts h;obtain⟨a,rfl,_,ha⟩:=sliceB T.l h0;simp only[List.cons_append,List.nil_append,List.cons.injEq,PV.aq.injEq]at e0;obtain⟨⟨_,rfl⟩,_⟩:=e0;exact λt ht=>afp T hy hm hM (ha _ (abQ ht))
end
section
variable {ax sch lc cl ls' ss lm mg lp tp au le ed ti tx tb:TypeId} {typ sym mem val raw ls lsym lmem lval lraw t64:TypeId}
theorem afK (U:aep P ax sch lc cl ls' ss lm mg lp tp au le ed ti tx tb)(T:VJ P sch typ sym mem val raw ls lsym lmem lval lraw tx ti t64 tb)(hy:24<=P.bytesOf sym)(hm:24<=P.bytesOf mem){M n:Nat}(hM:M<=140737488351232){v:ij}(h:ei P M n ax [.str v.name,.aq 0 (v.types.map aH.c),.aq 0 (ch v.calls),.aq 0 (aG v.aG),.aq 0 (df v.aT)]):∀t∈v.types,t.held:=by
 cases n with
 |zero=>exact h.elim
 |succ n=>
  obtain⟨fs,hu,hts⟩:=U.v;obtain⟨r0,q0,e0,h0,r1,q1,rfl,h1,_⟩:=abg hu hts h;obtain⟨x0,rfl⟩:=afJ U.x h0;cases n with
  |zero=>exact h1.elim
  |succ n=>
   have h2:=h1;obtain⟨fs,hu,hts⟩:=T.s;obtain⟨r2,q2,rfl,h3,rfl⟩:=abg hu hts h1;obtain⟨a,rfl,_,_⟩:=sliceB T.l h3;simp only[List.cons_append,List.nil_append,List.append_nil,List.cons.injEq,PV.aq.injEq]at e0;obtain⟨_,⟨_,rfl⟩,_⟩:=e0;exact afq T hy hm hM h2
end
end Go.Pv
namespace Go.Pv
variable {P:Program}
structure aa4 (P:Program)(lg cg t8:TypeId):Prop where
 u:P.underlying t8=some (.int .u8)
 l:P.underlying lg=some (.slice cg)
 c:∃fs,P.underlying cg=some (.struct fs)/\fs.toList.map (·.type)=[t8,t8,t8,t8]
section
variable {lg cg t8:TypeId}
theorem ZI (T:aa4 P lg cg t8){n:Nat}{cs:List PV}(h:typed P n cg cs):∃x:YD,cs=x.c/\x.ok:=by
 cases n with
 |zero=>exact h.elim
 |succ n=>
  obtain⟨fs,hu,hts⟩:=T.c;obtain⟨r0,q0,rfl,h0,r1,q1,rfl,h1,r2,q2,rfl,h2,r3,q3,rfl,h3,rfl⟩:=dK hu hts h;obtain⟨x,rfl,hx⟩:=iZ T.u h0;obtain⟨y,rfl,hy⟩:=iZ T.u h1;obtain⟨z,rfl,hz⟩:=iZ T.u h2;obtain⟨w,rfl,hw⟩:=iZ T.u h3;exact⟨⟨x,y,z,w⟩,rfl,⟨hx,hy⟩,hz,hw⟩
theorem Zl (T:aa4 P lg cg t8){n:Nat}{cs:List PV}(h:typed P n lg cs):∃l:List YD,cs=[.aq 0 (l.map YD.c)]/\bP l/\∀x∈l,x.ok:=jH T.l (λm cs _ h=>ZI T h) h
end
theorem abk {M n:Nat}{t:TypeId}{cs:List PV}(hu:P.underlying t=some (.int .u8))(h:ei P M n t cs):∃x:Int,cs=[.int .u8 x]:=by
 obtain⟨x,rfl,_⟩:=iZ hu h.typed;exact⟨x,rfl⟩
section
variable {vd sd lc cl ls ss ad la ar a3 lt t8 nd pt ln lp:TypeId}
theorem abl (U:tK P sd nd pt ln lp t8)(hp:P.bytesOf pt=3){M n:Nat}{x:Node}(h:ei P M n nd x.cs):x.parts.length*3<=M:=by
 cases n with
 |zero=>exact h.elim
 |succ n=>
  obtain⟨fs,hu,hts⟩:=U.x;obtain⟨r0,q0,e0,h0,r1,q1,rfl,h1,r2,q2,rfl,h2,r3,q3,rfl,h3,r4,q4,rfl,h4,rfl⟩:=abg hu hts h;obtain⟨x0,rfl⟩:=abk U.u h0;obtain⟨x1,rfl⟩:=abk U.u h1;obtain⟨x2,rfl⟩:=abk U.u h2;obtain⟨x3,rfl⟩:=abk U.u h3;obtain⟨rows,rfl,hl,_⟩:=sliceB U.p h4;simp only[Node.cs,List.cons_append,List.nil_append,List.append_nil,List.cons.injEq,PV.aq.injEq]at e0;rw[hp]at hl;have:=congrArg List.length e0.2.2.2.2.1.2;rw[Wg]at this;omega
theorem abD (T:DA P vd sd lc cl ls ss ad la ar a3 lt t8)(U:tK P sd nd pt ln lp t8)(hb:P.bytesOf nd=32)(hp:P.bytesOf pt=3){M n:Nat}{d:Dg}(h:ei P M n vd d.c):d.s.length*32<=M/\∀x∈d.s,x.parts.length*3<=M:=by
 cases n with
 |zero=>exact h.elim
 |succ n=>
  obtain⟨fs,hu,hts⟩:=T.v;obtain⟨r0,q0,e0,h0,_⟩:=abg hu hts h;cases n with
  |zero=>exact h0.elim
  |succ n=>
   obtain⟨fs,hu,hts⟩:=U.d;obtain⟨r1,q1,rfl,h1,rfl⟩:=abg hu hts h0;obtain⟨rows,rfl,hl,hr⟩:=sliceB U.n h1;simp only[Dg.c,List.cons_append,List.nil_append,List.append_nil,List.cons.injEq,PV.aq.injEq]at e0;rw[hb]at hl;obtain⟨⟨_,e1⟩,_⟩:=e0;subst e1;rw[Wg]at hl;exact⟨hl,λx hx=>abl U hp (hr _ (abQ hx))⟩
end
end Go.Pv
