/-
 What the functions of the law give.
-/
import Derived.Test.YtpchfogcccagjaaGreatC10
set_option linter.unusedSimpArgs false
set_option linter.unusedVariables false
open List renaming mem_of_getElem? → aaj, getElem?_eq_some_iff → aak, getElem?_eq_getElem → aal, length_map → aam, mem_iff_getElem? → aan, getElem?_map → aap, mem_map → aaq, getD_eq_getElem?_getD → aat, mem_cons_of_mem → aaz, all_eq_true → aaF, length_range → aaJ, mem_cons_self → aaN, map_append → aaR, mem_range → aaV, any_eq_false → aaW, mem_append_left → aa2, findIdx?_eq_none_iff → aa3, map_map → aa6, mem_singleton → aa7, mem_append_right → aa9, mem_filterMap → aba, foldl_cons → abd, length_set → abe, mem_map_of_mem → abf, any_eq_true → abg, pairwise_iff_getElem → abh, getElem?_range → abk, map_take → abl, any_map → abt, length_replicate → abu, find?_eq_none → abv, getElem?_replicate → abw, mem_filter → aby, range_succ → abA, map_congr_left → abI, nodup_append → abL, find?_some → abS, filterMap_append → abT, mem_of_find?_eq_some → ab1, mem_flatMap → ab5, ext_getElem → aci, map_id → ack
open Nat renaming mod_lt → aaP, le_trans → aa5, mod_eq_of_lt → ab3
open Option renaming map_eq_some_iff → aaT, bind_eq_some_iff → ab6
open Int renaming toNat_natCast → aaU, toNat_of_nonneg → abH, le_refl → abP, emod_nonneg → ab8
open Bool renaming eq_iff_iff → aa4, eq_false_iff → abp, and_eq_true → abE
namespace Go.Pv
@[go_sem] theorem cw404 (vs:List V)(h:aq)(K:V->Tn->Prop):CW A ay 404 vs h K=CN A ay false 404 vs h K:=bQ vs h K
theorem B8 {T:List aB}(hv:bG T=0)(h:∀x∈T,∀m∈x.aO,m.has=true->qZ T m.type m.gN.c=true):er T=0:=by
 unfold er G3;rw[if_neg (by simp[hv])];have:T.findIdx? (nP T)=none:=by
  rw[aa3];intro x hx;unfold nP;rw[aaW];intro m hm;unfold kY;cases hh:m.has with
  |false=>simp
  |true=>rw[h x hx m hm hh];simp
 rw[this]
theorem Jw {T:List aB}{n:Nat}{t:Int}{cs:List PV}(h:mM n cs)(hf:dK T n t cs=true):qZ T t cs=true:=by
 classical
 unfold qZ;exact decide_eq_true ⟨n,h,hf⟩
def ij (d:List Node):List aB:=(List.range d.length).map (bh d)
theorem sJ {d:List Node}{u:Nat}(hu:u<d.length):(ij d)[u]?=some (bh d u):=by
 unfold ij;rw[aap,abk hu];rfl
theorem oE {d:List Node}(h0:0<d.length)(c:Nat):kT d c=none↔∀i,i<d.length->¬aR d i<=4:=by
 unfold kT;rw[Option.map_eq_none_iff,abv];constructor
 .intro h i hi hk;have hc:c%d.length<d.length:=aaP _ h0;refine h ((i+d.length - c%d.length)%d.length) (aaV.2 (aaP _ h0)) ?_;have e:(c+(i+d.length - c%d.length)%d.length)%d.length=i:=by
   rw[Nat.add_mod_mod,<- Nat.mod_add_mod,show c%d.length+(i+d.length - c%d.length)=i+d.length by omega,Nat.add_mod_right,ab3 hi]
  rw[e];exact decide_eq_true hk
 .intro h k _ hk;exact h _ (aaP _ h0) (of_decide_eq_true hk)
theorem Jx (a code:Nat):Bi a code∈gU a:=by
 have h:=lC a;obtain⟨x,hx⟩:=get_some (l:=gU a) (k:=code%(gU a).length) (aaP _ h.1);unfold Bi;rw[hx];exact aaj hx
theorem GJ {α:Type}{p:α->Bool}{l:List α}{x:α}(hx:x∈l)(hp:p x=true):0<=bg p l:=by
 unfold bg;cases h:l.findIdx? p with
 |none=>
  have:=aa3.1 h x hx;rw[hp]at this;cases this
 |some k=>simp
theorem Jy {d:List Node}{u code:Nat}(hu:u<d.length)(h:(eM (initK d u) (nodeAt d u) code).2=true):dK (ij d) 1 u (eM (initK d u) (nodeAt d u) code).1.c=true:=by
 have h0:0<d.length:=by omega
 rw[vM,if_neg (by omega),aaU,sJ hu];have hz:∀v:dO,mu v=true↔((v.kind=1\/v.bool=false)/\(v.kind=2\/v.int=0)/\(v.kind=3\/v.str=⟨#[]⟩)/\(v.kind=4\/v.kind=6\/v.id=0)/\(v.kind=8\/v.keys=[])/\(5<=v.kind\/v.items=[])/\(v.kind=5\/v.kind=6\/v.rest=[])):=λv=>by
  unfold mu;rw[decide_eq_true_eq]
 have hz8:mu ⟨8,false,0,⟨#[]⟩,0,[],[],[]⟩=true:=(hz _).2 (by simp);have hz7:mu ⟨7,false,0,⟨#[]⟩,0,[],[],[]⟩=true:=(hz _).2 (by simp);have hz9:mu ⟨9,false,0,⟨#[]⟩,0,[],[],[]⟩=true:=(hz _).2 (by simp);rcases eB d u with hk|hk|hk|hk|hk|hk|hk|hk|hk
 .have hi:initK d u=1:=by simp[initK,hk]
  have ht:bh d u=bk 1 ⟨#[]⟩:=by simp[bh,hk]
  rw[hi,ht];have:=λb=>(hz ⟨1,b,0,⟨#[]⟩,0,[],[],[]⟩).2 (by simp);simp[eM,bn,bk,gp,this]
 .have hi:initK d u=2:=by simp[initK,hk]
  have ht:bh d u={bk 2 ⟨#[]⟩ with low:=lu (nodeAt d u),high:=nA (nodeAt d u)}:=by simp[bh,hk]
  rw[hi,ht];have:=λi=>(hz ⟨2,false,i,⟨#[]⟩,0,[],[],[]⟩).2 (by simp);have h6:code%((nodeAt d u).b%6+1)<(nodeAt d u).b%6+1:=aaP _ (by omega);have e:((code:Int)%((nodeAt d u).b%6+1))=((code%((nodeAt d u).b%6+1):Nat):Int):=by simp
  simp[eM,bn,bk,gp,this,nA];omega
 .have hi:initK d u=3:=by simp[initK,hk]
  have ht:bh d u={bk 3 ⟨#[]⟩ with max:=((nodeAt d u).a%4:Nat)}:=by simp[bh,hk]
  rw[hi,ht];have:=λs=>(hz ⟨3,false,0,s,0,[],[],[]⟩).2 (by simp);have s1:(⟨#[97]⟩:ByteArray).size=1:=rfl;have s0:(⟨#[]⟩:ByteArray).size=0:=rfl;simp[eM,bn,bk,gp,this];split<;>simp only[s0,s1]<;>omega
 .have hi:initK d u=4:=by simp[initK,hk]
  have ht:bh d u={bk 4 (db u)with syms:=ki (nodeAt d u).a,jO:=decide ((nodeAt d u).b%2=1)}:=by simp[bh,hk]
  rw[hi,ht];have:=λi=>(hz ⟨4,false,0,⟨#[]⟩,i,[],[],[]⟩).2 (by simp);have hf:=GJ (p:=tM (Bi (nodeAt d u).a code:Int)) (List.mem_map.2 ⟨_,Jx (nodeAt d u).a code,rfl⟩:pK (Bi (nodeAt d u).a code)∈ki (nodeAt d u).a) (by simp[tM,pK]);simp[eM,bn,bk,gp,this];exact hf
 .have hi:initK d u=5:=by simp[initK,hk]
  rw[hi]at h;simp[eM]at h
 .have hi:initK d u=6:=by simp[initK,hk]
  rw[hi]at h;simp[eM]at h
 .have hi:initK d u=7:=by simp[initK,hk]
  have ht:bh d u={bk 7 ⟨#[]⟩ with max:=((nodeAt d u).a%4:Nat),elem:=((nodeAt d u).c%d.length:Nat)}:=by simp[bh,hk]
  rw[hi,ht];simp[eM,bn,bk,gp,hz7];omega
 .rw[pL hk];by_cases hn:kT d 0=none
  .have hi:initK d u=7:=by simp[initK,hk,hn]
   rw[if_pos ((oE h0 _).2 ((oE h0 0).1 hn)),hi];simp[eM,bn,bk,gp,hz7];omega
  .have hi:initK d u=8:=by simp[initK,hk,hn]
   rw[if_neg (λe=>hn ((oE h0 0).2 ((oE h0 _).1 e))),hi];simp[eM,bn,bk,gp,hz8,F5];omega
 .have hi:initK d u=9:=by simp[initK,hk]
  have ht:bh d u={bk 9 ⟨#[]⟩ with elem:=((nodeAt d u).c%d.length:Nat)}:=by simp[bh,hk]
  rw[hi,ht];simp[eM,bn,bk,gp,hz9]
theorem GK {d:List Node}{i:Nat}{m:Mem}(h:m∈(bh d i).aO):∃fl,m∈cm d i fl (nodeAt d i).parts 12:=by
 rcases eB d i with hk|hk|hk|hk|hk|hk|hk|hk|hk
 case inr.inr.inr.inr.inr.inl=>
  rw[nK hk]at h;split at h
  .simp[bk]at h
  .exact⟨false,h⟩
 case inr.inr.inr.inr.inl=>
  have ht:bh d i={bk 5 (db i)with aO:=cm d i true (nodeAt d i).parts 12}:=by simp[bh,hk]
  rw[ht]at h;exact⟨true,h⟩
 case inr.inr.inr.inr.inr.inr.inr.inl=>
  rw[pL hk]at h;split at h<;>simp[bk]at h
 all_goals simp[bh,hk,bk]at h
theorem Jz {d:List Node}{i:Nat}(h0:0<d.length)(hi:i<d.length){m:Mem}(h:m∈(bh d i).aO):∃(fl:Bool)(id:Nat)(p:Part)(u:Nat),m=ep d i fl id p/\dq d i p.type=some u/\u<d.length/\m.type=u:=by
 obtain⟨fl,h⟩:=GK h;obtain⟨id,p,rfl,hh,_⟩:=mq h;unfold pI at hh;cases ht:dq d i p.type with
 |none=>simp[ht]at hh
 |some u=>
  refine⟨fl,id,p,u,rfl,ht,mm h0 hi ht,?_⟩;show gF (dq d i p.type)=u;rw[ht];rfl
theorem B9 {d:List Node}(h0:0<d.length)(h5:d.length<=5):er (ij d)=0:=by
 refine B8 (FQ h0 h5) λx hx m hm hh=>?_;obtain⟨i,hi,rfl⟩:=aaq.1 hx;obtain⟨fl,id,p,u,rfl,ht,hu,ht2⟩:=Jz h0 (aaV.1 hi) hm;have hd:(ep d i fl id p).has=(fl&&(decide (2<=p.flag%4)&&(nJ d u p).2)):=by
  unfold ep;rw[ht];rfl
 rw[hd,abE,abE]at hh;have hv:(ep d i fl id p).gN=(nJ d u p).1:=by
  unfold ep;rw[ht,hh.1,hh.2.1];rfl
 rw[hv,ht2];have hk:=Bn (initK d u) (by
  unfold initK;split
  .omega
  .exact(dY d u).2) (nodeAt d u) (p.flag/4)
 exact Jw hk (Jy hu hh.2.2)
theorem zI {d:List Node}{i code u:Nat}(h:dq d i code=some u):7<=aR d u\/u<i:=by
 unfold dq at h;split at h
 .rename_i hc;cases h;exact hc
 .split at h
  .rename_i hi;cases h;exact .inr (aaP _ hi)
  .have:=abS h
   exact .inl (of_decide_eq_true this)
theorem wt {N:List Int}:∀(l:List Mem)(c:Int),1<=c->(∀m∈l,1<=gQ N m.type)->1<=l.foldl (λc m=>min 2 (c*gQ N m.type)) c
 |[],_,h,_=>h
 |m::l,c,h,hm=>wt l _ (by
  have h1:=hm m aaN;have:1<=c*gQ N m.type:=by
   have:=Int.mul_le_mul h h1 (by omega) (by omega);omega
  show 1<=min 2 (c*gQ N m.type);omega) λx hx=>hm x (aaz _ hx)
theorem fold_add {N:List Int}:∀(l:List Mem)(c:Int),1<=c->(∀m∈l,1<=gQ N m.type)->1<=l.foldl (λc m=>min 2 (c+gQ N m.type)) c
 |[],_,h,_=>h
 |m::l,c,h,hm=>fold_add l _ (by have:=hm m aaN;show 1<=min 2 (c+gQ N m.type);omega) λx hx=>hm x (aaz _ hx)
theorem Rb {N:List Int}(h:yd N)(i:Int):0<=gQ N i:=(h.at i.toNat).1
theorem wu {x:aB}{N:List Int}(h:yd N)(hk:x.kind=7\/x.kind=8\/x.kind=9):1<=jM false x N:=by
 have:=Rb h x.elem;unfold jM;rcases hk with hk|hk|hk<;>rw[hk]
 .simp only[Int.reduceEq,if_false,if_true];split<;>decide
 .simp only[Int.reduceEq,if_false,if_true];split<;>decide
 .simp only[Int.reduceEq,if_false,if_true];omega
theorem tD {d:List Node}{u:Nat}(h:7<=aR d u):(bh d u).kind=7\/(bh d u).kind=8\/(bh d u).kind=9:=by
 have:=dY d u;rcases eB d u with hk|hk|hk|hk|hk|hk|hk|hk|hk
 case inr.inr.inr.inr.inr.inr.inr.inl=>
  rw[pL hk];split<;>simp[bk]
 all_goals first
  |omega
  |simp[bh,hk,bk]
theorem GL {d:List Node}(h0:0<d.length){N:List Int}(hN:Fix false (ij d) N):∀i,i<d.length->1<=N.getD i 0:=by
 intro i
 induction i using Nat.strongRecOn with
 |ind i ih=>
  intro hi;have hc:=hN.2.2 i _ (sJ hi);rw[hc];have hm:∀m∈(bh d i).aO,1<=gQ N m.type:=λm hm=>by
   obtain⟨fl,id,p,u,_,ht,hu,ht2⟩:=Jz h0 hi hm;unfold gQ;rw[ht2,aaU];rcases zI ht with h7|hlt
   .rw[hN.2.2 u _ (sJ hu)];exact wu hN.2.1 (tD h7)
   .exact ih u hlt hu
  rcases eB d i with hk|hk|hk|hk|hk|hk|hk|hk|hk
  .have ht:(bh d i).kind=1:=by simp[bh,hk,bk]
   simp[jM,ht]
  .have ht:(bh d i).kind=2:=by simp[bh,hk,bk]
   simp only[jM,ht,if_true];split<;>decide
  .have ht:(bh d i).kind=3:=by simp[bh,hk,bk]
   simp only[jM,ht,Int.reduceEq,if_false,if_true];split<;>decide
  .have ht:bh d i={bk 4 (db i)with syms:=ki (nodeAt d i).a,jO:=decide ((nodeAt d i).b%2=1)}:=by simp[bh,hk]
   have hl:=(lC (nodeAt d i).a).1;have hl2:(ki (nodeAt d i).a).length=(gU (nodeAt d i).a).length:=aam _;rw[ht];simp only[jM,bk,Int.reduceEq,if_false,if_true];omega
  .have ht:(bh d i).kind=5:=by simp[bh,hk,bk]
   simp only[jM,ht,Int.reduceEq,if_false,if_true];exact wt _ _ (by decide) hm
  .by_cases he:(cm d i false (nodeAt d i).parts 12).length=0
   .have ht:(bh d i).kind=5:=by rw[nK hk,if_pos he];rfl
    simp only[jM,ht,Int.reduceEq,if_false,if_true];exact wt _ _ (by decide) hm
   .have ht:(bh d i).kind=6:=by rw[nK hk,if_neg he];rfl
    have hl:(bh d i).aO.length≠0:=by rw[nK hk,if_neg he];exact he
    simp only[jM,ht,Int.reduceEq,if_false,if_true];cases hs:(bh d i).aO with
    |nil=>rw[hs]at hl;exact absurd rfl hl
    |cons m l=>
     rw[hs]at hm;rw[abd];exact fold_add _ _ (by have:=hm m aaN;omega) λx hx=>hm x (aaz _ hx)
  all_goals exact wu hN.2.1 (tD (by omega))
theorem Ca {d:List Node}(h0:0<d.length)(h5:d.length<=5):eS (ij d)=0:=by
 have hf:=(mz false (ij d)).1;have hp:=GL h0 hf;unfold eS;rw[if_neg (by simp[B9 h0 h5]),if_pos];rw[aaF];intro b hb;unfold tO km at hb;obtain⟨x,hx,rfl⟩:=aaq.1 hb;obtain⟨i,hi⟩:=aan.1 hx;have hl:=(aak.1 hi).1;have h1:=hf.1;have h2:(ij d).length=d.length:=by simp[ij]
 have:=hp i (by omega);rw[aat,hi]at this;unfold jc;simp at this |-;omega
def zJ (c:UInt8):Prop:=(∀k:Fin 3,isName (ib c k.val)=true)/\∀j k:Fin 3,ib c j.val=ib c k.val->j=k
theorem ZI:zJ 67:=⟨by decide,by decide⟩
theorem ZJ:zJ 84:=⟨by decide,by decide⟩
theorem ZK:zJ 83:=⟨by decide,by decide⟩
theorem Tm:zJ 77:=⟨by decide,by decide⟩
theorem zJ.nm {c:UInt8}(h:zJ c){k:Nat}(hk:k<3):isName (ib c k)=true:=h.1 ⟨k,hk⟩
theorem zJ.inj {c:UInt8}(h:zJ c){j k:Nat}(hj:j<3)(hk:k<3)(e:ib c j=ib c k):j=k:=by
 have:=h.2 ⟨j,hj⟩ ⟨k,hk⟩ e;simpa using this
theorem oF {α:Type}{f:α->ByteArray}{l:List α}(h:(l.map f).Nodup){k:Nat}{c:α}(hc:l[k]?=some c):cz ((l.map f).take k) (f c)=false:=by
 rw[abp];intro hh;obtain⟨i,hi,e⟩:=List.mem_take_iff_getElem.1 (fh.1 hh);rw[aam]at hi;obtain⟨hk,e2⟩:=aak.1 hc;rw[List.nodup_iff_pairwise_ne,abh]at h;refine h i k (by rw[aam];omega) (by rw[aam];exact hk) (by omega) ?_;rw[e,List.getElem_map,e2]
theorem rz {α:Type}{f:α->ByteArray}{c:UInt8}(hc:zJ c)(g:Nat->Option α)(hg:∀i x,g i=some x->f x=ib c i):∀K,K<=3->(((List.range K).filterMap g).map f).Nodup
 |0,_=>by simp
 |K+1,hK=>by
  have ih:=rz hc g hg K (by omega);rw[abA,abT,aaR];cases hx:g K with
  |none=>simpa [hx]using ih
  |some x=>
   simp only[List.filterMap_cons,hx,List.filterMap_nil,List.map_cons,List.map_nil];rw[abL];refine⟨ih,by simp,?_⟩;intro a ha b hb e;rw[aa7]at hb;obtain⟨y,hy,rfl⟩:=aaq.1 ha;obtain⟨i,hi,he⟩:=aba.1 hy;have hi:=aaV.1 hi;rw[hb,hg i y he,hg K x hx]at e;have:=hc.inj (by omega) (by omega) e;omega
theorem wv {n:Nat}(h:1<=n)(x:Int):cM n (x%n)=false:=by
 have h0:=ab8 x (b:=(n:Int)) (by omega);have h1:=Int.emod_lt_of_pos x (b:=(n:Int)) (by omega);unfold cM;simp;omega
theorem JA {P:Int->Prop}{es:List Edge}{e:Edge}(h:∀x∈es,P x.label)(he:P e.label):∀x∈pR es e,P x.label:=λx hx=>by
 rcases BF hx with h1|h1
 .exact h x h1
 .exact h1 ▸ he
theorem E5 {st:Int}:∀(l:List yg)(es:List Edge),(∀x∈es,1<=x.label/\x.label<=3)->∀x∈l.foldl (λes x=>pR es (x.sz st)) es,1<=x.label/\x.label<=3
 |[],_,h=>h
 |a::l,es,h=>E5 l _ (JA (P:=λx=>1<=x/\x<=3) h (by
  show 1<=1+a.act/2%3/\1+a.act/2%3<=3;omega))
theorem JB {d:fq}{e:Edge}(h:e∈d.auto.trim.aa):1<=e.label/\e.label<=3:=by
 obtain⟨x,hx,_,rfl⟩:=aT.vW.1 h;have hx:=(mr Edge.lt d.raw).subset hx;exact E5 (d.jd.take 12) [] (λy hy=>by simp at hy) x hx
theorem GM {T:List aB}{u:Int}(h:u∈et T T.length):0<=u/\u<T.length:=by
 unfold et at h;obtain⟨i,hi,rfl⟩:=aaq.1 h;have:=aaV.1 (aby.1 hi).1;omega
theorem JC {T:List aB}{s:yu}{i:Nat}(hi:i<3)(hN:et T T.length≠[])(hg:s.a.auto.Good):oK T.length ⟨ib 83 i,fu (et T T.length) s,s.a.auto.trim⟩=0:=by
 have n0:=Tm.nm (k:=0) (by omega);have n1:=Tm.nm (k:=1) (by omega);have n2:=Tm.nm (k:=2) (by omega);have d01:ib 77 0≠ib 77 1:=λe=>by have:=Tm.inj (by omega) (by omega) e;omega
 have d02:ib 77 0≠ib 77 2:=λe=>by have:=Tm.inj (by omega) (by omega) e;omega
 have d12:ib 77 1≠ib 77 2:=λe=>by have:=Tm.inj (by omega) (by omega) e;omega
 have hp:=λx=>GM (aaj (yw hN x).2);unfold oK;have hm:ft ⟨ib 83 i,fu (et T T.length) s,s.a.auto.trim⟩=true:=by
  unfold ft fu;simp[ZK.nm hi,List.range_succ,lH,v8,nS,n0,n1,n2,cz,d01,d02,d12]
 rw[if_neg (by simp[fu]),if_neg (by rw[hm];decide),if_neg,if_neg,if_neg,if_neg]
 .rw[hg.Dy];unfold iota;rw[aam,aaJ];simp[aT.trim]
 .intro h;obtain⟨e,he,hn⟩:=abg.1 h;have:=JB he;have hl:e.label=1\/e.label=2\/e.label=3:=by omega
  rcases hl with hl|hl|hl<;>simp[fu,iF,hl]at hn
 .intro h;exact h (aT.kj.2 hg.trim)
 .intro h;obtain⟨m,hm,hn⟩:=abg.1 h;unfold cM at hn;have:∃x,m.ty=ic (et T T.length) x:=by
   unfold fu at hm;simp only[List.mem_cons,List.not_mem_nil,or_false]at hm;rcases hm with rfl|rfl|rfl
   .exact⟨_,rfl⟩
   .exact⟨_,rfl⟩
   .exact⟨_,rfl⟩
  obtain⟨x,hx⟩:=this;have:=hp x;rw[hx]at hn;simp at hn;omega
theorem JD {nm:ByteArray}{d:Gr}{v:eV}(hn:isName nm=true)(hd:d.ok)(h:Q1 nm d=some v):cX v:=by
 unfold Q1 at h;split at h
 rotate_left
 .cases h
 rename_i hc;obtain⟨c1,c2,c3,c4⟩:=hc;cases h;have hD:¬(d.s.length<1\/5<d.s.length):=by
  intro hx;unfold tN at c1;rw[if_pos hx]at c1;cases c1
 have hT:(tN d.s).1=ij d.s:=by
  unfold tN;rw[if_neg hD];rfl
 have hl:(ij d.s).length=d.s.length:=by simp[ij]
 rw[hT];have l1:(fv (ij d.s).length d.calls d.calls.length).length<=3:=aa5 (fJ _ _) c2;have l2:(ie (ij d.s) d.az d.az.length).length<=2:=aa5 (fJ _ _) c3;have l3:(jn (ij d.s).length d.aI d.aI.length).length<=3:=aa5 (fJ _ _) c4;have q1:((fv (ij d.s).length d.calls d.calls.length).map j8.name).Nodup:=rz ZI _ (λi x hx=>by
  obtain⟨y,_,rfl⟩:=aaT.1 hx;rfl) _ c2
 have q2:((ie (ij d.s) d.az d.az.length).map dt.name).Nodup:=rz ZK _ (λi x hx=>by
  obtain⟨y,_,hx⟩:=ab6.1 hx;unfold wO at hx;split at hx
  .cases hx;rfl
  .cases hx) _ (by omega)
 have q3:((jn (ij d.s).length d.aI d.aI.length).map ky.name).Nodup:=rz ZJ _ (λi x hx=>by
  obtain⟨y,_,rfl⟩:=aaT.1 hx;rfl) _ c4
 refine⟨⟨by dsimp only;omega,by dsimp only;omega,by dsimp only;omega⟩,hn,Ca (by omega) (by omega),λk c hk=>?_,λk c hk=>?_,λk c hk=>?_⟩
 .have hh:=oF q1 hk;obtain⟨i,hi,he⟩:=aba.1 (aaj hk);have hi:=aaV.1 hi;obtain⟨y,_,rfl⟩:=aaT.1 he;unfold mO;dsimp only at hh |-;rw[if_neg (by rw[ZI.nm (by omega)];decide),hh,if_neg (by decide),wv (by omega),wv (by omega)];rfl
 .have hh:=oF q2 hk;obtain⟨i,s,hi,_,hN,rfl,hg⟩:=BX c3 hd.w c (aaj hk);unfold mP;dsimp only at hh |-;rw[hh,if_neg (by decide)];exact JC (by omega) hN hg
 .have hh:=oF q3 hk;obtain⟨i,hi,he⟩:=aba.1 (aaj hk);have hi:=aaV.1 hi;obtain⟨y,_,rfl⟩:=aaT.1 he;unfold mA;dsimp only at hh |-;rw[if_neg (by rw[ZJ.nm (by omega)];decide),hh,if_neg (by decide),wv (by omega)];rfl
theorem E6 {b:Bool}{T:List aB}{n m:List Int}(hn:Dw b T n)(hl:m.length=T.length)(hm:∀k x,T[k]?=some x->jM b x m<=m.getD k 0)(h:my n m):∀k,my (swp b T n k) m
 |0=>h
 |k+1=>by
  have ih:=E6 hn hl hm h k;have hw:=(hn.swp k).1;unfold swp;split
  .rename_i x hx;have hk:k<(swp b T n k).length:=by rw[ih.1,hl];exact(aak.1 hx).1
   refine⟨by rw[abe,ih.1],λi=>?_⟩;rw[iB i hk];split
   .rename_i e;rw[e];exact Int.le_trans (q9 b x hw.2.1 ih) (hm k x hx)
   .exact ih.2 i
  .exact ih
theorem Cb {b:Bool}{T:List aB}{m:List Int}(hl:m.length=T.length)(h2:yd m)(hm:∀k x,T[k]?=some x->jM b x m<=m.getD k 0):∀r,my (gV b T r) m
 |0=>by
  refine⟨by rw[hl];exact abu,λk=>?_⟩;have h1:=h2.at k;show (List.replicate T.length (0:Int)).getD k 0<=_;rw[aat,abw];split<;>simpa using h1.1
 |r+1=>E6 (fI b T r) hl hm (Cb hl h2 hm r) _
theorem wx {α:Type}{f g:α->Bool}{l:List α}(h:∀a∈l,f a=g a):l.all f=l.all g:=by
 rw[aa4,aaF,aaF];exact⟨λk a ha=>by rw[<- h a ha];exact k a ha,λk a ha=>by rw[h a ha];exact k a ha⟩
theorem pX {α:Type}{f g:Int->α->Int}:∀(l:List α)(c:Int),(∀c,∀a∈l,f c a=g c a)->l.foldl f c=l.foldl g c
 |[],_,_=>rfl
 |a::l,c,h=>by
  rw[abd,abd,h c a aaN];exact pX l _ λc b hb=>h c b (aaz _ hb)
theorem GN {L:List Int}{x:aB}{N M:List Int}(h:∀u∈bw x,gQ N (br L u)=gQ M u):jM false (bt L x) N=jM false x M:=by
 have h5:=pX (f:=λc m=>min 2 (c*gQ N (dQ L m).type)) (g:=λc m=>min 2 (c*gQ M m.type)) x.aO 1 λc m hm=>by
  show min 2 (c*gQ N (br L m.type))=_;rw[h _ (kh hm)]
 have h6:=pX (f:=λc m=>min 2 (c+gQ N (dQ L m).type)) (g:=λc m=>min 2 (c+gQ M m.type)) x.aO 0 λc m hm=>by
  show min 2 (c+gQ N (br L m.type))=_;rw[h _ (kh hm)]
 have he:7<=x.kind->gQ N (br L x.elem)=gQ M x.elem:=λh7=>h _ (ot h7);unfold jM bt;dsimp only;rw[List.foldl_map,List.foldl_map,h5,h6];by_cases h7:7<=x.kind
 .rw[if_pos h7,he h7];simp
 .simp[show ¬x.kind=7 by omega,show ¬x.kind=8 by omega,show ¬x.kind=9 by omega]
theorem jB.pos {l:List aB}{L:List Int}(h:jB l L)(hp:∀i,i<l.length->1<=(km l).getD i 0):∀k,k<L.length->1<=(km (eO l L)).getD k 0:=by
 obtain⟨f1,f2,f3⟩:=(mz false (eO l L)).1;have hl:(eO l L).length=L.length:=by simp[eO]
 have hN:km (eO l L)=gV false (eO l L) (2*(eO l L).length+1):=rfl;rw[<- hN]at f1 f2 f3;generalize km (eO l L)=N at *
 let M:List Int:=(List.range l.length).map λ(u:Nat)=>if (u:Int)∈L then gQ N (br L u) else 2
 have hM:∀u:Nat,u<l.length->M.getD u 0=if (u:Int)∈L then gQ N (br L u) else 2:=λu hu=>by
  rw[aat,aap,abk hu];rfl
 have hM2:yd M:=λx hx=>by
  obtain⟨u,_,rfl⟩:=aaq.1 hx;split
  .exact f2.at _
  .omega
 have hML:M.length=l.length:=by simp[M]
 have hMi:∀u∈L,gQ M u=gQ N (br L u):=λu hu=>by
  obtain⟨u0,u1⟩:=h.cp u hu;have:=hM u.toNat (by omega);rw[abH u0,if_pos hu]at this;exact this
 have hpre:=Cb (b:=false) hML hM2 (λk x hx=>by
  have hk:=(aak.1 hx).1;rw[hM k hk];split
  .rename_i hkL;obtain⟨i0,i1,i2⟩:=ja hkL;have hc:=f3 _ _ (kl i2);have hxt:bf l (k:Int)=x:=by
    have:=cC (l:=l) (i:=k) (by omega) (by omega);rw[aaU,hx]at this;exact(Option.some.inj this).symm
   rw[hxt]at hc;rw[show gQ N (br L k)=N.getD (br L k).toNat 0 from rfl,hc,GN λu hu=>(hMi u (h.cl k hkL u (by rw[hxt];exact hu))).symm];exact abP _
  .exact(ui false x hM2).2) (2*l.length+1)
 intro k hk;obtain⟨u,hu⟩:=get_some hk;have huL:=aaj hu;obtain⟨u0,u1⟩:=h.cp u huL;have h1:=hp u.toNat (by omega);have h2:=hpre.2 u.toNat;have h3:=hMi u huL;rw[zt h.nodup hu]at h3;unfold gQ at h3;rw[aaU]at h3;have h4:(km l).getD u.toNat 0=(gV false l (2*l.length+1)).getD u.toNat 0:=rfl;omega
theorem jB.fit {l:List aB}{L:List Int}(h:jB l L):∀(n:Nat)(t:Int)(cs:List PV),t∈L->dK (eO l L) n (br L t) cs=dK l n t cs
 |0,_,_,_=>rfl
 |n+1,t,cs,ht=>by
  have ih:=jB.fit h n;obtain⟨t0,t1⟩:=h.cp t ht;obtain⟨i0,i1,i2⟩:=ja ht;have e1:(if br L t<0 then none else (eO l L)[(br L t).toNat]?)=some (bt L (bf l t)):=by
   rw[if_neg (by omega),kl i2]
  have e2:(if t<0 then none else l[t.toNat]?)=some (bf l t):=by
   rw[if_neg (by omega),cC t0 t1]
  have hu:=h.cl t ht;have hlow:=zG ((bB h.v).own _ (aaj (cC t0 t1)));generalize bf l t=x at *;have hx:∀v:dO,gp (dK (eO l L) n) (bt L x) v=gp (dK l n) x v:=λv=>by
   have k5:((x.aO.map (dQ L)).zip v.items).all (λq=>dK (eO l L) n q.1.type q.2)=(x.aO.zip v.items).all λq=>dK l n q.1.type q.2:=by
    rw[List.zip_map_left,List.all_map];refine wx λq hq=>?_;exact ih _ _ (hu _ (kh (List.of_mem_zip hq).1))
   have k6:(x.aO.map (dQ L)).find? (pE v.id)=(x.aO.find? (pE v.id)).map (dQ L):=by
    rw[List.find?_map];rfl
   have ke:∀r,7<=x.kind->dK (eO l L) n (br L x.elem) r=dK l n x.elem r:=λr h7=>ih _ _ (hu _ (ot h7));have kk:∀r,x.kind=8->dK (eO l L) n (br L x.key) r=dK l n x.key r:=λr h8=>ih _ _ (hu _ (gH h8));unfold gp bt;dsimp only;rw[k5,k6,aam];by_cases h7:7<=x.kind
   .have h7':∀q:List (List PV),q.all (dK (eO l L) n (br L x.elem))=q.all (dK l n x.elem):=λq=>wx λr _=>ke r h7;rw[if_pos h7];simp only[show ¬x.kind=1 by omega,show ¬x.kind=2 by omega,show ¬x.kind=3 by omega,show ¬x.kind=4 by omega,show ¬x.kind=5 by omega,show ¬x.kind=6 by omega,if_false,h7'];by_cases h8:x.kind=8
    .have h8':∀q:List (List PV),q.all (dK (eO l L) n (br L x.key))=q.all (dK l n x.key):=λq=>wx λr _=>kk r h8;simp only[h8,if_true,h8']
    .simp only[h8,if_false]
   .simp only[show ¬x.kind=7 by omega,show ¬x.kind=8 by omega,if_false,h7];by_cases h6:x.kind=6
    .simp only[h6,if_true];cases hf:x.aO.find? (pE v.id)with
     |none=>rfl
     |some m=>
      have hm:=ih m.type;have:=hu _ (kh (ab1 hf));cases hi:v.items with
      |nil=>rfl
      |cons r q=>
       cases q with
       |nil=>
        exact hm r this
       |cons=>rfl
    .rcases(show x.kind=1\/x.kind=2\/x.kind=3\/x.kind=4\/x.kind=5 by omega)with hk|hk|hk|hk|hk<;>simp only[hk,Int.reduceEq,if_true,if_false]
  unfold dK;split
  .rw[e1,e2];dsimp only;rw[hx];rfl
  .rfl
theorem jB.right {l:List aB}{L:List Int}(h:jB l L)(hr:er l=0):er (eO l L)=0:=by
 obtain⟨hv,hm⟩:=gl hr;refine B8 h.valid λx hx m' hm' hh=>?_;obtain⟨u,hu,rfl⟩:=aaq.1 hx;obtain⟨m,hmm,rfl⟩:=aaq.1 hm';obtain⟨u0,u1⟩:=h.cp u hu;have hul:=aaj (cC u0 u1);have hf:=hm _ hul m hmm hh;have huse:=h.cl u hu _ (kh hmm)
 classical
 unfold qZ at hf |-;obtain⟨n,h1,h2⟩:=of_decide_eq_true hf;exact decide_eq_true ⟨n,h1,by
  show dK (eO l L) n (br L m.type) m.gN.c=true;rw[h.fit n _ _ huse];exact h2⟩
theorem yD {T:List aB}:eS T=0↔er T=0/\∀i,i<T.length->1<=(km T).getD i 0:=by
 have hl:=lG T;unfold eS;by_cases hr:er T=0
 .rw[if_neg (by simp[hr])];by_cases ha:(tO T).all id=true
  .rw[if_pos ha];refine⟨λ_=>⟨hr,λi hi=>?_⟩,λ_=>rfl⟩;rw[aaF]at ha;obtain⟨x,hx⟩:=get_some (l:=km T) (k:=i) (by omega);have:=ha (jc x) (abf (aaj hx));rw[aat,hx];unfold jc at this;simp at this |-;omega
  .rw[if_neg ha];refine⟨λh=>(by cases h),λh=>absurd ?_ ha⟩;rw[aaF];intro b hb;obtain⟨x,hx,rfl⟩:=aaq.1 hb;obtain⟨i,hi⟩:=aan.1 hx;have:=h.2 i (by have:=(aak.1 hi).1;omega);rw[aat,hi]at this;unfold jc;simp at this |-;omega
 .rw[if_pos hr];exact⟨λh=>absurd h hr,λh=>absurd h.1 hr⟩
theorem jB.sound {l:List aB}{L:List Int}(h:jB l L)(hs:eS l=0):eS (eO l L)=0:=by
 obtain⟨h1,h2⟩:=yD.1 hs;have hl:(eO l L).length=L.length:=by simp[eO]
 exact yD.2 ⟨h.right h1,λi hi=>h.pos h2 i (by omega)⟩
structure VIn (v:eV):Prop where
 o:∀t∈v.types,t.ok
 s:∀t∈v.types,t.short
 tl:v.types.length<=2147483648
 sl:v.az.length<=2^63 - 1
 n:bo v.name
 c:∀c∈v.calls,bo c.name
 w:∀w∈v.az,bo w.name/\∀m∈w.msgs,bo m.name
 p:∀c∈v.aI,bo c.name
theorem JE {v w:eV}(hv:cX v)(hw:cX w)(h:yB v w=true):(yC v w).1=true/\(yC v w).2=0:=by
 unfold yC;rw[if_neg (by rw[hv.err];decide),if_neg (by rw[hw.err];decide)];exact⟨h,rfl⟩
theorem cX.of {v:eV}(C6:v.calls.length<=8/\v.az.length<=8/\v.aI.length<=8)(nm:isName v.name=true)(sound:eS v.types=0)
  (c:(v.calls.map j8.name).Nodup/\∀c∈v.calls,isName c.name=true/\(0<=c.lK/\c.lK<v.types.length)/\0<=c.rep/\c.rep<v.types.length)
  (s:(v.az.map dt.name).Nodup/\∀w∈v.az,oK v.types.length w=0)
  (t:(v.aI.map ky.name).Nodup/\∀c∈v.aI,isName c.name=true/\0<=c.ty/\c.ty<v.types.length):cX v:=by
 have ho:∀{n:Nat}{u:Int},0<=u/\u<n->cM n u=false:=λh=>by
  unfold cM;simp;omega
 refine⟨C6,nm,sound,λk x hk=>?_,λk x hk=>?_,λk x hk=>?_⟩
 .obtain⟨h1,h2,h3⟩:=c.2 x (aaj hk);unfold mO;rw[if_neg (by rw[h1];decide),oF c.1 hk,if_neg (by decide),ho h2,ho h3];rfl
 .unfold mP;rw[oF s.1 hk,if_neg (by decide)];exact s.2 x (aaj hk)
 .obtain⟨h1,h2⟩:=t.2 x (aaj hk);unfold mA;rw[if_neg (by rw[h1];decide),oF t.1 hk,if_neg (by decide),ho h2];rfl
theorem cX.bm {v:eV}(h:cX v):∀c∈v.calls,isName c.name=true/\(0<=c.lK/\c.lK<v.types.length)/\0<=c.rep/\c.rep<v.types.length:=λc hc=>by
 obtain⟨k,hk⟩:=aan.1 hc;have:=sB (h.Xx k c hk);exact⟨this.1,this.2.2⟩
theorem cX.cg {v:eV}(h:cX v):∀c∈v.aI,isName c.name=true/\0<=c.ty/\c.ty<v.types.length:=λc hc=>by
 obtain⟨k,hk⟩:=aan.1 hc;have:=sC (h.top k c hk);exact⟨this.1,this.2.2⟩
theorem mD {v:eV}(h:bG v.types=0):jB v.types (aP v) where
 v:=h
 JM:=yb _ _
 cp u hu:=by
  obtain⟨h0,h1,_⟩:=dV.1 hu;exact⟨h0,h1⟩
 cl u hu x hx:=dV.2 (yc (dV.1 hu) hx)
theorem mE (v:eV):(aQ v).types=eO v.types (aP v):=rfl
theorem pY (v:eV):(aQ v).types.length=(aP v).length:=by rw[mE];simp[eO]
theorem oc {v:eV}{u:Int}(hu:u∈aP v):0<=br (aP v) u/\br (aP v) u<(aQ v).types.length:=by
 obtain⟨h0,h1,_⟩:=ja hu;rw[pY];exact⟨h0,h1⟩
structure V9 (v:eV):Prop where
 c:∀c∈v.calls,c.lK∈aP v/\c.rep∈aP v
 s:∀w∈v.az,∀m∈w.msgs,m.ty∈aP v
 t:∀c∈v.aI,c.ty∈aP v
theorem cX.D0 {v:eV}(h:cX v):V9 v:=by
 have hr:∀r∈eN v,r∈aP v:=λr hr=>dV.2 (sq h.valid h.root r hr);refine⟨λc hc=>⟨hr _ ?_,hr _ ?_⟩,λw hw m hm=>hr _ ?_,λc hc=>hr _ ?_⟩
 .exact List.mem_append_left _ (List.mem_append_left _ (List.mem_flatMap.2 ⟨c,hc,by simp⟩))
 .exact List.mem_append_left _ (List.mem_append_left _ (List.mem_flatMap.2 ⟨c,hc,by simp⟩))
 .exact aa2 _ (aa9 _ (ab5.2 ⟨w,hw,abf hm⟩))
 .exact aa9 _ (abf hc)
theorem sK {α:Type}{f:α->ByteArray}{g:α->α}(h:∀x,f (g x)=f x)(l:List α):(l.map g).map f=l.map f:=by
 rw[aa6];exact abI λx _=>h x
theorem GO {n:Nat}{w:dt}(h:EX n w):oK n w=0:=by
 unfold oK;rw[if_neg (by have:=h.C6;omega),if_neg (by rw[h.ZM];decide),if_neg,if_neg (by rw[h.au];decide),if_neg,if_neg (λk=>k h.all)]
 .intro k;obtain⟨e,he,hn⟩:=abg.1 k;rw[h.ZN e he]at hn;cases hn
 .intro k;obtain⟨m,hm,hn⟩:=abg.1 k;have:=h.ty m hm;unfold cM at hn;simp at hn;omega
theorem Cc (L:List Int)(w:dt):ft (bR L w)=ft w:=by
 have e1:∀k,(bR L w).msgs[k]?=w.msgs[k]?.map (iz L):=λk=>aap;have e2:∀k,nS (bR L w).msgs k=nS w.msgs k:=λk=>by
  unfold nS;rw[e1];cases w.msgs[k - 1]?<;>rfl
 have e3:∀k,((bR L w).msgs.take k).map (·.name)=(w.msgs.take k).map (·.name):=λk=>by
  show ((w.msgs.map (iz L)).take k).map (·.name)=_;rw[<- abl,aa6];rfl
 have e4:∀k,lH (bR L w).msgs k=lH w.msgs k:=λk=>by
  unfold lH;rw[e1];cases w.msgs[k]? with
  |none=>rfl
  |some m=>
   dsimp only[Option.map_some];unfold v8;rw[e2,e3];rfl
 have e5:(bR L w).msgs.length=w.msgs.length:=aam _;unfold ft;rw[e5,funext e4];rfl
theorem od {v:eV}(h:cX v):cX (aQ v):=by
 have hs:=mD h.valid;have hr:=h.D0;refine .of (by have:=h.C6;simp only[aQ,List.length_map];exact this) h.nm (hs.sound h.sound) ⟨?_,λc hc=>?_⟩ ⟨?_,λw hw=>?_⟩ ⟨?_,λc hc=>?_⟩
 .show ((v.calls.map (cq (aP v))).map j8.name).Nodup;rw[sK (f:=j8.name) (g:=cq _) λ_=>rfl];exact h.fp
 .obtain⟨c,hm,rfl⟩:=aaq.1 hc;exact⟨(h.bm c hm).1,oc (hr.c c hm).1,oc (hr.c c hm).2⟩
 .show ((v.az.map (bR (aP v))).map dt.name).Nodup;rw[sK (f:=dt.name) (g:=bR _) λ_=>rfl];exact h.fF
 .obtain⟨w,hw2,rfl⟩:=aaq.1 hw;have hg:=h.kJ w hw2;refine GO ⟨by rw[show (bR (aP v) w).msgs.length=_ from aam _];exact hg.C6,by rw[Cc];exact hg.ZM,λm hm=>?_,hg.au,λe he=>?_,hg.all⟩
  .obtain⟨m,hm2,rfl⟩:=aaq.1 hm;exact oc (hr.s w hw2 m hm2)
  .show (w.msgs.map (iz (aP v))).any (iF e.label)=true;rw[abt];exact hg.ZN e he
 .show ((v.aI.map (cW (aP v))).map ky.name).Nodup;rw[sK (f:=ky.name) (g:=cW _) λ_=>rfl];exact h.pM
 .obtain⟨c,hm,rfl⟩:=aaq.1 hc;exact⟨(h.cg c hm).1,oc (hr.t c hm)⟩
theorem D1 (L:List Int)(t:aB):oN (bt L t)=(oN t).map λu=>(u.1,br L u.2):=by
 have e1:nX (t.aO.map (dQ L))=(nX t.aO).map λu=>(u.1,br L u.2):=by
  unfold nX;rw[aa6,aa6];rfl
 unfold oN bt;dsimp only;rw[e1,aaR,aaR];by_cases h8:t.kind=8
 .simp[h8]
 .by_cases h7:7<=t.kind<;>simp[h8,h7]
theorem Cd (L:List Int)(t:aB):ec t (bt L t)=true:=by
 have:DQ (bt L t)=DQ t:=by
  unfold DQ bt;dsimp only;rw[aa6];rfl
 unfold ec;rw[this,dX]
theorem kM {v:eV}(h:cX v)(tv:B5 v.types){u:Int}(hu:u∈aP v):eC v.types (aQ v).types u (br (aP v) u)=true:=by
 have hs:=mD h.valid;have hat:∀u∈aP v,bf (eO v.types (aP v)) (br (aP v) u)=bt (aP v) (bf v.types u):=λu hu=>by
  obtain⟨_,_,h2⟩:=ja hu;unfold bf;rw[kl h2];rfl
 obtain⟨u0,u1⟩:=hs.cp u hu;obtain⟨i0,i1⟩:=oc hu;have hc:∀u:Int,u∈aP v->((u.toNat:Nat):Int)=u/\(((br (aP v) u).toNat:Nat):Int)=br (aP v) u:=λu hu=>by
  obtain⟨u0,_⟩:=hs.cp u hu;obtain⟨i0,_⟩:=oc hu;exact⟨abH u0,abH i0⟩
 have:=DY (A:=v.types) (B:=(aQ v).types) (S:=λp q=>∃u∈aP v,p=u.toNat/\q=(br (aP v) u).toNat) (λp q ⟨u,hu,hp,hq⟩=>by
  obtain⟨u0,u1⟩:=hs.cp u hu;obtain⟨i0,i1⟩:=oc hu;omega) (λp q ⟨u,hu,hp,hq⟩=>by
  rw[hp,hq,(hc u hu).1,(hc u hu).2,mE,hat u hu];exact Cd _ _) (λM hM p q ⟨u,hu,hp,hq⟩=>by
  rw[hp,hq,(hc u hu).1,(hc u hu).2,mE,hat u hu];unfold Gv;rw[D1];refine E4.2 ⟨(aam _).symm,λi a b ha hb=>?_⟩;rw[aap,ha]at hb;cases hb;have hxu:a.2∈aP v:=by
   obtain⟨u0,u1⟩:=hs.cp u hu;have hm:=aaj (cC u0 u1);have ho:=(bB h.valid).own _ hm;exact hs.cl u hu _ (yA (aaj ha) ⟨zG ho,nD ho⟩)
  have:=hM _ _ ⟨a.2,hxu,rfl,rfl⟩;rw[(hc _ hxu).1,(hc _ hxu).2]at this;exact this) u.toNat (br (aP v) u).toNat ⟨u,hu,rfl,rfl⟩
 rw[(hc u hu).1,(hc u hu).2]at this;exact this
theorem wy {v:eV}(h:cX v)(tv:B5 v.types):yB v (aQ v)=true:=by
 have hg:=od h;have hr:=h.D0;refine(Jv v (aQ v)).2 ⟨⟨(aam _).symm,(aam _).symm,(aam _).symm⟩,aaF.2 λc hc=>(wq hg.fp).2 ⟨_,abf hc,rfl,?_⟩,aaF.2 λc hc=>(wq hg.pM).2 ⟨_,abf hc,rfl,?_⟩,aaF.2 λc hc=>(wq hg.fF).2 ⟨_,abf hc,rfl,?_⟩⟩
 .show (eC _ _ c.lK (br (aP v) c.lK)&&eC _ _ c.rep (br (aP v) c.rep))=true;rw[kM h tv (hr.c c hc).1,kM h tv (hr.c c hc).2];rfl
 .show eC _ _ c.ty (br (aP v) c.ty)=true;rw[kM h tv (hr.t c hc)]
 .have hsg:=h.kJ c hc;unfold E3;rw[show B7 c.auto (bR (aP v) c).auto=true from Js hsg.au,Bool.and_true];refine E4.2 ⟨(aam _).symm,λi m n hm hn=>?_⟩;rw[show (bR (aP v) c).msgs[i]?=_ from aap,hm]at hn;cases hn;show (decide (m.id=m.id)&&eC _ _ m.ty (br (aP v) m.ty))=true;rw[kM h tv (hr.s c hc m (aaj hm)),decide_eq_true rfl];rfl
theorem Ce (v:eV):eN (aQ v)=(eN v).map (br (aP v)):=by
 unfold eN fp fF pM aQ;simp only[List.map_append,List.map_flatMap,List.flatMap_map,List.map_map];have e:(λa=>nM (bR (aP v) a).msgs)=λa=>(nM a.msgs).map (br (aP v)):=funext λa=>by
  unfold nM bR;simp only[List.map_map];rfl
 rw[e];rfl
theorem zK {v:eV}(h:cX v):aQ (aQ v)=aQ v:=by
 have hg:=od h;have hs:=mD h.valid;have hlen:=pY v;have hrs:∀r∈eN v,r∈aP v:=λr hr=>dV.2 (sq h.valid h.root r hr);have hk:aP (aQ v)=JY (aQ v).types.length:=by
  refine KQ (yb _ _) (EU _) λx=>?_;rw[dV];constructor
  .rintro ⟨x0,x1,_⟩
   exact aaq.2 ⟨x.toNat,aaV.2 (by omega),by omega⟩
  .intro hx;obtain⟨k,hk,rfl⟩:=aaq.1 hx;have hk:=aaV.1 hk;obtain⟨u,hu⟩:=get_some (l:=aP v) (k:=k) (by omega);have huL:=aaj hu;have hik:br (aP v) u=k:=zt hs.nodup hu;obtain⟨u0,u1,u2⟩:=dV.1 huL;obtain⟨r,hr,hur⟩:=(nN u0).1 u2;refine⟨by omega,by omega,(nN (by omega)).2 ⟨br (aP v) r,by rw[Ce];exact abf hr,?_⟩⟩;obtain⟨r0,r1⟩:=h.root r hr;have hRr:KR (Mr v.types) r u:=by
    have hkn:=BM h.valid r0 r1;unfold dB at hur;rw[if_neg (λh=>h hkn)]at hur;have hur:=(bW qF _).mem_iff.1 hur;unfold mh at hur;rw[qN (P:=Ci v.types) (bB h.valid).next gj ⟨r0,r1⟩]at hur;exact hur
   obtain⟨_,hgo⟩:=hs.YS (hrs r hr) hRr;obtain⟨i0,i1⟩:=oc (hrs r hr);have hkn:=BM hg.valid i0 i1;unfold dB;rw[if_neg (λh=>h hkn)];refine(bW qF _).mem_iff.2 ?_;unfold mh;rw[qN (P:=Ci (aQ v).types) (bB hg.valid).next gj ⟨i0,i1⟩,<- hik];exact hgo
 have hr:=hg.D0;have hin:∀x∈aP (aQ v),br (JY (aQ v).types.length) x=x:=λx hx=>by
  obtain⟨x0,x1,_⟩:=dV.1 hx;exact La x0 x1
 have hshow:aQ (aQ v)=⟨(aQ v).name,(aP (aQ v)).map λu=>bt (aP (aQ v)) (bf (aQ v).types u),(aQ v).calls.map (cq (aP (aQ v))),(aQ v).az.map (bR (aP (aQ v))),(aQ v).aI.map (cW (aP (aQ v)))⟩:=rfl;have hs2:=mD hg.valid;have e1:((aP (aQ v)).map λu=>bt (aP (aQ v)) (bf (aQ v).types u))=(aQ v).types:=by
  have:((aP (aQ v)).map λu=>bt (aP (aQ v)) (bf (aQ v).types u))=(aP (aQ v)).map λu=>bf (aQ v).types u:=by
   refine abI λu hu=>DI λx hx=>?_;have hx:=hs2.cl u hu x hx;have:=hin x hx;rw[<- hk]at this;exact this
  rw[this,hk];apply aci
  .simp[JY]
  .intro i h1 h2;simp only[JY,List.map_map,List.getElem_map,List.getElem_range,Function.comp];exact ku (aal h2)
 have e2:(aQ v).calls.map (cq (aP (aQ v)))=(aQ v).calls:=by
  rw[abI (g:=id) (λc hc=>?_),ack];have:=hr.c c hc;unfold cq;rw[hk]at this |-;rw[hin c.lK (by rw[hk];exact this.1),hin c.rep (by rw[hk];exact this.2)];rfl
 have e3:(aQ v).az.map (bR (aP (aQ v)))=(aQ v).az:=by
  rw[abI (g:=id) (λw hw=>?_),ack];unfold bR;rw[abI (g:=id) (λm hm=>?_),ack]
  .rfl
  have:=hr.s w hw m hm;unfold iz;rw[hk]at this |-;rw[hin m.ty (by rw[hk];exact this)];rfl
 have e4:(aQ v).aI.map (cW (aP (aQ v)))=(aQ v).aI:=by
  rw[abI (g:=id) (λc hc=>?_),ack];have:=hr.t c hc;unfold cW;rw[hk]at this |-;rw[hin c.ty (by rw[hk];exact this)];rfl
 rw[hshow,e1,e2,e3,e4]
theorem zL {L:List Int}{t:aB}(h:t.short):(bt L t).short:=⟨h.syms,by
 show (t.aO.map (dQ L)).length<=_;rw[aam];exact h.aO⟩
theorem zM {v:eV}(hv:gK v)(hl:v.types.length<=5):gK (aQ v):=by
 have hin:∀t∈(aQ v).types,∃x∈v.types,t=bt (aP v) x:=λt ht=>by
  obtain⟨u,hu,rfl⟩:=aaq.1 ht;obtain⟨u0,u1,_⟩:=dV.1 hu;exact⟨_,aaj (cC u0 u1),rfl⟩
 have hk:(aP v).length<=v.types.length:=by
  unfold aP i6;rw[aam];exact ox _ _
 refine⟨hv.nm,by rw[pY];omega,λt ht=>?_,λt ht=>?_,by rw[show (aQ v).calls.length=_ from aam _];exact hv.cl,λc hc=>?_,by rw[show (aQ v).az.length=_ from aam _];exact hv.sl,λw hw=>?_,by rw[show (aQ v).aI.length=_ from aam _];exact hv.pl,λc hc=>?_⟩
 .obtain⟨x,hx,rfl⟩:=hin t ht;exact yl (by omega) (hv.to x hx)
 .obtain⟨x,hx,rfl⟩:=hin t ht;exact zL (hv.ts x hx)
 .obtain⟨x,hx,rfl⟩:=aaq.1 hc;exact hv.cs x hx
 .obtain⟨x,hx,rfl⟩:=aaq.1 hw;obtain⟨h1,h2,h3,h4⟩:=hv.ss x hx;refine⟨h1,by rw[show (bR (aP v) x).msgs.length=_ from aam _];exact h2,λm hm=>?_,h4⟩;obtain⟨y,hy,rfl⟩:=aaq.1 hm;exact h3 y hy
 .obtain⟨x,hx,rfl⟩:=aaq.1 hc;exact hv.ps x hx
set_option maxRecDepth 20000 in
set_option maxHeartbeats 8000000 in
theorem r399 (r404:res A ay 404 []=some [.bool true])(d:Gr)(hd:d.ok):res A ay 399 [.agg d.c]=some [.bool true]:=by
 refine ai a399 rfl rfl ?_;simp only[F399,O2];have h419:=r419 ⟨#[118,49]⟩ d hd;cases ho:Q1 ⟨#[118,49]⟩ d with
 |none=>
  rw[ho]at h419;simp only[Gr.c]at h419 |-;simp(disch:=omega)only[go_sem,r404,h419]
 |some v=>
  rw[ho]at h419;obtain⟨hv,l1,l2,l3,l4,l5⟩:=Gt (by unfold bo;decide) hd ho;have hg:=JD (by decide) hd ho;have tv:=(hg.vt hv).wC;have hs:=od hg;have hw:=zM hv l1;have e2:=JE hg hs (wy hg tv);have h421:=r421 0 0 0 0 0 0 0 0 v (aQ v) hv hw;rw[e2.1,e2.2]at h421;have h408:=r408 0 0 0 0 v hv;have h408':=r408 0 0 0 0 (aQ v) hw;rw[if_pos hg.err]at h408;rw[if_pos hs.err,zK hg]at h408';have h407:=r407 0 0 0 0 (aQ v) hw;have h406:=r406 0 0 0 0 (aQ v) hw;rw[hs.err]at h407 h406;have h409':=BY hv l1 l2 l3 l4 l5;generalize aQ v=sv at *;simp only[Gr.c,eY]at *;simp(disch:=omega)only[go_sem,r404,h419,h408,h408',h421,h407,h406,h409']
theorem r404:res A ay 404 []=some [.bool true]:=lh.2 ⟨3000,by kernel_rfl⟩
variable {P:Program}
theorem tE {n:Nat}{t:TypeId}{cs:List PV}(hu:P.underlying t=some (.int .u8))(h:typed P n t cs):∃x:Nat,cs=[.int .u8 x]/\x<=255:=by
 cases n with
 |zero=>exact h.elim
 |succ n=>
  obtain⟨x,rfl,h1,h2⟩:=FC hu h;have h1:(0:Int)<=x:=h1;have h2:x<=(255:Int):=h2;refine⟨x.toNat,?_,by omega⟩;rw[abH h1]
structure wz (P:Program)(dr nd pt ln lp t8:TypeId):Prop where
 u:P.underlying t8=some (.int .u8)
 n:P.underlying ln=some (.slice nd)
 p:P.underlying lp=some (.slice pt)
 d:∃fs,P.underlying dr=some (.struct fs)/\fs.toList.map (·.type)=[ln]
 x:∃fs,P.underlying nd=some (.struct fs)/\fs.toList.map (·.type)=[t8,t8,t8,t8,lp]
 q:∃fs,P.underlying pt=some (.struct fs)/\fs.toList.map (·.type)=[t8,t8,t8]
section
variable {dr nd pt ln lp t8:TypeId}
theorem D2 (T:wz P dr nd pt ln lp t8){n:Nat}{cs:List PV}(h:typed P n pt cs):∃p:Part,cs=p.c/\p.ok:=by
 cases n with
 |zero=>exact h.elim
 |succ n=>
  obtain⟨fs,hu,hts⟩:=T.q;obtain⟨r0,q0,rfl,h0,r1,q1,rfl,h1,r2,q2,rfl,h2,rfl⟩:=eH hu hts h;obtain⟨a,rfl,ha⟩:=tE T.u h0;obtain⟨b,rfl,hb⟩:=tE T.u h1;obtain⟨c,rfl,hc⟩:=tE T.u h2;exact⟨⟨a,b,c⟩,rfl,ha,hb,hc⟩
theorem D3 (T:wz P dr nd pt ln lp t8){n:Nat}{cs:List PV}(h:typed P n nd cs):∃x:Node,cs=x.cs/\x.ok:=by
 cases n with
 |zero=>exact h.elim
 |succ n=>
  obtain⟨fs,hu,hts⟩:=T.x;obtain⟨r0,q0,rfl,h0,r1,q1,rfl,h1,r2,q2,rfl,h2,r3,q3,rfl,h3,r4,q4,rfl,h4,rfl⟩:=eH hu hts h;obtain⟨k,rfl,hk⟩:=tE T.u h0;obtain⟨a,rfl,ha⟩:=tE T.u h1;obtain⟨b,rfl,hb⟩:=tE T.u h2;obtain⟨c,rfl,hc⟩:=tE T.u h3;obtain⟨ps,rfl,hl,hp⟩:=lA T.p (λm cs _ hh=>D2 T hh) h4;exact⟨⟨k,a,b,c,ps⟩,by simp[Node.cs],⟨hk,ha,hb,hc⟩,hl,hp⟩
theorem Cf (T:wz P dr nd pt ln lp t8){n:Nat}{cs:List PV}(h:typed P n dr cs):∃d:List Node,cs=[.ae 0 (d.map Node.cs)]/\cc d/\∀x∈d,x.ok:=by
 cases n with
 |zero=>exact h.elim
 |succ n=>
  obtain⟨fs,hu,hts⟩:=T.d;obtain⟨r0,q0,rfl,h0,rfl⟩:=eH hu hts h;obtain⟨l,rfl,k,g⟩:=lA T.n (λm cs _ hh=>D3 T hh) h0;exact⟨l,by simp,k,g⟩
end
end Go.Pv
namespace Go.Pv
variable {P:Program}
structure GP (P:Program)(vd sd lc cl ls ss ad la ar a3 lt t8:TypeId):Prop where
 u:P.underlying t8=some (.int .u8)
 v:∃fs,P.underlying vd=some (.struct fs)/\fs.toList.map (·.type)=[sd,lc,ls,lt]
 lc:P.underlying lc=some (.slice cl)
 c:P.underlying cl=some (.array 2 t8)
 ls:P.underlying ls=some (.slice ss)
 s:∃fs,P.underlying ss=some (.struct fs)/\fs.toList.map (·.type)=[ad,a3]
 a:∃fs,P.underlying ad=some (.struct fs)/\fs.toList.map (·.type)=[t8,la]
 la:P.underlying la=some (.slice ar)
 r:∃fs,P.underlying ar=some (.struct fs)/\fs.toList.map (·.type)=[t8,t8,t8]
 b:P.underlying a3=some (.array 3 t8)
 lt:P.underlying lt=some (.slice t8)
section
variable {vd sd lc cl ls ss ad la ar a3 lt t8 nd pt ln lp:TypeId}
theorem ld {n:Nat}{t:TypeId}{cs:List PV}(hu:P.underlying t=some (.int .u8))(h:typed P n t cs):∃x:Int,cs=[.int .u8 x]/\Q0 x:=by
 obtain⟨x,rfl,hx⟩:=tE hu h;exact⟨x,rfl,by unfold Q0;omega⟩
theorem GQ (T:GP P vd sd lc cl ls ss ad la ar a3 lt t8){n:Nat}{cs:List PV}(h:typed P n cl cs):∃c:Int×Int,cs=Tg c/\Q0 c.1/\Q0 c.2:=by
 cases n with
 |zero=>exact h.elim
 |succ n=>
  obtain⟨r0,q0,rfl,h0,r1,q1,rfl,h1,rfl⟩:=ta T.c h;obtain⟨x,rfl,hx⟩:=ld T.u h0;obtain⟨y,rfl,hy⟩:=ld T.u h1;exact⟨(x,y),rfl,hx,hy⟩
theorem GR (T:GP P vd sd lc cl ls ss ad la ar a3 lt t8){n:Nat}{cs:List PV}(h:typed P n ar cs):∃x:yg,cs=x.c/\x.ok:=by
 cases n with
 |zero=>exact h.elim
 |succ n=>
  obtain⟨fs,hu,hts⟩:=T.r;obtain⟨r0,q0,rfl,h0,r1,q1,rfl,h1,r2,q2,rfl,h2,rfl⟩:=eH hu hts h;obtain⟨x,rfl,hx⟩:=ld T.u h0;obtain⟨y,rfl,hy⟩:=ld T.u h1;obtain⟨z,rfl,hz⟩:=ld T.u h2;exact⟨⟨x,y,z⟩,rfl,hx,hy,hz⟩
theorem GS (T:GP P vd sd lc cl ls ss ad la ar a3 lt t8){n:Nat}{cs:List PV}(h:typed P n ad cs):∃d:fq,cs=[.int .u8 d.n,.ae 0 (d.jd.map yg.c)]/\d.ok:=by
 cases n with
 |zero=>exact h.elim
 |succ n=>
  obtain⟨fs,hu,hts⟩:=T.a;obtain⟨r0,q0,rfl,h0,r1,q1,rfl,h1,rfl⟩:=eH hu hts h;obtain⟨x,rfl,hx⟩:=ld T.u h0;obtain⟨l,rfl,hl,ho⟩:=lA T.la (λm cs _ h=>GR T h) h1;exact⟨⟨x,l⟩,rfl,hx,hl,ho⟩
theorem GU (T:GP P vd sd lc cl ls ss ad la ar a3 lt t8){n:Nat}{cs:List PV}(h:typed P n ss cs):∃s:yu,cs=s.c/\s.ok:=by
 cases n with
 |zero=>exact h.elim
 |succ n=>
  obtain⟨fs,hu,hts⟩:=T.s;obtain⟨r0,q0,rfl,h0,r1,q1,rfl,h1,rfl⟩:=eH hu hts h;obtain⟨d,rfl,hd⟩:=GS T h0;cases n with
  |zero=>exact h1.elim
  |succ n=>
   obtain⟨r3,q3,rfl,g0,r4,q4,rfl,g1,r5,q5,rfl,g2,rfl⟩:=ta T.b h1;obtain⟨x,rfl,hx⟩:=ld T.u g0;obtain⟨y,rfl,hy⟩:=ld T.u g1;obtain⟨z,rfl,hz⟩:=ld T.u g2;exact⟨⟨d,x,y,z⟩,rfl,hd,hx,hy,hz.1,hz.2⟩
theorem GV (T:GP P vd sd lc cl ls ss ad la ar a3 lt t8)(U:wz P sd nd pt ln lp t8){n:Nat}{cs:List PV}(h:typed P n vd cs):∃d:Gr,cs=d.c/\d.ok:=by
 cases n with
 |zero=>exact h.elim
 |succ n=>
  obtain⟨fs,hu,hts⟩:=T.v;obtain⟨r0,q0,rfl,h0,r1,q1,rfl,h1,r2,q2,rfl,h2,r3,q3,rfl,h3,rfl⟩:=eH hu hts h;obtain⟨s,rfl,hl,ho⟩:=Cf U h0;obtain⟨c,rfl,hc,hco⟩:=lA T.lc (λm cs _ h=>GQ T h) h1;obtain⟨w,rfl,hw,hwo⟩:=lA T.ls (λm cs _ h=>GU T h) h2;obtain⟨t,rfl,ht,hto⟩:=lA (c:=Th) T.lt (λm cs _ h=>ld T.u h) h3;exact⟨⟨s,c,w,t⟩,rfl,ho,hl,hco,hc,hwo,hw,hto,ht⟩
end
end Go.Pv
