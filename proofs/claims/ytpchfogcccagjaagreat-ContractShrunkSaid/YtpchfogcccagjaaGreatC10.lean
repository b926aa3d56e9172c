/-
 What the functions of the law give.
-/
import Derived.Test.YtpchfogcccagjaaGreatC9
set_option linter.unusedSimpArgs false
set_option linter.unusedVariables false
open List renaming mem_of_getElem? → Wa, getElem?_eq_some_iff → V9, getElem?_eq_getElem → Wb, length_map → Wg, mem_iff_getElem? → Wd, getElem?_append_left → We, mem_map → Wk, length_append → Wz, getElem?_append_right → Wn, append_assoc → WK, mem_cons_of_mem → W3, length_take → W8, take_of_length_le → Wq, findIdx?_eq_some_iff_getElem → Ww, eq_nil_of_length_eq_zero → Wp, mem_cons → WG, all_eq_true → Wu, getElem?_set_self → WU, take_add_one → WL, pairwise_cons → Wv, mem_cons_self → WH, take_length → WV, any_eq_false → WY, mem_append → WT, getElem?_drop → WQ, mem_append_left → Xa, findIdx?_eq_none_iff → Xe, mem_singleton → Xj, mem_append_right → Xt, foldl_cons → Xp, any_eq_true → Xm, pairwise_iff_getElem → Xd, getElem?_zip_eq_some → Xv, getElem_of_mem → Xg, take_append_drop → XG, take_append_of_le_length → XT, nodup_append → Xy, drop_of_length_le → XE, map_cons → XQ, drop_eq_getElem_cons → aft, mem_flatMap → afw, set_append_right → afB, length_cons → abv, not_mem_nil → abC, nodup_cons → abz
open Nat renaming lt_or_ge → Wh, le_refl → Wj, zero_le → WA, zero_add → XN, add_zero → afv, mul_le_mul → abA, sub_self → afA
open Bool renaming true_and → WZ, eq_false_iff → Xz, and_eq_true → XX, false_and → Xu, and_false → abu
open Option renaming isSome_iff_exists → abq
namespace Go.Pv
@[go_sem] theorem r65 (e:Edge)(u:Nat)(s:Int)(cs:List PV):res A aA 65 [.agg [.int .i64 e.fr,.bool e.send,.int .i64 e.label,.int .i64 e.to],.ro u (.int .i64 s::cs)]=some [.bool (!decide (e.fr=s))]:=by
 refine aw a65 rfl rfl ?_;simp only[F65,Uv];simp(disch:=omega)only[go_sem]
theorem r77 (g t u:Nat)(cs:List PV)(l:List Edge)(p:Edge->Bool)(hl:l.length<=2^63 - 1)(hi:pB A g=false)(hp:aA g=none)(ht:dx A g=false)(hf:∀x∈l,res A aA g [.agg [.int .i64 x.fr,.bool x.send,.int .i64 x.label,.int .i64 x.to],.ro u cs]=some [.bool (p x)]):res A aA 77 [.aq t (bF l),.func g [.ro u cs]]=some [.int .i64 (oN p l)]:=by
 refine aw a77 rfl rfl ?_;simp only[F77,Ux];simp(disch:=omega)only[go_sem];refine W.find l p (λk=>⟨[(0,.pv (.aq t (bF l))),(1,.pv (.func g [.ro u cs])),(7,.pv (.int .i64 l.length)),(8,.pv (.int .i64 k))],⟨[],[],[]⟩⟩) rfl (λk x hx hk hfd=>?_) (λhn=>?_)
 .have hfx:=hf x (Wa hx);simp(disch:=omega)only[go_sem];refine Br.aJ (λh=>?_) (λh=>(h (by omega)).elim);simp(disch:=omega)only[go_sem,hx,Bx hi hp ht,hfx];refine Br.of (λh2=>?_) (λh2=>?_)<;>simp(disch:=omega)only[go_sem]
  .rw[(hfd h2).oN]
  .exact bB.of h2 rfl
 .simp(disch:=omega)only[go_sem];rw[hn.oN]
theorem qF {α:Type}{p:α->Bool}{l:List α}{k:Nat}{x:α}(h:l[k]?=some x):(l.take (k+1)).filter p=if p x=true then (l.take k).filter p++[x] else (l.take k).filter p:=by
 rw[WL,h,List.filter_append];by_cases hp:p x=true<;>simp[hp]
theorem FT (c l:List Edge)(v:Edge)(h:c.length<l.length):(c++l.drop c.length).set c.length v=(c++[v])++l.drop (c++[v]).length:=by
 rw[afB _ _ (Wj _),afA,WK];have:(c++[v]).length=c.length+1:=by simp
 rw[this,aft h];rfl
@[go_sem] theorem MO (bx:List (Nat×List V))(mp:List (List (PV×PV)))(ar:List aL)(v n:Nat)(l:List Edge):keep ⟨bx,⟨v,4,.inl (bF l)⟩::ar,mp⟩ true (.own 0 v 0 n)=some (.fr 4 (bF (l.take n))):=by
 simp[keep,eM,aB,bF]
theorem FU (bx:List (Nat×List V))(mp:List (List (PV×PV)))(ar:List aL)(v off len:Nat)(l:List Edge)(h:off+len<=l.length):JZ ⟨bx,⟨v,4,.inl (bF l)⟩::ar,mp⟩ 4 [.pv (.int .i64 0),.pv (.bool false),.pv (.int .i64 0),.pv (.int .i64 0)] (.own 0 v off len)=
  some (.dy [],{ar:=some (0,⟨v,4,.inl (bF (l.take off++List.replicate len ⟨0,false,0,0⟩++l.drop (off+len)))⟩)}):=by
 simp[JZ,aB,ay,V.bS,PV.perm,bF,h,Edge.c]
@[go_sem] theorem MP {id ax v len:Nat}{l:List Edge}(hn:len=l.length):BS id ax len ⟨v,4,.inl (bF l)⟩=some ([.fr 4 (bF l)],some (id,⟨ax+1,0,.inl []⟩)):=by
 subst hn;simp[BS,aL.size,bN]
@[go_sem] theorem Pl (l:List Edge)(n:Nat):(bF l).take n=bF (l.take n):=by simp[bF]
set_option maxHeartbeats 4000000 in
@[go_sem] theorem r63 (l:List Edge)(s:Int)(hl:l.length<=2000000000):res A aA 63 [.fr 4 (bF l),.func 65 [.ro 2 [.int .i64 s]]]=some [.fr 4 (bF (aV l s))]:=by
 refine aw a63 rfl rfl ?_;simp only[F63,Tc];have h77:=λt:Nat=>r77 65 t 2 [.int .i64 s] l (λe=>!decide (e.fr=s)) (by omega) (by kernel_rfl) (by kernel_rfl) (by kernel_rfl) (λx _=>r65 x 2 s []);have hlt:l.take l.length=l:=WV;cases hfi:l.findIdx? (λe=>!decide (e.fr=s))with
 |none=>
  have hix:oN (λe=>!decide (e.fr=s)) l= -1:=by unfold oN;rw[hfi]
  rw[Xe]at hfi;have hall:aV l s=l:=by
   unfold aV;rw[List.filter_eq_self];intro e he;have:=hfi e he;simpa using this
  simp(disch:=omega)only[go_sem,h77,hlt,hix,hall]
 |some k=>
  have hix:oN (λe=>!decide (e.fr=s)) l=(k:Int):=by unfold oN;rw[hfi]
  rw[Ww]at hfi;obtain⟨hk,hp,hbefore⟩:=hfi;have hne:¬(k:Int)= -1:=by omega
  have hpre:aV (l.take (k+1)) s=l.take k:=by
   unfold aV;rw[qF (List.getElem?_eq_getElem hk),if_neg (by simpa using hp),List.filter_eq_self];intro e he;obtain⟨j,hj,rfl⟩:=Xg he;rw[W8]at hj;have:=hbefore j (by omega);simpa using this
  simp(disch:=omega)only[go_sem,h77,hlt,hix,hne];refine W.fv (l.length - (k+1)) (λj=>⟨[(0,.own 0 0 0 l.length),(1,.pv (.func 65 [.ro 2 [.int .i64 s]])),(5,.pv (.int .i64 (aV (l.take (k+1+j)) s).length)),(6,.pv (.int .i64 (k+1+j:Nat)))],⟨[],[⟨0,4,.inl (bF (aV (l.take (k+1+j)) s++l.drop (aV (l.take (k+1+j)) s).length))⟩],[]⟩⟩) (λj=>(aV (l.take (k+1+j)) s).length<=k+j) ?_ ?_ λj hj hw=>?_
  .simp only[Nat.add_zero,hpre,List.length_take,Nat.min_eq_left (Nat.le_of_lt hk)];rw[XG];rfl
  .simp only[Nat.add_zero,hpre,List.length_take];omega
  have hkeep:∀q,(aV (l.take (k+1+j)) s).length<=q->(aV (l.take (k+1+j)) s++l.drop (aV (l.take (k+1+j)) s).length)[q]?=l[q]?:=λq hq=>by
   rw[Wn hq,WQ];congr 1;omega
  have hln:(aV (l.take (k+1+j)) s++l.drop (aV (l.take (k+1+j)) s).length).length=l.length:=by simp;omega
  simp(disch:=omega)only[go_sem];refine Br.aJ (λh=>?_) (λh=>?_)
  .obtain⟨x,hx⟩:=get_at (l:=l) (k:=k+1+j) (by omega);have h65:=r65 x 2 s [];have hst:aV (l.take (k+1+(j+1))) s=if (x.fr==s)=true then aV (l.take (k+1+j)) s++[x] else aV (l.take (k+1+j)) s:=qF hx
   simp(disch:=omega)only[go_sem,hkeep,hx,h65];refine Br.aJ (λg=>?_) (λg=>?_)<;>simp(disch:=omega)only[go_sem,g]
   .rw[if_pos (by simp[g])]at hst;have hxe:(⟨s,x.send,x.label,x.to⟩:Edge)=x:=by rw[<- g]
    refine .of (by omega) ?_ ?_
    .show _=St.mk _ _;rw[hst,hxe,FT _ _ _ (by omega),Wz];rfl
    .show (aV _ s).length<=_;rw[hst,Wz];simp;omega
   .rw[if_neg (by simp[g])]at hst;refine .of (by omega) ?_ ?_
    .show _=St.mk _ _;rw[hst];rfl
    .show (aV _ s).length<=_;rw[hst];omega
  .have hall:l.take (k+1+j)=l:=Wq (by omega);rw[hall]at hln hw |-;simp(disch:=omega)only[go_sem];rw[FU _ _ _ _ _ _ _ (by omega)];have hl3:(aV l s++List.replicate (l.length - (aV l s).length) (⟨0,false,0,0⟩:Edge)).length=l.length:=by simp;omega
   have e1:List.take (aV l s).length (aV l s++List.drop (aV l s).length l)=aV l s:=by
    rw[XT (Wj _),WV]
   have e2:List.drop ((aV l s).length+(l.length - (aV l s).length)) (aV l s++List.drop (aV l s).length l)=[]:=List.drop_eq_nil_of_le (by rw[hln];omega);rw[e1,e2];simp(disch:=omega)only[go_sem];have e3:List.take (aV l s).length (aV l s++List.replicate (l.length - (aV l s).length) (⟨0,false,0,0⟩:Edge))=aV l s:=by
    rw[XT (Wj _),WV]
   rw[e3]
@[go_sem] theorem r63n (s:Int):res A aA 63 [.aq 0 [],.func 65 [.ro 2 [.int .i64 s]]]=some [.aq 0 []]:=by
 refine aw a63 rfl rfl ?_;simp only[F63,Tc];have h77:=r77 65 0 2 [.int .i64 s] [] (λe=>!decide (e.fr=s)) (by simp) (by kernel_rfl) (by kernel_rfl) (by kernel_rfl) (λx hx=>by cases hx);have hix:oN (λe:Edge=>!decide (e.fr=s)) []= -1:=rfl;rw[hix]at h77;have h77':res A aA 77 [.aq 0 [],.func 65 [.ro 2 [.int .i64 s]]]=some [.int .i64 (-1)]:=h77;simp(disch:=omega)only[go_sem,h77'];rfl
@[go_sem] theorem I7 (h:aa)(v:V):ca h true [.tl [],v]=(cq h v).bind λq=>some ([.aq 0 [],q],none):=by
 simp only[ca,cb,if_true,ay];cases cq h v<;>rfl
def FV (h:aa)(v:V):List PV×Option (Nat×aL)->Option (List PV×Option (Nat×aL))
 |([p],some (i,a))=>(cq {h with ar:=h.ar.set i a} v).bind λq=>some ([p,q],some (i,a))
 |_=>none
@[go_sem] theorem Sa (bx:List (Nat×List V))(ar:List aL)(mp:List (List (PV×PV)))(v:V)(p:PV)(i:Nat)(a:aL):FV ⟨bx,ar,mp⟩ v ([p],some (i,a))=(cq ⟨bx,ar.set i a,mp⟩ v).bind λq=>some ([p,q],some (i,a)):=rfl
@[go_sem] theorem H9 (h:aa)(id ax len:Nat)(v:V):ca h true [.own id ax 0 len,v]=(aB h id ax).bind λa=>(BS id ax len a).bind (FV h v):=by
 simp only[ca,cb];cases aB h id ax with
 |none=>rfl
 |some a=>
  simp only[Option.bind_some,if_true,BS];by_cases hc:a.size=len/\a.k≠0
  .cases hb:a.body with
   |inl rows=>
    simp only[hc,ne_eq,not_false_eq_true,and_self,if_true,Option.bind_some,FV,ay];cases cq {h with ar:=h.ar.set id ⟨ax+1,0,.inl []⟩} v<;>rfl
   |inr rows=>simp[hc]
  .simp[hc]
@[go_sem] theorem r54 (t:Nat)(n s0 s:Int)(es:List Edge)(ht:t<=1)(hl:es.length<=2000000000):res A aA 54 [.agg [.int .i64 n,.int .i64 s0,.aq t (es.map Edge.c)],.int .i64 s]=some [.aq 0 (bF (aV es s))]:=by
 refine aw a54 rfl rfl ?_;simp only[F54,Up];by_cases h0:es.length=0
 .have he:es=[]:=Wp h0;simp(disch:=omega)only[go_sem,qA,h0];rw[he];rfl
 .have hel:=lK es s;simp(disch:=omega)only[go_sem,qA,h0,List.take_length]
def vB (a b:Edge):Bool:=if a.send=b.send then decide (a.label<b.label) else b.send
@[go_sem] theorem r55 (a b:Edge):res A aA 55 [.agg [.int .i64 a.fr,.bool a.send,.int .i64 a.label,.int .i64 a.to],.agg [.int .i64 b.fr,.bool b.send,.int .i64 b.label,.int .i64 b.to]]=some [.bool (vB a b)]:=by
 refine aw a55 rfl rfl ?_;simp only[F55,Uq];simp(disch:=omega)only[go_sem];unfold vB;refine Br.aJ (λh=>?_) (λh=>?_)<;>simp(disch:=omega)only[go_sem,h]
@[go_sem] theorem r56 (a:Edge):res A aA 56 [.agg [.int .i64 a.fr,.bool a.send,.int .i64 a.label,.int .i64 a.to]]=some [.agg [.bool a.send,.int .i64 a.label]]:=by
 refine aw a56 rfl rfl ?_;simp only[F56,Ur];simp(disch:=omega)only[go_sem]
def w4 (only:Bool):List Edge->List Edge->Option (Edge×Int)
 |[],[]=>none
 |x::_,[]=>some (x,0)
 |[],y::m=>if only then w4 only [] m else some (y,1)
 |x::l,y::m=>if vB x y=true then some (x,0) else if vB y x=true then (if only then w4 only (x::l) m else some (y,1)) else w4 only l m
termination_by l m=>l.length+m.length
structure zo where
 x:Int
 y:Int
 path:List (Bool×Int)
 deriving DecidableEq,Inhabited
def Edge.act (e:Edge):Bool×Int:=(e.send,e.label)
def kB (b:List Edge)(n:zo)(s:List (Int×Int)×List zo)(e:Edge):List (Int×Int)×List zo:=
 match cO n.y e.send e.label b with
 |some y=>if (e.to,y)∈s.1 then s else (s.1++[(e.to,y)],s.2++[⟨e.to,y,n.path++[e.act]⟩])
 |none=>s
def B8 (a b:List Edge)(only:Bool):Nat->List (Int×Int)×List zo->Option (List (Bool×Int)×Int)
 |0,_=>none
 |k+1,(seen,q)=>match q with
  |[]=>none
  |n::q=>match w4 only (aV a n.x) (aV b n.y)with
   |some (e,w)=>some (n.path++[e.act],w)
   |none=>B8 a b only k ((aV a n.x).foldl (kB b n) (seen,q))
def FW (p:Int×Int):PV:=.agg [.int .i64 p.1,.int .i64 p.2]
def gU (s:List (Int×Int)):List (PV×PV):=s.map λp=>(FW p,.bool true)
theorem tu (p q:Int×Int):iw true [1,1] (FW p) (FW q)=some (decide (p=q)):=by
 obtain⟨a,b⟩:=p;obtain⟨c,d⟩:=q;simp only[iw,FW,if_true];simp only[go_sem];by_cases h1:a=c<;>by_cases h2:b=d<;>simp[h1,h2]
theorem B9 {p:Int×Int}:∀{s:List (Int×Int)}{i:Nat},p∉s->findKey true [1,1] (FW p) (gU s) i=some none
 |[],i,_=>by simp[gU,findKey,tu]
 |q::s,i,h=>by
  simp only[List.mem_cons,not_or]at h;show findKey true [1,1] (FW p) ((FW q,.bool true)::gU s) i=_;simp only[findKey,tu,h.1,decide_false];exact B9 h.2
theorem Ca {p:Int×Int}:∀{s:List (Int×Int)}{i:Nat},p∈s->∃j,findKey true [1,1] (FW p) (gU s) i=some (some (j,.bool true))
 |[],i,h=>by cases h
 |q::s,i,h=>by
  show ∃j,findKey true [1,1] (FW p) ((FW q,.bool true)::gU s) i=_;simp only[findKey,tu];by_cases e:p=q
  .exact⟨i,by simp[e]⟩
  .simp only[e,decide_false];exact Ca ((WG.1 h).resolve_left e)
@[go_sem] theorem I8 (z:V)(j:Nat)(p:PV):pD z false (some (j,p))=.pv p:=rfl
@[go_sem] theorem I9 (z:V):pD z false none=z:=rfl
theorem FX {ag:Bool}{ks:List Nat}{q p:PV}{id:Nat}{l:List (PV×PV)}(h:findKey ag ks q l 0=some none):wm ag ks q p id l=some {mp:=some (id,l++[(q,p)])}:=by
 simp only[wm,h]
theorem A4 (s:List (Int×Int))(p:Int×Int):gU s++[(FW p,.bool true)]=gU (s++[p]):=by simp[gU]
def oR (ars:List aL)(v:V)(l:List (Bool×Int)):Prop:=(v=.tl []/\l=[])\/∃id ax,v=.own (id+1) ax 0 l.length/\l≠[]/\ars[id]?=some ⟨ax,2,.inl (fQ l)⟩
theorem oR.more {ars:List aL}{v:V}{l:List (Bool×Int)}(h:oR ars v l)(x:List aL):oR (ars++x) v l:=by
 rcases h with h|⟨id,ax,h1,h2,h3⟩
 .exact .inl h
 .exact .inr ⟨id,ax,h1,h2,by rw[We (V9.1 h3).1];exact h3⟩
theorem oR.calm {ars:List aL}{v:V}{l:List (Bool×Int)}(h:oR ars v l):v.calm=true/\v.sized=true/\v.bS=none/\v.cells=[v]:=by
 rcases h with⟨rfl,_⟩|⟨id,ax,rfl,_,_⟩<;>exact⟨rfl,rfl,rfl,rfl⟩
structure tz (off:Nat)(q:List zo)(rows:List (List V))(ars:List aL):Prop where
 len:rows.length=off+q.length
 row:∀(i:Nat)(n:zo),q[i]?=some n->∃v,rows[off+i]?=some [.pv (.int .i64 n.x),.pv (.int .i64 n.y),v]/\oR ars v n.path
theorem tz.pop {off:Nat}{n:zo}{q:List zo}{rows:List (List V)}{ars:List aL}(h:tz off (n::q) rows ars):tz (off+1) q rows ars where
 len:=by rw[h.len];simp;omega
 row i m hi:=by
  obtain⟨v,h1,h2⟩:=h.row (i+1) m (by simpa using hi);exact⟨v,by rw[show off+1+i=off+(i+1) by omega];exact h1,h2⟩
theorem tz.more {off:Nat}{q:List zo}{rows:List (List V)}{ars:List aL}(h:tz off q rows ars)(x:List aL):tz off q rows (ars++x) where
 len:=h.len
 row i n hi:=by
  obtain⟨v,h1,h2⟩:=h.row i n hi;exact⟨v,h1,h2.more x⟩
theorem tz.push {off:Nat}{q:List zo}{rows:List (List V)}{ars:List aL}(h:tz off q rows ars){n:zo}{v:V}(hv:oR ars v n.path):tz 0 (q++[n]) ((rows.drop off).take q.length++[[.pv (.int .i64 n.x),.pv (.int .i64 n.y),v]]) ars where
 len:=by
  have:=h.len;simp;omega
 row i m hi:=by
  have hl:=h.len;rw[XN];rcases Wh i q.length with hlt|hge
  .rw[We hlt]at hi;obtain⟨u,h1,h2⟩:=h.row i m hi;refine⟨u,?_,h2⟩;rw[List.getElem?_append_left (by simp;omega),List.getElem?_take,if_pos hlt,List.getElem?_drop];exact h1
  .rw[Wn hge]at hi;have h0:i - q.length=0:=by
    have:=(V9.1 hi).1;simp at this;omega
   rw[h0]at hi;simp only[List.getElem?_cons_zero,Option.some.injEq]at hi;subst hi;refine⟨v,?_,hv⟩;rw[List.getElem?_append_right (by simp;omega)];have:i - ((rows.drop off).take q.length).length=0:=by simp;omega
   rw[this];rfl
theorem qG {l:List (Int×Int)}{n m:Nat}(hn:l.Nodup)(h:∀p∈l,(0<=p.1/\p.1<n)/\(0<=p.2/\p.2<m)):l.length<=n*m:=by
 have h1:=List.Nodup.length_le_of_subset (l₂:=(iota n).flatMap λp=>(iota m).map λq=>(p,q)) hn (λp hp=>by
  have:=h p hp;rw[afw];exact⟨p.1,yV.2 this.1,Wk.2 ⟨p.2,yV.2 this.2,rfl⟩⟩)
 have h2:∀l:List Int,(l.flatMap λp=>(iota m).map λq=>(p,q)).length=l.length*m:=by
  intro l
  induction l with
  |nil=>simp
  |cons x l ih=>rw[List.flatMap_cons,List.length_append,ih];simp[iota];rw[Nat.add_mul];omega
 rw[h2,show (iota n).length=n by simp[iota]]at h1;exact h1
@[go_sem] theorem Dt (l:List (Bool×Int))(d:Bool)(x:Int):fQ l++[[.bool d,.int .i64 x]]=fQ (l++[(d,x)]):=by simp[fQ,HN]
@[go_sem] theorem Ja (h:aa)(d:Bool)(x:Int):aK h 2 (.tl []) (.tl [[.bool d,.int .i64 x]])=some (.own h.ar.length 0 0 1,{push:=[⟨0,2,.inl (fQ [(d,x)])⟩],base:=h.ar.length}):=by
 have:=wy h 2 [] [.bool d,.int .i64 x] rfl (λx hx=>by cases hx) (by simp);exact this
@[go_sem] theorem Ia (h:aa)(id ax off len:Nat)(d:Bool)(x:Int):aK h 2 (.own id ax off len) (.tl [[.bool d,.int .i64 x]])=(aB h id ax).bind (I0 id ax off len 2 [.bool d,.int .i64 x]):=yr h id ax off len 2 _ rfl
@[go_sem] theorem Sb {id ax len:Nat}{d:Bool}{x:Int}{l:List (Bool×Int)}(h1:len=l.length)(h2:l.length+1<=2147483648):I0 id ax 0 len 2 [.bool d,.int .i64 x] ⟨ax,2,.inl (fQ l)⟩=some (.own id (ax+1) 0 (len+1),{ar:=some (id,⟨ax+1,2,.inl (fQ (l++[(d,x)]))⟩)}):=by
 rw[EH (by rw[jj];exact h1) (by rw[jj];exact h2),Dt]
@[go_sem] theorem Pm (h:aa)(k:Nat):aZ k [.tl []] h=some (.tl [],{}):=by simp[aZ,aW,aO]
def Ib (h:aa)(id n:Nat)(a:aL):Option (V×Tn):=match a.body with
 |.inl rows=>if (rows.take n).all (·.length==2)=true/\(rows.take n).length<=aN then (if (rows.take n).length=0 then some (.tl [],{ra:=some id}) else some (.own h.ar.length 0 0 (rows.take n).length,{push:=[⟨0,2,.inl (rows.take n)⟩],ra:=some id,base:=h.ar.length})) else none
 |.inr _=>none
@[go_sem] theorem MQ (h:aa)(id ax n:Nat):aZ 2 [.own id ax 0 n] h=(aB h id ax).bind (Ib h id n):=by
 simp only[aZ,aW];cases aB h id ax with
 |none=>rfl
 |some a=>
  cases hb:a.body<;>simp[az,Ib,hb,aO]
@[go_sem] theorem Pn {h:aa}{id n ax:Nat}{l:List (Bool×Int)}(hn:n=l.length)(h0:l.length≠0)(hm:l.length<=2147483648):Ib h id n ⟨ax,2,.inl (fQ l)⟩=some (.own h.ar.length 0 0 l.length,{push:=[⟨0,2,.inl (fQ l)⟩],ra:=some id,base:=h.ar.length}):=by
 subst hn;have e1:(fQ l).take l.length=fQ l:=Wq (by rw[jj];exact Wj _);have e2:((fQ l).all λx=>x.length==2)=true:=by simp[fQ,HN]
 simp[Ib,e1,e2,jj,aN,hm,h0]
def uc:Option (List (Bool×Int)×Int)->List PV
 |none=>[.aq 0 [],.int .i64 0,.bool false]
 |some (p,w)=>[.aq 0 (fQ p),.int .i64 w,.bool true]
theorem MR (o:Bool):w4 o [] []=none:=by rw[w4]
theorem MS (o:Bool)(x:Edge)(l:List Edge):w4 o (x::l) []=some (x,0):=by rw[w4]
theorem MT (o:Bool)(y:Edge)(m:List Edge):w4 o [] (y::m)=if o then w4 o [] m else some (y,1):=by rw[w4]
theorem MU (o:Bool)(x y:Edge)(l m:List Edge):w4 o (x::l) (y::m)=if vB x y=true then some (x,0) else if vB y x=true then (if o then w4 o (x::l) m else some (y,1)) else w4 o l m:=by rw[w4]
theorem Jb {bx:List (Nat×List V)}{mp:List (List (PV×PV))}{ax off len m:Nat}{rows:List (List V)}{r:List V}{ar:List aL}(h1:ar[m]?=some ⟨0,3,.inr [r]⟩)(h2:r.length=3)(h3:rows.length=off+len)(h4:len+1<=2147483648):
  aK ⟨bx,⟨ax,3,.inr rows⟩::ar,mp⟩ 3 (.own 0 ax off len) (.own (m+1) 0 0 1)=some (.own 0 (ax+1) 0 (len+1),{ar:=some (0,⟨ax+1,3,.inr ((rows.drop off).take len++[r])⟩),ra:=some (m+1)}):=by
 simp[aK,aW,aB,h1,az,aO,aD,h2,aL.size,h3,aN,h4,aU]
structure zg (a b:aP)(k:Nat)(seen:List (Int×Int))(q:List zo):Prop where
 nodup:seen.Nodup
 mem:∀p∈seen,(0<=p.1/\p.1<a.aj)/\(0<=p.2/\p.2<b.aj)
 count:k+seen.length=a.aj.toNat*b.aj.toNat+1+q.length
 node:∀n∈q,(0<=n.x/\n.x<a.aj)/\(0<=n.y/\n.y<b.aj)/\n.path.length<seen.length
 le:k<=145
theorem zg.push {a b:aP}{k:Nat}{seen:List (Int×Int)}{q:List zo}(h:zg a b k seen q){x y:Int}{p:List (Bool×Int)}(hn:(x,y)∉seen)(hr:(0<=x/\x<a.aj)/\(0<=y/\y<b.aj))(hp:p.length<=seen.length):zg a b k (seen++[(x,y)]) (q++[⟨x,y,p⟩]) where
 nodup:=by
  rw[Xy];exact⟨h.nodup,by simp,λu hu v hv e=>hn (by rw[List.mem_singleton]at hv;subst hv;subst e;exact hu)⟩
 mem u hu:=by
  rw[WT,Xj]at hu;rcases hu with hu|rfl
  .exact h.mem u hu
  .exact hr
 count:=by
  have:=h.count;simp;omega
 node n hm:=by
  rw[WT,Xj]at hm;rcases hm with hm|rfl
  .obtain⟨h1,h2,h3⟩:=h.node n hm;exact⟨h1,h2,by simp;omega⟩
  .exact⟨hr.1,hr.2,by simp;omega⟩
 le:=h.le
def Sc (t u:Nat)(a b:aP)(only:Bool)(ax off:Nat)(q:List zo)(rows:List (List V))(ars:List aL)(seen:List (Int×Int)):St:=
 ⟨[(2,.pv (.bool only)),(3,.ptr 3 0),(4,.ptr 4 0),(9,.own 0 ax off q.length),(10,.map 0)],⟨[(3,[.pv (.int .i64 a.aj),.pv (.int .i64 a.start),.pv (.aq t (a.af.map Edge.c))]),(4,[.pv (.int .i64 b.aj),.pv (.int .i64 b.start),.pv (.aq u (b.af.map Edge.c))])],⟨ax,3,.inr rows⟩::ars,[gU seen]⟩⟩
set_option maxHeartbeats 4000000 in
@[go_sem] theorem r35 (t u:Nat)(a b:aP)(only:Bool)(ht:t<=1)(hu:u<=1)(ha:a.Good)(hb:b.Good):res A aA 35 [.agg [.int .i64 a.aj,.int .i64 a.start,.aq t (a.af.map Edge.c)],.agg [.int .i64 b.aj,.int .i64 b.start,.aq u (b.af.map Edge.c)],.bool only]=some (uc (B8 a.af b.af only (a.aj.toNat*b.aj.toNat+1) ([(a.start,b.start)],[⟨a.start,b.start,[]⟩]))):=by
 refine aw a35 rfl rfl ?_;simp only[F35,Uf];have hal:=ha.len;have hbl:=hb.len;have hst:=ha.st;have hst':=hb.st;have hmx:=ha.mx;have hmx':=hb.mx;have hu0:wm true [1,1] (PV.agg [PV.int IntKind.i64 a.start,PV.int IntKind.i64 b.start]) (PV.bool true) 0 []=some {mp:=some (0,gU [(a.start,b.start)])}:=rfl;simp(disch:=omega)only[go_sem,hu0];generalize hN:a.aj.toNat*b.aj.toNat+1=N;have hNb:N<=145:=by
  have:=abA (show a.aj.toNat<=12 by omega) (show b.aj.toNat<=12 by omega);omega
 refine W.BZ (α:=Nat×Nat×Nat×List zo×List (List V)×List aL×List (Int×Int)) (λx=>Sc t u a b only x.2.1 x.2.2.1 x.2.2.2.1 x.2.2.2.2.1 x.2.2.2.2.2.1 x.2.2.2.2.2.2)
  (λx=>zg a b x.1 x.2.2.2.2.2.2 x.2.2.2.1/\tz x.2.2.1 x.2.2.2.1 x.2.2.2.2.1 x.2.2.2.2.2.1/\B8 a.af b.af only x.1 (x.2.2.2.2.2.2,x.2.2.2.1)=B8 a.af b.af only N ([(a.start,b.start)],[⟨a.start,b.start,[]⟩])) (λx=>x.1) (N,0,0,[⟨a.start,b.start,[]⟩],[[.pv (.int .i64 a.start),.pv (.int .i64 b.start),.tl []]],[],[(a.start,b.start)]) rfl ⟨⟨by simp,by simp;omega,by simp;omega,by simp;omega,hNb⟩,⟨rfl,λi n hi=>?_⟩,rfl⟩ λx hx=>?_
 .cases i with
  |zero=>
   cases hi;exact⟨.tl [],rfl,.inl ⟨rfl,rfl⟩⟩
  |succ i=>simp at hi
 obtain⟨k,ax,off,q,rows,ars,seen⟩:=x;obtain⟨hD,hQ,hres⟩:=hx;dsimp only at hD hQ hres;unfold Sc;dsimp only;rw[<- hres];have hsb:=qG hD.nodup (n:=a.aj.toNat) (m:=b.aj.toNat) (λp hp=>by
  have:=hD.mem p hp;omega)
 have hcnt:=hD.count;rw[hN]at hcnt;cases q with
 |nil=>
  simp(disch:=omega)only[go_sem];refine Br.aJ (λh=>absurd h (by omega)) (λh=>?_);simp(disch:=omega)only[go_sem];cases k<;>rfl
 |cons n q=>
  obtain⟨k,rfl⟩:∃k',k=k'+1:=⟨k - 1,by simp at hcnt;omega⟩;obtain⟨v,hv,hpv⟩:=hQ.row 0 n rfl;have hrl:=hQ.len;obtain⟨⟨x0,x1⟩,⟨y0,y1⟩,hpl⟩:=hD.node n (WH ..);obtain⟨c1,c2,c3,c4⟩:=hpv.calm;have hoff:off<rows.length:=by simp at hrl;omega
  rw[afv]at hv;simp(disch:=omega)only[go_sem];refine Br.aJ (λh=>?_) (λh=>(h (by omega)).elim);simp(disch:=omega)only[go_sem,hv,c1];rw[Nat.add_sub_cancel];have hla:=lK a.af n.x;have hlb:=lK b.af n.y;generalize hA:aV a.af n.x=la at hla |-;generalize hB:aV b.af n.y=lb at hlb |-;have hdif:B8 a.af b.af only (k+1) (seen,n::q)=match w4 only la lb with
   |some (e,w)=>some (n.path++[e.act],w)
   |none=>B8 a.af b.af only k (la.foldl (kB b.af n) (seen,q)):=by rw[<- hA,<- hB];rfl
  rw[hdif];refine W.loop (α:=Nat×Nat) (λx=>⟨[(2,.pv (.bool only)),(3,.ptr 3 0),(4,.ptr 4 0),(9,.own 0 ax (off+1) q.length),(10,.map 0),(11,.ptr 11 0),(12,.pv (.aq 0 (bF la))),(13,.pv (.aq 0 (bF lb))),(14,.pv (.int .i64 x.1)),(15,.pv (.int .i64 x.2))],⟨[(3,[.pv (.int .i64 a.aj),.pv (.int .i64 a.start),.pv (.aq t (a.af.map Edge.c))]),(4,[.pv (.int .i64 b.aj),.pv (.int .i64 b.start),.pv (.aq u (b.af.map Edge.c))]),(11,[.pv (.int .i64 n.x),.pv (.int .i64 n.y),v])],⟨ax,3,.inr rows⟩::ars,[gU seen]⟩⟩)
   (λx=>x.1<=la.length/\x.2<=lb.length/\w4 only (la.drop x.1) (lb.drop x.2)=w4 only la lb) (λx=>(la.length - x.1)+(lb.length - x.2)) (0,0) rfl ⟨WA _,WA _,rfl⟩ λx hx=>?_
  obtain⟨i,j⟩:=x;obtain⟨hi,hj,hm⟩:=hx;dsimp only at hi hj hm;rw[<- hm];dsimp only;rcases Wh i la.length with hi'|hi'
  .obtain⟨x,hx⟩:=get_at hi';rw[fL hx];rcases Wh j lb.length with hj'|hj'
   .obtain⟨y,hy⟩:=get_at hj';rw[fL hy,MU];simp(disch:=omega)only[go_sem];refine Br.aJ (λh=>?_) (λh=>(h (by omega)).elim);simp(disch:=omega)only[go_sem,h];refine Br.aJ (λh=>absurd h (by omega)) (λh=>?_);simp(disch:=omega)only[go_sem,h];refine Br.aJ (λh=>?_) (λh=>(h (by omega)).elim);simp(disch:=omega)only[go_sem,h,hx,hy];refine Br.of (λl1=>?_) (λl1=>?_)<;>simp(disch:=omega)only[go_sem,l1,hx]
    .rw[if_pos l1];rcases hpv with⟨rfl,hp⟩|⟨id,pv,rfl,hne,hid⟩
     .simp(disch:=omega)only[go_sem];simp[bO,az,uc,Edge.act,hp,fQ]
     .simp(disch:=omega)only[go_sem,hid];have hlt:=(V9.1 hid).1;rw[WU hlt];simp[bO,az,uc,Edge.act,fQ,List.take_of_length_le]
    rw[if_neg (by simp[l1])];refine Br.aJ (λh=>absurd h (by omega)) (λh=>?_);simp(disch:=omega)only[go_sem,h,hx,hy];refine Br.of (λl2=>?_) (λl2=>?_)<;>simp(disch:=omega)only[go_sem,l2]
    .rw[if_pos l2];cases only with
     |true=>
      simp(disch:=omega)only[go_sem];refine⟨(i,j+1),⟨hi,by dsimp only;omega,?_⟩,by dsimp only;omega,rfl⟩;dsimp only;rw[if_pos rfl,fL hx]
     |false=>
      simp(disch:=omega)only[go_sem,hy];rcases hpv with⟨rfl,hp⟩|⟨id,pv,rfl,hne,hid⟩
      .simp(disch:=omega)only[go_sem];simp[bO,az,uc,Edge.act,hp,fQ]
      .simp(disch:=omega)only[go_sem,hid];have hlt:=(V9.1 hid).1;rw[WU hlt];simp[bO,az,uc,Edge.act,fQ,List.take_of_length_le]
    .rw[if_neg (by simp[l2])];exact⟨(i+1,j+1),⟨by dsimp only;omega,by dsimp only;omega,rfl⟩,by dsimp only;omega,rfl⟩
   .obtain rfl:j=lb.length:=by omega
    rw[XE hj',MS];simp(disch:=omega)only[go_sem];refine Br.aJ (λh=>?_) (λh=>(h (by omega)).elim);simp(disch:=omega)only[go_sem,h,hx];rcases hpv with⟨rfl,hp⟩|⟨id,pv,rfl,hne,hid⟩
    .simp(disch:=omega)only[go_sem];simp[bO,az,uc,Edge.act,hp,fQ]
    .simp(disch:=omega)only[go_sem,hid];have hlt:=(V9.1 hid).1;rw[WU hlt];simp[bO,az,uc,Edge.act,fQ,List.take_of_length_le]
  .obtain rfl:i=la.length:=by omega
   rw[XE hi'];rcases Wh j lb.length with hj'|hj'
   .obtain⟨y,hy⟩:=get_at hj';rw[fL hy,MT];simp(disch:=omega)only[go_sem];refine Br.aJ (λh=>?_) (λh=>(h (by omega)).elim);simp(disch:=omega)only[go_sem,h];refine Br.aJ (λh=>absurd h (by omega)) (λh=>?_);simp(disch:=omega)only[go_sem,h];cases only with
    |true=>
     simp(disch:=omega)only[go_sem];refine⟨(la.length,j+1),⟨hi,by dsimp only;omega,?_⟩,by dsimp only;omega,rfl⟩;dsimp only;rw[if_pos rfl,XE hi']
    |false=>
     simp(disch:=omega)only[go_sem,hy];rcases hpv with⟨rfl,hp⟩|⟨id,pv,rfl,hne,hid⟩
     .simp(disch:=omega)only[go_sem];simp[bO,az,uc,Edge.act,hp,fQ]
     .simp(disch:=omega)only[go_sem,hid];have hlt:=(V9.1 hid).1;rw[WU hlt];simp[bO,az,uc,Edge.act,fQ,List.take_of_length_le]
   .obtain rfl:j=lb.length:=by omega
    rw[XE hj',MR];simp(disch:=omega)only[go_sem];refine W.BZ (α:=Nat×Nat×Nat×List zo×List (List V)×List aL×List (Int×Int)) (λx=>⟨[(2,.pv (.bool only)),(3,.ptr 3 0),(4,.ptr 4 0),(9,.own 0 x.2.1 x.2.2.1 x.2.2.2.1.length),(10,.map 0),(11,.ptr 11 0),(124,.pv (.aq 0 (bF la))),(125,.pv (.int .i64 la.length)),(126,.pv (.int .i64 x.1))],⟨[(3,[.pv (.int .i64 a.aj),.pv (.int .i64 a.start),.pv (.aq t (a.af.map Edge.c))]),(4,[.pv (.int .i64 b.aj),.pv (.int .i64 b.start),.pv (.aq u (b.af.map Edge.c))]),(11,[.pv (.int .i64 n.x),.pv (.int .i64 n.y),v])],⟨x.2.1,3,.inr x.2.2.2.2.1⟩::x.2.2.2.2.2.1,[gU x.2.2.2.2.2.2]⟩⟩)
     (λx=>x.1<=la.length/\zg a b k x.2.2.2.2.2.2 x.2.2.2.1/\tz x.2.2.1 x.2.2.2.1 x.2.2.2.2.1 x.2.2.2.2.2.1/\oR x.2.2.2.2.2.1 v n.path/\n.path.length<x.2.2.2.2.2.2.length/\(la.drop x.1).foldl (kB b.af n) (x.2.2.2.2.2.2,x.2.2.2.1)=la.foldl (kB b.af n) (seen,q)) (λx=>la.length - x.1) (0,ax,off+1,q,rows,ars,seen) rfl
     ⟨Nat.zero_le _,⟨hD.nodup,hD.mem,by have:=hD.count;rw[List.length_cons]at this;dsimp only;omega,λm hm=>hD.node m (List.mem_cons_of_mem _ hm),by have:=hD.le;omega⟩,hQ.pop,hpv,hpl,rfl⟩ λx hx=>?_
    obtain⟨m,ver',off',q',rows',ars',seen'⟩:=x;obtain⟨hm',hD',hQ',hpv',hpl',hf⟩:=hx;dsimp only at hm' hD' hQ' hpv' hpl' hf;dsimp only;rw[<- hf];have hsb':=qG hD'.nodup (n:=a.aj.toNat) (m:=b.aj.toNat) (λp hp=>by
     have:=hD'.mem p hp;omega)
    have hcnt':=hD'.count;rw[hN]at hcnt';have hrl':=hQ'.len;rcases Wh m la.length with hlt|hlt
    .obtain⟨e,he⟩:=get_at hlt;rw[fL he,Xp];have hea:=Wa he;rw[<- hA,zf]at hea;have hef:=fG.1 (ha.fit e hea.1);simp(disch:=omega)only[go_sem];refine Br.aJ (λh=>?_) (λh=>(h (by omega)).elim);simp(disch:=omega)only[go_sem,he];cases hn:cO n.y e.send e.label b.af with
     |none=>
      simp(disch:=omega)only[go_sem,Option.isSome_none];have hadd:kB b.af n (seen',q') e=(seen',q'):=by simp[kB,hn]
      exact⟨(m+1,ver',off',q',rows',ars',seen'),⟨by dsimp only;omega,hD',hQ',hpv',hpl',by rw[hadd]⟩,by dsimp only;omega,rfl⟩
     |some y=>
      simp only[Option.isSome_some,Option.getD_some];have hyr:0<=y/\y<b.aj:=by
       have hmem:=(sZ hb.oV).1 hn;have hf2:=fG.1 (hb.fit _ hmem);exact⟨hf2.2.2.1,hf2.2.2.2.1⟩
      have hkb:=hD'.le;simp(disch:=omega)only[go_sem];by_cases hin:(e.to,y)∈seen'
      .obtain⟨j,hj⟩:=Ca (i:=0) hin;have hj:findKey true [1,1] (.agg [.int .i64 e.to,.int .i64 y]) (gU seen') 0=some (some (j,.bool true)):=hj;simp(disch:=omega)only[go_sem,hj];have hadd:kB b.af n (seen',q') e=(seen',q'):=by simp[kB,hn,hin]
       exact⟨(m+1,ver',off',q',rows',ars',seen'),⟨by dsimp only;omega,hD',hQ',hpv',hpl',by rw[hadd]⟩,by dsimp only;omega,rfl⟩
      .have hj:findKey true [1,1] (.agg [.int .i64 e.to,.int .i64 y]) (gU seen') 0=some none:=B9 hin;have hup:wm true [1,1] (.agg [.int .i64 e.to,.int .i64 y]) (.bool true) 0 (gU seen')=some {mp:=some (0,gU (seen'++[(e.to,y)]))}:=by
        rw[<- A4];exact FX hj
       simp(disch:=omega)only[go_sem,hj,hup];rcases hpv' with⟨rfl,hp⟩|⟨id,pv,rfl,hne,hid⟩
       .simp(disch:=omega)only[go_sem];rw[Jb (r:=[.pv (.int .i64 e.to),.pv (.int .i64 y),.own (ars'.length+1) 0 0 1]) (by simp) rfl hrl' (by omega)];simp(disch:=omega)only[go_sem];have hadd:kB b.af n (seen',q') e=(seen'++[(e.to,y)],q'++[⟨e.to,y,n.path++[e.act]⟩]):=by simp[kB,hn,hin]
        refine⟨(m+1,ver'+1,0,q'++[⟨e.to,y,n.path++[e.act]⟩],(rows'.drop off').take q'.length++[[.pv (.int .i64 e.to),.pv (.int .i64 y),.own (ars'.length+1) 0 0 1]],ars'++[⟨0,2,.inl (fQ [(e.send,e.label)])⟩]++[⟨0,3,.inr [[.pv (.int .i64 e.to),.pv (.int .i64 y),.own (ars'.length+1) 0 0 1]]⟩],seen'++[(e.to,y)]),⟨by dsimp only;omega,hD'.push hin ⟨⟨by omega,by omega⟩,hyr⟩ (by simp;omega),?_,.inl ⟨rfl,hp⟩,by simp;omega,by rw[hadd]⟩,by dsimp only;omega,?_⟩
        .rw[WK];refine(hQ'.more _).push (n:=⟨e.to,y,n.path++[e.act]⟩) (.inr ⟨ars'.length,0,?_,by simp,?_⟩)
         .simp[hp]
         .simp[hp,Edge.act]
        .dsimp only;rw[Wz];rfl
       .have hne':n.path.length≠0:=λh=>hne (Wp h);simp(disch:=omega)only[go_sem,hid,List.getElem?_concat_length,List.set_append_right,Nat.sub_self,List.set_cons_zero,Nat.le_refl];rw[Jb (r:=[.pv (.int .i64 e.to),.pv (.int .i64 y),.own (ars'.length+1) 1 0 (n.path.length+1)]) (by simp) rfl hrl' (by omega)];simp(disch:=omega)only[go_sem];have hadd:kB b.af n (seen',q') e=(seen'++[(e.to,y)],q'++[⟨e.to,y,n.path++[e.act]⟩]):=by simp[kB,hn,hin]
        refine⟨(m+1,ver'+1,0,q'++[⟨e.to,y,n.path++[e.act]⟩],(rows'.drop off').take q'.length++[[.pv (.int .i64 e.to),.pv (.int .i64 y),.own (ars'.length+1) 1 0 (n.path.length+1)]],ars'++[⟨1,2,.inl (fQ (n.path++[(e.send,e.label)]))⟩]++[⟨0,3,.inr [[.pv (.int .i64 e.to),.pv (.int .i64 y),.own (ars'.length+1) 1 0 (n.path.length+1)]]⟩],seen'++[(e.to,y)]),⟨by dsimp only;omega,hD'.push hin ⟨⟨by omega,by omega⟩,hyr⟩ (by simp;omega),?_,?_,by simp;omega,by rw[hadd]⟩,by dsimp only;omega,?_⟩
        .rw[WK];refine(hQ'.more _).push (n:=⟨e.to,y,n.path++[e.act]⟩) (.inr ⟨ars'.length,1,?_,by simp,?_⟩)
         .simp
         .simp[Edge.act]
        .dsimp only;rw[WK];exact oR.more (.inr ⟨id,pv,rfl,hne,hid⟩) _
        .dsimp only;rw[Wz];rfl
    .obtain rfl:m=la.length:=by omega
     simp(disch:=omega)only[go_sem];refine⟨(k,ver',off',q',rows',ars',seen'),⟨hD',hQ',?_⟩,by dsimp only;omega,rfl⟩;dsimp only;rw[XE hlt];rfl
theorem ZC {a b c d:Edge}(h1:a.act=c.act)(h2:b.act=d.act):vB a b=vB c d:=by
 simp only[Edge.act,Prod.mk.injEq]at h1 h2;unfold vB;rw[h1.1,h1.2,h2.1,h2.2]
theorem zs {a b:Edge}(h:a.act=b.act):vB a b=false:=by
 rw[ZC h rfl];simp[vB]
theorem Y2 {a b c:Edge}(h1:vB a b=true)(h2:vB b c=true):vB a c=true:=by
 unfold vB at *;cases ha:a.send<;>cases hb:b.send<;>cases hc:c.send<;>simp_all<;>omega
theorem ZD {a b:Edge}(h1:vB a b=false)(h2:vB b a=false):a.act=b.act:=by
 unfold vB at *;unfold Edge.act;cases ha:a.send<;>cases hb:b.send<;>simp_all<;>omega
def aae (l:List Edge):Prop:=l.Pairwise λx y=>vB x y=true
theorem aP.Good.aaf {a:aP}(h:a.Good)(s:Int):aae (aV a.af s):=by
 unfold aae aV;rw[List.pairwise_filter];refine h.Ps.imp ?_;intro x y hxy hx hy;simp only[beq_iff_eq]at hx hy;unfold Edge.lt at hxy;unfold vB;rw[hx,hy]at hxy;cases hs:x.send<;>cases ht:y.send<;>simp_all
theorem X9 (o:Bool):∀(la lb:List Edge),aae la->aae lb->match w4 o la lb with
  |none=>(∀x∈la,∃y∈lb,y.act=x.act)/\(o=false->∀y∈lb,∃x∈la,x.act=y.act)
  |some (e,w)=>(w=0/\e∈la/\∀y∈lb,y.act≠e.act)\/(w=1/\o=false/\e∈lb/\∀x∈la,x.act≠e.act)
 |[],[],_,_=>by
  rw[MR];exact⟨λx hx=>(abC hx).elim,λ_ y hy=>(abC hy).elim⟩
 |x::l,[],_,_=>by
  rw[MS];exact .inl ⟨rfl,by simp,λy hy=>(List.not_mem_nil hy).elim⟩
 |[],y::m,ha,hb=>by
  rw[MT];cases o with
  |true=>
   rw[if_pos rfl];have h:=X9 true [] m ha (Wv.1 hb).2
   revert h
   cases w4 true [] m with
   |none=>exact λ_=>⟨λx hx=>(abC hx).elim,λh=>by cases h⟩
   |some r=>
    rintro (⟨_,h,_⟩|⟨_,h,_⟩)
    .cases h
    .cases h
  |false=>
   rw[if_neg (by simp)];exact .inr ⟨rfl,rfl,by simp,λx hx=>(List.not_mem_nil hx).elim⟩
 |x::l,y::m,ha,hb=>by
  obtain⟨ha1,ha2⟩:=Wv.1 ha;obtain⟨hb1,hb2⟩:=Wv.1 hb;have keya:∀{z},vB z x=true->∀u∈x::l,u.act≠z.act:=λ{z} hz u hu e=>by
   rcases WG.1 hu with rfl|hu
   .rw[zs e.symm]at hz;cases hz
   .have:=Y2 hz (ha1 u hu)
    rw[zs e.symm]at this;cases this
  have keyb:∀{z},vB z y=true->∀u∈y::m,u.act≠z.act:=λ{z} hz u hu e=>by
   rcases WG.1 hu with rfl|hu
   .rw[zs e.symm]at hz;cases hz
   .have:=Y2 hz (hb1 u hu)
    rw[zs e.symm]at this;cases this
  rw[MU];by_cases h1:vB x y=true
  .rw[if_pos h1];exact .inl ⟨rfl,by simp,keyb h1⟩
  .rw[if_neg h1];by_cases h2:vB y x=true
   .rw[if_pos h2];cases o with
    |true=>
     rw[if_pos rfl];have h:=X9 true (x::l) m ha hb2
     revert h
     cases w4 true (x::l) m with
     |none=>
      rintro ⟨h,_⟩
      refine⟨λu hu=>?_,λh=>by cases h⟩;obtain⟨v,hv,e⟩:=h u hu;exact⟨v,W3 _ hv,e⟩
     |some r=>
      rintro (⟨h3,h4,h5⟩|⟨_,h,_⟩)
      .refine .inl ⟨h3,h4,λv hv=>?_⟩;rcases WG.1 hv with rfl|hv
       .exact λe=>keya h2 _ h4 e.symm
       .exact h5 v hv
      .cases h
    |false=>
     rw[if_neg (by simp)];exact .inr ⟨rfl,rfl,by simp,keya h2⟩
   .rw[if_neg h2];have he:x.act=y.act:=ZD (by simpa using h1) (by simpa using h2);have h:=X9 o l m ha2 hb2
    revert h
    cases w4 o l m with
    |none=>
     rintro ⟨h3,h4⟩
     refine⟨λu hu=>?_,λho u hu=>?_⟩
     .rcases WG.1 hu with rfl|hu
      .exact⟨y,by simp,he.symm⟩
      .obtain⟨v,hv,e⟩:=h3 u hu;exact⟨v,W3 _ hv,e⟩
     .rcases WG.1 hu with rfl|hu
      .exact⟨x,by simp,he⟩
      .obtain⟨v,hv,e⟩:=h4 ho u hu;exact⟨v,W3 _ hv,e⟩
    |some r=>
     rintro (⟨h3,h4,h5⟩|⟨h3,h0,h4,h5⟩)
     .refine .inl ⟨h3,W3 _ h4,λv hv=>?_⟩;rcases WG.1 hv with rfl|hv
      .intro e;have:=ha1 _ h4;rw[zs (he.trans e)]at this;cases this
      .exact h5 v hv
     .refine .inr ⟨h3,h0,W3 _ h4,λv hv=>?_⟩;rcases WG.1 hv with rfl|hv
      .intro e;have:=hb1 _ h4;rw[zs (he.symm.trans e)]at this;cases this
      .exact h5 v hv
termination_by la lb=>la.length+lb.length
inductive PR (a b:List Edge)(s t:Int):List (Bool×Int)->Int->Int->Prop
 |nil:PR a b s t [] s t
 |snoc {p:List (Bool×Int)} {x y x' y':Int} {d:Bool} {l:Int}:PR a b s t p x y->cO x d l a=some x'->cO y d l b=some y'->PR a b s t (p++[(d,l)]) x' y'
theorem Yd {a b:aP}{k:Nat}{n:zo}(hb:b.Good):∀(l:List Edge)(seen:List (Int×Int))(q:List zo),(∀e∈l,0<=e.to/\e.to<a.aj)->n.path.length<seen.length->zg a b k seen q->
  ∃seen' qs,l.foldl (kB b.af n) (seen,q)=(seen',q++qs)/\zg a b k seen' (q++qs)/\(∀p∈seen,p∈seen')/\(∀p∈seen',p∈seen\/∃m∈qs,(m.x,m.y)=p)/\
   (∀m∈qs,∃e∈l,cO n.y e.send e.label b.af=some m.y/\m.x=e.to/\m.path=n.path++[e.act])/\(∀e∈l,∀y,cO n.y e.send e.label b.af=some y->(e.to,y)∈seen')
 |[],seen,q,_,_,hD=>⟨seen,[],by simp,by simpa using hD,λ_ h=>h,λ_ h=>.inl h,λ_ h=>(List.not_mem_nil h).elim,λ_ h=>(List.not_mem_nil h).elim⟩
 |e::l,seen,q,hl,hp,hD=>by
  have hl':∀e∈l,0<=e.to/\e.to<a.aj:=λf hf=>hl f (W3 _ hf);rw[Xp];by_cases hadd:∃y,cO n.y e.send e.label b.af=some y/\(e.to,y)∉seen
  .obtain⟨y,hy,hns⟩:=hadd;have hy':=hb.hJ hy;unfold aP.inr at hy';have h0:kB b.af n (seen,q) e=(seen++[(e.to,y)],q++[⟨e.to,y,n.path++[e.act]⟩]):=by simp[kB,hy,hns]
   obtain⟨seen',qs,h1,h2,h3,h4,h5,h6⟩:=Yd (n:=n) hb l _ _ hl' (by simp;omega) (hD.push (p:=n.path++[e.act]) hns ⟨hl e (by simp),hy'⟩ (by simp;omega));refine⟨seen',⟨e.to,y,n.path++[e.act]⟩::qs,?_,?_,?_,?_,?_,?_⟩
   .rw[h0,h1,WK];rfl
   .rw[WK]at h2;exact h2
   .exact λp hp=>h3 p (by simp[hp])
   .intro p hp;rcases h4 p hp with h|⟨m,hm,h⟩
    .rw[WT,Xj]at h;rcases h with h|rfl
     .exact .inl h
     .exact .inr ⟨_,WH ..,rfl⟩
    .exact .inr ⟨m,W3 _ hm,h⟩
   .intro m hm;rcases WG.1 hm with rfl|hm
    .exact⟨e,by simp,hy,rfl,rfl⟩
    .obtain⟨f,hf,h⟩:=h5 m hm;exact⟨f,W3 _ hf,h⟩
   .intro f hf z hz;rcases WG.1 hf with rfl|hf
    .rw[hy]at hz;cases hz;exact h3 _ (by simp)
    .exact h6 f hf z hz
  .have h0:kB b.af n (seen,q) e=(seen,q):=by
    unfold kB;cases hn:cO n.y e.send e.label b.af with
    |none=>rfl
    |some y=>
     have:(e.to,y)∈seen:=Classical.byContradiction λh=>hadd ⟨y,hn,h⟩;simp[this]
   obtain⟨seen',qs,h1,h2,h3,h4,h5,h6⟩:=Yd (n:=n) hb l seen q hl' hp hD;refine⟨seen',qs,by rw[h0,h1],h2,h3,h4,?_,?_⟩
   .intro m hm;obtain⟨f,hf,h⟩:=h5 m hm;exact⟨f,W3 _ hf,h⟩
   .intro f hf z hz;rcases WG.1 hf with rfl|hf
    .exact h3 _ (Classical.byContradiction λh=>hadd ⟨z,hz,h⟩)
    .exact h6 f hf z hz
theorem Yg {a b:aP}(ha:a.Good)(hb:b.Good)(o:Bool):∀(k:Nat)(seen:List (Int×Int))(q:List zo),zg a b k seen q->(∀n∈q,PR a.af b.af a.start b.start n.path n.x n.y)->
  (∀x y,(x,y)∈seen->(∃n∈q,n.x=x/\n.y=y)\/(w4 o (aV a.af x) (aV b.af y)=none/\∀d l x' y',cO x d l a.af=some x'->cO y d l b.af=some y'->(x',y')∈seen))->(a.start,b.start)∈seen->
  match B8 a.af b.af o k (seen,q)with
  |none=>∀p x y,PR a.af b.af a.start b.start p x y->w4 o (aV a.af x) (aV b.af y)=none
  |some (p,w)=>∃(n:zo)(e:Edge),PR a.af b.af a.start b.start n.path n.x n.y/\w4 o (aV a.af n.x) (aV b.af n.y)=some (e,w)/\p=n.path++[e.act]/\n.path.length<1000
 |k,seen,[],hD,_,hs,h0=>by
  have:B8 a.af b.af o k (seen,[])=none:=by cases k<;>rfl
  rw[this];have hin:∀p x y,PR a.af b.af a.start b.start p x y->(x,y)∈seen:=λp x y h=>by
   induction h with
   |nil=>exact h0
   |snoc _ h1 h2 ih=>
    rcases hs _ _ ih with⟨n,hn,_⟩|⟨_,h⟩
    .cases hn
    .exact h _ _ _ _ h1 h2
  intro p x y h;rcases hs _ _ (hin p x y h)with⟨n,hn,_⟩|⟨h,_⟩
  .cases hn
  .exact h
 |0,seen,n::q,hD,_,_,_=>by
  have h1:=hD.count;have h2:=qG hD.nodup (n:=a.aj.toNat) (m:=b.aj.toNat) (λp hp=>by
   have:=hD.mem p hp;omega)
  simp at h1;omega
 |k+1,seen,n::q,hD,hq,hs,h0=>by
  have hdif:B8 a.af b.af o (k+1) (seen,n::q)=match w4 o (aV a.af n.x) (aV b.af n.y)with
   |some (e,w)=>some (n.path++[e.act],w)
   |none=>B8 a.af b.af o k ((aV a.af n.x).foldl (kB b.af n) (seen,q)):=rfl
  rw[hdif];cases hm:w4 o (aV a.af n.x) (aV b.af n.y)with
  |some r=>
   obtain⟨e,w⟩:=r;refine⟨n,e,hq n (by simp),hm,rfl,?_⟩;have h1:=(hD.node n (by simp)).2.2;have h2:=qG hD.nodup (n:=a.aj.toNat) (m:=b.aj.toNat) (λp hp=>by
    have:=hD.mem p hp;omega)
   have h3:=ha.mx;have h4:=hb.mx;have:=abA (show a.aj.toNat<=12 by omega) (show b.aj.toNat<=12 by omega);omega
  |none=>
   dsimp only;have hl:=(hD.node n (by simp)).2.2;obtain⟨seen',qs,h1,h2,h3,h4,h5,h6⟩:=Yd (a:=a) (k:=k) (n:=n) hb (aV a.af n.x) seen q (λe he=>by
    rw[zf]at he;have:=fG.1 (ha.fit e he.1);exact⟨this.2.2.1,this.2.2.2.1⟩) hl ⟨hD.nodup,hD.mem,by have:=hD.count;rw[abv]at this;omega,λm hm=>hD.node m (W3 _ hm),by have:=hD.le;omega⟩
   rw[h1];refine Yg ha hb o k seen' (q++qs) h2 ?_ ?_ (h3 _ h0)
   .intro m hm';rcases WT.1 hm' with hm'|hm'
    .exact hq m (W3 _ hm')
    .obtain⟨e,he,h7,h8,h9⟩:=h5 m hm';rw[zf]at he;rw[h9,h8];refine PR.snoc (d:=e.send) (l:=e.label) (hq n (by simp)) ((sZ ha.oV).2 ?_) h7;have:(⟨n.x,e.send,e.label,e.to⟩:Edge)=e:=by rw[<- he.2]
     rw[this];exact he.1
   .intro x y hxy;have done:∀x y,((∃m∈n::q,m.x=x/\m.y=y)\/(w4 o (aV a.af x) (aV b.af y)=none/\∀d l x' y',cO x d l a.af=some x'->cO y d l b.af=some y'->(x',y')∈seen))->(∃n∈q++qs,n.x=x/\n.y=y)\/(w4 o (aV a.af x) (aV b.af y)=none/\∀d l x' y',cO x d l a.af=some x'->cO y d l b.af=some y'->(x',y')∈seen'):=by
     rintro x y (⟨m,hm',rfl,rfl⟩|⟨h,h'⟩)
     .rcases WG.1 hm' with rfl|hm'
      .refine .inr ⟨hm,λd l x' y' hx hy=>?_⟩;exact h6 ⟨m.x,d,l,x'⟩ (zf.2 ⟨(sZ ha.oV).1 hx,rfl⟩) y' hy
      .exact .inl ⟨m,Xa _ hm',rfl,rfl⟩
     .exact .inr ⟨h,λd l x' y' hx hy=>h3 _ (h' d l x' y' hx hy)⟩
    rcases h4 _ hxy with h|⟨m,hm',h⟩
    .exact done x y (hs x y h)
    .simp only[Prod.mk.injEq]at h;exact .inl ⟨m,Xt _ hm',h.1,h.2⟩
def aP.B8 (a b:aP)(o:Bool):Option (List (Bool×Int)×Int):=Pv.B8 a.af b.af o (a.aj.toNat*b.aj.toNat+1) ([(a.start,b.start)],[⟨a.start,b.start,[]⟩])
theorem aP.Yg {a b:aP}(ha:a.Good)(hb:b.Good)(o:Bool):match a.B8 b o with
  |none=>∀p x y,PR a.af b.af a.start b.start p x y->w4 o (aV a.af x) (aV b.af y)=none
  |some (p,w)=>∃(n:zo)(e:Edge),PR a.af b.af a.start b.start n.path n.x n.y/\w4 o (aV a.af n.x) (aV b.af n.y)=some (e,w)/\p=n.path++[e.act]/\n.path.length<1000:=by
 have h1:=ha.st;have h2:=hb.st;have h3:=ha.mx;have h4:=hb.mx;have:=abA (show a.aj.toNat<=12 by omega) (show b.aj.toNat<=12 by omega);refine Pv.Yg ha hb o _ _ _ ⟨by simp,by simp;omega,by simp,by simp;omega,by omega⟩ ?_ ?_ (by simp)
 .intro n hn;rw[Xj]at hn;subst hn;exact .nil
 .intro x y hxy;simp only[List.mem_singleton,Prod.mk.injEq]at hxy;exact .inl ⟨_,Xj.2 rfl,hxy.1.symm,hxy.2.symm⟩
def mC (a b:aP):Int:=if a.err=0 then b.err else a.err
set_option maxHeartbeats 1000000 in
@[go_sem] theorem r34 (t u:Nat)(a b:aP)(ha:a.af.length<=2000000000)(hb:b.af.length<=2000000000):res A aA 34 [.agg [.int .i64 a.aj,.int .i64 a.start,.aq t (a.af.map Edge.c)],.agg [.int .i64 b.aj,.int .i64 b.start,.aq u (b.af.map Edge.c)]]=some [.int .i64 (mC a b)]:=by
 refine aw a34 rfl rfl ?_;simp only[F34,Ue];simp(disch:=omega)only[go_sem];refine Br.aJ (λh=>?_) (λh=>?_)<;>simp(disch:=omega)only[go_sem,h]
 .unfold mC;rw[if_pos h]
 .unfold mC;rw[if_neg h]
theorem vD {a b:aP}(h:mC a b=0):a.Good/\b.Good:=by
 unfold mC at h;by_cases h1:a.err=0
 .rw[if_pos h1]at h;exact⟨aP.iV.1 h1,aP.iV.1 h⟩
 .rw[if_neg h1]at h;exact(h1 h).elim
theorem FY (r:Option (List (Bool×Int)×Int)):uc r=[.aq 0 (fQ (r.getD ([],0)).1),.int .i64 (r.getD ([],0)).2,.bool r.isSome]:=by
 cases r with
 |none=>rfl
 |some r=>rfl
@[go_sem] theorem r35a (t u:Nat)(a b:aP)(only:Bool)(ht:t<=1)(hu:u<=1)(h:mC a b=0):res A aA 35 [.agg [.int .i64 a.aj,.int .i64 a.start,.aq t (a.af.map Edge.c)],.agg [.int .i64 b.aj,.int .i64 b.start,.aq u (b.af.map Edge.c)],.bool only]=some [.aq 0 (fQ ((a.B8 b only).getD ([],0)).1),.int .i64 ((a.B8 b only).getD ([],0)).2,.bool (a.B8 b only).isSome]:=by
 rw[r35 t u a b only ht hu (vD h).1 (vD h).2,FY];rfl
set_option maxHeartbeats 1000000 in
@[go_sem] theorem r16 (t u:Nat)(a b:aP)(ht:t<=1)(hu:u<=1)(ha:a.af.length<=2000000000)(hb:b.af.length<=2000000000):res A aA 16 [.agg [.int .i64 a.aj,.int .i64 a.start,.aq t (a.af.map Edge.c)],.agg [.int .i64 b.aj,.int .i64 b.start,.aq u (b.af.map Edge.c)]]=some [.bool (decide (mC a b=0)&&!(a.B8 b false).isSome),.int .i64 (mC a b)]:=by
 refine aw a16 rfl rfl ?_;simp only[F16,T8];simp(disch:=omega)only[go_sem];refine Br.aJ (λh=>?_) (λh=>?_)
 .have h0:=h;simp(disch:=omega)only[go_sem,h0,r35a t u a b false ht hu h0]
 .simp(disch:=omega)only[go_sem,h]
noncomputable def tA (v w:ij)(c:Cal):Bool:=match jf (λd=>decide (d.name=c.name)) w.calls with
 |some d=>gG v.types w.types c.ud d.ud&&gG v.types w.types c.rep d.rep
 |none=>false
noncomputable def zh (v w:ij)(c:Tpc):Bool:=match jf (λd=>decide (d.name=c.name)) w.aT with
 |some d=>gG v.types w.types c.ty d.ty
 |none=>false
noncomputable def Du (v w:ij)(m n:gI):Bool:=decide (m.id=n.id)&&gG v.types w.types m.ty n.ty
def Ic (a b:aP):Bool:=decide (mC a b=0)&&!(a.B8 b false).isSome
noncomputable def Sd (v w:ij)(x y:eE):Bool:=wM (Du v w) x.msgs y.msgs&&Ic x.auto y.auto
noncomputable def tB (v w:ij)(x:eE):Bool:=match jf (λd=>decide (d.name=x.name)) w.aG with
 |some y=>Sd v w x y
 |none=>false
noncomputable def FZ (v w:ij):Bool:=(decide (v.calls.length=w.calls.length)&&decide (v.aG.length=w.aG.length)&&decide (v.aT.length=w.aT.length))&&(v.calls.all (tA v w)&&v.aT.all (zh v w)&&v.aG.all (tB v w))
noncomputable def vE (v w:ij):Bool×Int:=if acw v≠0 then (false,acw v) else if acw w≠0 then (false,acw w) else (FZ v w,0)
theorem A5 {α:Type}{f:α->Bool}{l:List α}(h:l.any (λx=>!f x)=true):l.all f=false:=by
 obtain⟨x,hx,hn⟩:=Xm.1 h;rw[Xz];intro h2;have:=Wu.1 h2 x hx;rw[this]at hn;cases hn
theorem wS {α:Type}{f:α->Bool}{l:List α}(h:l.any (λx=>!f x)=false):l.all f=true:=by
 rw[Wu];intro x hx;have:=WY.1 h x hx;simpa using this
theorem cH.vt {v:ij}(h:cH v)(hv:iX v):VT v.types:=⟨hv.tl,hv.to,λt ht=>abK ((eZ h.valid).own t ht),h.valid⟩
theorem tC {α:Type}{p:α->Bool}{l:List α}{x:α}(h:jf p l=some x):x∈l:=by
 unfold jf at h;cases hf:l.findIdx? p with
 |none=>rw[hf]at h;cases h
 |some j=>rw[hf]at h;exact Wa h
theorem r455 (s s' t1 t2 t3 t4 u1 u2 u3 u4:Nat)(v w:ij)(x y:Int)(hA:VT v.types)(hB:VT w.types)(hx:0<=x/\x<v.types.length)(hy:0<=y/\y<w.types.length):res A aA 455 [.int .i64 x,.int .i64 y,.ro s (lB t1 t2 t3 t4 v),.ro s' (lB u1 u2 u3 u4 w)]=some [.bool (gG v.types w.types x y)]:=by
 have h1:=λt u=>r456 t u v.types w.types x y hA hB hx hy;refine aw a455 rfl rfl ?_;simp only[F455,Lq,lB];simp(disch:=omega)only[go_sem,h1]
set_option maxHeartbeats 16000000 in
theorem r421 (t1 t2 t3 t4 u1 u2 u3 u4:Nat)(v w:ij)(hv:iX v)(hw:iX w):res A aA 421 [.agg (lB t1 t2 t3 t4 v),.agg (lB u1 u2 u3 u4 w)]=some [.bool (vE v w).1,.int .i64 (vE v w).2]:=by
 have h407:=r407 t1 t2 t3 t4 v hv;have h407':=r407 u1 u2 u3 u4 w hw;have l1:=hv.cl;have l2:=hv.sl;have l3:=hv.pl;have m1:=hw.cl;have m2:=hw.sl;have m3:=hw.pl;have h410:=λnm=>r410 u1 u2 u3 u4 w nm hw.cl;have h414:=λnm=>r414 u1 u2 u3 u4 w nm hw.pl;have h455:=λs s' x y=>r455 s s' t1 t2 t3 t4 u1 u2 u3 u4 v w x y;unfold vE;refine aw a421 rfl rfl ?_;simp only[F421,Ld,lB]at *;simp(disch:=omega)only[go_sem,h407];refine Br.aJ (λc=>?_) (λc=>?_)<;>simp(disch:=omega)only[go_sem]
 rotate_left
 .rw[if_pos c]
 rw[if_neg (by simp[c])];simp(disch:=omega)only[go_sem,h407'];refine Br.aJ (λc'=>?_) (λc'=>?_)<;>simp(disch:=omega)only[go_sem]
 rotate_left
 .rw[if_pos c']
 rw[if_neg (by simp[c'])];have gv:=vj c;have gw:=vj c';have tv:=gv.vt hv;have tw:=gw.vt hw;have hm:∀z∈w.aG,z.msgs.length<=2147483648/\z.auto.af.length<=2147483648:=λz hz=>by
  have h1:=(gw.wK z hz).zn;have h2:=(hw.ss z hz).2.2.2;omega
 have h412:=λnm=>r412 u1 u2 u3 u4 w nm hw.sl hm;simp only[lB]at h412;unfold FZ;cases d1:decide ((v.calls.length:Int)=w.calls.length)with
 |false=>
  have:=of_decide_eq_false d1;rw[decide_eq_false (show ¬v.calls.length=w.calls.length by omega)];simp(disch:=omega)only[go_sem,d1]
 |true=>
 have d1':=of_decide_eq_true d1;cases d2:decide ((v.aG.length:Int)=w.aG.length)with
 |false=>
  have:=of_decide_eq_false d2;rw[decide_eq_false (show ¬v.aG.length=w.aG.length by omega),abu];simp(disch:=omega)only[go_sem,d1,d2]
 |true=>
 have d2':=of_decide_eq_true d2;cases d3:decide ((v.aT.length:Int)=w.aT.length)with
 |false=>
  have:=of_decide_eq_false d3;rw[decide_eq_false (show ¬v.aT.length=w.aT.length by omega),abu];simp(disch:=omega)only[go_sem,d1,d2,d3]
 |true=>
 have d3':=of_decide_eq_true d3;simp(disch:=omega)only[go_sem,d1,d2,d3];rw[decide_eq_true (show v.calls.length=w.calls.length by omega),decide_eq_true (show v.aG.length=w.aG.length by omega),decide_eq_true (show v.aT.length=w.aT.length by omega),WZ,WZ,WZ];refine W.find v.calls (λc=>!tA v w c) (λk=>⟨[(2,.ptr 2 0),(3,.ptr 3 0),(8,.func 455 [.ptr 2 0,.ptr 3 0]),(62,.pv (.aq t2 (ch v.calls))),(63,.pv (.int .i64 v.calls.length)),(64,.pv (.int .i64 k))],⟨[(2,[.pv (.str v.name),.pv (.aq t1 (v.types.map aH.c)),.pv (.aq t2 (ch v.calls)),.pv (.aq t3 (aG v.aG)),.pv (.aq t4 (df v.aT))]),(3,[.pv (.str w.name),.pv (.aq u1 (w.types.map aH.c)),.pv (.aq u2 (ch w.calls)),.pv (.aq u3 (aG w.aG)),.pv (.aq u4 (df w.aT))])],[],[]⟩⟩) rfl (λk x hx hk hfd=>?_) (λhn=>?_)
 .have done:tA v w x=false->(some [PV.bool false,PV.int .i64 0]:Option (List PV))=some [.bool (v.calls.all (tA v w)&&v.aT.all (zh v w)&&v.aG.all (tB v w)),.int .i64 0]:=λh=>by
   rw[A5 (hfd (by rw[h];rfl)).any];rfl
  have hcl:=gv.call x (Wa hx);simp(disch:=omega)only[go_sem];refine Br.aJ (λc=>?_) (λc=>(c (by omega)).elim);simp(disch:=omega)only[go_sem,hx,Option.map_some,Cal.c,h410];unfold tA at done;cases hp:jf (λd=>decide (d.name=x.name)) w.calls with
  |none=>
   rw[hp]at done;simp(disch:=omega)only[go_sem,Mt];exact done rfl
  |some d=>
   rw[hp]at done;dsimp only at done;have hd:=gw.call d (tC hp);have e1:=λs s'=>h455 s s' x.ud d.ud tv tw hcl.1 hd.1;have e2:=λs s'=>h455 s s' x.rep d.rep tv tw hcl.2 hd.2;have hcs:tA v w x=(gG v.types w.types x.ud d.ud&&gG v.types w.types x.rep d.rep):=by
    unfold tA;rw[hp]
   generalize gG v.types w.types x.ud d.ud=b1 at *;generalize gG v.types w.types x.rep d.rep=b2 at *;simp(disch:=omega)only[go_sem,Mt,Cal.c,e1];cases b1 with
   |false=>
    simp(disch:=omega)only[go_sem];exact done rfl
   |true=>
    simp(disch:=omega)only[go_sem,e2];cases b2 with
    |false=>
     simp(disch:=omega)only[go_sem];exact done rfl
    |true=>
     simp(disch:=omega)only[go_sem];exact bB.of (by rw[hcs];rfl) rfl
 rw[wS hn.any,WZ];clear hn;simp(disch:=omega)only[go_sem];refine W.find v.aT (λc=>!zh v w c) (λk=>⟨[(2,.ptr 2 0),(3,.ptr 3 0),(8,.func 455 [.ptr 2 0,.ptr 3 0]),(97,.pv (.aq t4 (df v.aT))),(98,.pv (.int .i64 v.aT.length)),(99,.pv (.int .i64 k))],⟨[(2,[.pv (.str v.name),.pv (.aq t1 (v.types.map aH.c)),.pv (.aq t2 (ch v.calls)),.pv (.aq t3 (aG v.aG)),.pv (.aq t4 (df v.aT))]),(3,[.pv (.str w.name),.pv (.aq u1 (w.types.map aH.c)),.pv (.aq u2 (ch w.calls)),.pv (.aq u3 (aG w.aG)),.pv (.aq u4 (df w.aT))])],[],[]⟩⟩) rfl (λk x hx hk hfd=>?_) (λhn=>?_)
 .have done:zh v w x=false->(some [PV.bool false,PV.int .i64 0]:Option (List PV))=some [.bool (v.aT.all (zh v w)&&v.aG.all (tB v w)),.int .i64 0]:=λh=>by
   rw[A5 (hfd (by rw[h];rfl)).any];rfl
  have hcl:=gv.I4 x (Wa hx);simp(disch:=omega)only[go_sem];refine Br.aJ (λc=>?_) (λc=>(c (by omega)).elim);simp(disch:=omega)only[go_sem,hx,Option.map_some,Tpc.c,h414];unfold zh at done;cases hp:jf (λd=>decide (d.name=x.name)) w.aT with
  |none=>
   rw[hp]at done;simp(disch:=omega)only[go_sem,Mw];exact done rfl
  |some d=>
   rw[hp]at done;dsimp only at done;have hd:=gw.I4 d (tC hp);have e1:=λs s'=>h455 s s' x.ty d.ty tv tw hcl hd;have hcs:zh v w x=gG v.types w.types x.ty d.ty:=by
    unfold zh;rw[hp]
   generalize gG v.types w.types x.ty d.ty=b1 at *;simp(disch:=omega)only[go_sem,Mw,Tpc.c,e1];cases b1 with
   |false=>
    simp(disch:=omega)only[go_sem];exact done rfl
   |true=>
    simp(disch:=omega)only[go_sem];exact bB.of (by rw[hcs];rfl) rfl
 rw[wS hn.any,WZ];clear hn;simp(disch:=omega)only[go_sem];refine W.find v.aG (λc=>!tB v w c) (λk=>⟨[(3,.ptr 3 0),(8,.func 455 [.ptr 2 0,.ptr 3 0]),(123,.pv (.aq t3 (aG v.aG))),(124,.pv (.int .i64 v.aG.length)),(125,.pv (.int .i64 k))],⟨[(2,[.pv (.str v.name),.pv (.aq t1 (v.types.map aH.c)),.pv (.aq t2 (ch v.calls)),.pv (.aq t3 (aG v.aG)),.pv (.aq t4 (df v.aT))]),(3,[.pv (.str w.name),.pv (.aq u1 (w.types.map aH.c)),.pv (.aq u2 (ch w.calls)),.pv (.aq u3 (aG w.aG)),.pv (.aq u4 (df w.aT))])],[],[]⟩⟩) rfl (λk x hx hk hfd=>?_) (λhn=>?_)
 .have done:tB v w x=false->(some [PV.bool false,PV.int .i64 0]:Option (List PV))=some [.bool (v.aG.all (tB v w)),.int .i64 0]:=λh=>by
   rw[A5 (hfd (by rw[h];rfl)).any]
  have hxm:=Wa hx;have hcl:=gv.wK x hxm;have hce:=(hv.ss x hxm).2.2.2;have hfe:=hcl.zn;simp(disch:=omega)only[go_sem];refine Br.aJ (λc=>?_) (λc=>(c (by omega)).elim);simp(disch:=omega)only[go_sem,hx,Option.map_some,eE.c,h412];cases hp:jf (λd=>decide (d.name=x.name)) w.aG with
  |none=>
   have hcs:tB v w x=false:=by
    unfold tB;rw[hp]
   simp(disch:=omega)only[go_sem,AD];exact done hcs
  |some y=>
   have hym:=tC hp;have hd:=gw.wK y hym;have hde:=(hw.ss y hym).2.2.2;have hfd':=hd.zn;have hcs:tB v w x=(wM (Du v w) x.msgs y.msgs&&Ic x.auto y.auto):=by
    unfold tB;rw[hp];rfl
   simp(disch:=omega)only[go_sem,AD,eE.c];cases d4:decide ((x.msgs.length:Int)=y.msgs.length)with
   |false=>
    have:=of_decide_eq_false d4;rw[p6 (λe=>this (by rw[e])),Xu]at hcs;simp(disch:=omega)only[go_sem];exact done hcs
   |true=>
   have d4':=of_decide_eq_true d4;simp(disch:=omega)only[go_sem];refine W.find (x.msgs.zip y.msgs) (λq=>!Du v w q.1 q.2) (λj=>⟨[(3,.ptr 3 0),(8,.func 455 [.ptr 2 0,.ptr 3 0]),(18,.ptr 18 0),(19,.ptr 19 0),(123,.pv (.aq t3 (aG v.aG))),(124,.pv (.int .i64 v.aG.length)),(125,.pv (.int .i64 k)),(148,.pv (.aq 0 (x.msgs.map gI.c))),(149,.pv (.int .i64 x.msgs.length)),(150,.pv (.int .i64 j))],⟨[(2,[.pv (.str v.name),.pv (.aq t1 (v.types.map aH.c)),.pv (.aq t2 (ch v.calls)),.pv (.aq t3 (aG v.aG)),.pv (.aq t4 (df v.aT))]),(3,[.pv (.str w.name),.pv (.aq u1 (w.types.map aH.c)),.pv (.aq u2 (ch w.calls)),.pv (.aq u3 (aG w.aG)),.pv (.aq u4 (df w.aT))]),(18,x.c.map .pv),(19,y.c.map .pv)],[],[]⟩⟩) rfl (λj q hq hj hfq=>?_) (λhn=>?_)
   .obtain⟨h1,h2⟩:=jh hq;rw[dA (by omega)]at hj;have ha:=hcl.ty q.1 (Wa h1);have hb:=hd.ty q.2 (Wa h2);have e1:=λs s'=>h455 s s' q.1.ty q.2.ty tv tw ha hb;have hg:Du v w q.1 q.2=(decide (q.1.id=q.2.id)&&gG v.types w.types q.1.ty q.2.ty):=rfl;have done2:Du v w q.1 q.2=false->tB v w x=false:=λh=>by
     rw[hcs,wN (hfq (by rw[h];rfl)).any];rfl
    generalize gG v.types w.types q.1.ty q.2.ty=b1 at *;simp(disch:=omega)only[go_sem];refine Br.aJ (λc=>?_) (λc=>(c (by omega)).elim);simp(disch:=omega)only[go_sem,h1,h2,Option.map_some,gI.c,eE.c];cases d5:decide (q.1.id=q.2.id)with
    |false=>
     simp(disch:=omega)only[go_sem];exact done (done2 (by rw[hg,d5];rfl))
    |true=>
     simp(disch:=omega)only[go_sem,h1,h2,Option.map_some,gI.c,eE.c,e1];cases b1 with
     |false=>
      simp(disch:=omega)only[go_sem];exact done (done2 (by rw[hg,d5];rfl))
     |true=>
      simp(disch:=omega)only[go_sem];exact bB.of (by rw[hg,d5];rfl) rfl
   .have hz:(x.msgs.zip y.msgs).length=x.msgs.length:=dA (by omega);rw[ru (g:=Du v w) (by omega) hn.any,WZ]at hcs;rw[hz];have ha:(decide (mC x.auto y.auto=0)&&!(x.auto.B8 y.auto false).isSome)=Ic x.auto y.auto:=rfl;simp(disch:=omega)only[go_sem,eE.c,ha];cases d6:Ic x.auto y.auto with
    |false=>
     rw[d6]at hcs;simp(disch:=omega)only[go_sem];exact done hcs
    |true=>
     rw[d6]at hcs;simp(disch:=omega)only[go_sem];exact bB.of (by rw[hcs];rfl) rfl
 .rw[wS hn.any];simp(disch:=omega)only[go_sem]
theorem vP {a:aP}(ha:a.Good){x:Int}{d:Bool}{l t:Int}(h:cO x d l a.af=some t):(⟨x,d,l,t⟩:Edge)∈aV a.af x:=zf.2 ⟨(sZ ha.oV).1 h,rfl⟩
theorem vS {a:aP}(ha:a.Good){x:Int}{e:Edge}(h:e∈aV a.af x):cO x e.send e.label a.af=some e.to:=by
 obtain⟨h1,h2⟩:=zf.1 h;refine(sZ ha.oV).2 ?_;have:(⟨x,e.send,e.label,e.to⟩:Edge)=e:=by rw[<- h2]
 rw[this];exact h1
theorem Z0 {a b:aP}(ha:a.Good)(hb:b.Good){o:Bool}{x y:Int}(h:w4 o (aV a.af x) (aV b.af y)=none):(∀d l,(cO x d l a.af).isSome=true->(cO y d l b.af).isSome=true)/\(o=false->∀d l,(cO y d l b.af).isSome=true->(cO x d l a.af).isSome=true):=by
 have hs:=X9 o _ _ (ha.aaf x) (hb.aaf y);rw[h]at hs;refine⟨λd l hd=>?_,λho d l hd=>?_⟩
 .obtain⟨t,ht⟩:=abq.1 hd;obtain⟨f,hf,he⟩:=hs.1 _ (vP ha ht);simp only[Edge.act,Prod.mk.injEq]at he;have:=vS hb hf;rw[he.1,he.2]at this;rw[this];rfl
 .obtain⟨t,ht⟩:=abq.1 hd;obtain⟨f,hf,he⟩:=hs.2 ho _ (vP hb ht);simp only[Edge.act,Prod.mk.injEq]at he;have:=vS ha hf;rw[he.1,he.2]at this;rw[this];rfl
theorem Z1 {a b:aP}(ha:a.Good)(hb:b.Good){o:Bool}{x y:Int}{e:Edge}{w:Int}(h:w4 o (aV a.af x) (aV b.af y)=some (e,w)):
  (w=0/\(cO x e.send e.label a.af).isSome=true/\cO y e.send e.label b.af=none)\/(w=1/\o=false/\(cO y e.send e.label b.af).isSome=true/\cO x e.send e.label a.af=none):=by
 have hs:=X9 o _ _ (ha.aaf x) (hb.aaf y);rw[h]at hs;rcases hs with⟨h1,h2,h3⟩|⟨h1,h0,h2,h3⟩
 .refine .inl ⟨h1,by rw[vS ha h2];rfl,?_⟩;cases hn:cO y e.send e.label b.af with
  |none=>rfl
  |some t=>exact(h3 _ (vP hb hn) rfl).elim
 .refine .inr ⟨h1,h0,by rw[vS hb h2];rfl,?_⟩;cases hn:cO x e.send e.label a.af with
  |none=>rfl
  |some t=>exact(h3 _ (vP ha hn) rfl).elim
theorem PR.ev {a b:aP}{p:List (Bool×Int)}{x y:Int}(h:PR a.af b.af a.start b.start p x y)(he:∀j,Ev a.af b.af j a.start b.start):∀j,Ev a.af b.af j x y:=by
 induction h with
 |nil=>exact he
 |@snoc _ _ _ _ _ d l _ h1 h2 ih=>
  intro j;have:=ih (j+1) d l;rw[h1,h2]at this;exact this
theorem Y3 {a b:aP}(ha:a.Good)(hb:b.Good):a.B8 b false=none↔∀j,Ev a.af b.af j a.start b.start:=by
 have hs:=aP.Yg ha hb false;constructor
 .intro h;rw[h]at hs;have key:∀j p x y,PR a.af b.af a.start b.start p x y->Ev a.af b.af j x y:=by
   intro j
   induction j with
   |zero=>exact λ_ _ _ _=>trivial
   |succ j ih=>
    intro p x y hp d l;obtain⟨h1,h2⟩:=Z0 ha hb (hs p x y hp);have h1:=h1 d l;have h2:=h2 rfl d l;cases hx:cO x d l a.af with
    |none=>
     cases hy:cO y d l b.af with
     |none=>trivial
     |some t=>rw[hx,hy]at h2;cases h2 rfl
    |some t=>
     cases hy:cO y d l b.af with
     |none=>rw[hx,hy]at h1;cases h1 rfl
     |some u=>exact ih _ t u (hp.snoc hx hy)
  exact λj=>key j [] _ _ .nil
 .intro he;cases h:a.B8 b false with
  |none=>rfl
  |some r=>
   obtain⟨p,w⟩:=r;rw[h]at hs;obtain⟨n,e,hp,hm,_⟩:=hs;have h1:=hp.ev he 1 e.send e.label;rcases Z1 ha hb hm with⟨_,h2,h3⟩|⟨_,_,h2,h3⟩
   .rw[h3]at h1;obtain⟨t,ht⟩:=abq.1 h2;rw[ht]at h1;exact h1.elim
   .rw[h3]at h1;obtain⟨t,ht⟩:=abq.1 h2;rw[ht]at h1;exact h1.elim
theorem Yt {α β:Type}{g:α->β->Bool}{l:List α}{m:List β}:wM g l m=true↔l.length=m.length/\∀(i:Nat) a b,l[i]?=some a->m[i]?=some b->g a b=true:=by
 unfold wM;rw[XX,decide_eq_true_eq,Wu];constructor
 .rintro ⟨h1,h2⟩
  exact⟨h1,λi a b ha hb=>h2 (a,b) (Wa (i:=i) (by rw[Xv];exact⟨ha,hb⟩))⟩
 .rintro ⟨h1,h2⟩
  refine⟨h1,λq hq=>?_⟩;obtain⟨i,hi⟩:=Wd.1 hq;rw[Xv]at hi;exact h2 i q.1 q.2 hi.1 hi.2
theorem Zi {A B:List aH}{S:Nat->Nat->Prop}(hr:∀p q,S p q->p<A.length/\q<B.length)(ha:∀p q,S p q->ep (ji A p) (ji B q)=true)
  (hu:∀(M:List (List Bool)),(∀p q,S p q->iY M p q=true)->∀p q,S p q->HQ M (ji A p) (ji B q)=true):∀p q:Nat,S p q->gG A B p q=true:=
 Zc (wR A B (Wj _)) (λp q h=>by rw[ZZ (hr p q h).1 (hr p q h).2];exact ha p q h) λM p q hM h=>hu M hM p q h
theorem Zt {a b:aP}(ha:a.err=0)(hb:b.err=0):Ic a b=true↔∀j,Ev a.af b.af j a.start b.start:=by
 have h0:mC a b=0:=by
  unfold mC;simp[ha,hb]
 unfold Ic;rw[h0,<- Y3 (vD h0).1 (vD h0).2];simp
theorem ael {a:aP}(ha:a.err=0):Ic a a=true:=(Zt ha ha).2 λj=>Ev.refl _ j _
theorem ZF {α:Type}{p:α->Bool}{m:List α}{d:α}(h:d∈m)(hp:p d=true):∃e∈m,p e=true/\jf p m=some e:=by
 unfold jf;cases hf:m.findIdx? p with
 |none=>
  rw[Xe]at hf;rw[hf d h]at hp;cases hp
 |some j=>
  rw[Ww]at hf;obtain⟨hj,hpj,_⟩:=hf;exact⟨m[j],List.getElem_mem hj,hpj,by simp⟩
theorem Zk {α:Type}{p:α->Bool}{l:List α}{x:α}(h:jf p l=some x):p x=true:=by
 unfold jf at h;cases hf:l.findIdx? p with
 |none=>rw[hf]at h;cases h
 |some j=>
  rw[hf]at h;rw[Ww]at hf;obtain⟨hj,hpj,_⟩:=hf;simp[List.getElem?_eq_getElem hj]at h;rw[<- h];exact hpj
def Yj {α:Type}(f:α->ByteArray)(P:α->α->Bool)(m:List α)(c:α):Bool:=match jf (λd=>decide (f d=f c)) m with
 |some d=>P c d
 |none=>false
theorem Y4 {α β:Type}{f:α->β}{m:List α}(h:(m.map f).Nodup){x y:α}(hx:x∈m)(hy:y∈m)(e:f x=f y):x=y:=by
 induction m with
 |nil=>simp at hx
 |cons a m ih=>
  rw[XQ,abz]at h;rcases WG.1 hx with hx|hx
  .rcases WG.1 hy with hy|hy
   .rw[hx,hy]
   .exact absurd (Wk.2 ⟨y,hy,by rw[<- e,hx]⟩) h.1
  .rcases WG.1 hy with hy|hy
   .exact absurd (Wk.2 ⟨x,hx,by rw[e,hy]⟩) h.1
   .exact ih h.2 hx hy
theorem YA {α:Type}{f:α->ByteArray}{P:α->α->Bool}{m:List α}(hm:(m.map f).Nodup){c:α}:Yj f P m c=true↔∃d∈m,f d=f c/\P c d=true:=by
 unfold Yj;constructor
 .intro h;cases hp:jf (λd=>decide (f d=f c)) m with
  |none=>rw[hp]at h;cases h
  |some d=>
   rw[hp]at h;exact⟨d,tC hp,of_decide_eq_true (Zk (p:=λd=>decide (f d=f c)) hp),h⟩
 .rintro ⟨d,hd,e,h⟩
  obtain⟨d',h1,h2,h3⟩:=ZF (p:=λd=>decide (f d=f c)) hd (decide_eq_true e);rw[h3];have:d'=d:=Y4 hm h1 hd (by rw[of_decide_eq_true h2,e]);rw[this];exact h
noncomputable def Z4 (A B:List aH)(c d:Cal):Bool:=gG A B c.ud d.ud&&gG A B c.rep d.rep
noncomputable def aa3 (A B:List aH)(c d:Tpc):Bool:=gG A B c.ty d.ty
theorem Z5 (v w:ij):tA v w=Yj Cal.name (Z4 v.types w.types) w.calls:=by
 funext c;unfold tA Yj;cases jf (λd=>decide (d.name=c.name)) w.calls<;>rfl
theorem aag (v w:ij):zh v w=Yj Tpc.name (aa3 v.types w.types) w.aT:=by
 funext c;unfold zh Yj;cases jf (λd=>decide (d.name=c.name)) w.aT<;>rfl
theorem aah (v w:ij):tB v w=Yj eE.name (Sd v w) w.aG:=by
 funext c;unfold tB Yj;cases jf (λd=>decide (d.name=c.name)) w.aG<;>rfl
theorem Ie {l:List ByteArray}{s:ByteArray}(h:cY l s=false):s∉l:=λhm=>by
 unfold cY at h;have:=WY.1 h s hm;simp at this
theorem p7 {α:Type}{f:α->ByteArray}{l:List α}(h:∀(k:Nat) c,l[k]?=some c->cY ((l.map f).take k) (f c)=false):(l.map f).Nodup:=by
 rw[List.nodup_iff_pairwise_ne,Xd];intro i j hi hj hij e;rw[Wg]at hi hj;have:=Ie (h j l[j] (Wb hj));apply this;rw[List.mem_take_iff_getElem];refine⟨i,by rw[Wg];omega,?_⟩;rw[e,List.getElem_map]
theorem cH.BT {v:ij}(h:cH v):(v.calls.map Cal.name).Nodup:=p7 λk c hc=>(pZ (h.TA k c hc)).2.1
theorem cH.HC {v:ij}(h:cH v):(v.aT.map Tpc.name).Nodup:=p7 λk c hc=>(p4 (h.top k c hc)).2.1
theorem cH.HB {v:ij}(h:cH v):(v.aG.map eE.name).Nodup:=p7 λk c hc=>(vk (h.TB k c hc)).1
theorem Y5 (v w:ij):FZ v w=true↔(v.calls.length=w.calls.length/\v.aG.length=w.aG.length/\v.aT.length=w.aT.length)/\v.calls.all (Yj Cal.name (Z4 v.types w.types) w.calls)=true/\v.aT.all (Yj Tpc.name (aa3 v.types w.types) w.aT)=true/\v.aG.all (Yj eE.name (Sd v w) w.aG)=true:=by
 unfold FZ;rw[Z5,aag,aah];simp only[Bool.and_eq_true,decide_eq_true_eq,and_assoc]
end Go.Pv
