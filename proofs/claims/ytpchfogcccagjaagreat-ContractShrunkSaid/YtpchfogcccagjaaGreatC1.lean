/-
 What the functions of the law give.
-/
import Derived.Test.YtpchfogcccagjaaGreatTab
set_option linter.unusedSimpArgs false
set_option linter.unusedVariables false
open List renaming mem_of_getElem? → aaj, getElem?_eq_some_iff → aak, getElem?_eq_getElem → aal, length_map → aam, mem_iff_getElem? → aan, getElem?_map → aap, mem_map → aaq, getElem?_take → aax, length_take → aaA, take_of_length_le → aaB, findIdx?_eq_some_iff_getElem → aaC, eq_nil_of_length_eq_zero → aaD, take_add_one → aaH, length_range → aaJ, take_length → aaQ, map_append → aaR, mem_range → aaV, any_eq_false → aaW, ext_getElem? → aa0, map_map → aa6, append_nil → abb, any_eq_true → abg, getElem_mem → abj, getElem?_range → abk, map_take → abl, getElem?_zip_eq_some → abn, getElem_of_mem → abo, any_map → abt, getElem?_set → aca, ext_getElem → aci
open Nat renaming lt_or_ge → aar, zero_le → aaS, not_lt_zero → abz, min_eq_left → aco
open Array renaming getElem?_toList → aaK, getElem?_eq_getElem → abZ, length_toList → acm
open Option renaming map_eq_some_iff → aaT
open Int renaming toNat_natCast → aaU, le_refl → abP
open Bool renaming eq_iff_iff → aa4, and_eq_false_iff → acd
namespace Go.Pv
variable {A:Nat->Option af} {Pr:bD}
def dn (n:Nat):List (List PV)->V
 |[]=>.tl []
 |_::r=>.own n r.length 0 (r.length+1)
def cG (k:Nat):List (List PV)->List aL
 |[]=>[]
 |x::r=>[⟨r.length,k,.inl (x::r)⟩]
def uf (n k:Nat)(rows:List (List PV))(r:List PV):Tn:=
 match rows with
 |[]=>{push:=[⟨0,k,.inl [r]⟩],base:=n}
 |x::q=>{ar:=some (n,⟨q.length+1,k,.inl (x::q++[r])⟩)}
theorem grow (bx:List (Nat×List V))(mp:List (List (PV×PV)))(pre:List aL)(k:Nat)(rows:List (List PV))(r:List PV)(hr:r.length=k)(hm:rows.length+1<=2147483648):
  aJ ⟨bx,pre++cG k rows,mp⟩ k (dn pre.length rows) (.tl [r])=some (dn pre.length (rows++[r]),uf pre.length k rows r):=by
 cases rows with
 |nil=>simp[aJ,dn,cG,uf,bj,aY,aE,hr,aW,aU]
 |cons x q=>
  have h1:aC ⟨bx,pre++cG k (x::q),mp⟩ pre.length q.length=some ⟨q.length,k,.inl (x::q)⟩:=by simp[aC,cG]
  have h2:(⟨q.length,k,.inl (x::q)⟩:aL).size=q.length+1:=rfl;have h3:((x::q).drop 0).take (q.length+1)=x::q:=by simp
  simp only[List.length_cons]at hm;simp[aJ,dn,uf,bj,aY,aE,hr,h1,h2,aW,aD,aU];omega
theorem fy (bx:List (Nat×List V))(mp:List (List (PV×PV)))(pre:List aL)(k:Nat)(rows:List (List PV))(r:List PV):
  (uf pre.length k rows r).apply ⟨bx,pre++cG k rows,mp⟩=⟨bx,pre++cG k (rows++[r]),mp⟩:=by
 cases rows with
 |nil=>simp[uf,Tn.apply,cG]
 |cons x q=>simp[uf,Tn.apply,cG]
@[go_sem] theorem AY (bx:List (Nat×List V))(mp:List (List (PV×PV)))(k:Nat)(rows:List (List PV))(r:List PV)(hr:r.length=k)(hm:rows.length+1<=2147483648):
  aJ ⟨bx,cG k rows,mp⟩ k (dn 0 rows) (.tl [r])=some (dn 0 (rows++[r]),uf 0 k rows r):=grow bx mp [] k rows r hr hm
@[go_sem] theorem Vq (bx:List (Nat×List V))(mp:List (List (PV×PV)))(a:aL)(k:Nat)(rows:List (List PV))(r:List PV)(hr:r.length=k)(hm:rows.length+1<=2147483648):
  aJ ⟨bx,a::cG k rows,mp⟩ k (dn 1 rows) (.tl [r])=some (dn 1 (rows++[r]),uf 1 k rows r):=grow bx mp [a] k rows r hr hm
@[go_sem] theorem Vr (bx:List (Nat×List V))(mp:List (List (PV×PV)))(a b:aL)(k:Nat)(rows:List (List PV))(r:List PV)(hr:r.length=k)(hm:rows.length+1<=2147483648):
  aJ ⟨bx,a::b::cG k rows,mp⟩ k (dn 2 rows) (.tl [r])=some (dn 2 (rows++[r]),uf 2 k rows r):=grow bx mp [a,b] k rows r hr hm
@[go_sem] theorem Qu (bx:List (Nat×List V))(mp:List (List (PV×PV)))(k:Nat)(rows:List (List PV))(r:List PV):
  (uf 0 k rows r).apply ⟨bx,cG k rows,mp⟩=⟨bx,cG k (rows++[r]),mp⟩:=fy bx mp [] k rows r
@[go_sem] theorem Qv (bx:List (Nat×List V))(mp:List (List (PV×PV)))(a:aL)(k:Nat)(rows:List (List PV))(r:List PV):
  (uf 1 k rows r).apply ⟨bx,a::cG k rows,mp⟩=⟨bx,a::cG k (rows++[r]),mp⟩:=fy bx mp [a] k rows r
@[go_sem] theorem Qw (bx:List (Nat×List V))(mp:List (List (PV×PV)))(a b:aL)(k:Nat)(rows:List (List PV))(r:List PV):
  (uf 2 k rows r).apply ⟨bx,a::b::cG k rows,mp⟩=⟨bx,a::b::cG k (rows++[r]),mp⟩:=fy bx mp [a,b] k rows r
@[go_sem] theorem Xc (h:aq)(n:Nat)(rows:List (List PV)):je h 0 (dn n rows)=some (rows.length,{}):=by cases rows<;>rfl
@[go_sem] theorem Vs (n:Nat)(rows:List (List PV)):V.cells (dn n rows)=[dn n rows]:=by cases rows<;>rfl
@[go_sem] theorem KN (n:Nat)(rows:List (List PV)):V.calm (dn n rows)=true:=by cases rows<;>rfl
@[go_sem] theorem Vt (kb:List Nat)(n:Nat)(rows:List (List PV)):ez kb (dn n rows)=dn n rows:=by cases rows<;>rfl
@[go_sem] theorem Vu (n:Nat)(rows:List (List PV)):V.bU (dn n rows)=none:=by cases rows<;>rfl
theorem C2 (bx:List (Nat×List V))(mp:List (List (PV×PV)))(pre post:List aL)(k:Nat)(x:List PV)(q:List (List PV)):aC ⟨bx,pre++(cG k (x::q)++post),mp⟩ pre.length q.length=some ⟨q.length,k,.inl (x::q)⟩:=by simp[aC,cG]
theorem qI (bx:List (Nat×List V))(mp:List (List (PV×PV)))(pre:List aL)(k d:Nat)(rows:List (List PV)):bd ⟨bx,pre++cG k rows,mp⟩ (d+1) (dn pre.length rows)=some (.ae 0 rows):=by
 cases rows with
 |nil=>rfl
 |cons x q=>
  have:=C2 bx mp pre [] k x q;rw[abb]at this;simp[dn,eo,this,cb,aD]
@[go_sem] theorem SU (bx:List (Nat×List V))(mp:List (List (PV×PV)))(k:Nat)(rows:List (List PV)):bd ⟨bx,cG k rows,mp⟩ 4 (dn 0 rows)=some (.ae 0 rows):=qI bx mp [] k 3 rows
@[go_sem] theorem SV (bx:List (Nat×List V))(mp:List (List (PV×PV)))(a:aL)(k:Nat)(rows:List (List PV)):bd ⟨bx,a::cG k rows,mp⟩ 4 (dn 1 rows)=some (.ae 0 rows):=qI bx mp [a] k 3 rows
@[go_sem] theorem Xd (h:aq)(n:Nat)(rows:List (List PV)):bV h false (dn n rows)=bd h 4 (dn n rows):=by cases rows<;>rfl
def Xe:List (List PV)->Nat
 |[]=>0
 |_=>1
theorem AZ (bx:List (Nat×List V))(mp:List (List (PV×PV)))(pre:List aL)(k d:Nat)(rows:List (List PV)):bc ⟨bx,pre++cG k rows,mp⟩ (d+1) (dn pre.length rows)=some (.ae (Xe rows) rows):=by
 cases rows with
 |nil=>rfl
 |cons x q=>
  have:=C2 bx mp pre [] k x q;rw[abb]at this;simp[dn,bc,this,aD,Xe]
@[go_sem] theorem SW (bx:List (Nat×List V))(mp:List (List (PV×PV)))(k:Nat)(rows:List (List PV)):bc ⟨bx,cG k rows,mp⟩ 4 (dn 0 rows)=some (.ae (Xe rows) rows):=AZ bx mp [] k 3 rows
@[go_sem] theorem SX (bx:List (Nat×List V))(mp:List (List (PV×PV)))(a:aL)(k:Nat)(rows:List (List PV)):bc ⟨bx,a::cG k rows,mp⟩ 4 (dn 1 rows)=some (.ae (Xe rows) rows):=AZ bx mp [a] k 3 rows
@[go_sem] theorem Xf (h:aq)(n:Nat)(rows:List (List PV)):cN h (dn n rows)=bc h 4 (dn n rows):=by cases rows<;>rfl
theorem qJ {i n:Nat}{rows:List (List PV)}(h:rows.length=n+1):dn i rows=.own i n 0 (n+1):=by
 match rows,h with
 |x::q,h=>
  simp at h;simp[dn,h]
theorem mc {k n:Nat}{rows:List (List PV)}(h:rows.length=n+1):cG k rows=[⟨n,k,.inl rows⟩]:=by
 match rows,h with
 |x::q,h=>
  simp at h;simp[cG,h]
def C3 {α:Type}(i:Int)(len:Nat)(v:α):Option α:=if 0<=i/\i<=len then some v else none
@[go_sem] theorem Xg {α:Type}{i:Int}{len:Nat}{v:α}(h0:0<=i)(h1:i<=(len:Int)):C3 i len v=some v:=if_pos ⟨h0,h1⟩
@[go_sem] theorem Xh (g:cd->V)(h:aq)(k id aw off len:Nat)(lo:cd):
  dS g h k (.own id aw off len) (some lo) none none=(aC h id aw).bind λa=>(intOf (g lo)).bind λi=>if a.k=k then C3 i len (.own id aw (off+i.toNat) (len - i.toNat),{ra:=some id}) else none:=by
 cases ho:aC h id aw with
 |none=>simp[dS,ho]
 |some a=>
  cases hi:intOf (g lo)with
  |none=>simp[dS,ho,bounds,bound,hi]
  |some i=>by_cases hk:a.k=k<;>by_cases h0:0<=i/\i<=len<;>simp[dS,ho,bounds,bound,hi,hk,h0,C3]
@[go_sem] theorem ZG (g:cd->V)(h:aq)(k id aw off len:Nat)(hi:cd):
  dS g h k (.own id aw off len) none (some hi) none=(aC h id aw).bind λa=>(intOf (g hi)).bind λi=>if a.k=k then C3 i len (.own id aw off i.toNat,{ra:=some id}) else none:=by
 cases ho:aC h id aw with
 |none=>simp[dS,ho]
 |some a=>
  cases hj:intOf (g hi)with
  |none=>simp[dS,ho,bounds,bound,hj]
  |some i=>by_cases hk:a.k=k<;>by_cases h0:0<=i/\i<=len<;>simp[dS,ho,bounds,bound,hj,hk,h0,C3]
end Go.Pv
namespace Go.Pv
@[go_sem] theorem A1:ints []=[]:=rfl
@[go_sem] theorem jJ (l:List Int)(x:Int):ints l++[[.int .i64 x]]=ints (l++[x]):=by simp[ints]
def bX (l:List Edge):List (List PV):=l.map Edge.c
@[go_sem] theorem cn (l:List Edge):(bX l).length=l.length:=by simp[bX]
@[go_sem] theorem Vv:bX []=[]:=rfl
@[go_sem] theorem Vw (l:List Edge)(i:Nat):(bX l)[i]?=l[i]?.map Edge.c:=by simp[bX]
theorem FD (l:List Edge)(e:Edge):bX l++[e.c]=bX (l++[e]):=by simp[bX]
@[go_sem] theorem YB (bx:List (Nat×List V))(mp:List (List (PV×PV)))(l:List Int)(x:Int)(hm:l.length+1<=2147483648):
  aJ ⟨bx,cG 1 (ints l),mp⟩ 1 (dn 0 (ints l)) (.tl [[.int .i64 x]])=some (dn 0 (ints (l++[x])),uf 0 1 (ints l) [.int .i64 x]):=by
 rw[AY bx mp 1 (ints l) [.int .i64 x] rfl (by rw[aN];exact hm),jJ]
@[go_sem] theorem YC (bx:List (Nat×List V))(mp:List (List (PV×PV)))(l:List Edge)(f:Int)(s:Bool)(x t:Int)(hm:l.length+1<=2147483648):
  aJ ⟨bx,cG 4 (bX l),mp⟩ 4 (dn 0 (bX l)) (.tl [[.int .i64 f,.bool s,.int .i64 x,.int .i64 t]])=some (dn 0 (bX (l++[⟨f,s,x,t⟩])),uf 0 4 (bX l) (Edge.c ⟨f,s,x,t⟩)):=by
 rw[<- FD];exact AY bx mp 4 (bX l) (Edge.c ⟨f,s,x,t⟩) rfl (by rw[cn];exact hm)
def bF (l:List Bool):List (List PV):=l.map λb=>[.bool b]
@[go_sem] theorem jx (l:List Bool):(bF l).length=l.length:=by simp[bF]
@[go_sem] theorem SY (l:List Bool)(i:Nat):(bF l)[i]?=l[i]?.map λb=>[.bool b]:=by simp[bF]
theorem FE (l:List Bool)(i:Nat)(b:Bool):(bF l).set i [.bool b]=bF (l.set i b):=by simp[bF,List.map_set]
@[go_sem] theorem Ml {id row aw:Nat}{b:Bool}{l:List Bool}(h1:row<l.length):dy id row 0 [.pv (.bool b)] ⟨aw,1,.inl (bF l)⟩=some {ar:=some (id,⟨aw,1,.inl (bF (l.set row b))⟩)}:=by
 rw[qC (by rw[jx];exact h1) rfl (.inr ⟨.bool l[row],by simp[bF,h1]⟩) rfl,FE]
@[go_sem] theorem Qx (n:Nat)(b:Bool):cH n [.pv (.bool b)]=.inl (bF (List.replicate n b)):=by
 simp[cH,aA,V.bU,PV.perm,bF]
def Xi (id aw off len:Nat)(x:Int)(a:aL):Option (V×Tn):=
 if off+len<=a.size/\a.k=1/\len+1<=aU then some (.own id (aw+1) 0 (len+1),{ar:=some (id,⟨aw+1,1,aW (aD off len a.body) (.inl [[.int .i64 x]])⟩)}) else none
@[go_sem] theorem Xj (h:aq)(id aw off len:Nat)(x:Int):aJ h 1 (.own id aw off len) (.tl [[.int .i64 x]])=(aC h id aw).bind (Xi id aw off len x):=by
 cases ho:aC h id aw with
 |none=>simp[aJ,bj,aY,ho]
 |some a=>
  simp only[aJ,bj,aY,ho,aE,Xi,List.all_cons,List.all_nil,List.length_cons,List.length_nil,Option.bind_some];by_cases h1:off+len<=a.size<;>by_cases h2:a.k=1<;>by_cases h3:len+1<=aU<;>simp[h1,h2,h3]
@[go_sem] theorem YD {id aw len:Nat}{x:Int}{l:List Int}(h1:len=l.length)(h2:l.length+1<=2147483648):Xi id aw 0 len x ⟨aw,1,.inl (ints l)⟩=some (.own id (aw+1) 0 (len+1),{ar:=some (id,⟨aw+1,1,.inl (ints (l++[x]))⟩)}):=by
 subst h1;unfold Xi;rw[if_pos ⟨by simp[aL.size,ints],rfl,h2⟩];have:List.take l.length (List.map (λx=>[PV.int IntKind.i64 x]) l)=List.map (λx=>[PV.int IntKind.i64 x]) l:=List.take_of_length_le (by simp);simp[aW,aD,ints,this]
@[go_sem] theorem YE (h:aq)(x:Int):aJ h 1 (.tl []) (.tl [[.int .i64 x]])=some (.own h.ar.length 0 0 1,{push:=[⟨0,1,.inl (ints [x])⟩],base:=h.ar.length}):=by
 simp[aJ,bj,aY,aE,aU,aW,ints]
variable {A:Nat->Option af} {Pr:bD}
def cV {σ:Type}(S:Nat->σ->St)(I:Nat->σ->Prop)(k:Nat)(acc:σ)(Q:Ex->St->Prop)(_t:qx (S,I,k,acc,Q):=.mk):Ex->St->Prop
 |.normal,s=>s=S k acc/\I k acc
 |.exit i,s=>Q (.exit i) s
 |.ret,s=>Q .ret s
@[go_sem] theorem Qy {σ:Type}(S:Nat->σ->St)(I:Nat->σ->Prop)(k:Nat)(acc:σ)(Q:Ex->St->Prop)(i:Nat)(s:St):cV S I k acc Q .mk (.exit i) s=Q (.exit i) s:=rfl
@[go_sem] theorem SZ {σ:Type}(S:Nat->σ->St)(I:Nat->σ->Prop)(k:Nat)(acc:σ)(Q:Ex->St->Prop)(s:St):cV S I k acc Q .mk .ret s=Q .ret s:=rfl
theorem cV.of {σ:Type}{S:Nat->σ->St}{I:Nat->σ->Prop}{k:Nat}{acc:σ}{Q:Ex->St->Prop}{s:St}(h:s=S k acc)(h2:I k acc):cV S I k acc Q .mk .normal s:=⟨h,h2⟩
def A2 (Q:Ex->St->Prop)(_t:qx Q:=.mk):Ex->St->Prop
 |.normal,_=>False
 |.exit i,s=>Q (.exit i) s
 |.ret,s=>Q .ret s
@[go_sem] theorem Qz (Q:Ex->St->Prop)(i:Nat)(s:St):A2 Q .mk (.exit i) s=Q (.exit i) s:=rfl
@[go_sem] theorem S0 (Q:Ex->St->Prop)(s:St):A2 Q .mk .ret s=Q .ret s:=rfl
theorem W.fold {σ α:Type}{a:AC}{s:St}{Q:Ex->St->Prop}(l:List α)(f:σ->α->σ)(x0:σ)(S:Nat->σ->St)(I:Nat->σ->Prop)(hs:s=S 0 x0)(h0:I 0 x0)
  (hr:∀k x acc,l[k]?=some x->k<l.length->acc=(l.take k).foldl f x0->I k acc->W A Pr a (S k acc) (cV S I (k+1) (f acc x) Q))
  (he:∀acc,acc=l.foldl f x0->I l.length acc->W A Pr a (S l.length acc) (A2 Q)):W A Pr (.loop a) s Q:=by
 refine W.dx l.length (λk=>S k ((l.take k).foldl f x0)) (λk=>I k ((l.take k).foldl f x0)) (by simpa using hs) (by simpa using h0) λk hk hi=>?_;rcases aar k l.length with h|h
 .obtain⟨x,hx⟩:∃x,l[k]?=some x:=⟨l[k],by simp[h]⟩;obtain⟨ex,s',h1,h2⟩:=hr k x _ hx h rfl hi;have ht:(l.take (k+1)).foldl f x0=f ((l.take k).foldl f x0) x:=by rw[List.take_add_one,hx];simp[List.foldl_append]
  refine⟨ex,s',h1,?_⟩;cases ex with
  |normal=>exact .of h (by rw[ht];exact h2.1) (by rw[ht];exact h2.2)
  |exit i=>exact h2
  |ret=>exact h2
 .obtain rfl:k=l.length:=by omega
  rw[aaQ]at hi |-;obtain⟨ex,s',h1,h2⟩:=he _ rfl hi;refine⟨ex,s',h1,?_⟩;cases ex with
  |normal=>exact h2.elim
  |exit i=>exact h2
  |ret=>exact h2
theorem W.Mm {σ:Type}{a:AC}{s:St}{Q:Ex->St->Prop}(n:Nat)(f:σ->Nat->σ)(x0:σ)(S:Nat->σ->St)(I:Nat->σ->Prop)(hs:s=S 0 x0)(h0:I 0 x0)
  (hr:∀k acc,k<n->acc=(List.range k).foldl f x0->I k acc->W A Pr a (S k acc) (cV S I (k+1) (f acc k) Q))
  (he:∀acc,acc=(List.range n).foldl f x0->I n acc->W A Pr a (S n acc) (A2 Q)):W A Pr (.loop a) s Q:=by
 refine W.fold (List.range n) f x0 S I hs h0 (λk x acc hx hk ha hi=>?_) (λacc ha hi=>?_)
 .rw[aaJ]at hk;rw[abk hk]at hx;cases hx;refine hr k acc hk ?_ hi;rw[ha,List.take_range,aco (by omega)]
 .rw[aaJ]at hi |-;exact he acc ha hi
def aX (S:Nat->St)(k:Nat)(p:Bool)(Q:Ex->St->Prop)(_t:qx (S,k,p,Q):=.mk):Ex->St->Prop
 |.normal,s=>p=false/\s=S k
 |.exit i,s=>Q (.exit i) s
 |.ret,s=>Q .ret s
@[go_sem] theorem QA (S:Nat->St)(k:Nat)(p:Bool)(Q:Ex->St->Prop)(i:Nat)(s:St):aX S k p Q .mk (.exit i) s=Q (.exit i) s:=rfl
@[go_sem] theorem S1 (S:Nat->St)(k:Nat)(p:Bool)(Q:Ex->St->Prop)(s:St):aX S k p Q .mk .ret s=Q .ret s:=rfl
theorem aX.of {S:Nat->St}{k:Nat}{p:Bool}{Q:Ex->St->Prop}{s:St}(h:p=false)(h2:s=S k):aX S k p Q .mk .normal s:=⟨h,h2⟩
structure Found {α:Type}(l:List α)(p:α->Bool)(k:Nat)(x:α):Prop where
 any:l.any p=true
 all:l.all (λy=>!p y)=false
 find:l.find? p=some x
 idx:l.findIdx? p=some k
structure jy {α:Type}(l:List α)(p:α->Bool):Prop where
 any:l.any p=false
 all:l.all (λy=>!p y)=true
 find:l.find? p=none
 idx:l.findIdx? p=none
theorem HV {α:Type}{l:List α}{p:α->Bool}{k:Nat}{x:α}(hb:∀j,j<k->∀y,l[j]?=some y->p y=false)(hx:l[k]?=some x)(hp:p x=true):Found l p k x:=by
 obtain⟨hk,rfl⟩:=aak.1 hx;have hi:l.findIdx? p=some k:=by
  rw[aaC];exact⟨hk,hp,λj hj=>by simpa using hb j hj _ (by rw[List.getElem?_eq_getElem (by omega)])⟩
 refine⟨abg.2 ⟨_,abj hk,hp⟩,?_,?_,hi⟩
 .rw[List.all_eq_false];exact⟨_,List.getElem_mem hk,by simp[hp]⟩
 .rw[List.find?_eq_some_iff_getElem];exact⟨hp,k,hk,rfl,λj hj=>by simpa using hb j hj _ (by rw[List.getElem?_eq_getElem (by omega)])⟩
theorem C4 {α:Type}{l:List α}{p:α->Bool}(hb:∀j,j<l.length->∀y,l[j]?=some y->p y=false):jy l p:=by
 have hm:∀x∈l,p x=false:=λx hx=>by
  obtain⟨j,hj,rfl⟩:=abo hx;exact hb j hj _ (by rw[aal])
 exact⟨by rw[List.any_eq_false];intro x hx;simp[hm x hx],by rw[List.all_eq_true];intro x hx;simp[hm x hx],by rw[List.find?_eq_none];intro x hx;simp[hm x hx],by rw[List.findIdx?_eq_none_iff];exact hm⟩
theorem W.find {α:Type}{a:AC}{s:St}{Q:Ex->St->Prop}(l:List α)(p:α->Bool)(S:Nat->St)(hs:s=S 0)
  (hr:∀k x,l[k]?=some x->k<l.length->(p x=true->Found l p k x)->W A Pr a (S k) (aX S (k+1) (p x) Q))
  (he:jy l p->W A Pr a (S l.length) (A2 Q)):W A Pr (.loop a) s Q:=by
 refine W.dx l.length S (λk=>∀j,j<k->∀y,l[j]?=some y->p y=false) hs (λj hj=>absurd hj (abz _)) λk hk hi=>?_;rcases aar k l.length with h|h
 .obtain⟨x,hx⟩:∃x,l[k]?=some x:=⟨l[k],by simp[h]⟩;obtain⟨ex,s',h1,h2⟩:=hr k x hx h (λhp=>HV hi hx hp);refine⟨ex,s',h1,?_⟩;cases ex with
  |normal=>
   refine .of h h2.2 λj hj y hy=>?_;rcases aar j k with g|g
   .exact hi j g y hy
   .obtain rfl:j=k:=by omega
    rw[hx]at hy;cases hy;exact h2.1
  |exit i=>exact h2
  |ret=>exact h2
 .obtain rfl:k=l.length:=by omega
  obtain⟨ex,s',h1,h2⟩:=he (C4 hi);refine⟨ex,s',h1,?_⟩;cases ex with
  |normal=>exact h2.elim
  |exit i=>exact h2
  |ret=>exact h2
def C5 (A:Nat->Option af)(Pr:bD)(a:AC)(Q:Ex->St->Prop)(_t:qx (a,Q):=.mk):Ex->St->Prop
 |.normal,s=>W A Pr (.loop a) s Q
 |.exit i,s=>Q (.exit i) s
 |.ret,s=>Q .ret s
@[go_sem] theorem JV (a:AC)(Q:Ex->St->Prop)(s:St):C5 A Pr a Q .mk .normal s=W A Pr (.loop a) s Q:=rfl
@[go_sem] theorem Mn (a:AC)(Q:Ex->St->Prop)(i:Nat)(s:St):C5 A Pr a Q .mk (.exit i) s=Q (.exit i) s:=rfl
@[go_sem] theorem QB (a:AC)(Q:Ex->St->Prop)(s:St):C5 A Pr a Q .mk .ret s=Q .ret s:=rfl
end Go.Pv
namespace Go.Pv
def pC (n b:Nat)(rows:List (List PV)):V:=if rows.length<=b then .tl rows else .own n (rows.length - b - 1) 0 rows.length
def xD (k b:Nat)(rows:List (List PV)):List aL:=if rows.length<=b then [] else [⟨rows.length - b - 1,k,.inl rows⟩]
theorem jz {n b:Nat}{rows:List (List PV)}(h:rows.length<=b):pC n b rows=.tl rows:=if_pos h
theorem jA {k b:Nat}{rows:List (List PV)}(h:rows.length<=b):xD k b rows=[]:=if_pos h
theorem iM {n b m:Nat}{rows:List (List PV)}(h:rows.length=b+m+1):pC n b rows=.own n m 0 (b+m+1):=by
 unfold pC;rw[if_neg (by omega),h,show b+m+1 - b - 1=m by omega]
theorem iN {k b m:Nat}{rows:List (List PV)}(h:rows.length=b+m+1):xD k b rows=[⟨m,k,.inl rows⟩]:=by
 unfold xD;rw[if_neg (by omega),h,show b+m+1 - b - 1=m by omega]
theorem nB {b:Nat}{rows:List (List PV)}:rows.length<=b\/∃m,rows.length=b+m+1:=by
 rcases aar b rows.length with h|h
 .exact .inr ⟨rows.length - b - 1,by omega⟩
 .exact .inl h
theorem A3 {n b:Nat}{rows:List (List PV)}{r:List PV}(h:b<=rows.length):pC n b (rows++[r])=.own n (rows.length - b) 0 (rows.length+1):=by
 rw[iM (m:=rows.length - b) (by simp;omega),show b+(rows.length - b)+1=rows.length+1 by omega]
theorem A4 {k b:Nat}{rows:List (List PV)}{r:List PV}(h:b<=rows.length):xD k b (rows++[r])=[⟨rows.length - b,k,.inl (rows++[r])⟩]:=iN (by simp;omega)
def Mo (id aw off len k:Nat)(r:List PV)(a:aL):Option (V×Tn):=
 if off+len<=a.size/\a.k=k/\len+1<=aU then some (.own id (aw+1) 0 (len+1),{ar:=some (id,⟨aw+1,k,aW (aD off len a.body) (.inl [r])⟩)}) else none
theorem A5 (h:aq)(id aw off len k:Nat)(r:List PV)(hr:r.length=k):aJ h k (.own id aw off len) (.tl [r])=(aC h id aw).bind (Mo id aw off len k r):=by
 cases ho:aC h id aw with
 |none=>simp[aJ,bj,aY,ho]
 |some a=>
  simp only[aJ,bj,aY,ho,aE,Mo,List.all_cons,List.all_nil,List.length_cons,List.length_nil,Option.bind_some,hr,beq_self_eq_true,Bool.and_self,if_true];by_cases h1:off+len<=a.size<;>by_cases h2:a.k=k<;>by_cases h3:len+1<=aU<;>simp[h1,h2,h3]
theorem HW {id aw len k:Nat}{r:List PV}{l:List (List PV)}(h1:len=l.length)(h2:l.length+1<=2147483648):Mo id aw 0 len k r ⟨aw,k,.inl l⟩=some (.own id (aw+1) 0 (len+1),{ar:=some (id,⟨aw+1,k,.inl (l++[r])⟩)}):=by
 subst h1;unfold Mo;rw[if_pos ⟨by simp[aL.size],rfl,h2⟩];simp[aW,aD]
theorem zb (h:aq)(k:Nat)(rows:List (List PV))(r:List PV)(hr:r.length=k)(hk:∀x∈rows,x.length=k)(hm:rows.length+1<=2147483648):aJ h k (.tl rows) (.tl [r])=some (.own h.ar.length 0 0 (rows.length+1),{push:=[⟨0,k,.inl (rows++[r])⟩],base:=h.ar.length}):=by
 have:(rows.all λx=>x.length==k)=true:=by simpa using hk
 simp[aJ,bj,aY,aE,aU,aW,hr,this,hm]
@[go_sem] theorem Xk (h:aq)(l:List Int)(x:Int)(hm:l.length+1<=2147483648):aJ h 1 (.tl (ints l)) (.tl [[.int .i64 x]])=some (.own h.ar.length 0 0 (l.length+1),{push:=[⟨0,1,.inl (ints (l++[x]))⟩],base:=h.ar.length}):=by
 rw[zb h 1 (ints l) [.int .i64 x] rfl (by simp[ints]) (by rw[aN];exact hm),aN,jJ]
@[go_sem] theorem Xl (h:aq)(n b:Nat)(rows:List (List PV)):je h 0 (pC n b rows)=some (rows.length,{}):=by unfold pC;split<;>rfl
@[go_sem] theorem Vx (kb:List Nat)(n b:Nat)(rows:List (List PV)):ez kb (pC n b rows)=pC n b rows:=by unfold pC;split<;>rfl
@[go_sem] theorem Xm (h:aq)(n b:Nat)(rows:List (List PV)):bV h false (pC n b rows)=bd h 4 (pC n b rows):=by unfold pC;split<;>rfl
@[go_sem] theorem Xn (h:aq)(n b:Nat)(rows:List (List PV)):cN h (pC n b rows)=bc h 4 (pC n b rows):=by unfold pC;split<;>rfl
def YF (b:Nat)(rows:List (List PV)):Nat:=if rows.length<=b then 0 else 1
theorem A6 (bx:List (Nat×List V))(mp:List (List (PV×PV)))(pre:List aL)(k b d:Nat)(rows:List (List PV)):bd ⟨bx,pre++xD k b rows,mp⟩ (d+1) (pC pre.length b rows)=some (.ae 0 rows):=by
 unfold pC xD;split
 .rfl
 .simp[eo,aC,cb,aD]
theorem HX (bx:List (Nat×List V))(mp:List (List (PV×PV)))(pre:List aL)(k b d:Nat)(rows:List (List PV)):bc ⟨bx,pre++xD k b rows,mp⟩ (d+1) (pC pre.length b rows)=some (.ae (YF b rows) rows):=by
 unfold pC xD YF;split
 .rfl
 .simp[bc,aC,aD]
@[go_sem] theorem S2 (bx:List (Nat×List V))(mp:List (List (PV×PV)))(k b:Nat)(rows:List (List PV)):bd ⟨bx,xD k b rows,mp⟩ 4 (pC 0 b rows)=some (.ae 0 rows):=A6 bx mp [] k b 3 rows
@[go_sem] theorem S3 (bx:List (Nat×List V))(mp:List (List (PV×PV)))(a:aL)(k b:Nat)(rows:List (List PV)):bd ⟨bx,a::xD k b rows,mp⟩ 4 (pC 1 b rows)=some (.ae 0 rows):=A6 bx mp [a] k b 3 rows
@[go_sem] theorem S4 (bx:List (Nat×List V))(mp:List (List (PV×PV)))(k b:Nat)(rows:List (List PV)):bc ⟨bx,xD k b rows,mp⟩ 4 (pC 0 b rows)=some (.ae (YF b rows) rows):=HX bx mp [] k b 3 rows
attribute [go_sem] Int.lt_irrefl
@[go_sem] theorem Vy (r:Raw):r.c.length=2:=rfl
def wr (x:Int):Int:=IntKind.wrap .i64 x
def YG:Nat->List PV->Int
 |0,_=>0
 |n+1,cs=>match cs with
  |[_,_,_,.str s,_,.ae _ keys,.ae _ items,.ae _ rest]=>rest.foldl (λacc r=>match r with|[_,.str d]=>wr (wr (acc+1)+d.size)|_=>acc) (items.foldl (λacc r=>wr (acc+YG n r)) (keys.foldl (λacc r=>wr (acc+YG n r)) (wr (1+s.size))))
  |_=>0
theorem mM.val {n:Nat}{cs:List PV}(h:mM n cs):∃w:dO,cs=w.c:=by
 cases n with
 |zero=>exact h.elim
 |succ n=>
  obtain⟨v,hv,_⟩:=h;exact⟨v,hv⟩
@[go_sem] theorem Vz (t:aB):t.c.length=10:=rfl
@[go_sem] theorem VA (t:Mem):t.c.length=13:=rfl
@[go_sem] theorem VB (t:Sym):t.c.length=2:=rfl
open Classical in
noncomputable def ZS (cs:List PV):Int:=if h:∃n,mM n cs then YG (Classical.choose h) cs else 0
noncomputable def YH (acc:Int)(m:Mem):Int:=wr (wr (acc+ZS m.gN.c)+m.name.size)
noncomputable def YI (acc:Int)(t:aB):Int:=(t.aO.take 100).foldl YH (wr (wr (wr (acc+t.aO.length)+t.syms.length)+t.name.size))
noncomputable def C6 (l:List aB):Bool:=decide ((l.length:Int)<=40)&&decide (l.foldl YI 0<=400)
def wL (x:Int):Bool:=decide (x=95)||(decide (97<=x)&&decide (x<=122))||(decide (65<=x)&&decide (x<=90))
def zd (x:Int):Bool:=decide (48<=x)&&decide (x<=57)
theorem A7 {p:Bool}(h:p=true):(some [PV.bool true]:Option (List PV))=some [PV.bool p]:=by rw[h]
theorem ix {p:Bool}(h:p=false):(some [PV.bool false]:Option (List PV))=some [PV.bool p]:=by rw[h]
@[go_sem] theorem r323 (x:Int):res A ay 323 [.int .u8 x]=some [.bool (wL x)]:=by
 refine ai a323 rfl rfl ?_;simp only[F323,OK];simp(disch:=omega)only[go_sem];unfold wL
 repeat' (refine Br.aF (λh=>?_) (λh=>?_)<;>simp(disch:=omega)only[go_sem,h])
 all_goals (congr 3;rw[Bool.eq_iff_iff];simp;omega)
@[go_sem] theorem r324 (x:Int):res A ay 324 [.int .u8 x]=some [.bool (zd x)]:=by
 refine ai a324 rfl rfl ?_;simp only[F324,OL];simp(disch:=omega)only[go_sem];unfold zd
 repeat' (refine Br.aF (λh=>?_) (λh=>?_)<;>simp(disch:=omega)only[go_sem,h])
 all_goals (congr 3;rw[Bool.eq_iff_iff];simp;omega)
@[go_sem] theorem r327 (x:Int):res A ay 327 [.int .u8 x]=some [.bool (wL x)]:=by
 refine ai a327 rfl rfl ?_;simp only[F327,OO];simp(disch:=omega)only[go_sem];unfold wL
 repeat' (refine Br.aF (λh=>?_) (λh=>?_)<;>simp(disch:=omega)only[go_sem,h])
 all_goals (congr 3;rw[Bool.eq_iff_iff];simp;omega)
@[go_sem] theorem r328 (x:Int):res A ay 328 [.int .u8 x]=some [.bool (zd x)]:=by
 refine ai a328 rfl rfl ?_;simp only[F328,OP];simp(disch:=omega)only[go_sem];unfold zd
 repeat' (refine Br.aF (λh=>?_) (λh=>?_)<;>simp(disch:=omega)only[go_sem,h])
 all_goals (congr 3;rw[Bool.eq_iff_iff];simp;omega)
def kU (s:ByteArray):List Int:=s.data.toList.map λb=>(b.toNat:Int)
theorem pD (s:ByteArray):(kU s).length=s.size:=by
 show (s.data.toList.map _).length=s.data.size;rw[aam,acm]
theorem zf {s:ByteArray}{i:Int}{x:Int}(h0:0<=i)(h:(kU s)[i.toNat]?=some x):Kq (some i) (.pv (.str s))=some (.pv (.int .u8 x)):=by
 have hlt:=(aak.1 h).1;rw[pD]at hlt;have h1:s[i.toNat]?=some (s[i.toNat]'hlt):=getElem?_pos s i.toNat hlt;simp only[Kq,y6 h0 (show i<(s.size:Int) by omega),h1];simp only[kU,List.getElem?_map]at h;have h2:s.data.toList[i.toNat]?=some (s[i.toNat]'hlt):=by
  rw[aaK];exact abZ hlt
 rw[h2]at h;simp only[Option.map_some,Option.some.injEq]at h;rw[h]
def nC:List Int->Bool
 |[]=>false
 |x::r=>decide ((x::r).length<=24)&&wL x&&!(x::r).any λy=>!wL y&&!zd y
def isName (s:ByteArray):Bool:=nC (kU s)
theorem r306 (s:ByteArray)(hs:bo s):res A ay 306 [.str s]=some [.bool (isName s)]:=by
 refine ai a306 rfl rfl ?_;simp only[F306,Ox];simp(disch:=omega)only[go_sem];refine Br.aF (λe=>?_) (λe=>?_)<;>simp(disch:=omega)only[go_sem,e]
 .rfl
 have hb:=pD s;unfold bo at hs;unfold isName;generalize hl:kU s=l at hb;cases l with
 |nil=>exact(e (by
   obtain⟨⟨d⟩⟩:=s;simp only[ByteArray.size,List.size_toArray,List.length_nil]at hb;rw[aaD hb.symm])).elim
 |cons x r=>
  have hx:(kU s)[(0:Int).toNat]?=some x:=by rw[hl];rfl
  have h0:=zf (abP 0) hx;refine Br.aF (λe2=>?_) (λe2=>?_)<;>simp(disch:=omega)only[go_sem,e2]
  .refine ix ?_;have:¬(x::r).length<=24:=by omega
   simp only[nC,this,decide_false,Bool.false_and]
  simp(disch:=omega)only[go_sem,h0];refine Br.of (λe3=>?_) (λe3=>?_)<;>simp(disch:=omega)only[go_sem,e3]
  rotate_left
  .refine ix ?_;simp only[nC,e3,Bool.and_false,Bool.false_and]
  .refine W.find (x::r) (λy=>!wL y&&!zd y) (λk=>⟨[(0,.pv (.str s)),(18,.pv (.int .i64 s.size)),(19,.pv (.int .i64 k))],⟨[],[],[]⟩⟩) rfl (λk y hy hk hfd=>?_) (λhn=>?_)
   .have hy':(kU s)[(k:Int).toNat]?=some y:=by rw[hl,aaU];exact hy
    have hk':=zf (Int.natCast_nonneg k) hy';simp(disch:=omega)only[go_sem];refine Br.aF (λc=>?_) (λc=>(c (by omega)).elim);simp(disch:=omega)only[go_sem,hk'];have done:(!wL y&&!zd y)=true->(some [PV.bool false]:Option (List PV))=some [.bool (nC (x::r))]:=λg=>by
     refine ix ?_;simp only[nC,(hfd g).any,Bool.not_true,Bool.and_false]
    refine Br.of (λg=>?_) (λg=>?_)<;>simp(disch:=omega)only[go_sem,hk',g]
    .exact aX.of (by simp[g]) rfl
    .refine Br.of (λg2=>?_) (λg2=>?_)<;>simp(disch:=omega)only[go_sem,g2]
     .exact aX.of (by simp[g2]) rfl
     .exact done (by simp[g,g2])
   .simp(disch:=omega)only[go_sem,hb];refine A7 ?_;have h24:(x::r).length<=24:=by omega
    simp only[nC,h24,e3,hn.any,decide_true,Bool.not_false,Bool.and_self]
theorem r310 (s:ByteArray)(hs:bo s):res A ay 310 [.str s]=some [.bool (isName s)]:=by
 refine ai a310 rfl rfl ?_;simp only[F310,OB];simp(disch:=omega)only[go_sem];refine Br.aF (λe=>?_) (λe=>?_)<;>simp(disch:=omega)only[go_sem,e]
 .rfl
 have hb:=pD s;unfold bo at hs;unfold isName;generalize hl:kU s=l at hb;cases l with
 |nil=>exact(e (by
   obtain⟨⟨d⟩⟩:=s;simp only[ByteArray.size,List.size_toArray,List.length_nil]at hb;rw[aaD hb.symm])).elim
 |cons x r=>
  have hx:(kU s)[(0:Int).toNat]?=some x:=by rw[hl];rfl
  have h0:=zf (abP 0) hx;refine Br.aF (λe2=>?_) (λe2=>?_)<;>simp(disch:=omega)only[go_sem,e2]
  .refine ix ?_;have:¬(x::r).length<=24:=by omega
   simp only[nC,this,decide_false,Bool.false_and]
  simp(disch:=omega)only[go_sem,h0];refine Br.of (λe3=>?_) (λe3=>?_)<;>simp(disch:=omega)only[go_sem,e3]
  rotate_left
  .refine ix ?_;simp only[nC,e3,Bool.and_false,Bool.false_and]
  .refine W.find (x::r) (λy=>!wL y&&!zd y) (λk=>⟨[(0,.pv (.str s)),(3,.pv (.int .i64 k))],⟨[],[],[]⟩⟩) rfl (λk y hy hk hfd=>?_) (λhn=>?_)
   .have hy':(kU s)[(k:Int).toNat]?=some y:=by rw[hl,aaU];exact hy
    have hk':=zf (Int.natCast_nonneg k) hy';simp(disch:=omega)only[go_sem];refine Br.aF (λc=>?_) (λc=>(c (by omega)).elim);simp(disch:=omega)only[go_sem,hk'];have done:(!wL y&&!zd y)=true->(some [PV.bool false]:Option (List PV))=some [.bool (nC (x::r))]:=λg=>by
     refine ix ?_;simp only[nC,(hfd g).any,Bool.not_true,Bool.and_false]
    refine Br.of (λg=>?_) (λg=>?_)<;>simp(disch:=omega)only[go_sem,hk',g]
    .exact aX.of (by simp[g]) rfl
    .refine Br.of (λg2=>?_) (λg2=>?_)<;>simp(disch:=omega)only[go_sem,g2]
     .exact aX.of (by simp[g2]) rfl
     .exact done (by simp[g,g2])
   .simp(disch:=omega)only[go_sem,hb];refine A7 ?_;have h24:(x::r).length<=24:=by omega
    simp only[nC,h24,e3,hn.any,decide_true,Bool.not_false,Bool.and_self]
def ka (l:List ByteArray):List (PV×PV):=l.map λs=>(.str s,.bool true)
def mI (x:ByteArray)(l:List ByteArray):Option (Nat×PV):=(l.findIdx? λs=>decide (s=x)).map λi=>(i,.bool true)
def cz (l:List ByteArray)(x:ByteArray):Bool:=l.any λs=>decide (s=x)
theorem fh {l:List ByteArray}{x:ByteArray}:cz l x=true↔x∈l:=by simp[cz]
def r8 (l:List ByteArray)(x:ByteArray):List ByteArray:=if cz l x=true then l else l++[x]
theorem HY {l:List ByteArray}{x y:ByteArray}:y∈r8 l x↔y∈l\/y=x:=by
 unfold r8;split
 .rename_i h;rw[fh]at h;constructor
  .exact .inl
  .rintro (h1|rfl)
   .exact h1
   .exact h
 .simp
theorem xE (a b:ByteArray):jQ false [2] (.str a) (.str b)=some (decide (a=b)):=by
 show bp [2] [.str a] [.str b]=_;rw[s7,Kv,CX];simp
theorem tc (x:ByteArray):∀(l:List ByteArray)(i:Nat),findKey false [2] (.str x) (ka l) i=some ((mI x l).map λp=>(p.1+i,p.2))
 |[],i=>by
  show (if (jQ false [2] (.str x) (.str x)).isSome then some none else none)=_;rw[xE];rfl
 |y::l,i=>by
  show (match jQ false [2] (.str x) (.str y)with
   |some true=>some (some (i,PV.bool true))
   |some false=>findKey false [2] (.str x) (ka l) (i+1)
   |none=>none)=_
  rw[xE];by_cases h:x=y
  .subst h;simp[mI,List.findIdx?_cons]
  .have h':¬y=x:=λe=>h e.symm;simp only[h,decide_false];rw[tc x l (i+1)];simp only[mI,List.findIdx?_cons,h',decide_false];cases l.findIdx? λs=>decide (s=x)with
   |none=>rfl
   |some j=>simp;omega
@[go_sem] theorem C7 (x:ByteArray)(l:List ByteArray):findKey false [2] (.str x) (ka l) 0=some (mI x l):=by
 rw[tc];cases mI x l<;>rfl
theorem vu {x:ByteArray}{l:List ByteArray}:(mI x l).isSome=true↔x∈l:=by
 unfold mI;rw[Option.isSome_map,List.findIdx?_isSome,abg];simp
@[go_sem] theorem Mp (x:ByteArray)(l:List ByteArray):rW (.pv (.bool false)) false (mI x l)=.pv (.bool (cz l x)):=by
 have h:=vu (x:=x) (l:=l);rw[<- fh]at h;cases hl:mI x l with
 |none=>
  rw[hl]at h;have:cz l x=false:=by
   cases hx:cz l x with
   |false=>rfl
   |true=>simpa using h.2 hx
  simp[rW,this]
 |some p=>
  rw[hl]at h;have hx:cz l x=true:=h.1 rfl;have hp:p.2=.bool true:=by
   unfold mI at hl;obtain⟨i,_,rfl⟩:=aaT.1 hl;rfl
  simp[rW,hx,hp]
@[go_sem] theorem S5 (x:ByteArray)(l:List ByteArray)(id:Nat):y5 false [2] (.str x) (.bool true) id (ka l)=some {mp:=some (id,ka (r8 l x))}:=by
 unfold y5;rw[C7];have h:=vu (x:=x) (l:=l);rw[<- fh]at h;cases hl:mI x l with
 |none=>
  rw[hl]at h;have:cz l x=false:=by
   cases hx:cz l x with
   |false=>rfl
   |true=>simpa using h.2 hx
  simp[r8,this,ka]
 |some p=>
  rw[hl]at h;have hx:cz l x=true:=h.1 rfl;unfold mI at hl;obtain⟨i,hi,rfl⟩:=aaT.1 hl;obtain⟨h1,h2,_⟩:=aaC.1 hi;have h3:l[i]=x:=by simpa using h2
  simp only[r8,hx,if_true];congr 4;apply aa0;intro j;rw[aca];split
  .rename_i hj;subst hj;simp[ka,h1,h3]
  .rfl
def strs (l:List ByteArray):List (List PV):=l.map λs=>[.str s]
@[go_sem] theorem gi (l:List ByteArray):(strs l).length=l.length:=by simp[strs]
@[go_sem] theorem VC (l:List ByteArray)(i:Nat):(strs l)[i]?=l[i]?.map λs=>[.str s]:=by simp[strs]
theorem r9 (l:List ByteArray)(x:ByteArray):strs l++[[.str x]]=strs (l++[x]):=by simp[strs]
abbrev Nm:=Int×ByteArray
def lx (l:List Nm)(k:Nat):Int:=((l[k - 1]?).map (·.1)).getD 0
def iW (l:List Nm)(k:Nat)(p:Nm):Bool:=decide (p.1<1)||decide (1000<p.1)||(decide (0<k)&&decide (p.1<=lx l k))||cz ((l.map (·.2)).take k) p.2||!isName p.2
def iX (l:List Nm)(k:Nat):Bool:=match l[k]? with
 |some p=>iW l k p
 |none=>false
def jk (l:List Nm):Bool:=!(List.range l.length).any (iX l)
theorem cZ {n k x:Nat}(h:(List.range n)[k]?=some x):x=k/\k<n:=by
 obtain⟨h1,h2⟩:=aak.1 h;simp at h1 h2;exact⟨h2.symm,h1⟩
set_option maxHeartbeats 1000000 in
theorem r325 (t u:Nat)(l:List Nm)(hl:l.length<=2^63 - 1)(hs:∀p∈l,bo p.2):res A ay 325 [.ae t (ints (l.map (·.1))),.ae u (strs (l.map (·.2)))]=some [.bool (jk l&&decide (l.length<=16))]:=by
 refine ai a325 rfl rfl ?_;simp only[F325,OM];simp(disch:=omega)only[go_sem];refine W.find (List.range l.length) (iX l) (λk=>⟨[(0,.pv (.ae t (ints (l.map (·.1))))),(1,.pv (.ae u (strs (l.map (·.2))))),(5,.map 0),(9,.pv (.ae t (ints (l.map (·.1))))),(10,.pv (.int .i64 l.length)),(11,.pv (.int .i64 k))],⟨[],[],[ka ((l.map (·.2)).take k)]⟩⟩) ?_ (λk x hx hk hfd=>?_) (λhn=>?_)
 .simp[ka]
 .obtain⟨rfl,hk⟩:=cZ hx;have hp:=aal hk;generalize l[x]=p at hp;have h1:(l.map (·.1))[x]?=some p.1:=by rw[aap,hp];rfl
  have h2:(l.map (·.2))[x]?=some p.2:=by rw[aap,hp];rfl
  have hnm:=r306 p.2 (hs p (aaj hp));have hb:iX l x=iW l x p:=by simp only[iX,hp]
  have done:iW l x p=true->(some [PV.bool false]:Option (List PV))=some [PV.bool (jk l&&decide (l.length<=16))]:=λg=>by
   refine ix ?_;rw[<- hb]at g;simp only[jk,(hfd g).any,Bool.not_true,Bool.false_and]
  rw[hb];have hins:cz ((l.map (·.2)).take x) p.2=false->r8 ((l.map (·.2)).take x) p.2=(l.map (·.2)).take (x+1):=λh=>by
   rw[r8,h,aaH,aap,hp];rfl
  simp(disch:=omega)only[go_sem];refine Br.aF (λc=>?_) (λc=>(c (by omega)).elim);simp(disch:=omega)only[go_sem,h1];refine Br.aF (λc1=>?_) (λc1=>?_)<;>simp(disch:=omega)only[go_sem,c1]
  .exact done (by simp[iW,c1])
  refine Br.aF (λc2=>?_) (λc2=>?_)<;>simp(disch:=omega)only[go_sem,c2]
  .exact done (by simp[iW,c2])
  have fin:(decide (0<x)&&decide (p.1<=lx l x))=false->iW l x p=(cz ((l.map (·.2)).take x) p.2||!isName p.2):=λg=>by
   have d1:decide (p.1<1)=false:=by simp;omega
   have d2:decide (1000<p.1)=false:=by simp;omega
   simp only[iW,d1,d2,g,Bool.false_or]
  have hx1:0<x->(l.map (·.1))[x - 1]?=some (lx l x):=λh=>by
   have hq:l[x - 1]?=some (l[x - 1]'(by omega)):=aal (by omega);rw[aap,lx,hq];rfl
  have hcast:0<x->(x:Int) - 1=((x - 1:Nat):Int):=λh=>by omega
  refine Br.aF (λc3=>?_) (λc3=>?_)<;>simp(disch:=omega)only[go_sem,c3]
  .have hq:l[x - 1]?=some (l[x - 1]'(by omega)):=aal (by omega);have hpv:(l[x - 1]'(by omega)).1=lx l x:=by rw[lx,hq];rfl
   simp(disch:=omega)only[go_sem,hcast (by omega),hq,hpv];refine Br.aF (λc4=>?_) (λc4=>?_)<;>simp(disch:=omega)only[go_sem,c4,hp]
   .exact done (by simp[iW,c4,show 0<x by omega])
   refine Br.of (λc5=>?_) (λc5=>?_)<;>simp(disch:=omega)only[go_sem,c5,hnm,hp]
   .exact done (by simp[iW,c5])
   refine Br.of (λc6=>?_) (λc6=>?_)<;>simp(disch:=omega)only[go_sem,c6,hp]
   .refine aX.of ?_ ?_
    .rw[fin (by simp;omega),c5,c6];rfl
    .rw[hins c5];rfl
   .exact done (by simp[iW,c6])
  .simp(disch:=omega)only[go_sem,hp];refine Br.of (λc5=>?_) (λc5=>?_)<;>simp(disch:=omega)only[go_sem,c5,hnm,hp]
   .exact done (by simp[iW,c5])
   refine Br.of (λc6=>?_) (λc6=>?_)<;>simp(disch:=omega)only[go_sem,c6,hp]
   .refine aX.of ?_ ?_
    .rw[fin (by simp;omega),c5,c6];rfl
    .rw[hins c5];rfl
   .exact done (by simp[iW,c6])
 .rw[aaJ];simp(disch:=omega)only[go_sem];simp[jk,hn.any];omega
open Classical in
noncomputable def eqv {α:Type}(a b:α):Bool:=decide (a=b)
theorem dX {α:Type}(a:α):eqv a a=true:=by simp[eqv]
theorem eI {α:Type}{a b:α}(h:a≠b):eqv a b=false:=by simp[eqv,h]
theorem bP {α:Type}{a b:α}:eqv a b=true↔a=b:=by simp[eqv]
theorem kf {α:Type}{a b:α}:eqv a b=false↔a≠b:=by simp[eqv]
theorem jy.eq {α:Type}{l m:List α}(hl:l.length=m.length)(h:jy (l.zip m) λq=>!eqv q.1 q.2):l=m:=by
 have ha:=h.any;rw[aaW]at ha;apply aci hl;intro i h1 h2;have hm:(l[i],m[i])∈l.zip m:=aaj (abn.2 ⟨aal h1,aal h2⟩);have:=ha _ hm;simpa [bP]using this
theorem Found.ne {α:Type}{l m:List α}{k:Nat}{x:α×α}(h:Found (l.zip m) (λq=>!eqv q.1 q.2) k x):eqv l m=false:=by
 rw[kf]
 rintro rfl
 have ha:=h.any;rw[abg]at ha;obtain⟨q,hq,hn⟩:=ha;obtain⟨i,hi⟩:=aan.1 hq;obtain⟨h1,h2⟩:=abn.1 hi;have:q.1=q.2:=Option.some.inj (h1.symm.trans h2);rw[this,dX]at hn;cases hn
theorem fz {α:Type}{l m:List α}{k:Nat}{q:α×α}(h:(l.zip m)[k]?=some q):l[k]?=some q.1/\m[k]?=some q.2:=abn.1 h
theorem KO {α β:Type}{f:α->β}(hf:∀x y,f x=f y->x=y)(l m:List α):eqv (l.map f) (m.map f)=eqv l m:=by
 rw[aa4,bP,bP];refine⟨λh=>?_,λh=>by rw[h]⟩
 induction l generalizing m with
 |nil=>cases m with
  |nil=>rfl
  |cons y m=>simp at h
 |cons x l ih=>cases m with
  |nil=>simp at h
  |cons y m=>
   simp only[List.map_cons,List.cons.injEq]at h;rw[hf _ _ h.1,ih _ h.2]
theorem Raw.HZ (x y:Raw)(h:x.c=y.c):x=y:=by
 obtain⟨a,b⟩:=x;obtain⟨c,d⟩:=y;simp only[Raw.c,List.cons.injEq,PV.int.injEq,PV.str.injEq,true_and,and_true]at h;rw[h.1,h.2]
theorem Eu (x y:Sym):eqv x y=(decide (x.id=y.id)&&decide (x.name=y.name)):=by
 obtain⟨a,b⟩:=x;obtain⟨c,d⟩:=y;simp[eqv]
theorem Ew (x y:Raw):eqv x y=(decide (x.id=y.id)&&decide (x.data=y.data)):=by
 obtain⟨a,b⟩:=x;obtain⟨c,d⟩:=y;simp[eqv]
theorem cF {α:Type}{l m:List α}(h:l.length=m.length):(l.zip m).length=l.length:=by simp[h]
theorem r317 (t u:Nat)(l m:List Sym)(hl:l.length<=2^63 - 1)(_hm:m.length<=2^63 - 1):res A ay 317 [.ae t (l.map Sym.c),.ae u (m.map Sym.c)]=some [.bool (eqv l m)]:=by
 refine ai a317 rfl rfl ?_;simp only[F317,OF];simp(disch:=omega)only[go_sem];refine Br.aF (λh=>?_) (λh=>?_)<;>simp(disch:=omega)only[go_sem]
 .refine W.find (l.zip m) (λq=>!eqv q.1 q.2) (λk=>⟨[(0,.pv (.ae t (l.map Sym.c))),(1,.pv (.ae u (m.map Sym.c))),(12,.pv (.int .i64 l.length)),(13,.pv (.int .i64 k))],⟨[],[],[]⟩⟩) rfl (λk q hq hk hfd=>?_) (λhn=>?_)
  .obtain⟨h1,h2⟩:=fz hq;rw[cF (by omega)]at hk;simp(disch:=omega)only[go_sem];refine Br.aF (λc=>?_) (λc=>(c (by omega)).elim);simp(disch:=omega)only[go_sem,h1,h2,Sym.c];rw[<- Eu];refine Br.of (λg=>?_) (λg=>?_)<;>simp(disch:=omega)only[go_sem]
   .exact aX.of (by rw[g];rfl) rfl
   .rw[(hfd (by rw[g];rfl)).ne]
  .have hz:(l.zip m).length=l.length:=cF (by omega);rw[hz];simp(disch:=omega)only[go_sem];rw[hn.eq (by omega),dX]
 .rw[eI (λe=>h (by rw[e]))]
theorem r333 (t u:Nat)(l m:List Raw)(hl:l.length<=2^63 - 1)(_hm:m.length<=2^63 - 1):res A ay 333 [.ae t (l.map Raw.c),.ae u (m.map Raw.c)]=some [.bool (eqv l m)]:=by
 refine ai a333 rfl rfl ?_;simp only[F333,OT];simp(disch:=omega)only[go_sem];refine Br.aF (λh=>?_) (λh=>?_)<;>simp(disch:=omega)only[go_sem]
 .refine W.find (l.zip m) (λq=>!eqv q.1 q.2) (λk=>⟨[(0,.pv (.ae t (l.map Raw.c))),(1,.pv (.ae u (m.map Raw.c))),(12,.pv (.int .i64 l.length)),(13,.pv (.int .i64 k))],⟨[],[],[]⟩⟩) rfl (λk q hq hk hfd=>?_) (λhn=>?_)
  .obtain⟨h1,h2⟩:=fz hq;rw[cF (by omega)]at hk;simp(disch:=omega)only[go_sem];refine Br.aF (λc=>?_) (λc=>(c (by omega)).elim);simp(disch:=omega)only[go_sem,h1,h2,Raw.c];rw[<- Ew];refine Br.of (λg=>?_) (λg=>?_)<;>simp(disch:=omega)only[go_sem]
   .exact aX.of (by rw[g];rfl) rfl
   .rw[(hfd (by rw[g];rfl)).ne]
  .have hz:(l.zip m).length=l.length:=cF (by omega);rw[hz];simp(disch:=omega)only[go_sem];rw[hn.eq (by omega),dX]
 .rw[eI (λe=>h (by rw[e]))]
@[go_sem] theorem VD (v:dO):v.c.length=8:=rfl
theorem r334g {f:Nat}(hcw:∀(vs:List V)(h:aq)(K:V->Tn->Prop),CW A ay f vs h K=CN A ay false f vs h K)(t u:Nat)(l m:List (List PV))(hl:l.length<=2^63 - 1)(_hm:m.length<=2^63 - 1)(vl:∀r∈l,∃v:dO,r=v.c)(vm:∀r∈m,∃v:dO,r=v.c)
  (hr:∀r∈l,∀q∈m,res A ay f [.agg r,.agg q]=some [.bool (eqv r q)]):res A ay 334 [.ae t l,.ae u m,.func f []]=some [.bool (eqv l m)]:=by
 refine ai a334 rfl rfl ?_;simp only[F334,OU];simp(disch:=omega)only[go_sem];refine Br.aF (λh=>?_) (λh=>?_)<;>simp(disch:=omega)only[go_sem]
 .refine W.find (l.zip m) (λq=>!eqv q.1 q.2) (λk=>⟨[(1,.pv (.ae u m)),(2,.pv (.func f [])),(15,.pv (.ae t l)),(16,.pv (.int .i64 l.length)),(17,.pv (.int .i64 k))],⟨[],[],[]⟩⟩) rfl (λk q hq hk hfd=>?_) (λhn=>?_)
  .obtain⟨h1,h2⟩:=fz hq;rw[cF (by omega)]at hk;have hc:=hr q.1 (aaj h1) q.2 (aaj h2);obtain⟨v,hv⟩:=vl q.1 (aaj h1);obtain⟨w,hw⟩:=vm q.2 (aaj h2);generalize eqv q.1 q.2=e at hc hfd |-;rw[hv,hw]at hc;rw[hv]at h1;rw[hw]at h2;unfold dO.c at hc h1 h2;simp(disch:=omega)only[go_sem];refine Br.aF (λc=>?_) (λc=>(c (by omega)).elim);simp(disch:=omega)only[go_sem,h1,h2,hcw,hc];refine Br.of (λg=>?_) (λg=>?_)<;>simp(disch:=omega)only[go_sem]
   .exact aX.of (by rw[g];rfl) rfl
   .rw[(hfd (by rw[g];rfl)).ne]
  .have hz:(l.zip m).length=l.length:=cF (by omega);rw[hz];simp(disch:=omega)only[go_sem];rw[hn.eq (by omega),dX]
 .rw[eI (λe=>h (by rw[e]))]
theorem r334 (t u:Nat)(l m:List (List PV))(hl:l.length<=2^63 - 1)(hm:m.length<=2^63 - 1)(vl:∀r∈l,∃v:dO,r=v.c)(vm:∀r∈m,∃v:dO,r=v.c)
  (hr:∀r∈l,∀q∈m,res A ay 320 [.agg r,.agg q]=some [.bool (eqv r q)]):res A ay 334 [.ae t l,.ae u m,.func 320 []]=some [.bool (eqv l m)]:=r334g cw320 t u l m hl hm vl vm hr
@[go_sem] theorem Xo (h:aq)(x:ByteArray):aJ h 1 (.tl []) (.tl [[.str x]])=some (.own h.ar.length 0 0 1,{push:=[⟨0,1,.inl (strs [x])⟩],base:=h.ar.length}):=zb h 1 [] [.str x] rfl (by simp) (by simp)
@[go_sem] theorem VE (h:aq)(id aw off len:Nat)(x:ByteArray):aJ h 1 (.own id aw off len) (.tl [[.str x]])=(aC h id aw).bind (Mo id aw off len 1 [.str x]):=A5 h id aw off len 1 [.str x] rfl
@[go_sem] theorem Xp {id aw len:Nat}{x:ByteArray}{l:List ByteArray}(h1:len=l.length)(h2:l.length+1<=2147483648):Mo id aw 0 len 1 [.str x] ⟨aw,1,.inl (strs l)⟩=some (.own id (aw+1) 0 (len+1),{ar:=some (id,⟨aw+1,1,.inl (strs (l++[x]))⟩)}):=by
 rw[HW (by rw[gi];exact h1) (by rw[gi];exact h2),r9]
def G2 (i k:Nat):V:=match k with
 |0=>.tl []
 |j+1=>.own i j 0 (j+1)
def JW (A B:List (List PV)):List aL:=match A.length with
 |0=>[]
 |j+1=>[⟨j,1,.inl A⟩,⟨j,1,.inl B⟩]
def Sym.nm (s:Sym):Nm:=(s.id,s.name)
def kg (l:List Sym):Bool:=decide (0<l.length)&&(jk (l.map Sym.nm)&&decide (l.length<=16))
set_option maxHeartbeats 1000000 in
theorem r307 (t:Nat)(l:List Sym)(hl:l.length<=2147483648)(hs:∀p∈l,bo p.name):res A ay 307 [.ae t (l.map Sym.c)]=some [.bool (kg l)]:=by
 refine ai a307 rfl rfl ?_;simp only[F307,Oy];simp(disch:=omega)only[go_sem];refine W.dx l.length (λk=>⟨[(0,.pv (.ae t (l.map Sym.c))),(3,G2 0 k),(4,G2 1 k),(7,.pv (.ae t (l.map Sym.c))),(8,.pv (.int .i64 l.length)),(9,.pv (.int .i64 k))],⟨[],JW (ints ((l.take k).map (·.id))) (strs ((l.take k).map (·.name))),[]⟩⟩) (λ_=>True) rfl trivial (λk hk _=>?_);rcases aar k l.length with hlt|hge
 .have hp:=aal hlt;generalize l[k]=p at hp;have t1:(l.take (k+1)).map (·.id)=(l.take k).map (·.id)++[p.id]:=by rw[aaH,hp,aaR];rfl
  have t2:(l.take (k+1)).map (·.name)=(l.take k).map (·.name)++[p.name]:=by rw[aaH,hp,aaR];rfl
  cases k with
  |zero=>
   simp only[G2,JW,List.take_zero,List.map_nil,A1,List.length_nil];simp(disch:=omega)only[go_sem];refine Br.aF (λc=>?_) (λc=>(c (by omega)).elim);simp(disch:=omega)only[go_sem,hp,Sym.c];refine .of (by omega) ?_ trivial;rw[t1,t2];rfl
  |succ j=>
   have l1:((l.take (j+1)).map (·.id)).length=j+1:=by simp;omega
   have l2:((l.take (j+1)).map (·.name)).length=j+1:=by simp;omega
   generalize (l.take (j+1)).map (·.id)=A at t1 l1;generalize (l.take (j+1)).map (·.name)=B at t2 l2;simp only[G2,JW,aN,l1];simp(disch:=omega)only[go_sem];refine Br.aF (λc=>?_) (λc=>(c (by omega)).elim);simp(disch:=omega)only[go_sem,hp,Sym.c];have l3:((l.take (j+1+1)).map (·.id)).length=j+1+1:=by rw[t1];simp[l1]
   refine .of (by omega) ?_ trivial;simp only[aN,l3];rw[t1,t2];rfl
 .obtain rfl:k=l.length:=by omega
  rw[aaQ];have nm1:l.map (·.id)=(l.map Sym.nm).map (·.1):=by rw[aa6];rfl
  have nm2:l.map (·.name)=(l.map Sym.nm).map (·.2):=by rw[aa6];rfl
  have h325:=λt u=>r325 t u (l.map Sym.nm) (by simp;omega) (λp hp=>by
   obtain⟨q,hq,rfl⟩:=aaq.1 hp;exact hs q hq)
  rw[nm1,nm2];rw[aam]at h325;unfold kg;cases hn:l.length with
  |zero=>
   have h0:¬(0:Int)<l.length:=by omega
   simp only[G2,JW,hn,aN,List.length_map];simp(disch:=omega)only[go_sem,h0]
  |succ j=>
   have l1:((l.map Sym.nm).map (·.1)).length=j+1:=by simp[hn]
   have l2:((l.map Sym.nm).map (·.2)).length=j+1:=by simp[hn]
   rw[hn]at h325;generalize (l.map Sym.nm).map (·.1)=A at l1 h325;generalize (l.map Sym.nm).map (·.2)=B at l2 h325;simp only[G2,JW,aN,l1];simp(disch:=omega)only[go_sem];have d1:A.take (j+1)=A:=aaB (by omega);have d2:(strs B).take (j+1)=strs B:=aaB (by rw[gi];omega);refine Br.aF (λc=>?_) (λc=>(c (by omega)).elim);simp(disch:=omega)only[go_sem,c,d1,d2,h325];have h0:0<j+1:=by omega
   simp[h0]
theorem dO.HZ (x y:dO)(h:x.c=y.c):x=y:=by
 obtain⟨a1,a2,a3,a4,a5,a6,a7,a8⟩:=x;obtain⟨b1,b2,b3,b4,b5,b6,b7,b8⟩:=y;simp only[dO.c,List.cons.injEq,PV.int.injEq,PV.bool.injEq,PV.str.injEq,PV.ae.injEq,true_and,and_true]at h;obtain⟨h1,h2,h3,h4,h5,h6,h7,h8⟩:=h;have h8:a8=b8:=bP.1 (by rw[<- KO Raw.HZ,h8,dX]);rw[h1,h2,h3,h4,h5,h6,h7,h8]
theorem kG (x y:dO):eqv x.c y.c=eqv x y:=by
 rw[aa4,bP,bP];exact⟨x.HZ y,λh=>by rw[h]⟩
set_option maxHeartbeats 4000000 in
theorem r320:∀(n k:Nat)(cs ds:List PV),mM n cs->mM k ds->res A ay 320 [.agg cs,.agg ds]=some [.bool (eqv cs ds)]
 |0,_,_,_,h,_=>h.elim
 |_+1,0,_,_,_,h=>h.elim
 |n+1,k+1,cs,ds,h,h'=>by
  obtain⟨v,rfl,⟨h1,h2,h3,h4⟩,⟨h5,h6,h7⟩,h8,h9,h10⟩:=h;obtain⟨w,rfl,⟨g1,g2,g3,g4⟩,⟨g5,g6,g7⟩,g8,g9,g10⟩:=h';have ih:=r320 n k;unfold cc at h5 h6 h7 g5 g6 g7;have hk:=λt u=>r334 t u v.keys w.keys (by omega) (by omega) (λr hr=>(h8 r hr).val) (λr hr=>(g8 r hr).val) (λr hr q hq=>ih r q (h8 r hr) (g8 q hq));have hi:=λt u=>r334 t u v.items w.items (by omega) (by omega) (λr hr=>(h9 r hr).val) (λr hr=>(g9 r hr).val) (λr hr q hq=>ih r q (h9 r hr) (g9 q hq));have hr:=λt u=>r333 t u v.rest w.rest (by omega) (by omega);rw[kG];obtain⟨a1,a2,a3,a4,a5,a6,a7,a8⟩:=v;obtain⟨b1,b2,b3,b4,b5,b6,b7,b8⟩:=w;unfold dO.c;dsimp only at *;clear ih;refine ai a320 rfl rfl ?_;simp only[F320,OH];simp(disch:=omega)only[go_sem];have no:∀{p q:dO},p≠q->(some [PV.bool false]:Option (List PV))=some [PV.bool (eqv p q)]:=λh=>by rw[eI h]
  refine Br.aF (λe=>?_) (λe=>?_)<;>simp(disch:=omega)only[go_sem,e]
  rotate_left
  .exact no (λq=>e (by cases q;rfl))
  subst e;refine Br.aF (λe=>?_) (λe=>?_)<;>simp(disch:=omega)only[go_sem,e]
  rotate_left
  .exact no (λq=>e (by cases q;rfl))
  subst e;refine Br.aF (λe=>?_) (λe=>?_)<;>simp(disch:=omega)only[go_sem,e]
  rotate_left
  .exact no (λq=>e (by cases q;rfl))
  subst e;refine Br.aF (λe=>?_) (λe=>?_)<;>simp(disch:=omega)only[go_sem,e]
  rotate_left
  .exact no (λq=>e (by cases q;rfl))
  subst e;refine Br.aF (λe=>?_) (λe=>?_)<;>simp(disch:=omega)only[go_sem,e]
  rotate_left
  .exact no (λq=>e (by cases q;rfl))
  subst e;simp(disch:=omega)only[go_sem,hr];refine Br.of (λe=>?_) (λe=>?_)<;>simp(disch:=omega)only[go_sem,e]
  rotate_left
  .exact no (λq=>kf.1 e (by cases q;rfl))
  have e:=bP.1 e;subst e;simp(disch:=omega)only[go_sem,hk];refine Br.of (λe=>?_) (λe=>?_)<;>simp(disch:=omega)only[go_sem,e]
  rotate_left
  .exact no (λq=>kf.1 e (by cases q;rfl))
  have e:=bP.1 e;subst e;simp(disch:=omega)only[go_sem,hi];congr 3;rw[aa4,bP,bP];exact⟨λe=>by rw[e],λq=>by cases q;rfl⟩
theorem r320v {cs ds:List PV}(h:∃n,mM n cs)(h':∃n,mM n ds):res A ay 320 [.agg cs,.agg ds]=some [.bool (eqv cs ds)]:=by
 obtain⟨n,h⟩:=h;obtain⟨k,h'⟩:=h';exact r320 n k cs ds h h'
theorem r336 (t u:Nat)(l m:List (List PV))(hl:l.length<=2^63 - 1)(_hm:m.length<=2^63 - 1)(vl:∀r∈l,∃v:dO,r=v.c)(vm:∀r∈m,∃v:dO,r=v.c)
  (hr:∀r∈l,∀q∈m,res A ay 330 [.agg r,.agg q]=some [.bool (eqv r q)]):res A ay 336 [.ae t l,.ae u m]=some [.bool (eqv l m)]:=by
 refine ai a336 rfl rfl ?_;simp only[F336,OW];simp(disch:=omega)only[go_sem];refine Br.aF (λh=>?_) (λh=>?_)<;>simp(disch:=omega)only[go_sem]
 .refine W.find (l.zip m) (λq=>!eqv q.1 q.2) (λk=>⟨[(0,.pv (.ae t l)),(1,.pv (.ae u m)),(5,.pv (.int .i64 k))],⟨[],[],[]⟩⟩) rfl (λk q hq hk hfd=>?_) (λhn=>?_)
  .obtain⟨h1,h2⟩:=fz hq;rw[cF (by omega)]at hk;have hc:=hr q.1 (aaj h1) q.2 (aaj h2);obtain⟨v,hv⟩:=vl q.1 (aaj h1);obtain⟨w,hw⟩:=vm q.2 (aaj h2);generalize eqv q.1 q.2=e at hc hfd |-;rw[hv,hw]at hc;rw[hv]at h1;rw[hw]at h2;unfold dO.c at hc h1 h2;simp(disch:=omega)only[go_sem];refine Br.aF (λc=>?_) (λc=>(c (by omega)).elim);simp(disch:=omega)only[go_sem,h1,h2,hc];refine Br.of (λg=>?_) (λg=>?_)<;>simp(disch:=omega)only[go_sem]
   .exact aX.of (by rw[g];rfl) rfl
   .rw[(hfd (by rw[g];rfl)).ne]
  .have hz:(l.zip m).length=l.length:=cF (by omega);rw[hz];simp(disch:=omega)only[go_sem];rw[hn.eq (by omega),dX]
 .rw[eI (λe=>h (by rw[e]))]
set_option maxHeartbeats 4000000 in
theorem r330:∀(n k:Nat)(cs ds:List PV),mM n cs->mM k ds->res A ay 330 [.agg cs,.agg ds]=some [.bool (eqv cs ds)]
 |0,_,_,_,h,_=>h.elim
 |_+1,0,_,_,_,h=>h.elim
 |n+1,k+1,cs,ds,h,h'=>by
  obtain⟨v,rfl,⟨h1,h2,h3,h4⟩,⟨h5,h6,h7⟩,h8,h9,h10⟩:=h;obtain⟨w,rfl,⟨g1,g2,g3,g4⟩,⟨g5,g6,g7⟩,g8,g9,g10⟩:=h';have ih:=r330 n k;unfold cc at h5 h6 h7 g5 g6 g7;have hk:=λt u=>r336 t u v.keys w.keys (by omega) (by omega) (λr hr=>(h8 r hr).val) (λr hr=>(g8 r hr).val) (λr hr q hq=>ih r q (h8 r hr) (g8 q hq));have hi:=λt u=>r336 t u v.items w.items (by omega) (by omega) (λr hr=>(h9 r hr).val) (λr hr=>(g9 r hr).val) (λr hr q hq=>ih r q (h9 r hr) (g9 q hq));rw[kG];obtain⟨a1,a2,a3,a4,a5,a6,a7,a8⟩:=v;obtain⟨b1,b2,b3,b4,b5,b6,b7,b8⟩:=w;unfold dO.c;dsimp only at *;clear ih;refine ai a330 rfl rfl ?_;simp only[F330,OS];simp(disch:=omega)only[go_sem];have no:∀{p q:dO},p≠q->(some [PV.bool false]:Option (List PV))=some [PV.bool (eqv p q)]:=λh=>by rw[eI h]
  refine Br.aF (λe=>?_) (λe=>?_)<;>simp(disch:=omega)only[go_sem,e]
  rotate_left
  .exact no (λq=>e (by cases q;rfl))
  subst e;refine Br.aF (λe=>?_) (λe=>?_)<;>simp(disch:=omega)only[go_sem,e]
  rotate_left
  .exact no (λq=>e (by cases q;rfl))
  subst e;refine Br.aF (λe=>?_) (λe=>?_)<;>simp(disch:=omega)only[go_sem,e]
  rotate_left
  .exact no (λq=>e (by cases q;rfl))
  subst e;refine Br.aF (λe=>?_) (λe=>?_)<;>simp(disch:=omega)only[go_sem,e]
  rotate_left
  .exact no (λq=>e (by cases q;rfl))
  subst e;refine Br.aF (λe=>?_) (λe=>?_)<;>simp(disch:=omega)only[go_sem,e]
  rotate_left
  .exact no (λq=>e (by cases q;rfl))
  subst e;refine Br.aF (λe=>?_) (λe=>?_)<;>simp(disch:=omega)only[go_sem]
  rotate_left
  .exact no (λq=>e (by cases q;rfl))
  refine W.find (a8.zip b8) (λq=>!eqv q.1 q.2) (λk=>⟨[(2,.ptr 2 0),(3,.ptr 3 0),(5,.pv (.int .i64 k))],⟨[(2,[.pv (.int .i64 a1),.pv (.bool a2),.pv (.int .i64 a3),.pv (.str a4),.pv (.int .i64 a5),.pv (.ae 0 a6),.pv (.ae 0 a7),.pv (.ae 0 (a8.map Raw.c))]),(3,[.pv (.int .i64 a1),.pv (.bool a2),.pv (.int .i64 a3),.pv (.str a4),.pv (.int .i64 a5),.pv (.ae 0 b6),.pv (.ae 0 b7),.pv (.ae 0 (b8.map Raw.c))])],[],[]⟩⟩) rfl (λk q hq hk' hfd=>?_) (λhn=>?_)
  .obtain⟨q1,q2⟩:=fz hq;rw[cF (by omega)]at hk';simp(disch:=omega)only[go_sem];refine Br.aF (λc=>?_) (λc=>(c (by omega)).elim);simp(disch:=omega)only[go_sem,q1,q2,Raw.c];rw[<- Ew];refine Br.of (λg=>?_) (λg=>?_)<;>simp(disch:=omega)only[go_sem]
   .exact aX.of (by rw[g];rfl) rfl
   .exact no (λq=>kf.1 (hfd (by rw[g];rfl)).ne (by cases q;rfl))
  .have hz:(a8.zip b8).length=a8.length:=cF (by omega);rw[hz];have e:=hn.eq (by omega);subst e;simp(disch:=omega)only[go_sem,hk];refine Br.of (λe=>?_) (λe=>?_)<;>simp(disch:=omega)only[go_sem,e]
   rotate_left
   .exact no (λq=>kf.1 e (by cases q;rfl))
   have e:=bP.1 e;subst e;simp(disch:=omega)only[go_sem,hi];congr 3;rw[aa4,bP,bP];exact⟨λe=>by rw[e],λq=>by cases q;rfl⟩
theorem r330v {cs ds:List PV}(h:∃n,mM n cs)(h':∃n,mM n ds):res A ay 330 [.agg cs,.agg ds]=some [.bool (eqv cs ds)]:=by
 obtain⟨n,h⟩:=h;obtain⟨k,h'⟩:=h';exact r330 n k cs ds h h'
def bn:dO:=⟨0,false,0,⟨#[]⟩,0,[],[],[]⟩
theorem Ey:∃n,mM n bn.c:=by
 refine⟨1,bn,rfl,⟨?_,?_,?_,?_⟩,⟨?_,?_,?_⟩,λr hr=>(List.not_mem_nil hr).elim,λr hr=>(List.not_mem_nil hr).elim,λr hr=>(List.not_mem_nil hr).elim⟩<;>simp[bn,eG,bo,cc];exact aaS _
theorem r326 {v:dO}(h:∃n,mM n v.c):res A ay 326 [.agg v.c]=some [.bool (eqv v bn)]:=by
 refine ai a326 rfl rfl ?_;simp only[F326,ON];have hc:=r320v h Ey;rw[kG]at hc;unfold bn dO.c at *;simp only[List.map_nil]at hc;simp(disch:=omega)only[go_sem,hc]
noncomputable def fi (rec:Bool)(m:Mem):Bool:=(!rec&&(m.GZ||m.has))||(m.GZ&&m.has)||(!m.has&&!eqv m.gN bn)
def Mem.nm (s:Mem):Nm:=(s.id,s.name)
noncomputable def dz (rec:Bool)(l:List Mem):Bool:=!l.any (fi rec)&&((rec||decide (0<l.length))&&(jk (l.map Mem.nm)&&decide (l.length<=16)))
theorem sf {p:Bool}(h:p=false):(some [PV.bool false]:Option (List PV))=some [PV.bool p]:=by rw[h]
set_option maxHeartbeats 4000000 in
theorem r308 (t : aB)(ht : t.ok)(hl : t.aO.length <= 2147483648)(hk : t.kind = 5 \/ t.kind = 6) : res A ay 308 [.agg t.c] = some [.bool (dz (decide (t.kind = 5)) t.aO)] := by
  obtain ⟨_,⟨_,_⟩,_,ho⟩ := ht;obtain ⟨a1,a2,a3,a4,a5,a6,l,a8,a9,a10⟩ := t;unfold aB.c;dsimp only at *;refine ai a308 rfl rfl ?_;simp only [F308,Oz];simp (disch := omega) only [go_sem];refine W.find l (fi (decide (a1 = 5))) (λk => ⟨[(1,.ptr 1 0),(3,G2 0 k),(4,G2 1 k),(8,.pv (.ae 0 (l.map Mem.c))),(9,.pv (.int .i64 l.length)),(10,.pv (.int .i64 k))],⟨[(1,[.pv (.int .i64 a1),.pv (.str a2),.pv (.int .i64 a3),.pv (.int .i64 a4),.pv (.int .i64 a5),.pv (.ae 0 (a6.map Sym.c)),.pv (.ae 0 (l.map Mem.c)),.pv (.int .i64 a8),.pv (.int .i64 a9),.pv (.bool a10)])],JW (ints ((l.take k).map (·.id))) (strs ((l.take k).map (·.name))),[]⟩⟩) rfl (λk p hp hlt hfd => ?_) (λhn => ?_)
  . have t1 : (l.take (k + 1)).map (·.id) = (l.take k).map (·.id) ++ [p.id] := by rw [aaH,hp,aaR];rfl
    have t2 : (l.take (k + 1)).map (·.name) = (l.take k).map (·.name) ++ [p.name] := by rw [aaH,hp,aaR];rfl
    obtain ⟨_,_,_,hd⟩ := ho p (aaj hp);have hz := r326 hd;have done : fi (decide (a1 = 5)) p = true->(some [PV.bool false] : Option (List PV)) = some [PV.bool (dz (decide (a1 = 5)) l)] := λg => by
      refine sf ?_;simp only [dz,(hfd g).any,Bool.not_true,Bool.false_and]
    have hz0 : eqv p.gN bn = eqv p.gN bn := rfl;generalize hzz : eqv p.gN bn = z at hz;unfold dO.c at hz;have hbad : fi (decide (a1 = 5)) p = ((!decide (a1 = 5) && (p.GZ || p.has)) || (p.GZ && p.has) || (!p.has && !z)) := by rw [fi,hzz]
    rw [hbad] at done |-;cases k with
    | zero =>
      simp only [G2,JW,List.take_zero,List.map_nil,A1,List.length_nil];simp (disch := omega) only [go_sem];refine Br.aF (λc => ?_) (λc => (c (by omega)).elim);simp (disch := omega) only [go_sem,hp,Mem.c]
      repeat' (first
        | (refine Br.aF (λh => ?_) (λh => ?_) <;> simp (disch := omega) only [go_sem,h])
        | (refine Br.of (λh => ?_) (λh => ?_) <;> simp (disch := omega) only [go_sem,h,hz]))
      all_goals first
        | (refine done ?_;simp_all;done)
        | (refine aX.of (by simp_all;done) ?_
           rw [t1,t2]
           first
             | rfl
             | (rw [show a1 = 6 by omega];rfl))
    | succ j =>
      have l1 : ((l.take (j + 1)).map (·.id)).length = j + 1 := by simp;omega
      have l2 : ((l.take (j + 1)).map (·.name)).length = j + 1 := by simp;omega
      have l3 : ((l.take (j + 1 + 1)).map (·.id)).length = j + 1 + 1 := by rw [t1];simp;omega
      generalize (l.take (j + 1)).map (·.id) = A at t1 l1;generalize (l.take (j + 1)).map (·.name) = B at t2 l2;simp only [G2,JW,aN,l1];simp (disch := omega) only [go_sem];refine Br.aF (λc => ?_) (λc => (c (by omega)).elim);simp (disch := omega) only [go_sem,hp,Mem.c]
      repeat' (first
        | (refine Br.aF (λh => ?_) (λh => ?_) <;> simp (disch := omega) only [go_sem,h])
        | (refine Br.of (λh => ?_) (λh => ?_) <;> simp (disch := omega) only [go_sem,h,hz]))
      all_goals first
        | (refine done ?_;simp_all;done)
        | (refine aX.of (by simp_all;done) ?_
           simp only [aN,l3];rw [t1,t2]
           first
             | rfl
             | (rw [show a1 = 6 by omega];rfl))
  . rw [aaQ]
    have nm1 : l.map (·.id) = (l.map Mem.nm).map (·.1) := by rw [aa6];rfl
    have nm2 : l.map (·.name) = (l.map Mem.nm).map (·.2) := by rw [aa6];rfl
    have h325 := λt u => r325 t u (l.map Mem.nm) (by simp;omega) (λp hp => by
      obtain ⟨q,hq,rfl⟩ := aaq.1 hp;exact (ho q hq).2.1)
    rw [nm1,nm2];rw [aam] at h325;unfold dz;rw [hn.any];cases hn : l.length with
    | zero =>
      have hnil : l = [] := aaD hn;subst hnil;simp only [List.map_nil,ints,strs] at h325;simp only [G2,JW,hn,aN,List.length_map];simp (disch := omega) only [go_sem];refine Br.aF (λc => ?_) (λc => ?_) <;> simp (disch := omega) only [go_sem,c,h325];refine Br.aF (λc2 => absurd c2 (by omega)) (λc2 => ?_);simp (disch := omega) only [go_sem,c2];simp [c]
    | succ j =>
      have l1 : ((l.map Mem.nm).map (·.1)).length = j + 1 := by simp [hn]
      have l2 : ((l.map Mem.nm).map (·.2)).length = j + 1 := by simp [hn]
      rw [hn] at h325;generalize (l.map Mem.nm).map (·.1) = A at l1 h325;generalize (l.map Mem.nm).map (·.2) = B at l2 h325;simp only [G2,JW,aN,l1];simp (disch := omega) only [go_sem];have d1 : A.take (j + 1) = A := aaB (by omega);have d2 : (strs B).take (j + 1) = strs B := aaB (by rw [gi];omega);refine Br.aF (λc => ?_) (λc => ?_) <;> simp (disch := omega) only [go_sem,c,d1,d2,h325];refine Br.aF (λc2 => ?_) (λc2 => absurd (show (0 : Int) < ((j + 1 : Nat) : Int) by omega) c2);simp (disch := omega) only [go_sem,c,c2,d1,d2,h325];simp
def A8 (b n:Int):Bool:=decide (b<n)&&(decide (1<=n)&&decide (n<=1000))
theorem r329 (b n:Int):res A ay 329 [.int .i64 b,.int .i64 n]=some [.bool (A8 b n)]:=by
 refine ai a329 rfl rfl ?_;simp only[F329,OQ];simp(disch:=omega)only[go_sem];unfold A8
 repeat' (refine Br.aF (λh=>?_) (λh=>?_)<;>simp(disch:=omega)only[go_sem,h])
 all_goals simp[*]
def tL (l:List Nm)(k:Nat):Int:=match k with
 |0=>0
 |_+1=>lx l k
theorem H0 (l:List Nm)(k:Nat)(p:Nm):iW l k p=(!A8 (tL l k) p.1||!isName p.2||cz ((l.map (·.2)).take k) p.2):=by
 have h:(decide (p.1<1)||decide (1000<p.1)||(decide (0<k)&&decide (p.1<=lx l k)))=!A8 (tL l k) p.1:=by
  unfold A8;rw[aa4];cases k with
  |zero=>
   rw[Bool.not_eq_true',acd,acd,decide_eq_false_iff_not,decide_eq_false_iff_not,decide_eq_false_iff_not];simp only[tL,Bool.or_eq_true,Bool.and_eq_true,decide_eq_true_eq];omega
  |succ j=>
   rw[Bool.not_eq_true',acd,acd,decide_eq_false_iff_not,decide_eq_false_iff_not,decide_eq_false_iff_not];simp only[tL,Bool.or_eq_true,Bool.and_eq_true,decide_eq_true_eq];omega
 unfold iW;rw[h];generalize (!A8 (tL l k) p.1)=x;generalize cz _ _=y;generalize isName _=z;cases x<;>cases y<;>cases z<;>rfl
theorem A9 {l:List Nm}{k:Nat}{p:Nm}(hp:l[k]?=some p)(h:iW l k p=true):jk l=false:=by
 have hk:=(aak.1 hp).1;unfold jk;rw[Bool.not_eq_false',abg];exact⟨k,List.mem_range.2 hk,by simp only[iX,hp];exact h⟩
theorem Ez {α:Type}(nm:α->Nm)(l:List α)(k:Nat)(x:ByteArray):cz (((l.map nm).map (·.2)).take k) x=(l.take k).any λq=>decide ((nm q).2=x):=by
 unfold cz;rw[<- abl,<- abl,abt,abt];rfl
theorem Ba {l:List Nm}{k:Nat}{p:Nm}(hp:l[k]?=some p):tL l (k+1)=p.1:=by
 show lx l (k+1)=p.1;unfold lx;rw[Nat.add_sub_cancel,hp];rfl
set_option maxHeartbeats 1000000 in
theorem r311 (t:Nat)(l:List Sym)(hl:l.length<=2147483648)(hs:∀p∈l,bo p.name):res A ay 311 [.ae t (l.map Sym.c)]=some [.bool (kg l)]:=by
 refine ai a311 rfl rfl ?_;simp only[F311,OC];simp(disch:=omega)only[go_sem];refine W.find (List.range l.length) (iX (l.map Sym.nm)) (λk=>⟨[(0,.pv (.ae t (l.map Sym.c))),(3,.pv (.int .i64 (tL (l.map Sym.nm) k))),(4,.pv (.int .i64 k))],⟨[],[],[]⟩⟩) rfl (λk x hx hk hfd=>?_) (λhn=>?_)
 .obtain⟨rfl,hk⟩:=cZ hx;have hp:=aal hk;generalize l[x]=p at hp;have hq:(l.map Sym.nm)[x]?=some p.nm:=by rw[aap,hp];rfl
  have hnm:=r310 p.name (hs p (aaj hp));have hid:=r329 (tL (l.map Sym.nm) x) p.id;have hb:iX (l.map Sym.nm) x=(!A8 (tL (l.map Sym.nm) x) p.id||!isName p.name||(l.take x).any λq=>decide (q.name=p.name)):=by
   simp only[iX,hq];rw[H0,Ez];rfl
  have done:iX (l.map Sym.nm) x=true->(some [PV.bool false]:Option (List PV))=some [PV.bool (kg l)]:=λg=>by
   refine sf ?_;simp only[iX,hq]at g;simp only[kg,A9 hq g,Bool.false_and,Bool.and_false]
  rw[hb]at done |-;simp(disch:=omega)only[go_sem];refine Br.aF (λc=>?_) (λc=>(c (by omega)).elim);simp(disch:=omega)only[go_sem,hp,Sym.c,hid];refine Br.of (λc1=>?_) (λc1=>?_)<;>simp(disch:=omega)only[go_sem,c1,hp,Sym.c,hnm]
  rotate_left
  .exact done (by simp[c1])
  refine Br.of (λc2=>?_) (λc2=>?_)<;>simp(disch:=omega)only[go_sem,c2]
  rotate_left
  .exact done (by simp[c2])
  refine W.find (l.take x) (λq=>decide (q.name=p.name)) (λj=>⟨[(0,.pv (.ae t (l.map Sym.c))),(4,.pv (.int .i64 x)),(5,.pv (.int .i64 j))],⟨[],[],[]⟩⟩) rfl (λj q hj hjl hfd2=>?_) (λhn=>?_)
  .have hjl':j<x/\j<l.length:=by rw[aaA]at hjl;omega
   have hj':l[j]?=some q:=by
    rw[aax,if_pos hjl'.1]at hj;exact hj
   simp(disch:=omega)only[go_sem];refine Br.aF (λc=>?_) (λc=>(c (by omega)).elim);simp(disch:=omega)only[go_sem,hp,hj',Sym.c];refine Br.aF (λc3=>?_) (λc3=>?_)<;>simp(disch:=omega)only[go_sem,c3]
   .exact done (by rw[(hfd2 (by simp[c3])).any,Bool.or_true])
   .exact aX.of (by simp[c3]) rfl
  .have hlx:(l.take x).length=x:=by rw[aaA];omega
   rw[hlx];simp(disch:=omega)only[go_sem,hp,Sym.c];refine aX.of ?_ ?_
   .rw[hn.any,c1,c2];rfl
   .rw[Ba hq];rfl
 .rw[aaJ];simp(disch:=omega)only[go_sem];have hi:jk (l.map Sym.nm)=true:=by
   unfold jk;rw[aam,hn.any];rfl
  refine Br.aF (λc3=>?_) (λc3=>?_)<;>simp(disch:=omega)only[go_sem,c3]
  .have h0:0<l.length:=by omega
   simp[kg,hi,h0];omega
  .have h0:¬0<l.length:=by omega
   simp[kg,h0]
noncomputable def zg (rec:Bool)(l:List Mem)(k:Nat):Bool:=match l[k]? with
 |some m=>fi rec m
 |none=>false
set_option maxHeartbeats 4000000 in
theorem r312 (t : Nat)(l : List Mem)(rec : Bool)(hl : l.length <= 2147483648)(ho : ∀ p ∈ l,p.ok) : res A ay 312 [.ae t (l.map Mem.c),.bool rec] = some [.bool (dz rec l)] := by
  refine ai a312 rfl rfl ?_;simp only [F312,OD];simp (disch := omega) only [go_sem];refine W.find (List.range l.length) (λk => iX (l.map Mem.nm) k || zg rec l k) (λk => ⟨[(0,.pv (.ae t (l.map Mem.c))),(1,.pv (.bool rec)),(5,.pv (.int .i64 (tL (l.map Mem.nm) k))),(6,.pv (.int .i64 k))],⟨[],[],[]⟩⟩) rfl (λk x hx hk hfd => ?_) (λhn => ?_)
  . obtain ⟨rfl,hk⟩ := cZ hx
    have hp := aal hk;generalize l[x] = p at hp;clear hfd;have hq : (l.map Mem.nm)[x]? = some p.nm := by rw [aap,hp];rfl
    obtain ⟨_,hsn,_,hd⟩ := ho p (aaj hp);have hnm := r310 p.name hsn;have hid := r329 (tL (l.map Mem.nm) x) p.id;have hz := r330v hd Ey;rw [kG] at hz;have hb : iX (l.map Mem.nm) x = (!A8 (tL (l.map Mem.nm) x) p.id || !isName p.name || (l.take x).any λq => decide (q.name = p.name)) := by
      simp only [iX,hq];rw [H0,Ez];rfl
    have done : (iX (l.map Mem.nm) x || fi rec p) = true->(some [PV.bool false] : Option (List PV)) = some [PV.bool (dz rec l)] := λg => by
      refine sf ?_;rcases Bool.or_eq_true _ _ |>.mp g with g | g
      . simp only [iX,hq] at g
        simp only [dz,A9 hq g,Bool.false_and,Bool.and_false]
      . have : l.any (fi rec) = true := abg.2 ⟨p,aaj hp,g⟩
        simp only [dz,this,Bool.not_true,Bool.false_and]
    have hbm : zg rec l x = fi rec p := by simp only [zg,hp]
    rw [hbm];rw [hb] at done |-;unfold fi at done |-;generalize eqv p.gN bn = z at hz done |-;unfold bn dO.c at hz;simp only [List.map_nil] at hz;simp (disch := omega) only [go_sem];refine Br.aF (λc => ?_) (λc => (c (by omega)).elim);simp (disch := omega) only [go_sem,hp,Mem.c,hid];refine Br.of (λc1 => ?_) (λc1 => ?_) <;> simp (disch := omega) only [go_sem,c1,hnm]
    rotate_left
    . exact done (by simp [c1])
    refine Br.of (λc2 => ?_) (λc2 => ?_) <;> simp (disch := omega) only [go_sem,c2]
    rotate_left
    . exact done (by simp [c2])
    repeat' (refine Br.of (λh => ?_) (λh => ?_) <;> simp (disch := omega) only [go_sem,h,hz])
    all_goals subst_vars
    all_goals first
      | (refine done ?_
         simp [*]
         done)
      | skip
    all_goals
      refine W.find (l.take x) (λq => decide (q.name = p.name)) ((λ(b : V) (cs : List V) => λj => ⟨[(0,.pv (.ae t (l.map Mem.c))),(1,b),(6,.pv (.int .i64 x)),(7,.ptr 7 0),(8,.pv (.int .i64 (j : Nat)))],⟨[(7,cs)],[],[]⟩⟩) _ _) rfl (λj q hj hjl hfd2 => ?_) (λhn => ?_)
      . have hjl' : j < x /\ j < l.length := by rw [aaA] at hjl;omega
        have hj' : l[j]? = some q := by
          rw [aax,if_pos hjl'.1] at hj;exact hj
        simp (disch := omega) only [go_sem];refine Br.aF (λc => ?_) (λc => (c (by omega)).elim);simp (disch := omega) only [go_sem,hj',Mem.c];refine Br.aF (λc3 => ?_) (λc3 => ?_) <;> simp (disch := omega) only [go_sem,c3]
        . exact done (by rw [(hfd2 (by simp [c3])).any];simp)
        . exact aX.of (by simp [c3]) rfl
      . have hlx : (l.take x).length = x := by rw [aaA];omega
        rw [hlx];simp (disch := omega) only [go_sem];refine aX.of ?_ ?_
        . rw [hn.any,c1,c2]
          simp [*]
        . rw [Ba hq]
          rfl
  . rw [aaJ]
    simp (disch := omega) only [go_sem];have ha := hn.any;rw [aaW] at ha;have hi : jk (l.map Mem.nm) = true := by
      unfold jk;rw [Bool.not_eq_true',aaW];intro k hk;rw [aam] at hk;have := ha k hk;simp only [Bool.or_eq_true,not_or] at this;exact this.1
    have hb : l.any (fi rec) = false := by
      rw [aaW];intro m hm;obtain ⟨k,hk⟩ := aan.1 hm;have := ha k (aaV.2 (aak.1 hk).1);simp only [Bool.or_eq_true,not_or,zg,hk] at this;simpa using this.2
    refine Br.aF (λc3 => ?_) (λc3 => ?_) <;> simp (disch := omega) only [go_sem,c3]
    . refine Br.of (λc4 => ?_) (λc4 => ?_) <;> simp (disch := omega) only [go_sem,c4]
      . subst c4
        have n3 : l.length <= 16 := by omega
        simp only [dz,hi,hb,n3];simp
      . subst c4
        have n3 : l.length <= 16 := by omega
        simp only [dz,hi,hb,n3];congr 3;rw [aa4];simp;omega
    . have n3 : ¬ l.length <= 16 := by omega
      simp only [dz,hi,hb,n3];simp
end Go.Pv
