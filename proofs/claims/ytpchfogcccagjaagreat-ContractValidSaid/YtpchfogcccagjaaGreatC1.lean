/-
 What the functions of the law give.
-/
import Derived.Test.YtpchfogcccagjaaGreatTab
set_option linter.unusedSimpArgs false
set_option linter.unusedVariables false
open List renaming mem_of_getElem? → Wa, getElem?_eq_some_iff → V9, getElem?_eq_getElem → Wb, mem_iff_getElem? → Wd, length_map → Wg, getElem?_map → Wf, take_of_length_le → Wq, length_take → W8, eq_nil_of_length_eq_zero → Wp, getElem?_take → Wy, take_add_one → WL, mem_map → Wk, length_range → WI, findIdx?_eq_some_iff_getElem → Ww, map_append → WC, take_length → WV, ext_getElem? → WW, any_eq_false → WY, append_nil → Xh, getElem_mem → Xc, getElem?_range → Xr, any_eq_true → Xm, getElem_of_mem → Xg, getElem?_zip_eq_some → Xv, getElem?_set → afz, map_map → Xw, ext_getElem → afC
open Nat renaming lt_or_ge → Wh, not_lt_zero → Xo, zero_le → WA, min_eq_left → afF
open Array renaming getElem?_toList → Wo, getElem?_eq_getElem → XL, length_toList → Xf
open Bool renaming eq_iff_iff → Xb
open Option renaming map_eq_some_iff → Wx
open Int renaming toNat_natCast → WX, le_refl → XS
namespace Go.Pv
variable {A:Nat->Option bA} {Pr:bm}
def dh (n:Nat):List (List PV)->V
 |[]=>.tl []
 |_::r=>.own n r.length 0 (r.length+1)
def cK (k:Nat):List (List PV)->List aL
 |[]=>[]
 |x::r=>[⟨r.length,k,.inl (x::r)⟩]
def tM (n k:Nat) (rows:List (List PV)) (r:List PV):Tn:=
 match rows with
 |[]=>{ push:=[⟨0,k,.inl [r]⟩],base:=n }
 |x::q=>{ ar:=some (n,⟨q.length+1,k,.inl (x::q++[r])⟩) }
theorem grow (bx:List (Nat×List V)) (mp:List (List (PV×PV))) (pre:List aL) (k:Nat) (rows:List (List PV)) (r:List PV) (hr:r.length=k) (hm:rows.length+1<=2147483648):
  aK ⟨bx,pre++cK k rows,mp⟩ k (dh pre.length rows) (.tl [r])=some (dh pre.length (rows++[r]),tM pre.length k rows r):=by
 cases rows with
 |nil=>simp[aK,dh,cK,tM,aW,aO,aD,hr,aU,aN]
 |cons x q=>
  have h1:aB ⟨bx,pre++cK k (x::q),mp⟩ pre.length q.length=some ⟨q.length,k,.inl (x::q)⟩:=by simp[aB,cK]
  have h2:(⟨q.length,k,.inl (x::q)⟩:aL).size=q.length+1:=rfl
  have h3:((x::q).drop 0).take (q.length+1)=x::q:=by simp
  simp only[List.length_cons]at hm
  simp[aK,dh,tM,aW,aO,aD,hr,h1,h2,aU,az,aN]
  omega
theorem ik (bx:List (Nat×List V)) (mp:List (List (PV×PV))) (pre:List aL) (k:Nat) (rows:List (List PV)) (r:List PV):
  (tM pre.length k rows r).apply ⟨bx,pre++cK k rows,mp⟩=⟨bx,pre++cK k (rows++[r]),mp⟩:=by
 cases rows with
 |nil=>simp[tM,Tn.apply,cK]
 |cons x q=>simp[tM,Tn.apply,cK]
@[go_sem] theorem BF (bx:List (Nat×List V)) (mp:List (List (PV×PV))) (k:Nat) (rows:List (List PV)) (r:List PV) (hr:r.length=k) (hm:rows.length+1<=2147483648):
  aK ⟨bx,cK k rows,mp⟩ k (dh 0 rows) (.tl [r])=some (dh 0 (rows++[r]),tM 0 k rows r):=grow bx mp [] k rows r hr hm
@[go_sem] theorem RD (bx:List (Nat×List V)) (mp:List (List (PV×PV))) (a:aL) (k:Nat) (rows:List (List PV)) (r:List PV) (hr:r.length=k) (hm:rows.length+1<=2147483648):
  aK ⟨bx,a::cK k rows,mp⟩ k (dh 1 rows) (.tl [r])=some (dh 1 (rows++[r]),tM 1 k rows r):=grow bx mp [a] k rows r hr hm
@[go_sem] theorem aeV (bx:List (Nat×List V)) (mp:List (List (PV×PV))) (a b:aL) (k:Nat) (rows:List (List PV)) (r:List PV) (hr:r.length=k) (hm:rows.length+1<=2147483648):
  aK ⟨bx,a::b::cK k rows,mp⟩ k (dh 2 rows) (.tl [r])=some (dh 2 (rows++[r]),tM 2 k rows r):=grow bx mp [a,b] k rows r hr hm
@[go_sem] theorem Mh (bx:List (Nat×List V)) (mp:List (List (PV×PV))) (k:Nat) (rows:List (List PV)) (r:List PV):
  (tM 0 k rows r).apply ⟨bx,cK k rows,mp⟩=⟨bx,cK k (rows++[r]),mp⟩:=ik bx mp [] k rows r
@[go_sem] theorem Mi (bx:List (Nat×List V)) (mp:List (List (PV×PV))) (a:aL) (k:Nat) (rows:List (List PV)) (r:List PV):
  (tM 1 k rows r).apply ⟨bx,a::cK k rows,mp⟩=⟨bx,a::cK k (rows++[r]),mp⟩:=ik bx mp [a] k rows r
@[go_sem] theorem aeL (bx:List (Nat×List V)) (mp:List (List (PV×PV))) (a b:aL) (k:Nat) (rows:List (List PV)) (r:List PV):
  (tM 2 k rows r).apply ⟨bx,a::b::cK k rows,mp⟩=⟨bx,a::b::cK k (rows++[r]),mp⟩:=ik bx mp [a,b] k rows r
@[go_sem] theorem Td (h:aa) (n:Nat) (rows:List (List PV)):ix h 0 (dh n rows)=some (rows.length,{}):=by cases rows<;>rfl
@[go_sem] theorem RE (n:Nat) (rows:List (List PV)):V.cells (dh n rows)=[dh n rows]:=by cases rows<;>rfl
@[go_sem] theorem Hq (n:Nat) (rows:List (List PV)):V.calm (dh n rows)=true:=by cases rows<;>rfl
@[go_sem] theorem RF (kb:List Nat) (n:Nat) (rows:List (List PV)):dN kb (dh n rows)=dh n rows:=by cases rows<;>rfl
theorem Ag (bx:List (Nat×List V)) (mp:List (List (PV×PV))) (pre post:List aL) (k:Nat) (x:List PV) (q:List (List PV)):aB ⟨bx,pre++(cK k (x::q)++post),mp⟩ pre.length q.length=some ⟨q.length,k,.inl (x::q)⟩:=by simp[aB,cK]
theorem sI (bx:List (Nat×List V)) (mp:List (List (PV×PV))) (pre:List aL) (k d:Nat) (rows:List (List PV)):aY ⟨bx,pre++cK k rows,mp⟩ (d+1) (dh pre.length rows)=some (.aq 0 rows):=by
 cases rows with
 |nil=>rfl
 |cons x q=>
  have:=Ag bx mp pre [] k x q
  rw[Xh]at this
  simp[dh,dS,this,bO,az]
@[go_sem] theorem OX (bx:List (Nat×List V)) (mp:List (List (PV×PV))) (k:Nat) (rows:List (List PV)):aY ⟨bx,cK k rows,mp⟩ 4 (dh 0 rows)=some (.aq 0 rows):=sI bx mp [] k 3 rows
@[go_sem] theorem Te (h:aa) (n:Nat) (rows:List (List PV)):keep h false (dh n rows)=aY h 4 (dh n rows):=by cases rows<;>rfl
def Tf:List (List PV)->Nat
 |[]=>0
 |_=>1
theorem ym (bx:List (Nat×List V)) (mp:List (List (PV×PV))) (pre:List aL) (k d:Nat) (rows:List (List PV)):aR ⟨bx,pre++cK k rows,mp⟩ (d+1) (dh pre.length rows)=some (.aq (Tf rows) rows):=by
 cases rows with
 |nil=>rfl
 |cons x q=>
  have:=Ag bx mp pre [] k x q
  rw[Xh]at this
  simp[dh,aR,this,az,Tf]
@[go_sem] theorem OZ (bx:List (Nat×List V)) (mp:List (List (PV×PV))) (k:Nat) (rows:List (List PV)):aR ⟨bx,cK k rows,mp⟩ 4 (dh 0 rows)=some (.aq (Tf rows) rows):=ym bx mp [] k 3 rows
@[go_sem] theorem O0 (bx:List (Nat×List V)) (mp:List (List (PV×PV))) (a:aL) (k:Nat) (rows:List (List PV)):aR ⟨bx,a::cK k rows,mp⟩ 4 (dh 1 rows)=some (.aq (Tf rows) rows):=ym bx mp [a] k 3 rows
@[go_sem] theorem Tg (h:aa) (n:Nat) (rows:List (List PV)):cq h (dh n rows)=aR h 4 (dh n rows):=by cases rows<;>rfl
theorem rn {i n:Nat} {rows:List (List PV)} (h:rows.length=n+1):dh i rows=.own i n 0 (n+1):=by
 match rows,h with
 |x::q,h=>
  simp at h
  simp[dh,h]
theorem lU {k n:Nat} {rows:List (List PV)} (h:rows.length=n+1):cK k rows=[⟨n,k,.inl rows⟩]:=by
 match rows,h with
 |x::q,h=>
  simp at h
  simp[cK,h]
def Ah {α:Type} (i:Int) (len:Nat) (v:α):Option α:=if 0<=i/\i<=len then some v else none
@[go_sem] theorem Th {α:Type} {i:Int} {len:Nat} {v:α} (h0:0<=i) (h1:i<=(len:Int)):Ah i len v=some v:=if_pos ⟨h0,h1⟩
@[go_sem] theorem Ti (g:bJ->V) (h:aa) (k id ax off len:Nat) (lo:bJ):
  di g h k (.own id ax off len) (some lo) none none=(aB h id ax).bind fun a=>(intOf (g lo)).bind fun i=>if a.k=k then Ah i len (.own id ax (off+i.toNat) (len - i.toNat),{ ra:=some id }) else none:=by
 cases ho:aB h id ax with
 |none=>simp[di,ho]
 |some a=>
  cases hi:intOf (g lo)with
  |none=>simp[di,ho,bounds,bound,hi]
  |some i=>by_cases hk:a.k=k<;>by_cases h0:0<=i/\i<=len<;>simp[di,ho,bounds,bound,hi,hk,h0,Ah]
@[go_sem] theorem Vx (g:bJ->V) (h:aa) (k id ax off len:Nat) (hi:bJ):
  di g h k (.own id ax off len) none (some hi) none=(aB h id ax).bind fun a=>(intOf (g hi)).bind fun i=>if a.k=k then Ah i len (.own id ax off i.toNat,{ ra:=some id }) else none:=by
 cases ho:aB h id ax with
 |none=>simp[di,ho]
 |some a=>
  cases hj:intOf (g hi)with
  |none=>simp[di,ho,bounds,bound,hj]
  |some i=>by_cases hk:a.k=k<;>by_cases h0:0<=i/\i<=len<;>simp[di,ho,bounds,bound,hj,hk,h0,Ah]
end Go.Pv
namespace Go.Pv
@[go_sem] theorem yn:ints []=[]:=rfl
@[go_sem] theorem lV (l:List Int) (x:Int):ints l++[[.int .i64 x]]=ints (l++[x]):=by simp[ints]
def bF (l:List Edge):List (List PV):=l.map Edge.c
@[go_sem] theorem bN (l:List Edge):(bF l).length=l.length:=by simp[bF]
@[go_sem] theorem RH:bF []=[]:=rfl
@[go_sem] theorem RI (l:List Edge) (i:Nat):(bF l)[i]?=l[i]?.map Edge.c:=by simp[bF]
theorem CG (l:List Edge) (e:Edge):bF l++[e.c]=bF (l++[e]):=by simp[bF]
@[go_sem] theorem UD (bx:List (Nat×List V)) (mp:List (List (PV×PV))) (l:List Int) (x:Int) (hm:l.length+1<=2147483648):
  aK ⟨bx,cK 1 (ints l),mp⟩ 1 (dh 0 (ints l)) (.tl [[.int .i64 x]])=some (dh 0 (ints (l++[x])),tM 0 1 (ints l) [.int .i64 x]):=by
 rw[BF bx mp 1 (ints l) [.int .i64 x] rfl (by rw[bt]; exact hm),lV]
@[go_sem] theorem UE (bx:List (Nat×List V)) (mp:List (List (PV×PV))) (l:List Edge) (f:Int) (s:Bool) (x t:Int) (hm:l.length+1<=2147483648):
  aK ⟨bx,cK 4 (bF l),mp⟩ 4 (dh 0 (bF l)) (.tl [[.int .i64 f,.bool s,.int .i64 x,.int .i64 t]])=some (dh 0 (bF (l++[⟨f,s,x,t⟩])),tM 0 4 (bF l) (Edge.c ⟨f,s,x,t⟩)):=by
 rw[<- CG]
 exact BF bx mp 4 (bF l) (Edge.c ⟨f,s,x,t⟩) rfl (by rw[bN]; exact hm)
def bX (l:List Bool):List (List PV):=l.map fun b=>[.bool b]
@[go_sem] theorem hV (l:List Bool):(bX l).length=l.length:=by simp[bX]
@[go_sem] theorem O1 (l:List Bool) (i:Nat):(bX l)[i]?=l[i]?.map fun b=>[.bool b]:=by simp[bX]
theorem CH (l:List Bool) (i:Nat) (b:Bool):(bX l).set i [.bool b]=bX (l.set i b):=by simp[bX,List.map_set]
@[go_sem] theorem IX {id row ax:Nat} {b:Bool} {l:List Bool} (h1:row<l.length):eG id row 0 [.pv (.bool b)] ⟨ax,1,.inl (bX l)⟩=some { ar:=some (id,⟨ax,1,.inl (bX (l.set row b))⟩) }:=by
 rw[oc (by rw[hV]; exact h1) rfl (.inr ⟨.bool l[row],by simp[bX,h1]⟩) rfl,CH]
@[go_sem] theorem aa1 (n:Nat) (b:Bool):cu n [.pv (.bool b)]=.inl (bX (List.replicate n b)):=by
 simp[cu,ay,V.bS,PV.perm,bX]
def Tj (id ax off len:Nat) (x:Int) (a:aL):Option (V×Tn):=
 if off+len<=a.size/\a.k=1/\len+1<=aN then some (.own id (ax+1) 0 (len+1),{ ar:=some (id,⟨ax+1,1,aU (az off len a.body) (.inl [[.int .i64 x]])⟩) }) else none
@[go_sem] theorem Tl (h:aa) (id ax off len:Nat) (x:Int):aK h 1 (.own id ax off len) (.tl [[.int .i64 x]])=(aB h id ax).bind (Tj id ax off len x):=by
 cases ho:aB h id ax with
 |none=>simp[aK,aW,aO,ho]
 |some a=>
  simp only[aK,aW,aO,ho,aD,Tj,List.all_cons,List.all_nil,List.length_cons,List.length_nil,Option.bind_some]
  by_cases h1:off+len<=a.size<;>by_cases h2:a.k=1<;>by_cases h3:len+1<=aN<;>simp[h1,h2,h3]
@[go_sem] theorem UF {id ax len:Nat} {x:Int} {l:List Int} (h1:len=l.length) (h2:l.length+1<=2147483648):Tj id ax 0 len x ⟨ax,1,.inl (ints l)⟩=some (.own id (ax+1) 0 (len+1),{ ar:=some (id,⟨ax+1,1,.inl (ints (l++[x]))⟩) }):=by
 subst h1
 unfold Tj
 rw[if_pos ⟨by simp[aL.size,ints],rfl,h2⟩]
 have:List.take l.length (List.map (fun x=>[PV.int IntKind.i64 x]) l)=List.map (fun x=>[PV.int IntKind.i64 x]) l:=List.take_of_length_le (by simp)
 simp[aU,az,ints,this]
variable {A:Nat->Option bA} {Pr:bm}
def cW {σ:Type} (S:Nat->σ->St) (I:Nat->σ->Prop) (k:Nat) (acc:σ) (Q:Ex->St->Prop) (_t:nU (S,I,k,acc,Q):=.mk):Ex->St->Prop
 |.normal,s=>s=S k acc/\I k acc
 |.exit i,s=>Q (.exit i) s
 |.ret,s=>Q .ret s
@[go_sem] theorem Mj {σ:Type} (S:Nat->σ->St) (I:Nat->σ->Prop) (k:Nat) (acc:σ) (Q:Ex->St->Prop) (i:Nat) (s:St):cW S I k acc Q .mk (.exit i) s=Q (.exit i) s:=rfl
@[go_sem] theorem O2 {σ:Type} (S:Nat->σ->St) (I:Nat->σ->Prop) (k:Nat) (acc:σ) (Q:Ex->St->Prop) (s:St):cW S I k acc Q .mk .ret s=Q .ret s:=rfl
theorem cW.of {σ:Type} {S:Nat->σ->St} {I:Nat->σ->Prop} {k:Nat} {acc:σ} {Q:Ex->St->Prop} {s:St} (h:s=S k acc) (h2:I k acc):cW S I k acc Q .mk .normal s:=⟨h,h2⟩
def yp (Q:Ex->St->Prop) (_t:nU Q:=.mk):Ex->St->Prop
 |.normal,_=>False
 |.exit i,s=>Q (.exit i) s
 |.ret,s=>Q .ret s
@[go_sem] theorem Mk (Q:Ex->St->Prop) (i:Nat) (s:St):yp Q .mk (.exit i) s=Q (.exit i) s:=rfl
@[go_sem] theorem O3 (Q:Ex->St->Prop) (s:St):yp Q .mk .ret s=Q .ret s:=rfl
theorem W.fold {σ α:Type} {a:AC} {s:St} {Q:Ex->St->Prop} (l:List α) (f:σ->α->σ) (x0:σ) (S:Nat->σ->St) (I:Nat->σ->Prop) (hs:s=S 0 x0) (h0:I 0 x0)
  (hr:∀k x acc,l[k]?=some x->k<l.length->acc=(l.take k).foldl f x0->I k acc->W A Pr a (S k acc) (cW S I (k+1) (f acc x) Q))
  (he:∀acc,acc=l.foldl f x0->I l.length acc->W A Pr a (S l.length acc) (yp Q)):W A Pr (.loop a) s Q:=by
 refine W.fv l.length (fun k=>S k ((l.take k).foldl f x0)) (fun k=>I k ((l.take k).foldl f x0)) (by simpa using hs) (by simpa using h0) fun k hk hi=>?_
 rcases Wh k l.length with h|h
 .obtain⟨x,hx⟩:∃x,l[k]?=some x:=⟨l[k],by simp[h]⟩
  obtain⟨ex,s',h1,h2⟩:=hr k x _ hx h rfl hi
  have ht:(l.take (k+1)).foldl f x0=f ((l.take k).foldl f x0) x:=by rw[List.take_add_one,hx]; simp[List.foldl_append]
  refine⟨ex,s',h1,?_⟩
  cases ex with
  |normal=>exact .of h (by rw[ht]; exact h2.1) (by rw[ht]; exact h2.2)
  |exit i=>exact h2
  |ret=>exact h2
 .obtain rfl:k=l.length:=by omega
  rw[WV]at hi |-
  obtain⟨ex,s',h1,h2⟩:=he _ rfl hi
  refine⟨ex,s',h1,?_⟩
  cases ex with
  |normal=>exact h2.elim
  |exit i=>exact h2
  |ret=>exact h2
theorem W.IY {σ:Type} {a:AC} {s:St} {Q:Ex->St->Prop} (n:Nat) (f:σ->Nat->σ) (x0:σ) (S:Nat->σ->St) (I:Nat->σ->Prop) (hs:s=S 0 x0) (h0:I 0 x0)
  (hr:∀k acc,k<n->acc=(List.range k).foldl f x0->I k acc->W A Pr a (S k acc) (cW S I (k+1) (f acc k) Q))
  (he:∀acc,acc=(List.range n).foldl f x0->I n acc->W A Pr a (S n acc) (yp Q)):W A Pr (.loop a) s Q:=by
 refine W.fold (List.range n) f x0 S I hs h0 (fun k x acc hx hk ha hi=>?_) (fun acc ha hi=>?_)
 .rw[WI]at hk
  rw[Xr hk]at hx
  cases hx
  refine hr k acc hk ?_ hi
  rw[ha,List.take_range,afF (by omega)]
 .rw[WI]at hi |-
  exact he acc ha hi
def bB (S:Nat->St) (k:Nat) (p:Bool) (Q:Ex->St->Prop) (_t:nU (S,k,p,Q):=.mk):Ex->St->Prop
 |.normal,s=>p=false/\s=S k
 |.exit i,s=>Q (.exit i) s
 |.ret,s=>Q .ret s
@[go_sem] theorem Ml (S:Nat->St) (k:Nat) (p:Bool) (Q:Ex->St->Prop) (i:Nat) (s:St):bB S k p Q .mk (.exit i) s=Q (.exit i) s:=rfl
@[go_sem] theorem O4 (S:Nat->St) (k:Nat) (p:Bool) (Q:Ex->St->Prop) (s:St):bB S k p Q .mk .ret s=Q .ret s:=rfl
theorem bB.of {S:Nat->St} {k:Nat} {p:Bool} {Q:Ex->St->Prop} {s:St} (h:p=false) (h2:s=S k):bB S k p Q .mk .normal s:=⟨h,h2⟩
structure Found {α:Type} (l:List α) (p:α->Bool) (k:Nat) (x:α):Prop where
 any:l.any p=true
 all:l.all (fun y=>!p y)=false
 find:l.find? p=some x
 idx:l.findIdx? p=some k
structure hY {α:Type} (l:List α) (p:α->Bool):Prop where
 any:l.any p=false
 all:l.all (fun y=>!p y)=true
 find:l.find? p=none
 idx:l.findIdx? p=none
theorem EE {α:Type} {l:List α} {p:α->Bool} {k:Nat} {x:α} (hb:∀j,j<k->∀y,l[j]?=some y->p y=false) (hx:l[k]?=some x) (hp:p x=true):Found l p k x:=by
 obtain⟨hk,rfl⟩:=V9.1 hx
 have hi:l.findIdx? p=some k:=by
  rw[Ww]
  exact⟨hk,hp,fun j hj=>by simpa using hb j hj _ (by rw[List.getElem?_eq_getElem (by omega)])⟩
 refine⟨Xm.2 ⟨_,Xc hk,hp⟩,?_,?_,hi⟩
 .rw[List.all_eq_false]
  exact⟨_,List.getElem_mem hk,by simp[hp]⟩
 .rw[List.find?_eq_some_iff_getElem]
  exact⟨hp,k,hk,rfl,fun j hj=>by simpa using hb j hj _ (by rw[List.getElem?_eq_getElem (by omega)])⟩
theorem Ai {α:Type} {l:List α} {p:α->Bool} (hb:∀j,j<l.length->∀y,l[j]?=some y->p y=false):hY l p:=by
 have hm:∀x∈l,p x=false:=fun x hx=>by
  obtain⟨j,hj,rfl⟩:=Xg hx
  exact hb j hj _ (by rw[Wb])
 exact⟨by rw[List.any_eq_false]; intro x hx; simp[hm x hx],by rw[List.all_eq_true]; intro x hx; simp[hm x hx],by rw[List.find?_eq_none]; intro x hx; simp[hm x hx],by rw[List.findIdx?_eq_none_iff]; exact hm⟩
theorem W.find {α:Type} {a:AC} {s:St} {Q:Ex->St->Prop} (l:List α) (p:α->Bool) (S:Nat->St) (hs:s=S 0)
  (hr:∀k x,l[k]?=some x->k<l.length->(p x=true->Found l p k x)->W A Pr a (S k) (bB S (k+1) (p x) Q))
  (he:hY l p->W A Pr a (S l.length) (yp Q)):W A Pr (.loop a) s Q:=by
 refine W.fv l.length S (fun k=>∀j,j<k->∀y,l[j]?=some y->p y=false) hs (fun j hj=>absurd hj (Xo _)) fun k hk hi=>?_
 rcases Wh k l.length with h|h
 .obtain⟨x,hx⟩:∃x,l[k]?=some x:=⟨l[k],by simp[h]⟩
  obtain⟨ex,s',h1,h2⟩:=hr k x hx h (fun hp=>EE hi hx hp)
  refine⟨ex,s',h1,?_⟩
  cases ex with
  |normal=>
   refine .of h h2.2 fun j hj y hy=>?_
   rcases Wh j k with g|g
   .exact hi j g y hy
   .obtain rfl:j=k:=by omega
    rw[hx]at hy
    cases hy
    exact h2.1
  |exit i=>exact h2
  |ret=>exact h2
 .obtain rfl:k=l.length:=by omega
  obtain⟨ex,s',h1,h2⟩:=he (Ai hi)
  refine⟨ex,s',h1,?_⟩
  cases ex with
  |normal=>exact h2.elim
  |exit i=>exact h2
  |ret=>exact h2
def Aj (A:Nat->Option bA) (Pr:bm) (a:AC) (Q:Ex->St->Prop) (_t:nU (a,Q):=.mk):Ex->St->Prop
 |.normal,s=>W A Pr (.loop a) s Q
 |.exit i,s=>Q (.exit i) s
 |.ret,s=>Q .ret s
@[go_sem] theorem GA (a:AC) (Q:Ex->St->Prop) (s:St):Aj A Pr a Q .mk .normal s=W A Pr (.loop a) s Q:=rfl
@[go_sem] theorem IZ (a:AC) (Q:Ex->St->Prop) (i:Nat) (s:St):Aj A Pr a Q .mk (.exit i) s=Q (.exit i) s:=rfl
@[go_sem] theorem Mm (a:AC) (Q:Ex->St->Prop) (s:St):Aj A Pr a Q .mk .ret s=Q .ret s:=rfl
end Go.Pv
namespace Go.Pv
def tW (n b:Nat) (rows:List (List PV)):V:=if rows.length<=b then .tl rows else .own n (rows.length - b - 1) 0 rows.length
def CI (k b:Nat) (rows:List (List PV)):List aL:=if rows.length<=b then [] else [⟨rows.length - b - 1,k,.inl rows⟩]
theorem lW {n b:Nat} {rows:List (List PV)} (h:rows.length<=b):tW n b rows=.tl rows:=if_pos h
theorem lX {k b:Nat} {rows:List (List PV)} (h:rows.length<=b):CI k b rows=[]:=if_pos h
theorem j9 {n b m:Nat} {rows:List (List PV)} (h:rows.length=b+m+1):tW n b rows=.own n m 0 (b+m+1):=by
 unfold tW
 rw[if_neg (by omega),h,show b+m+1 - b - 1=m by omega]
theorem ka {k b m:Nat} {rows:List (List PV)} (h:rows.length=b+m+1):CI k b rows=[⟨m,k,.inl rows⟩]:=by
 unfold CI
 rw[if_neg (by omega),h,show b+m+1 - b - 1=m by omega]
theorem yq {b:Nat} {rows:List (List PV)}:rows.length<=b\/∃m,rows.length=b+m+1:=by
 rcases Wh b rows.length with h|h
 .exact .inr ⟨rows.length - b - 1,by omega⟩
 .exact .inl h
theorem EF {n b:Nat} {rows:List (List PV)} {r:List PV} (h:b<=rows.length):tW n b (rows++[r])=.own n (rows.length - b) 0 (rows.length+1):=by
 rw[j9 (m:=rows.length - b) (by simp; omega),show b+(rows.length - b)+1=rows.length+1 by omega]
theorem EG {k b:Nat} {rows:List (List PV)} {r:List PV} (h:b<=rows.length):CI k b (rows++[r])=[⟨rows.length - b,k,.inl (rows++[r])⟩]:=ka (by simp; omega)
def I0 (id ax off len k:Nat) (r:List PV) (a:aL):Option (V×Tn):=
 if off+len<=a.size/\a.k=k/\len+1<=aN then some (.own id (ax+1) 0 (len+1),{ ar:=some (id,⟨ax+1,k,aU (az off len a.body) (.inl [r])⟩) }) else none
theorem yr (h:aa) (id ax off len k:Nat) (r:List PV) (hr:r.length=k):aK h k (.own id ax off len) (.tl [r])=(aB h id ax).bind (I0 id ax off len k r):=by
 cases ho:aB h id ax with
 |none=>simp[aK,aW,aO,ho]
 |some a=>
  simp only[aK,aW,aO,ho,aD,I0,List.all_cons,List.all_nil,List.length_cons,List.length_nil,Option.bind_some,hr,beq_self_eq_true,Bool.and_self,if_true]
  by_cases h1:off+len<=a.size<;>by_cases h2:a.k=k<;>by_cases h3:len+1<=aN<;>simp[h1,h2,h3]
theorem EH {id ax len k:Nat} {r:List PV} {l:List (List PV)} (h1:len=l.length) (h2:l.length+1<=2147483648):I0 id ax 0 len k r ⟨ax,k,.inl l⟩=some (.own id (ax+1) 0 (len+1),{ ar:=some (id,⟨ax+1,k,.inl (l++[r])⟩) }):=by
 subst h1
 unfold I0
 rw[if_pos ⟨by simp[aL.size],rfl,h2⟩]
 simp[aU,az]
theorem wy (h:aa) (k:Nat) (rows:List (List PV)) (r:List PV) (hr:r.length=k) (hk:∀x∈rows,x.length=k) (hm:rows.length+1<=2147483648):aK h k (.tl rows) (.tl [r])=some (.own h.ar.length 0 0 (rows.length+1),{ push:=[⟨0,k,.inl (rows++[r])⟩],base:=h.ar.length }):=by
 have:(rows.all fun x=>x.length==k)=true:=by simpa using hk
 simp[aK,aW,aO,aD,aN,aU,hr,this,hm]
@[go_sem] theorem Tm (h:aa) (l:List Int) (x:Int) (hm:l.length+1<=2147483648):aK h 1 (.tl (ints l)) (.tl [[.int .i64 x]])=some (.own h.ar.length 0 0 (l.length+1),{ push:=[⟨0,1,.inl (ints (l++[x]))⟩],base:=h.ar.length }):=by
 rw[wy h 1 (ints l) [.int .i64 x] rfl (by simp[ints]) (by rw[bt]; exact hm),bt,lV]
@[go_sem] theorem To (h:aa) (n b:Nat) (rows:List (List PV)):ix h 0 (tW n b rows)=some (rows.length,{}):=by unfold tW; split<;>rfl
@[go_sem] theorem RJ (kb:List Nat) (n b:Nat) (rows:List (List PV)):dN kb (tW n b rows)=tW n b rows:=by unfold tW; split<;>rfl
@[go_sem] theorem Tp (h:aa) (n b:Nat) (rows:List (List PV)):keep h false (tW n b rows)=aY h 4 (tW n b rows):=by unfold tW; split<;>rfl
@[go_sem] theorem ae2 (h:aa) (n b:Nat) (rows:List (List PV)):cq h (tW n b rows)=aR h 4 (tW n b rows):=by unfold tW; split<;>rfl
def glG (b:Nat) (rows:List (List PV)):Nat:=if rows.length<=b then 0 else 1
theorem yu (bx:List (Nat×List V)) (mp:List (List (PV×PV))) (pre:List aL) (k b d:Nat) (rows:List (List PV)):aY ⟨bx,pre++CI k b rows,mp⟩ (d+1) (tW pre.length b rows)=some (.aq 0 rows):=by
 unfold tW CI
 split
 .rfl
 .simp[dS,aB,bO,az]
theorem ad9 (bx:List (Nat×List V)) (mp:List (List (PV×PV))) (pre:List aL) (k b d:Nat) (rows:List (List PV)):aR ⟨bx,pre++CI k b rows,mp⟩ (d+1) (tW pre.length b rows)=some (.aq (glG b rows) rows):=by
 unfold tW CI glG
 split
 .rfl
 .simp[aR,aB,az]
@[go_sem] theorem O5 (bx:List (Nat×List V)) (mp:List (List (PV×PV))) (k b:Nat) (rows:List (List PV)):aY ⟨bx,CI k b rows,mp⟩ 4 (tW 0 b rows)=some (.aq 0 rows):=yu bx mp [] k b 3 rows
@[go_sem] theorem O6 (bx:List (Nat×List V)) (mp:List (List (PV×PV))) (a:aL) (k b:Nat) (rows:List (List PV)):aY ⟨bx,a::CI k b rows,mp⟩ 4 (tW 1 b rows)=some (.aq 0 rows):=yu bx mp [a] k b 3 rows
@[go_sem] theorem aeS (bx:List (Nat×List V)) (mp:List (List (PV×PV))) (k b:Nat) (rows:List (List PV)):aR ⟨bx,CI k b rows,mp⟩ 4 (tW 0 b rows)=some (.aq (glG b rows) rows):=ad9 bx mp [] k b 3 rows
attribute [go_sem] Int.lt_irrefl
@[go_sem] theorem RK (r:Raw):r.c.length=2:=rfl
def wr (x:Int):Int:=IntKind.wrap .i64 x
def eu (acc:Int) (r:Raw):Int:=wr (wr (acc+1)+r.data.size)
def UH:Nat->List PV->Int
 |0,_=>0
 |n+1,cs=>match cs with
  |[_,_,_,.str s,_,.aq _ keys,.aq _ items,.aq _ rest]=>rest.foldl (fun acc r=>match r with|[_,.str d]=>wr (wr (acc+1)+d.size)|_=>acc) (items.foldl (fun acc r=>wr (acc+UH n r)) (keys.foldl (fun acc r=>wr (acc+UH n r)) (wr (1+s.size))))
  |_=>0
theorem fA (n:Nat) (v:dz):UH (n+1) v.c=v.rest.foldl eu (v.items.foldl (fun acc r=>wr (acc+UH n r)) (v.keys.foldl (fun acc r=>wr (acc+UH n r)) (wr (1+v.str.size)))):=by
 unfold dz.c
 simp only[UH]
 rw[List.foldl_map]
 rfl
theorem mu.len:∀{n:Nat} {cs:List PV},mu n cs->cs.length=8
 |0,_,h=>h.elim
 |_+1,_,h=>by
  obtain⟨v,rfl,_⟩:=h
  rfl
theorem mu.val {n:Nat} {cs:List PV} (h:mu n cs):∃w:dz,cs=w.c:=by
 cases n with
 |zero=>exact h.elim
 |succ n=>
  obtain⟨v,hv,_⟩:=h
  exact⟨v,hv⟩
set_option maxHeartbeats 2000000 in
theorem r282:∀(n:Nat) (cs:List PV),mu n cs->res A aA 282 [.agg cs]=some [.int .i64 (UH n cs)]
 |0,cs,h=>h.elim
 |n+1,cs,h=>by
  obtain⟨v,rfl,⟨h1,h2,h3,h4⟩,⟨h5,h6,h7⟩,h8,h9,h10⟩:=h
  have ih:=r282 n
  rw[fA]
  unfold bP at h5 h6 h7
  unfold bC at h3
  obtain⟨kind,bool,int,str,id,keys,items,rest⟩:=v
  unfold dz.c
  dsimp only at *
  refine aw a282 rfl rfl ?_
  simp only[F282,iL]
  simp(disch:=omega)only[go_sem]
  refine W.fold keys (fun acc r=>wr (acc+UH n r)) (wr (1+str.size)) (fun k acc=>⟨[(1,.ptr 1 0),(3,.pv (.int .i64 acc)),(4,.pv (.int .i64 k))],⟨[(1,[.pv (.int .i64 kind),.pv (.bool bool),.pv (.int .i64 int),.pv (.str str),.pv (.int .i64 id),.pv (.aq 0 keys),.pv (.aq 0 items),.pv (.aq 0 (rest.map Raw.c))])],[],[]⟩⟩) (fun _ _=>True) rfl trivial (fun k r acc hr hk _ _=>?_) (fun acc hacc _=>?_)
  .have hv:=h8 r (Wa hr)
   obtain⟨w,rfl⟩:=hv.val
   have hi:=ih _ hv
   generalize UH n w.c=z at hi |-
   unfold dz.c at hi hr
   simp(disch:=omega)only[go_sem]
   refine Br.aJ (fun h=>?_) (fun h=>(h (by omega)).elim)
   simp(disch:=omega)only[go_sem,hr,hi]
   exact cW.of rfl trivial
  .simp(disch:=omega)only[go_sem]
   refine W.fold items (fun acc r=>wr (acc+UH n r)) acc (fun k acc=>⟨[(1,.ptr 1 0),(3,.pv (.int .i64 acc)),(5,.pv (.int .i64 k))],⟨[(1,[.pv (.int .i64 kind),.pv (.bool bool),.pv (.int .i64 int),.pv (.str str),.pv (.int .i64 id),.pv (.aq 0 keys),.pv (.aq 0 items),.pv (.aq 0 (rest.map Raw.c))])],[],[]⟩⟩) (fun _ _=>True) rfl trivial (fun k r acc hr hk _ _=>?_) (fun acc2 hacc2 _=>?_)
   .have hv:=h9 r (Wa hr)
    obtain⟨w,rfl⟩:=hv.val
    have hi:=ih _ hv
    generalize UH n w.c=z at hi |-
    unfold dz.c at hi hr
    simp(disch:=omega)only[go_sem]
    refine Br.aJ (fun h=>?_) (fun h=>(h (by omega)).elim)
    simp(disch:=omega)only[go_sem,hr,hi]
    exact cW.of rfl trivial
   .simp(disch:=omega)only[go_sem]
    refine W.fold rest eu acc2 (fun k acc=>⟨[(1,.ptr 1 0),(3,.pv (.int .i64 acc)),(6,.pv (.int .i64 k))],⟨[(1,[.pv (.int .i64 kind),.pv (.bool bool),.pv (.int .i64 int),.pv (.str str),.pv (.int .i64 id),.pv (.aq 0 keys),.pv (.aq 0 items),.pv (.aq 0 (rest.map Raw.c))])],[],[]⟩⟩) (fun _ _=>True) rfl trivial (fun k r acc hr hk _ _=>?_) (fun acc3 hacc3 _=>?_)
    .have hrk:=(h10 r (Wa hr)).2
     unfold bC at hrk
     simp(disch:=omega)only[go_sem]
     refine Br.aJ (fun h=>?_) (fun h=>(h (by omega)).elim)
     simp(disch:=omega)only[go_sem,hr,Raw.c]
     exact cW.of rfl trivial
    .simp(disch:=omega)only[go_sem]
     rw[hacc3,hacc2,hacc]
@[go_sem] theorem RL (t:aH):t.c.length=10:=rfl
@[go_sem] theorem RM (t:Mem):t.c.length=13:=rfl
@[go_sem] theorem RN (t:Sym):t.c.length=2:=rfl
open Classical in
noncomputable def VI (cs:List PV):Int:=if h:∃n,mu n cs then UH (Classical.choose h) cs else 0
theorem r282v {cs:List PV} (h:∃n,mu n cs):res A aA 282 [.agg cs]=some [.int .i64 (VI cs)]:=by
 unfold VI
 rw[dif_pos h]
 exact r282 _ cs (Classical.choose_spec h)
noncomputable def UI (acc:Int) (m:Mem):Int:=wr (wr (acc+VI m.ib.c)+m.name.size)
noncomputable def UJ (acc:Int) (t:aH):Int:=(t.bc.take 100).foldl UI (wr (wr (wr (acc+t.bc.length)+t.syms.length)+t.name.size))
noncomputable def zn (l:List aH):Bool:=decide ((l.length:Int)<=40)&&decide (l.foldl UJ 0<=400)
theorem fB {l:List aH} (h:zn l=true):l.length<=40:=by
 simp[zn]at h
 omega
set_option maxHeartbeats 4000000 in
theorem r266 (u:Nat) (l:List aH) (ho:∀t∈l,t.ok):res A aA 266 [.agg [.aq u (l.map aH.c)]]=some [.bool (zn l)]:=by
 refine aw a266 rfl rfl ?_
 simp only[F266,iK]
 simp(disch:=omega)only[go_sem]
 refine Br.aJ (fun h40=>?_) (fun h40=>?_)<;>simp(disch:=omega)only[go_sem,h40]
 .have:¬(l.length:Int)<=40:=by omega
  simp[zn,this]
 refine W.fold l UJ 0 (fun k acc=>⟨[(1,.ptr 1 0),(3,.pv (.int .i64 acc)),(4,.pv (.int .i64 k))],⟨[(1,[.pv (.aq u (l.map aH.c))])],[],[]⟩⟩) (fun _ _=>True) rfl trivial (fun k t acc ht hk _ _=>?_) (fun acc hacc _=>?_)
 .obtain⟨⟨_,t2,_⟩,⟨t3,t4⟩,_,t5⟩:=ho t (Wa ht)
  unfold bC at t2
  unfold bP at t3 t4
  simp(disch:=omega)only[go_sem]
  refine Br.aJ (fun h=>?_) (fun h=>(h (by omega)).elim)
  simp(disch:=omega)only[go_sem,ht,aH.c]
  refine W.fold (t.bc.take 100) UI (wr (wr (wr (acc+t.bc.length)+t.syms.length)+t.name.size)) (fun j n=>⟨[(1,.ptr 1 0),(3,.pv (.int .i64 n)),(4,.pv (.int .i64 k)),(5,.ptr 5 0),(6,.pv (.int .i64 j))],⟨[(1,[.pv (.aq u (l.map aH.c))]),(5,t.c.map .pv)],[],[]⟩⟩) (fun _ _=>True) rfl trivial (fun j m n hm hj _ _=>?_) (fun n hn _=>?_)
  .have hj':j<100/\j<t.bc.length:=by rw[W8]at hj; omega
   have hm:t.bc[j]?=some m:=by
    rw[Wy,if_pos hj'.1]at hm
    exact hm
   obtain⟨_,m2,_,m3⟩:=t5 m (Wa hm)
   unfold bC at m2
   have hsz:=r282v m3
   generalize hz:VI m.ib.c=z at hsz
   unfold dz.c at hsz
   unfold aH.c
   simp(disch:=omega)only[go_sem,List.map_cons,List.map_nil]
   refine Br.aJ (fun c=>?_) (fun c=>(c (by omega)).elim)
   simp(disch:=omega)only[go_sem,c]
   refine Br.aJ (fun c2=>?_) (fun c2=>(c2 (by omega)).elim)
   simp(disch:=omega)only[go_sem,hm,Mem.c,hsz]
   refine cW.of ?_ trivial
   show _=St.mk _ _
   unfold UI
   rw[hz]
   rfl
  .have hlen:¬((t.bc.take 100).length<100/\(t.bc.take 100).length<t.bc.length):=by rw[W8]; omega
   have hle:(t.bc.take 100).length<=t.bc.length:=by rw[W8]; omega
   have hl1:(t.bc.take 100).length<=100:=by rw[W8]; omega
   generalize (t.bc.take 100).length=j at hlen hle hl1
   unfold aH.c
   simp(disch:=omega)only[go_sem,List.map_cons,List.map_nil]
   have fin:(⟨[(1,.ptr 1 0),(3,.pv (.int .i64 n)),(4,.pv (.int .i64 (k+1)))],⟨[(1,[.pv (.aq u (l.map aH.c))])],[],[]⟩⟩:St)=⟨[(1,.ptr 1 0),(3,.pv (.int .i64 (UJ acc t))),(4,.pv (.int .i64 ((k+1:Nat):Int)))],⟨[(1,[.pv (.aq u (l.map aH.c))])],[],[]⟩⟩:=by
    rw[hn]
    rfl
   refine Br.aJ (fun c=>?_) (fun c=>?_)<;>simp(disch:=omega)only[go_sem,c]
   .refine Br.aJ (fun c2=>(hlen (by omega)).elim) (fun c2=>?_)
    simp(disch:=omega)only[go_sem,c2]
    exact cW.of fin trivial
   .exact cW.of fin trivial
 .simp(disch:=omega)only[go_sem]
  have h4:(l.length:Int)<=40:=by omega
  simp[zn,h4,hacc]
def CJ (x:Int):Bool:=decide (x=95)||(decide (97<=x)&&decide (x<=122))||(decide (65<=x)&&decide (x<=90))
def EI (x:Int):Bool:=decide (48<=x)&&decide (x<=57)
theorem EJ {p:Bool} (h:p=true):(some [PV.bool true]:Option (List PV))=some [PV.bool p]:=by rw[h]
theorem lY {p:Bool} (h:p=false):(some [PV.bool false]:Option (List PV))=some [PV.bool p]:=by rw[h]
@[go_sem] theorem r323 (x:Int):res A aA 323 [.int .u8 x]=some [.bool (CJ x)]:=by
 refine aw a323 rfl rfl ?_
 simp only[F323,KV]
 simp(disch:=omega)only[go_sem]
 unfold CJ
 repeat' (refine Br.aJ (fun h=>?_) (fun h=>?_)<;>simp(disch:=omega)only[go_sem,h])
 all_goals (congr 3; rw[Bool.eq_iff_iff]; simp; omega)
@[go_sem] theorem r324 (x:Int):res A aA 324 [.int .u8 x]=some [.bool (EI x)]:=by
 refine aw a324 rfl rfl ?_
 simp only[F324,KW]
 simp(disch:=omega)only[go_sem]
 unfold EI
 repeat' (refine Br.aJ (fun h=>?_) (fun h=>?_)<;>simp(disch:=omega)only[go_sem,h])
 all_goals (congr 3; rw[Bool.eq_iff_iff]; simp; omega)
@[go_sem] theorem r327 (x:Int):res A aA 327 [.int .u8 x]=some [.bool (CJ x)]:=by
 refine aw a327 rfl rfl ?_
 simp only[F327,aar]
 simp(disch:=omega)only[go_sem]
 unfold CJ
 repeat' (refine Br.aJ (fun h=>?_) (fun h=>?_)<;>simp(disch:=omega)only[go_sem,h])
 all_goals (congr 3; rw[Bool.eq_iff_iff]; simp; omega)
@[go_sem] theorem r328 (x:Int):res A aA 328 [.int .u8 x]=some [.bool (EI x)]:=by
 refine aw a328 rfl rfl ?_
 simp only[F328,aas]
 simp(disch:=omega)only[go_sem]
 unfold EI
 repeat' (refine Br.aJ (fun h=>?_) (fun h=>?_)<;>simp(disch:=omega)only[go_sem,h])
 all_goals (congr 3; rw[Bool.eq_iff_iff]; simp; omega)
def mV (s:ByteArray):List Int:=s.data.toList.map fun b=>(b.toNat:Int)
theorem sJ (s:ByteArray):(mV s).length=s.size:=by
 show (s.data.toList.map _).length=s.data.size
 rw[Wg,Xf]
theorem EK {s:ByteArray} {i:Int} {x:Int} (h0:0<=i) (h:(mV s)[i.toNat]?=some x):G3 (some i) (.pv (.str s))=some (.pv (.int .u8 x)):=by
 have hlt:=(V9.1 h).1
 rw[sJ]at hlt
 have h1:s[i.toNat]?=some (s[i.toNat]'hlt):=getElem?_pos s i.toNat hlt
 simp only[G3,wo h0 (show i<(s.size:Int) by omega),h1]
 simp only[mV,List.getElem?_map]at h
 have h2:s.data.toList[i.toNat]?=some (s[i.toNat]'hlt):=by
  rw[Wo]
  exact XL hlt
 rw[h2]at h
 simp only[Option.map_some,Option.some.injEq]at h
 rw[h]
def uO:List Int->Bool
 |[]=>false
 |x::r=>decide ((x::r).length<=24)&&CJ x&&!(x::r).any fun y=>!CJ y&&!EI y
def isName (s:ByteArray):Bool:=uO (mV s)
theorem r306 (s:ByteArray) (hs:bC s):res A aA 306 [.str s]=some [.bool (isName s)]:=by
 refine aw a306 rfl rfl ?_
 simp only[F306,KN]
 simp(disch:=omega)only[go_sem]
 refine Br.aJ (fun e=>?_) (fun e=>?_)<;>simp(disch:=omega)only[go_sem,e]
 .rfl
 have hb:=sJ s
 unfold bC at hs
 unfold isName
 generalize hl:mV s=l at hb
 cases l with
 |nil=>exact(e (by
   obtain⟨⟨d⟩⟩:=s
   simp only[ByteArray.size,List.size_toArray,List.length_nil]at hb
   rw[Wp hb.symm])).elim
 |cons x r=>
  have hx:(mV s)[(0:Int).toNat]?=some x:=by rw[hl]; rfl
  have h0:=EK (XS 0) hx
  refine Br.aJ (fun e2=>?_) (fun e2=>?_)<;>simp(disch:=omega)only[go_sem,e2]
  .refine lY ?_
   have:¬(x::r).length<=24:=by omega
   simp only[uO,this,decide_false,Bool.false_and]
  simp(disch:=omega)only[go_sem,h0]
  refine Br.of (fun e3=>?_) (fun e3=>?_)<;>simp(disch:=omega)only[go_sem,e3]
  rotate_left
  .refine lY ?_
   simp only[uO,e3,Bool.and_false,Bool.false_and]
  .refine W.find (x::r) (fun y=>!CJ y&&!EI y) (fun k=>⟨[(0,.pv (.str s)),(18,.pv (.int .i64 s.size)),(19,.pv (.int .i64 k))],⟨[],[],[]⟩⟩) rfl (fun k y hy hk hfd=>?_) (fun hn=>?_)
   .have hy':(mV s)[(k:Int).toNat]?=some y:=by rw[hl,WX]; exact hy
    have hk':=EK (Int.natCast_nonneg k) hy'
    simp(disch:=omega)only[go_sem]
    refine Br.aJ (fun c=>?_) (fun c=>(c (by omega)).elim)
    simp(disch:=omega)only[go_sem,hk']
    have done:(!CJ y&&!EI y)=true->(some [PV.bool false]:Option (List PV))=some [.bool (uO (x::r))]:=fun g=>by
     refine lY ?_
     simp only[uO,(hfd g).any,Bool.not_true,Bool.and_false]
    refine Br.of (fun g=>?_) (fun g=>?_)<;>simp(disch:=omega)only[go_sem,hk',g]
    .exact bB.of (by simp[g]) rfl
    .refine Br.of (fun g2=>?_) (fun g2=>?_)<;>simp(disch:=omega)only[go_sem,g2]
     .exact bB.of (by simp[g2]) rfl
     .exact done (by simp[g,g2])
   .simp(disch:=omega)only[go_sem,hb]
    refine EJ ?_
    have h24:(x::r).length<=24:=by omega
    simp only[uO,h24,e3,hn.any,decide_true,Bool.not_false,Bool.and_self]
theorem r310 (s:ByteArray) (hs:bC s):res A aA 310 [.str s]=some [.bool (isName s)]:=by
 refine aw a310 rfl rfl ?_
 simp only[F310,aan]
 simp(disch:=omega)only[go_sem]
 refine Br.aJ (fun e=>?_) (fun e=>?_)<;>simp(disch:=omega)only[go_sem,e]
 .rfl
 have hb:=sJ s
 unfold bC at hs
 unfold isName
 generalize hl:mV s=l at hb
 cases l with
 |nil=>exact(e (by
   obtain⟨⟨d⟩⟩:=s
   simp only[ByteArray.size,List.size_toArray,List.length_nil]at hb
   rw[Wp hb.symm])).elim
 |cons x r=>
  have hx:(mV s)[(0:Int).toNat]?=some x:=by rw[hl]; rfl
  have h0:=EK (XS 0) hx
  refine Br.aJ (fun e2=>?_) (fun e2=>?_)<;>simp(disch:=omega)only[go_sem,e2]
  .refine lY ?_
   have:¬(x::r).length<=24:=by omega
   simp only[uO,this,decide_false,Bool.false_and]
  simp(disch:=omega)only[go_sem,h0]
  refine Br.of (fun e3=>?_) (fun e3=>?_)<;>simp(disch:=omega)only[go_sem,e3]
  rotate_left
  .refine lY ?_
   simp only[uO,e3,Bool.and_false,Bool.false_and]
  .refine W.find (x::r) (fun y=>!CJ y&&!EI y) (fun k=>⟨[(0,.pv (.str s)),(3,.pv (.int .i64 k))],⟨[],[],[]⟩⟩) rfl (fun k y hy hk hfd=>?_) (fun hn=>?_)
   .have hy':(mV s)[(k:Int).toNat]?=some y:=by rw[hl,WX]; exact hy
    have hk':=EK (Int.natCast_nonneg k) hy'
    simp(disch:=omega)only[go_sem]
    refine Br.aJ (fun c=>?_) (fun c=>(c (by omega)).elim)
    simp(disch:=omega)only[go_sem,hk']
    have done:(!CJ y&&!EI y)=true->(some [PV.bool false]:Option (List PV))=some [.bool (uO (x::r))]:=fun g=>by
     refine lY ?_
     simp only[uO,(hfd g).any,Bool.not_true,Bool.and_false]
    refine Br.of (fun g=>?_) (fun g=>?_)<;>simp(disch:=omega)only[go_sem,hk',g]
    .exact bB.of (by simp[g]) rfl
    .refine Br.of (fun g2=>?_) (fun g2=>?_)<;>simp(disch:=omega)only[go_sem,g2]
     .exact bB.of (by simp[g2]) rfl
     .exact done (by simp[g,g2])
   .simp(disch:=omega)only[go_sem,hb]
    refine EJ ?_
    have h24:(x::r).length<=24:=by omega
    simp only[uO,h24,e3,hn.any,decide_true,Bool.not_false,Bool.and_self]
def iT (l:List ByteArray):List (PV×PV):=l.map fun s=>(.str s,.bool true)
def kA (x:ByteArray) (l:List ByteArray):Option (Nat×PV):=(l.findIdx? fun s=>decide (s=x)).map fun i=>(i,.bool true)
def cY (l:List ByteArray) (x:ByteArray):Bool:=l.any fun s=>decide (s=x)
theorem eI {l:List ByteArray} {x:ByteArray}:cY l x=true↔x∈l:=by simp[cY]
def pK (l:List ByteArray) (x:ByteArray):List ByteArray:=if cY l x=true then l else l++[x]
theorem EL {l:List ByteArray} {x y:ByteArray}:y∈pK l x↔y∈l\/y=x:=by
 unfold pK
 split
 .rename_i h
  rw[eI]at h
  constructor
  .exact .inl
  .rintro (h1|rfl)
   .exact h1
   .exact h
 .simp
theorem uP (a b:ByteArray):iw false [2] (.str a) (.str b)=some (decide (a=b)):=by
 show bd [2] [.str a] [.str b]=_
 rw[qq,G8,Ab]
 simp
theorem qx (x:ByteArray):∀(l:List ByteArray) (i:Nat),findKey false [2] (.str x) (iT l) i=some ((kA x l).map fun p=>(p.1+i,p.2))
 |[],i=>by
  show (if (iw false [2] (.str x) (.str x)).isSome then some none else none)=_
  rw[uP]
  rfl
 |y::l,i=>by
  show (match iw false [2] (.str x) (.str y)with
   |some true=>some (some (i,PV.bool true))
   |some false=>findKey false [2] (.str x) (iT l) (i+1)
   |none=>none)=_
  rw[uP]
  by_cases h:x=y
  .subst h
   simp[kA,List.findIdx?_cons]
  .have h':¬y=x:=fun e=>h e.symm
   simp only[h,decide_false]
   rw[qx x l (i+1)]
   simp only[kA,List.findIdx?_cons,h',decide_false]
   cases l.findIdx? fun s=>decide (s=x)with
   |none=>rfl
   |some j=>simp; omega
@[go_sem] theorem Ak (x:ByteArray) (l:List ByteArray):findKey false [2] (.str x) (iT l) 0=some (kA x l):=by
 rw[qx]
 cases kA x l<;>rfl
theorem sK {x:ByteArray} {l:List ByteArray}:(kA x l).isSome=true↔x∈l:=by
 unfold kA
 rw[Option.isSome_map,List.findIdx?_isSome,Xm]
 simp
@[go_sem] theorem I1 (x:ByteArray) (l:List ByteArray):pD (.pv (.bool false)) false (kA x l)=.pv (.bool (cY l x)):=by
 have h:=sK (x:=x) (l:=l)
 rw[<- eI]at h
 cases hl:kA x l with
 |none=>
  rw[hl]at h
  have:cY l x=false:=by
   cases hx:cY l x with
   |false=>rfl
   |true=>simpa using h.2 hx
  simp[pD,this]
 |some p=>
  rw[hl]at h
  have hx:cY l x=true:=h.1 rfl
  have hp:p.2=.bool true:=by
   unfold kA at hl
   obtain⟨i,_,rfl⟩:=Wx.1 hl
   rfl
  simp[pD,hx,hp]
@[go_sem] theorem O7 (x:ByteArray) (l:List ByteArray) (id:Nat):wm false [2] (.str x) (.bool true) id (iT l)=some { mp:=some (id,iT (pK l x)) }:=by
 unfold wm
 rw[Ak]
 have h:=sK (x:=x) (l:=l)
 rw[<- eI]at h
 cases hl:kA x l with
 |none=>
  rw[hl]at h
  have:cY l x=false:=by
   cases hx:cY l x with
   |false=>rfl
   |true=>simpa using h.2 hx
  simp[pK,this,iT]
 |some p=>
  rw[hl]at h
  have hx:cY l x=true:=h.1 rfl
  unfold kA at hl
  obtain⟨i,hi,rfl⟩:=Wx.1 hl
  obtain⟨h1,h2,_⟩:=Ww.1 hi
  have h3:l[i]=x:=by simpa using h2
  simp only[pK,hx,if_true]
  congr 4
  apply WW
  intro j
  rw[afz]
  split
  .rename_i hj
   subst hj
   simp[iT,h1,h3]
  .rfl
def strs (l:List ByteArray):List (List PV):=l.map fun s=>[.str s]
@[go_sem] theorem fq (l:List ByteArray):(strs l).length=l.length:=by simp[strs]
@[go_sem] theorem RO (l:List ByteArray) (i:Nat):(strs l)[i]?=l[i]?.map fun s=>[.str s]:=by simp[strs]
theorem pL (l:List ByteArray) (x:ByteArray):strs l++[[.str x]]=strs (l++[x]):=by simp[strs]
abbrev Nm:=Int×ByteArray
def oo (l:List Nm) (k:Nat):Int:=((l[k - 1]?).map (·.1)).getD 0
def jg (l:List Nm) (k:Nat) (p:Nm):Bool:=decide (p.1<1)||decide (1000<p.1)||(decide (0<k)&&decide (p.1<=oo l k))||cY ((l.map (·.2)).take k) p.2||!isName p.2
def uQ (l:List Nm) (k:Nat):Bool:=match l[k]? with
 |some p=>jg l k p
 |none=>false
def mw (l:List Nm):Bool:=!(List.range l.length).any (uQ l)
theorem ey {n k x:Nat} (h:(List.range n)[k]?=some x):x=k/\k<n:=by
 obtain⟨h1,h2⟩:=V9.1 h
 simp at h1 h2
 exact⟨h2.symm,h1⟩
set_option maxHeartbeats 1000000 in
theorem r325 (t u:Nat) (l:List Nm) (hl:l.length<=2^63 - 1) (hs:∀p∈l,bC p.2):res A aA 325 [.aq t (ints (l.map (·.1))),.aq u (strs (l.map (·.2)))]=some [.bool (mw l&&decide (l.length<=16))]:=by
 refine aw a325 rfl rfl ?_
 simp only[F325,KX]
 simp(disch:=omega)only[go_sem]
 refine W.find (List.range l.length) (uQ l) (fun k=>⟨[(0,.pv (.aq t (ints (l.map (·.1))))),(1,.pv (.aq u (strs (l.map (·.2))))),(5,.map 0),(9,.pv (.aq t (ints (l.map (·.1))))),(10,.pv (.int .i64 l.length)),(11,.pv (.int .i64 k))],⟨[],[],[iT ((l.map (·.2)).take k)]⟩⟩) ?_ (fun k x hx hk hfd=>?_) (fun hn=>?_)
 .simp[iT]
 .obtain⟨rfl,hk⟩:=ey hx
  have hp:=Wb hk
  generalize l[x]=p at hp
  have h1:(l.map (·.1))[x]?=some p.1:=by rw[Wf,hp]; rfl
  have h2:(l.map (·.2))[x]?=some p.2:=by rw[Wf,hp]; rfl
  have hnm:=r306 p.2 (hs p (Wa hp))
  have hb:uQ l x=jg l x p:=by simp only[uQ,hp]
  have done:jg l x p=true->(some [PV.bool false]:Option (List PV))=some [PV.bool (mw l&&decide (l.length<=16))]:=fun g=>by
   refine lY ?_
   rw[<- hb]at g
   simp only[mw,(hfd g).any,Bool.not_true,Bool.false_and]
  rw[hb]
  have hins:cY ((l.map (·.2)).take x) p.2=false->pK ((l.map (·.2)).take x) p.2=(l.map (·.2)).take (x+1):=fun h=>by
   rw[pK,h,WL,Wf,hp]
   rfl
  simp(disch:=omega)only[go_sem]
  refine Br.aJ (fun c=>?_) (fun c=>(c (by omega)).elim)
  simp(disch:=omega)only[go_sem,h1]
  refine Br.aJ (fun c1=>?_) (fun c1=>?_)<;>simp(disch:=omega)only[go_sem,c1]
  .exact done (by simp[jg,c1])
  refine Br.aJ (fun c2=>?_) (fun c2=>?_)<;>simp(disch:=omega)only[go_sem,c2]
  .exact done (by simp[jg,c2])
  have fin:(decide (0<x)&&decide (p.1<=oo l x))=false->jg l x p=(cY ((l.map (·.2)).take x) p.2||!isName p.2):=fun g=>by
   have d1:decide (p.1<1)=false:=by simp; omega
   have d2:decide (1000<p.1)=false:=by simp; omega
   simp only[jg,d1,d2,g,Bool.false_or]
  have hx1:0<x->(l.map (·.1))[x - 1]?=some (oo l x):=fun h=>by
   have hq:l[x - 1]?=some (l[x - 1]'(by omega)):=Wb (by omega)
   rw[Wf,oo,hq]
   rfl
  have hcast:0<x->(x:Int) - 1=((x - 1:Nat):Int):=fun h=>by omega
  refine Br.aJ (fun c3=>?_) (fun c3=>?_)<;>simp(disch:=omega)only[go_sem,c3]
  .have hq:l[x - 1]?=some (l[x - 1]'(by omega)):=Wb (by omega)
   have hpv:(l[x - 1]'(by omega)).1=oo l x:=by rw[oo,hq]; rfl
   simp(disch:=omega)only[go_sem,hcast (by omega),hq,hpv]
   refine Br.aJ (fun c4=>?_) (fun c4=>?_)<;>simp(disch:=omega)only[go_sem,c4,hp]
   .exact done (by simp[jg,c4,show 0<x by omega])
   refine Br.of (fun c5=>?_) (fun c5=>?_)<;>simp(disch:=omega)only[go_sem,c5,hnm,hp]
   .exact done (by simp[jg,c5])
   refine Br.of (fun c6=>?_) (fun c6=>?_)<;>simp(disch:=omega)only[go_sem,c6,hp]
   .refine bB.of ?_ ?_
    .rw[fin (by simp; omega),c5,c6]
     rfl
    .rw[hins c5]
     rfl
   .exact done (by simp[jg,c6])
  .simp(disch:=omega)only[go_sem,hp]
   refine Br.of (fun c5=>?_) (fun c5=>?_)<;>simp(disch:=omega)only[go_sem,c5,hnm,hp]
   .exact done (by simp[jg,c5])
   refine Br.of (fun c6=>?_) (fun c6=>?_)<;>simp(disch:=omega)only[go_sem,c6,hp]
   .refine bB.of ?_ ?_
    .rw[fin (by simp; omega),c5,c6]
     rfl
    .rw[hins c5]
     rfl
   .exact done (by simp[jg,c6])
 .rw[WI]
  simp(disch:=omega)only[go_sem]
  simp[mw,hn.any]
  omega
open Classical in
noncomputable def eqv {α:Type} (a b:α):Bool:=decide (a=b)
theorem fI {α:Type} (a:α):eqv a a=true:=by simp[eqv]
theorem fJ {α:Type} {a b:α} (h:a≠b):eqv a b=false:=by simp[eqv,h]
theorem bY {α:Type} {a b:α}:eqv a b=true↔a=b:=by simp[eqv]
theorem mW {α:Type} {a b:α}:eqv a b=false↔a≠b:=by simp[eqv]
theorem hY.eq {α:Type} {l m:List α} (hl:l.length=m.length) (h:hY (l.zip m) fun q=>!eqv q.1 q.2):l=m:=by
 have ha:=h.any
 rw[WY]at ha
 apply afC hl
 intro i h1 h2
 have hm:(l[i],m[i])∈l.zip m:=Wa (Xv.2 ⟨Wb h1,Wb h2⟩)
 have:=ha _ hm
 simpa [bY]using this
theorem Found.ne {α:Type} {l m:List α} {k:Nat} {x:α×α} (h:Found (l.zip m) (fun q=>!eqv q.1 q.2) k x):eqv l m=false:=by
 rw[mW]
 rintro rfl
 have ha:=h.any
 rw[Xm]at ha
 obtain⟨q,hq,hn⟩:=ha
 obtain⟨i,hi⟩:=Wd.1 hq
 obtain⟨h1,h2⟩:=Xv.1 hi
 have:q.1=q.2:=Option.some.inj (h1.symm.trans h2)
 rw[this,fI]at hn
 cases hn
theorem jh {α:Type} {l m:List α} {k:Nat} {q:α×α} (h:(l.zip m)[k]?=some q):l[k]?=some q.1/\m[k]?=some q.2:=Xv.1 h
theorem Hr {α β:Type} {f:α->β} (hf:∀x y,f x=f y->x=y) (l m:List α):eqv (l.map f) (m.map f)=eqv l m:=by
 rw[Xb,bY,bY]
 refine⟨fun h=>?_,fun h=>by rw[h]⟩
 induction l generalizing m with
 |nil=>cases m with
  |nil=>rfl
  |cons y m=>simp at h
 |cons x l ih=>cases m with
  |nil=>simp at h
  |cons y m=>
   simp only[List.map_cons,List.cons.injEq]at h
   rw[hf _ _ h.1,ih _ h.2]
theorem Raw.EM (x y:Raw) (h:x.c=y.c):x=y:=by
 obtain⟨a,b⟩:=x
 obtain⟨c,d⟩:=y
 simp only[Raw.c,List.cons.injEq,PV.int.injEq,PV.str.injEq,true_and,and_true]at h
 rw[h.1,h.2]
theorem Hs (x y:Sym):eqv x y=(decide (x.id=y.id)&&decide (x.name=y.name)):=by
 obtain⟨a,b⟩:=x
 obtain⟨c,d⟩:=y
 simp[eqv]
theorem Ht (x y:Raw):eqv x y=(decide (x.id=y.id)&&decide (x.data=y.data)):=by
 obtain⟨a,b⟩:=x
 obtain⟨c,d⟩:=y
 simp[eqv]
theorem dA {α:Type} {l m:List α} (h:l.length=m.length):(l.zip m).length=l.length:=by simp[h]
theorem r317 (t u:Nat) (l m:List Sym) (hl:l.length<=2^63 - 1) (_hm:m.length<=2^63 - 1):res A aA 317 [.aq t (l.map Sym.c),.aq u (m.map Sym.c)]=some [.bool (eqv l m)]:=by
 refine aw a317 rfl rfl ?_
 simp only[F317,KQ]
 simp(disch:=omega)only[go_sem]
 refine Br.aJ (fun h=>?_) (fun h=>?_)<;>simp(disch:=omega)only[go_sem]
 .refine W.find (l.zip m) (fun q=>!eqv q.1 q.2) (fun k=>⟨[(0,.pv (.aq t (l.map Sym.c))),(1,.pv (.aq u (m.map Sym.c))),(12,.pv (.int .i64 l.length)),(13,.pv (.int .i64 k))],⟨[],[],[]⟩⟩) rfl (fun k q hq hk hfd=>?_) (fun hn=>?_)
  .obtain⟨h1,h2⟩:=jh hq
   rw[dA (by omega)]at hk
   simp(disch:=omega)only[go_sem]
   refine Br.aJ (fun c=>?_) (fun c=>(c (by omega)).elim)
   simp(disch:=omega)only[go_sem,h1,h2,Sym.c]
   rw[<- Hs]
   refine Br.of (fun g=>?_) (fun g=>?_)<;>simp(disch:=omega)only[go_sem]
   .exact bB.of (by rw[g]; rfl) rfl
   .rw[(hfd (by rw[g]; rfl)).ne]
  .have hz:(l.zip m).length=l.length:=dA (by omega)
   rw[hz]
   simp(disch:=omega)only[go_sem]
   rw[hn.eq (by omega),fI]
 .rw[fJ (fun e=>h (by rw[e]))]
theorem r333 (t u:Nat) (l m:List Raw) (hl:l.length<=2^63 - 1) (_hm:m.length<=2^63 - 1):res A aA 333 [.aq t (l.map Raw.c),.aq u (m.map Raw.c)]=some [.bool (eqv l m)]:=by
 refine aw a333 rfl rfl ?_
 simp only[F333,KZ]
 simp(disch:=omega)only[go_sem]
 refine Br.aJ (fun h=>?_) (fun h=>?_)<;>simp(disch:=omega)only[go_sem]
 .refine W.find (l.zip m) (fun q=>!eqv q.1 q.2) (fun k=>⟨[(0,.pv (.aq t (l.map Raw.c))),(1,.pv (.aq u (m.map Raw.c))),(12,.pv (.int .i64 l.length)),(13,.pv (.int .i64 k))],⟨[],[],[]⟩⟩) rfl (fun k q hq hk hfd=>?_) (fun hn=>?_)
  .obtain⟨h1,h2⟩:=jh hq
   rw[dA (by omega)]at hk
   simp(disch:=omega)only[go_sem]
   refine Br.aJ (fun c=>?_) (fun c=>(c (by omega)).elim)
   simp(disch:=omega)only[go_sem,h1,h2,Raw.c]
   rw[<- Ht]
   refine Br.of (fun g=>?_) (fun g=>?_)<;>simp(disch:=omega)only[go_sem]
   .exact bB.of (by rw[g]; rfl) rfl
   .rw[(hfd (by rw[g]; rfl)).ne]
  .have hz:(l.zip m).length=l.length:=dA (by omega)
   rw[hz]
   simp(disch:=omega)only[go_sem]
   rw[hn.eq (by omega),fI]
 .rw[fJ (fun e=>h (by rw[e]))]
@[go_sem] theorem RP (v:dz):v.c.length=8:=rfl
theorem r334g {f:Nat} (hcw:∀(vs:List V) (h:aa) (K:V->Tn->Prop),CW A aA f vs h K=CN A aA false f vs h K) (t u:Nat) (l m:List (List PV)) (hl:l.length<=2^63 - 1) (_hm:m.length<=2^63 - 1) (vl:∀r∈l,∃v:dz,r=v.c) (vm:∀r∈m,∃v:dz,r=v.c)
  (hr:∀r∈l,∀q∈m,res A aA f [.agg r,.agg q]=some [.bool (eqv r q)]):res A aA 334 [.aq t l,.aq u m,.func f []]=some [.bool (eqv l m)]:=by
 refine aw a334 rfl rfl ?_
 simp only[F334,K0]
 simp(disch:=omega)only[go_sem]
 refine Br.aJ (fun h=>?_) (fun h=>?_)<;>simp(disch:=omega)only[go_sem]
 .refine W.find (l.zip m) (fun q=>!eqv q.1 q.2) (fun k=>⟨[(1,.pv (.aq u m)),(2,.pv (.func f [])),(15,.pv (.aq t l)),(16,.pv (.int .i64 l.length)),(17,.pv (.int .i64 k))],⟨[],[],[]⟩⟩) rfl (fun k q hq hk hfd=>?_) (fun hn=>?_)
  .obtain⟨h1,h2⟩:=jh hq
   rw[dA (by omega)]at hk
   have hc:=hr q.1 (Wa h1) q.2 (Wa h2)
   obtain⟨v,hv⟩:=vl q.1 (Wa h1)
   obtain⟨w,hw⟩:=vm q.2 (Wa h2)
   generalize eqv q.1 q.2=e at hc hfd |-
   rw[hv,hw]at hc
   rw[hv]at h1
   rw[hw]at h2
   unfold dz.c at hc h1 h2
   simp(disch:=omega)only[go_sem]
   refine Br.aJ (fun c=>?_) (fun c=>(c (by omega)).elim)
   simp(disch:=omega)only[go_sem,h1,h2,hcw,hc]
   refine Br.of (fun g=>?_) (fun g=>?_)<;>simp(disch:=omega)only[go_sem]
   .exact bB.of (by rw[g]; rfl) rfl
   .rw[(hfd (by rw[g]; rfl)).ne]
  .have hz:(l.zip m).length=l.length:=dA (by omega)
   rw[hz]
   simp(disch:=omega)only[go_sem]
   rw[hn.eq (by omega),fI]
 .rw[fJ (fun e=>h (by rw[e]))]
theorem r334 (t u:Nat) (l m:List (List PV)) (hl:l.length<=2^63 - 1) (hm:m.length<=2^63 - 1) (vl:∀r∈l,∃v:dz,r=v.c) (vm:∀r∈m,∃v:dz,r=v.c)
  (hr:∀r∈l,∀q∈m,res A aA 320 [.agg r,.agg q]=some [.bool (eqv r q)]):res A aA 334 [.aq t l,.aq u m,.func 320 []]=some [.bool (eqv l m)]:=r334g cw320 t u l m hl hm vl vm hr
def iH (id ax off len k lim:Nat) (r:List PV) (a:aL):Option (V×Tn):=
 if off+len<=a.size/\a.k=k/\len+1<=lim then some (.own id (ax+1) 0 (len+1),{ ar:=some (id,⟨ax+1,k,aU (az off len a.body) (.inl [r])⟩) }) else none
theorem acO (h:aa) (id ax off len k lim:Nat) (r:List PV) (hr:r.length=k):afP h k lim (.own id ax off len) (.tl [r])=(aB h id ax).bind (iH id ax off len k lim r):=by
 cases ho:aB h id ax with
 |none=>simp[afP,aW,aO,ho]
 |some a=>
  simp only[afP,aW,aO,ho,aD,iH,List.all_cons,List.all_nil,List.length_cons,List.length_nil,Option.bind_some,hr,beq_self_eq_true,Bool.and_self,if_true]
  by_cases h1:off+len<=a.size<;>by_cases h2:a.k=k<;>by_cases h3:len+1<=lim<;>simp[h1,h2,h3]
theorem aea {id ax len k lim:Nat} {r:List PV} {l:List (List PV)} (h1:len=l.length) (h2:l.length+1<=lim):iH id ax 0 len k lim r ⟨ax,k,.inl l⟩=some (.own id (ax+1) 0 (len+1),{ ar:=some (id,⟨ax+1,k,.inl (l++[r])⟩) }):=by
 subst h1
 unfold iH
 rw[if_pos ⟨by simp[aL.size],rfl,h2⟩]
 simp[aU,az]
theorem adb (h:aa) (k lim:Nat) (r:List PV) (hr:r.length=k) (hm:1<=lim):afP h k lim (.tl []) (.tl [r])=some (.own h.ar.length 0 0 1,{ push:=[⟨0,k,.inl [r]⟩],base:=h.ar.length }):=by
 simp[afP,aW,aO,aD,aU,hr,hm]
@[go_sem] theorem aeW (h:aa) (lim:Nat) (x:Int) (hm:1<=lim):afP h 1 lim (.tl []) (.tl [[.int .i64 x]])=some (.own h.ar.length 0 0 1,{ push:=[⟨0,1,.inl (ints [x])⟩],base:=h.ar.length }):=adb h 1 lim [.int .i64 x] rfl hm
@[go_sem] theorem aeT (h:aa) (id ax off len lim:Nat) (x:Int):afP h 1 lim (.own id ax off len) (.tl [[.int .i64 x]])=(aB h id ax).bind (iH id ax off len 1 lim [.int .i64 x]):=acO h id ax off len 1 lim [.int .i64 x] rfl
@[go_sem] theorem ae3 {id ax len lim:Nat} {x:Int} {l:List Int} (h1:len=l.length) (h2:l.length+1<=lim):iH id ax 0 len 1 lim [.int .i64 x] ⟨ax,1,.inl (ints l)⟩=some (.own id (ax+1) 0 (len+1),{ ar:=some (id,⟨ax+1,1,.inl (ints (l++[x]))⟩) }):=by
 rw[aea (by rw[bt]; exact h1) (by rw[bt]; exact h2),lV]
@[go_sem] theorem aeX (h:aa) (lim:Nat) (x:ByteArray) (hm:1<=lim):afP h 1 lim (.tl []) (.tl [[.str x]])=some (.own h.ar.length 0 0 1,{ push:=[⟨0,1,.inl (strs [x])⟩],base:=h.ar.length }):=adb h 1 lim [.str x] rfl hm
@[go_sem] theorem aeU (h:aa) (id ax off len lim:Nat) (x:ByteArray):afP h 1 lim (.own id ax off len) (.tl [[.str x]])=(aB h id ax).bind (iH id ax off len 1 lim [.str x]):=acO h id ax off len 1 lim [.str x] rfl
@[go_sem] theorem ae4 {id ax len lim:Nat} {x:ByteArray} {l:List ByteArray} (h1:len=l.length) (h2:l.length+1<=lim):iH id ax 0 len 1 lim [.str x] ⟨ax,1,.inl (strs l)⟩=some (.own id (ax+1) 0 (len+1),{ ar:=some (id,⟨ax+1,1,.inl (strs (l++[x]))⟩) }):=by
 rw[aea (by rw[fq]; exact h1) (by rw[fq]; exact h2),pL]
def DM (i k:Nat):V:=match k with
 |0=>.tl []
 |j+1=>.own i j 0 (j+1)
def GB (A B:List (List PV)):List aL:=match A.length with
 |0=>[]
 |j+1=>[⟨j,1,.inl A⟩,⟨j,1,.inl B⟩]
def Sym.nm (s:Sym):Nm:=(s.id,s.name)
def pM (l:List Sym):Bool:=decide (0<l.length)&&(mw (l.map Sym.nm)&&decide (l.length<=16))
set_option maxHeartbeats 1000000 in
theorem r307 (t:Nat) (l:List Sym) (hl:l.length<=8000000000000) (hs:∀p∈l,bC p.name):res A aA 307 [.aq t (l.map Sym.c)]=some [.bool (pM l)]:=by
 refine aw a307 rfl rfl ?_
 simp only[F307,KO]
 simp(disch:=omega)only[go_sem]
 refine W.fv l.length (fun k=>⟨[(0,.pv (.aq t (l.map Sym.c))),(3,DM 0 k),(4,DM 1 k),(7,.pv (.aq t (l.map Sym.c))),(8,.pv (.int .i64 l.length)),(9,.pv (.int .i64 k))],⟨[],GB (ints ((l.take k).map (·.id))) (strs ((l.take k).map (·.name))),[]⟩⟩) (fun _=>True) rfl trivial (fun k hk _=>?_)
 rcases Wh k l.length with hlt|hge
 .have hp:=Wb hlt
  generalize l[k]=p at hp
  have t1:(l.take (k+1)).map (·.id)=(l.take k).map (·.id)++[p.id]:=by rw[WL,hp,WC]; rfl
  have t2:(l.take (k+1)).map (·.name)=(l.take k).map (·.name)++[p.name]:=by rw[WL,hp,WC]; rfl
  cases k with
  |zero=>
   simp only[DM,GB,List.take_zero,List.map_nil,yn,List.length_nil]
   simp(disch:=omega)only[go_sem]
   refine Br.aJ (fun c=>?_) (fun c=>(c (by omega)).elim)
   simp(disch:=omega)only[go_sem,hp,Sym.c]
   refine .of (by omega) ?_ trivial
   rw[t1,t2]
   rfl
  |succ j=>
   have l1:((l.take (j+1)).map (·.id)).length=j+1:=by simp; omega
   have l2:((l.take (j+1)).map (·.name)).length=j+1:=by simp; omega
   generalize (l.take (j+1)).map (·.id)=A at t1 l1
   generalize (l.take (j+1)).map (·.name)=B at t2 l2
   simp only[DM,GB,bt,l1]
   simp(disch:=omega)only[go_sem]
   refine Br.aJ (fun c=>?_) (fun c=>(c (by omega)).elim)
   simp(disch:=omega)only[go_sem,hp,Sym.c]
   have l3:((l.take (j+1+1)).map (·.id)).length=j+1+1:=by rw[t1]; simp[l1]
   refine .of (by omega) ?_ trivial
   simp only[bt,l3]
   rw[t1,t2]
   rfl
 .obtain rfl:k=l.length:=by omega
  rw[WV]
  have nm1:l.map (·.id)=(l.map Sym.nm).map (·.1):=by rw[Xw]; rfl
  have nm2:l.map (·.name)=(l.map Sym.nm).map (·.2):=by rw[Xw]; rfl
  have h325:=fun t u=>r325 t u (l.map Sym.nm) (by simp; omega) (fun p hp=>by
   obtain⟨q,hq,rfl⟩:=Wk.1 hp
   exact hs q hq)
  rw[nm1,nm2]
  rw[Wg]at h325
  unfold pM
  cases hn:l.length with
  |zero=>
   have h0:¬(0:Int)<l.length:=by omega
   simp only[DM,GB,hn,bt,List.length_map]
   simp(disch:=omega)only[go_sem,h0]
  |succ j=>
   have l1:((l.map Sym.nm).map (·.1)).length=j+1:=by simp[hn]
   have l2:((l.map Sym.nm).map (·.2)).length=j+1:=by simp[hn]
   rw[hn]at h325
   generalize (l.map Sym.nm).map (·.1)=A at l1 h325
   generalize (l.map Sym.nm).map (·.2)=B at l2 h325
   simp only[DM,GB,bt,l1]
   simp(disch:=omega)only[go_sem]
   have d1:A.take (j+1)=A:=Wq (by omega)
   have d2:(strs B).take (j+1)=strs B:=Wq (by rw[fq]; omega)
   refine Br.aJ (fun c=>?_) (fun c=>(c (by omega)).elim)
   simp(disch:=omega)only[go_sem,c,d1,d2,h325]
   have h0:0<j+1:=by omega
   simp[h0]
theorem dz.EM (x y:dz) (h:x.c=y.c):x=y:=by
 obtain⟨a1,a2,a3,a4,a5,a6,a7,a8⟩:=x
 obtain⟨b1,b2,b3,b4,b5,b6,b7,b8⟩:=y
 simp only[dz.c,List.cons.injEq,PV.int.injEq,PV.bool.injEq,PV.str.injEq,PV.aq.injEq,true_and,and_true]at h
 obtain⟨h1,h2,h3,h4,h5,h6,h7,h8⟩:=h
 have h8:a8=b8:=bY.1 (by rw[<- Hr Raw.EM,h8,fI])
 rw[h1,h2,h3,h4,h5,h6,h7,h8]
theorem oq (x y:dz):eqv x.c y.c=eqv x y:=by
 rw[Xb,bY,bY]
 exact⟨x.EM y,fun h=>by rw[h]⟩
set_option maxHeartbeats 4000000 in
theorem r320:∀(n k:Nat) (cs ds:List PV),mu n cs->mu k ds->res A aA 320 [.agg cs,.agg ds]=some [.bool (eqv cs ds)]
 |0,_,_,_,h,_=>h.elim
 |_+1,0,_,_,_,h=>h.elim
 |n+1,k+1,cs,ds,h,h'=>by
  obtain⟨v,rfl,⟨h1,h2,h3,h4⟩,⟨h5,h6,h7⟩,h8,h9,h10⟩:=h
  obtain⟨w,rfl,⟨g1,g2,g3,g4⟩,⟨g5,g6,g7⟩,g8,g9,g10⟩:=h'
  have ih:=r320 n k
  unfold bP at h5 h6 h7 g5 g6 g7
  have hk:=fun t u=>r334 t u v.keys w.keys (by omega) (by omega) (fun r hr=>(h8 r hr).val) (fun r hr=>(g8 r hr).val) (fun r hr q hq=>ih r q (h8 r hr) (g8 q hq))
  have hi:=fun t u=>r334 t u v.items w.items (by omega) (by omega) (fun r hr=>(h9 r hr).val) (fun r hr=>(g9 r hr).val) (fun r hr q hq=>ih r q (h9 r hr) (g9 q hq))
  have hr:=fun t u=>r333 t u v.rest w.rest (by omega) (by omega)
  rw[oq]
  obtain⟨a1,a2,a3,a4,a5,a6,a7,a8⟩:=v
  obtain⟨b1,b2,b3,b4,b5,b6,b7,b8⟩:=w
  unfold dz.c
  dsimp only at *
  clear ih
  refine aw a320 rfl rfl ?_
  simp only[F320,KS]
  simp(disch:=omega)only[go_sem]
  have no:∀{p q:dz},p≠q->(some [PV.bool false]:Option (List PV))=some [PV.bool (eqv p q)]:=fun h=>by rw[fJ h]
  refine Br.aJ (fun e=>?_) (fun e=>?_)<;>simp(disch:=omega)only[go_sem,e]
  rotate_left
  .exact no (fun q=>e (by cases q; rfl))
  subst e
  refine Br.aJ (fun e=>?_) (fun e=>?_)<;>simp(disch:=omega)only[go_sem,e]
  rotate_left
  .exact no (fun q=>e (by cases q; rfl))
  subst e
  refine Br.aJ (fun e=>?_) (fun e=>?_)<;>simp(disch:=omega)only[go_sem,e]
  rotate_left
  .exact no (fun q=>e (by cases q; rfl))
  subst e
  refine Br.aJ (fun e=>?_) (fun e=>?_)<;>simp(disch:=omega)only[go_sem,e]
  rotate_left
  .exact no (fun q=>e (by cases q; rfl))
  subst e
  refine Br.aJ (fun e=>?_) (fun e=>?_)<;>simp(disch:=omega)only[go_sem,e]
  rotate_left
  .exact no (fun q=>e (by cases q; rfl))
  subst e
  simp(disch:=omega)only[go_sem,hr]
  refine Br.of (fun e=>?_) (fun e=>?_)<;>simp(disch:=omega)only[go_sem,e]
  rotate_left
  .exact no (fun q=>mW.1 e (by cases q; rfl))
  have e:=bY.1 e
  subst e
  simp(disch:=omega)only[go_sem,hk]
  refine Br.of (fun e=>?_) (fun e=>?_)<;>simp(disch:=omega)only[go_sem,e]
  rotate_left
  .exact no (fun q=>mW.1 e (by cases q; rfl))
  have e:=bY.1 e
  subst e
  simp(disch:=omega)only[go_sem,hi]
  congr 3
  rw[Xb,bY,bY]
  exact⟨fun e=>by rw[e],fun q=>by cases q; rfl⟩
theorem r320v {cs ds:List PV} (h:∃n,mu n cs) (h':∃n,mu n ds):res A aA 320 [.agg cs,.agg ds]=some [.bool (eqv cs ds)]:=by
 obtain⟨n,h⟩:=h
 obtain⟨k,h'⟩:=h'
 exact r320 n k cs ds h h'
theorem r336 (t u:Nat) (l m:List (List PV)) (hl:l.length<=2^63 - 1) (_hm:m.length<=2^63 - 1) (vl:∀r∈l,∃v:dz,r=v.c) (vm:∀r∈m,∃v:dz,r=v.c)
  (hr:∀r∈l,∀q∈m,res A aA 330 [.agg r,.agg q]=some [.bool (eqv r q)]):res A aA 336 [.aq t l,.aq u m]=some [.bool (eqv l m)]:=by
 refine aw a336 rfl rfl ?_
 simp only[F336,aav]
 simp(disch:=omega)only[go_sem]
 refine Br.aJ (fun h=>?_) (fun h=>?_)<;>simp(disch:=omega)only[go_sem]
 .refine W.find (l.zip m) (fun q=>!eqv q.1 q.2) (fun k=>⟨[(0,.pv (.aq t l)),(1,.pv (.aq u m)),(5,.pv (.int .i64 k))],⟨[],[],[]⟩⟩) rfl (fun k q hq hk hfd=>?_) (fun hn=>?_)
  .obtain⟨h1,h2⟩:=jh hq
   rw[dA (by omega)]at hk
   have hc:=hr q.1 (Wa h1) q.2 (Wa h2)
   obtain⟨v,hv⟩:=vl q.1 (Wa h1)
   obtain⟨w,hw⟩:=vm q.2 (Wa h2)
   generalize eqv q.1 q.2=e at hc hfd |-
   rw[hv,hw]at hc
   rw[hv]at h1
   rw[hw]at h2
   unfold dz.c at hc h1 h2
   simp(disch:=omega)only[go_sem]
   refine Br.aJ (fun c=>?_) (fun c=>(c (by omega)).elim)
   simp(disch:=omega)only[go_sem,h1,h2,hc]
   refine Br.of (fun g=>?_) (fun g=>?_)<;>simp(disch:=omega)only[go_sem]
   .exact bB.of (by rw[g]; rfl) rfl
   .rw[(hfd (by rw[g]; rfl)).ne]
  .have hz:(l.zip m).length=l.length:=dA (by omega)
   rw[hz]
   simp(disch:=omega)only[go_sem]
   rw[hn.eq (by omega),fI]
 .rw[fJ (fun e=>h (by rw[e]))]
set_option maxHeartbeats 4000000 in
theorem r330:∀(n k:Nat) (cs ds:List PV),mu n cs->mu k ds->res A aA 330 [.agg cs,.agg ds]=some [.bool (eqv cs ds)]
 |0,_,_,_,h,_=>h.elim
 |_+1,0,_,_,_,h=>h.elim
 |n+1,k+1,cs,ds,h,h'=>by
  obtain⟨v,rfl,⟨h1,h2,h3,h4⟩,⟨h5,h6,h7⟩,h8,h9,h10⟩:=h
  obtain⟨w,rfl,⟨g1,g2,g3,g4⟩,⟨g5,g6,g7⟩,g8,g9,g10⟩:=h'
  have ih:=r330 n k
  unfold bP at h5 h6 h7 g5 g6 g7
  have hk:=fun t u=>r336 t u v.keys w.keys (by omega) (by omega) (fun r hr=>(h8 r hr).val) (fun r hr=>(g8 r hr).val) (fun r hr q hq=>ih r q (h8 r hr) (g8 q hq))
  have hi:=fun t u=>r336 t u v.items w.items (by omega) (by omega) (fun r hr=>(h9 r hr).val) (fun r hr=>(g9 r hr).val) (fun r hr q hq=>ih r q (h9 r hr) (g9 q hq))
  rw[oq]
  obtain⟨a1,a2,a3,a4,a5,a6,a7,a8⟩:=v
  obtain⟨b1,b2,b3,b4,b5,b6,b7,b8⟩:=w
  unfold dz.c
  dsimp only at *
  clear ih
  refine aw a330 rfl rfl ?_
  simp only[F330,aau]
  simp(disch:=omega)only[go_sem]
  have no:∀{p q:dz},p≠q->(some [PV.bool false]:Option (List PV))=some [PV.bool (eqv p q)]:=fun h=>by rw[fJ h]
  refine Br.aJ (fun e=>?_) (fun e=>?_)<;>simp(disch:=omega)only[go_sem,e]
  rotate_left
  .exact no (fun q=>e (by cases q; rfl))
  subst e
  refine Br.aJ (fun e=>?_) (fun e=>?_)<;>simp(disch:=omega)only[go_sem,e]
  rotate_left
  .exact no (fun q=>e (by cases q; rfl))
  subst e
  refine Br.aJ (fun e=>?_) (fun e=>?_)<;>simp(disch:=omega)only[go_sem,e]
  rotate_left
  .exact no (fun q=>e (by cases q; rfl))
  subst e
  refine Br.aJ (fun e=>?_) (fun e=>?_)<;>simp(disch:=omega)only[go_sem,e]
  rotate_left
  .exact no (fun q=>e (by cases q; rfl))
  subst e
  refine Br.aJ (fun e=>?_) (fun e=>?_)<;>simp(disch:=omega)only[go_sem,e]
  rotate_left
  .exact no (fun q=>e (by cases q; rfl))
  subst e
  refine Br.aJ (fun e=>?_) (fun e=>?_)<;>simp(disch:=omega)only[go_sem]
  rotate_left
  .exact no (fun q=>e (by cases q; rfl))
  refine W.find (a8.zip b8) (fun q=>!eqv q.1 q.2) (fun k=>⟨[(2,.ptr 2 0),(3,.ptr 3 0),(5,.pv (.int .i64 k))],⟨[(2,[.pv (.int .i64 a1),.pv (.bool a2),.pv (.int .i64 a3),.pv (.str a4),.pv (.int .i64 a5),.pv (.aq 0 a6),.pv (.aq 0 a7),.pv (.aq 0 (a8.map Raw.c))]),(3,[.pv (.int .i64 a1),.pv (.bool a2),.pv (.int .i64 a3),.pv (.str a4),.pv (.int .i64 a5),.pv (.aq 0 b6),.pv (.aq 0 b7),.pv (.aq 0 (b8.map Raw.c))])],[],[]⟩⟩) rfl (fun k q hq hk' hfd=>?_) (fun hn=>?_)
  .obtain⟨q1,q2⟩:=jh hq
   rw[dA (by omega)]at hk'
   simp(disch:=omega)only[go_sem]
   refine Br.aJ (fun c=>?_) (fun c=>(c (by omega)).elim)
   simp(disch:=omega)only[go_sem,q1,q2,Raw.c]
   rw[<- Ht]
   refine Br.of (fun g=>?_) (fun g=>?_)<;>simp(disch:=omega)only[go_sem]
   .exact bB.of (by rw[g]; rfl) rfl
   .exact no (fun q=>mW.1 (hfd (by rw[g]; rfl)).ne (by cases q; rfl))
  .have hz:(a8.zip b8).length=a8.length:=dA (by omega)
   rw[hz]
   have e:=hn.eq (by omega)
   subst e
   simp(disch:=omega)only[go_sem,hk]
   refine Br.of (fun e=>?_) (fun e=>?_)<;>simp(disch:=omega)only[go_sem,e]
   rotate_left
   .exact no (fun q=>mW.1 e (by cases q; rfl))
   have e:=bY.1 e
   subst e
   simp(disch:=omega)only[go_sem,hi]
   congr 3
   rw[Xb,bY,bY]
   exact⟨fun e=>by rw[e],fun q=>by cases q; rfl⟩
theorem r330v {cs ds:List PV} (h:∃n,mu n cs) (h':∃n,mu n ds):res A aA 330 [.agg cs,.agg ds]=some [.bool (eqv cs ds)]:=by
 obtain⟨n,h⟩:=h
 obtain⟨k,h'⟩:=h'
 exact r330 n k cs ds h h'
def bl:dz:=⟨0,false,0,⟨#[]⟩,0,[],[],[]⟩
theorem Hu:∃n,mu n bl.c:=by
 refine⟨1,bl,rfl,⟨?_,?_,?_,?_⟩,⟨?_,?_,?_⟩,fun r hr=>(List.not_mem_nil hr).elim,fun r hr=>(List.not_mem_nil hr).elim,fun r hr=>(List.not_mem_nil hr).elim⟩<;>simp[bl,eH,bC,bP]
 exact WA _
theorem r326 {v:dz} (h:∃n,mu n v.c):res A aA 326 [.agg v.c]=some [.bool (eqv v bl)]:=by
 refine aw a326 rfl rfl ?_
 simp only[F326,KY]
 have hc:=r320v h Hu
 rw[oq]at hc
 unfold bl dz.c at *
 simp only[List.map_nil]at hc
 simp(disch:=omega)only[go_sem,hc]
noncomputable def afZ (rec:Bool) (m:Mem):Bool:=(!rec&&(m.DJ||m.has))||(m.DJ&&m.has)||(!m.has&&!eqv m.ib bl)
def Mem.nm (s:Mem):Nm:=(s.id,s.name)
noncomputable def fK (rec:Bool) (l:List Mem):Bool:=!l.any (afZ rec)&&((rec||decide (0<l.length))&&(mw (l.map Mem.nm)&&decide (l.length<=16)))
theorem CK {p:Bool} (h:p=false):(some [PV.bool false]:Option (List PV))=some [PV.bool p]:=by rw[h]
set_option maxHeartbeats 4000000 in
theorem r308 (t : aH) (ht : t.ok) (hl : t.bc.length <= 8000000000000) (hk : t.kind = 5 \/ t.kind = 6) : res A aA 308 [.agg t.c] = some [.bool (fK (decide (t.kind = 5)) t.bc)] := by
  obtain ⟨_,⟨_,_⟩,_,ho⟩ := ht
  obtain ⟨a1,a2,a3,a4,a5,a6,l,a8,a9,a10⟩ := t
  unfold aH.c
  dsimp only at *
  refine aw a308 rfl rfl ?_
  simp only [F308,KP]
  simp (disch := omega) only [go_sem]
  refine W.find l (afZ (decide (a1 = 5))) (fun k => ⟨[(1,.ptr 1 0),(3,DM 0 k),(4,DM 1 k),(8,.pv (.aq 0 (l.map Mem.c))),(9,.pv (.int .i64 l.length)),(10,.pv (.int .i64 k))],⟨[(1,[.pv (.int .i64 a1),.pv (.str a2),.pv (.int .i64 a3),.pv (.int .i64 a4),.pv (.int .i64 a5),.pv (.aq 0 (a6.map Sym.c)),.pv (.aq 0 (l.map Mem.c)),.pv (.int .i64 a8),.pv (.int .i64 a9),.pv (.bool a10)])],GB (ints ((l.take k).map (·.id))) (strs ((l.take k).map (·.name))),[]⟩⟩) rfl (fun k p hp hlt hfd => ?_) (fun hn => ?_)
  . have t1 : (l.take (k + 1)).map (·.id) = (l.take k).map (·.id) ++ [p.id] := by rw [WL,hp,WC]; rfl
    have t2 : (l.take (k + 1)).map (·.name) = (l.take k).map (·.name) ++ [p.name] := by rw [WL,hp,WC]; rfl
    obtain ⟨_,_,_,hd⟩ := ho p (Wa hp)
    have hz := r326 hd
    have done : afZ (decide (a1 = 5)) p = true -> (some [PV.bool false] : Option (List PV)) = some [PV.bool (fK (decide (a1 = 5)) l)] := fun g => by
      refine CK ?_
      simp only [fK,(hfd g).any,Bool.not_true,Bool.false_and]
    have hz0 : eqv p.ib bl = eqv p.ib bl := rfl
    generalize hzz : eqv p.ib bl = z at hz
    unfold dz.c at hz
    have hbad : afZ (decide (a1 = 5)) p = ((!decide (a1 = 5) && (p.DJ || p.has)) || (p.DJ && p.has) || (!p.has && !z)) := by rw [afZ,hzz]
    rw [hbad] at done |-
    cases k with
    | zero =>
      simp only [DM,GB,List.take_zero,List.map_nil,yn,List.length_nil]
      simp (disch := omega) only [go_sem]
      refine Br.aJ (fun c => ?_) (fun c => (c (by omega)).elim)
      simp (disch := omega) only [go_sem,hp,Mem.c]
      repeat' (first
        | (refine Br.aJ (fun h => ?_) (fun h => ?_) <;> simp (disch := omega) only [go_sem,h])
        | (refine Br.of (fun h => ?_) (fun h => ?_) <;> simp (disch := omega) only [go_sem,h,hz]))
      all_goals first
        | (refine done ?_; simp_all; done)
        | (refine bB.of (by simp_all; done) ?_
           rw [t1,t2]
           first
             | rfl
             | (rw [show a1 = 6 by omega]; rfl))
    | succ j =>
      have l1 : ((l.take (j + 1)).map (·.id)).length = j + 1 := by simp; omega
      have l2 : ((l.take (j + 1)).map (·.name)).length = j + 1 := by simp; omega
      have l3 : ((l.take (j + 1 + 1)).map (·.id)).length = j + 1 + 1 := by rw [t1]; simp; omega
      generalize (l.take (j + 1)).map (·.id) = A at t1 l1
      generalize (l.take (j + 1)).map (·.name) = B at t2 l2
      simp only [DM,GB,bt,l1]
      simp (disch := omega) only [go_sem]
      refine Br.aJ (fun c => ?_) (fun c => (c (by omega)).elim)
      simp (disch := omega) only [go_sem,hp,Mem.c]
      repeat' (first
        | (refine Br.aJ (fun h => ?_) (fun h => ?_) <;> simp (disch := omega) only [go_sem,h])
        | (refine Br.of (fun h => ?_) (fun h => ?_) <;> simp (disch := omega) only [go_sem,h,hz]))
      all_goals first
        | (refine done ?_; simp_all; done)
        | (refine bB.of (by simp_all; done) ?_
           simp only [bt,l3]
           rw [t1,t2]
           first
             | rfl
             | (rw [show a1 = 6 by omega]; rfl))
  . rw [WV]
    have nm1 : l.map (·.id) = (l.map Mem.nm).map (·.1) := by rw [Xw]; rfl
    have nm2 : l.map (·.name) = (l.map Mem.nm).map (·.2) := by rw [Xw]; rfl
    have h325 := fun t u => r325 t u (l.map Mem.nm) (by simp; omega) (fun p hp => by
      obtain ⟨q,hq,rfl⟩ := Wk.1 hp
      exact (ho q hq).2.1)
    rw [nm1,nm2]
    rw [Wg] at h325
    unfold fK
    rw [hn.any]
    cases hn : l.length with
    | zero =>
      have hnil : l = [] := Wp hn
      subst hnil
      simp only [List.map_nil,ints,strs] at h325
      simp only [DM,GB,hn,bt,List.length_map]
      simp (disch := omega) only [go_sem]
      refine Br.aJ (fun c => ?_) (fun c => ?_) <;> simp (disch := omega) only [go_sem,c,h325]
      refine Br.aJ (fun c2 => absurd c2 (by omega)) (fun c2 => ?_)
      simp (disch := omega) only [go_sem,c2]
      simp [c]
    | succ j =>
      have l1 : ((l.map Mem.nm).map (·.1)).length = j + 1 := by simp [hn]
      have l2 : ((l.map Mem.nm).map (·.2)).length = j + 1 := by simp [hn]
      rw [hn] at h325
      generalize (l.map Mem.nm).map (·.1) = A at l1 h325
      generalize (l.map Mem.nm).map (·.2) = B at l2 h325
      simp only [DM,GB,bt,l1]
      simp (disch := omega) only [go_sem]
      have d1 : A.take (j + 1) = A := Wq (by omega)
      have d2 : (strs B).take (j + 1) = strs B := Wq (by rw [fq]; omega)
      refine Br.aJ (fun c => ?_) (fun c => ?_) <;> simp (disch := omega) only [go_sem,c,d1,d2,h325]
      refine Br.aJ (fun c2 => ?_) (fun c2 => absurd (show (0 : Int) < ((j + 1 : Nat) : Int) by omega) c2)
      simp (disch := omega) only [go_sem,c,c2,d1,d2,h325]
      simp
end Go.Pv
