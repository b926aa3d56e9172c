/-
 What the functions of the law give.
-/
import Derived.Test.YtpchfogcccagjaaGreatTab
set_option linter.unusedSimpArgs false
set_option linter.unusedVariables false
open List renaming mem_of_getElem? → Tf, getElem?_eq_some_iff → Tg, getElem?_eq_getElem → Th, mem_iff_getElem? → Ti, length_map → Tl, getElem?_map → To, take_of_length_le → Ts, length_take → Tt, length_range → Tv, eq_nil_of_length_eq_zero → Tx, getElem?_take → Tz, mem_map → TA, findIdx?_eq_some_iff_getElem → TG, map_append → TI, take_add_one → TM, any_eq_false → TU, ext_getElem? → TW, take_length → T4, getElem_mem → T8, getElem?_range → T9, any_eq_true → Uf, any_map → Ug, map_take → Ui, getElem?_zip_eq_some → Uo, append_nil → Uq, getElem_of_mem → UG, mem_range → UO
open Nat renaming lt_or_ge → Tm, not_lt_zero → Ur, zero_le → Uv
open Array renaming getElem?_toList → Tw, getElem?_eq_getElem → UB, length_toList → UF
open Bool renaming eq_iff_iff → TQ, and_eq_false_iff → UN
open Option renaming map_eq_some_iff → TV
open Int renaming toNat_natCast → T0, le_refl → UT
namespace Go.Pv
variable {A:Nat->Option aj} {Pr:bd}
def dR (n:Nat):List (List PV)->V
 |[]=>.tl []
 |_::r=>.own n r.length 0 (r.length+1)
def et (k:Nat):List (List PV)->List aR
 |[]=>[]
 |x::r=>[⟨r.length,k,.inl (x::r)⟩]
def tL (n k:Nat) (rows:List (List PV)) (r:List PV):Tn:=
 match rows with
 |[]=>{ push:=[⟨0,k,.inl [r]⟩],base:=n }
 |x::q=>{ ar:=some (n,⟨q.length+1,k,.inl (x::q++[r])⟩) }
theorem grow (bx:List (Nat×List V)) (mp:List (List (PV×PV))) (pre:List aR) (k:Nat) (rows:List (List PV)) (r:List PV) (hr:r.length=k) (hm:rows.length+1<=2147483648):
  aV ⟨bx,pre++et k rows,mp⟩ k (dR pre.length rows) (.tl [r])=some (dR pre.length (rows++[r]),tL pre.length k rows r):=by
 cases rows with
 |nil=>simp[aV,dR,et,tL,bB,aW,aJ,hr,bN,aT]
 |cons x q=>
  have h1:aE ⟨bx,pre++et k (x::q),mp⟩ pre.length q.length=some ⟨q.length,k,.inl (x::q)⟩:=by simp[aE,et]
  have h2:(⟨q.length,k,.inl (x::q)⟩:aR).size=q.length+1:=rfl
  have h3:((x::q).drop 0).take (q.length+1)=x::q:=by simp
  simp only[List.length_cons]at hm
  simp[aV,dR,tL,bB,aW,aJ,hr,h1,h2,bN,aI,aT]
  omega
theorem oG (bx:List (Nat×List V)) (mp:List (List (PV×PV))) (pre:List aR) (k:Nat) (rows:List (List PV)) (r:List PV):
  (tL pre.length k rows r).apply ⟨bx,pre++et k rows,mp⟩=⟨bx,pre++et k (rows++[r]),mp⟩:=by
 cases rows with
 |nil=>simp[tL,Tn.apply,et]
 |cons x q=>simp[tL,Tn.apply,et]
@[go_sem] theorem wt (bx:List (Nat×List V)) (mp:List (List (PV×PV))) (k:Nat) (rows:List (List PV)) (r:List PV) (hr:r.length=k) (hm:rows.length+1<=2147483648):
  aV ⟨bx,et k rows,mp⟩ k (dR 0 rows) (.tl [r])=some (dR 0 (rows++[r]),tL 0 k rows r):=grow bx mp [] k rows r hr hm
@[go_sem] theorem OX (bx:List (Nat×List V)) (mp:List (List (PV×PV))) (a:aR) (k:Nat) (rows:List (List PV)) (r:List PV) (hr:r.length=k) (hm:rows.length+1<=2147483648):
  aV ⟨bx,a::et k rows,mp⟩ k (dR 1 rows) (.tl [r])=some (dR 1 (rows++[r]),tL 1 k rows r):=grow bx mp [a] k rows r hr hm
@[go_sem] theorem J2 (bx:List (Nat×List V)) (mp:List (List (PV×PV))) (k:Nat) (rows:List (List PV)) (r:List PV):
  (tL 0 k rows r).apply ⟨bx,et k rows,mp⟩=⟨bx,et k (rows++[r]),mp⟩:=oG bx mp [] k rows r
@[go_sem] theorem J3 (bx:List (Nat×List V)) (mp:List (List (PV×PV))) (a:aR) (k:Nat) (rows:List (List PV)) (r:List PV):
  (tL 1 k rows r).apply ⟨bx,a::et k rows,mp⟩=⟨bx,a::et k (rows++[r]),mp⟩:=oG bx mp [a] k rows r
@[go_sem] theorem Qt (h:aw) (n:Nat) (rows:List (List PV)):gY h 0 (dR n rows)=some (rows.length,{}):=by cases rows<;>rfl
@[go_sem] theorem OY (n:Nat) (rows:List (List PV)):V.cells (dR n rows)=[dR n rows]:=by cases rows<;>rfl
@[go_sem] theorem EO (n:Nat) (rows:List (List PV)):V.calm (dR n rows)=true:=by cases rows<;>rfl
@[go_sem] theorem OZ (kb:List Nat) (n:Nat) (rows:List (List PV)):dP kb (dR n rows)=dR n rows:=by cases rows<;>rfl
theorem Cv (bx:List (Nat×List V)) (mp:List (List (PV×PV))) (pre post:List aR) (k:Nat) (x:List PV) (q:List (List PV)):aE ⟨bx,pre++(et k (x::q)++post),mp⟩ pre.length q.length=some ⟨q.length,k,.inl (x::q)⟩:=by simp[aE,et]
theorem Cw (bx:List (Nat×List V)) (mp:List (List (PV×PV))) (pre:List aR) (k d:Nat) (rows:List (List PV)):bw ⟨bx,pre++et k rows,mp⟩ (d+1) (dR pre.length rows)=some (.ai 0 rows):=by
 cases rows with
 |nil=>rfl
 |cons x q=>
  have:=Cv bx mp pre [] k x q
  rw[Uq]at this
  simp[dR,fJ,this,cr,aI]
@[go_sem] theorem Md (bx:List (Nat×List V)) (mp:List (List (PV×PV))) (k:Nat) (rows:List (List PV)):bw ⟨bx,et k rows,mp⟩ 4 (dR 0 rows)=some (.ai 0 rows):=Cw bx mp [] k 3 rows
@[go_sem] theorem Qu (h:aw) (n:Nat) (rows:List (List PV)):cx h false (dR n rows)=bw h 4 (dR n rows):=by cases rows<;>rfl
def Qv:List (List PV)->Nat
 |[]=>0
 |_=>1
theorem wu (bx:List (Nat×List V)) (mp:List (List (PV×PV))) (pre:List aR) (k d:Nat) (rows:List (List PV)):aQ ⟨bx,pre++et k rows,mp⟩ (d+1) (dR pre.length rows)=some (.ai (Qv rows) rows):=by
 cases rows with
 |nil=>rfl
 |cons x q=>
  have:=Cv bx mp pre [] k x q
  rw[Uq]at this
  simp[dR,aQ,this,aI,Qv]
@[go_sem] theorem Me (bx:List (Nat×List V)) (mp:List (List (PV×PV))) (k:Nat) (rows:List (List PV)):aQ ⟨bx,et k rows,mp⟩ 4 (dR 0 rows)=some (.ai (Qv rows) rows):=wu bx mp [] k 3 rows
@[go_sem] theorem Mf (bx:List (Nat×List V)) (mp:List (List (PV×PV))) (a:aR) (k:Nat) (rows:List (List PV)):aQ ⟨bx,a::et k rows,mp⟩ 4 (dR 1 rows)=some (.ai (Qv rows) rows):=wu bx mp [a] k 3 rows
@[go_sem] theorem Qw (h:aw) (n:Nat) (rows:List (List PV)):cm h (dR n rows)=aQ h 4 (dR n rows):=by cases rows<;>rfl
theorem qj {i n:Nat} {rows:List (List PV)} (h:rows.length=n+1):dR i rows=.own i n 0 (n+1):=by
 match rows,h with
 |x::q,h=>
  simp at h
  simp[dR,h]
theorem ll {k n:Nat} {rows:List (List PV)} (h:rows.length=n+1):et k rows=[⟨n,k,.inl rows⟩]:=by
 match rows,h with
 |x::q,h=>
  simp at h
  simp[et,h]
def ym {α:Type} (i:Int) (len:Nat) (v:α):Option α:=if 0<=i/\i<=len then some v else none
@[go_sem] theorem Qx {α:Type} {i:Int} {len:Nat} {v:α} (h0:0<=i) (h1:i<=(len:Int)):ym i len v=some v:=if_pos ⟨h0,h1⟩
@[go_sem] theorem Qy (g:bJ->V) (h:aw) (k id aA off len:Nat) (lo:bJ):
  da g h k (.own id aA off len) (some lo) none none=(aE h id aA).bind fun a=>(intOf (g lo)).bind fun i=>if a.k=k then ym i len (.own id aA (off+i.toNat) (len - i.toNat),{ ra:=some id }) else none:=by
 cases ho:aE h id aA with
 |none=>simp[da,ho]
 |some a=>
  cases hi:intOf (g lo)with
  |none=>simp[da,ho,bounds,bound,hi]
  |some i=>by_cases hk:a.k=k<;>by_cases h0:0<=i/\i<=len<;>simp[da,ho,bounds,bound,hi,hk,h0,ym]
@[go_sem] theorem SK (g:bJ->V) (h:aw) (k id aA off len:Nat) (hi:bJ):
  da g h k (.own id aA off len) none (some hi) none=(aE h id aA).bind fun a=>(intOf (g hi)).bind fun i=>if a.k=k then ym i len (.own id aA off i.toNat,{ ra:=some id }) else none:=by
 cases ho:aE h id aA with
 |none=>simp[da,ho]
 |some a=>
  cases hj:intOf (g hi)with
  |none=>simp[da,ho,bounds,bound,hj]
  |some i=>by_cases hk:a.k=k<;>by_cases h0:0<=i/\i<=len<;>simp[da,ho,bounds,bound,hj,hk,h0,ym]
end Go.Pv
namespace Go.Pv
@[go_sem] theorem wv:ints []=[]:=rfl
@[go_sem] theorem ln (l:List Int) (x:Int):ints l++[[.int .i64 x]]=ints (l++[x]):=by simp[ints]
def bG (l:List Edge):List (List PV):=l.map Edge.c
@[go_sem] theorem bM (l:List Edge):(bG l).length=l.length:=by simp[bG]
@[go_sem] theorem O0:bG []=[]:=rfl
@[go_sem] theorem O1 (l:List Edge) (i:Nat):(bG l)[i]?=l[i]?.map Edge.c:=by simp[bG]
theorem AE (l:List Edge) (e:Edge):bG l++[e.c]=bG (l++[e]):=by simp[bG]
@[go_sem] theorem R1 (bx:List (Nat×List V)) (mp:List (List (PV×PV))) (l:List Int) (x:Int) (hm:l.length+1<=2147483648):
  aV ⟨bx,et 1 (ints l),mp⟩ 1 (dR 0 (ints l)) (.tl [[.int .i64 x]])=some (dR 0 (ints (l++[x])),tL 0 1 (ints l) [.int .i64 x]):=by
 rw[wt bx mp 1 (ints l) [.int .i64 x] rfl (by rw[bq]; exact hm),ln]
@[go_sem] theorem R2 (bx:List (Nat×List V)) (mp:List (List (PV×PV))) (l:List Edge) (f:Int) (s:Bool) (x t:Int) (hm:l.length+1<=2147483648):
  aV ⟨bx,et 4 (bG l),mp⟩ 4 (dR 0 (bG l)) (.tl [[.int .i64 f,.bool s,.int .i64 x,.int .i64 t]])=some (dR 0 (bG (l++[⟨f,s,x,t⟩])),tL 0 4 (bG l) (Edge.c ⟨f,s,x,t⟩)):=by
 rw[<- AE]
 exact wt bx mp 4 (bG l) (Edge.c ⟨f,s,x,t⟩) rfl (by rw[bM]; exact hm)
def bD (l:List Bool):List (List PV):=l.map fun b=>[.bool b]
@[go_sem] theorem gJ (l:List Bool):(bD l).length=l.length:=by simp[bD]
@[go_sem] theorem Mg (l:List Bool) (i:Nat):(bD l)[i]?=l[i]?.map fun b=>[.bool b]:=by simp[bD]
theorem AF (l:List Bool) (i:Nat) (b:Bool):(bD l).set i [.bool b]=bD (l.set i b):=by simp[bD,List.map_set]
@[go_sem] theorem F8 {id row aA:Nat} {b:Bool} {l:List Bool} (h1:row<l.length):ea id row 0 [.pv (.bool b)] ⟨aA,1,.inl (bD l)⟩=some { ar:=some (id,⟨aA,1,.inl (bD (l.set row b))⟩) }:=by
 rw[nj (by rw[gJ]; exact h1) rfl (.inr ⟨.bool l[row],by simp[bD,h1]⟩) rfl,AF]
@[go_sem] theorem J4 (n:Nat) (b:Bool):bY n [.pv (.bool b)]=.inl (bD (List.replicate n b)):=by
 simp[bY,az,V.bR,PV.perm,bD]
def Qz (id aA off len:Nat) (x:Int) (a:aR):Option (V×Tn):=
 if off+len<=a.size/\a.k=1/\len+1<=aT then some (.own id (aA+1) 0 (len+1),{ ar:=some (id,⟨aA+1,1,bN (aI off len a.body) (.inl [[.int .i64 x]])⟩) }) else none
@[go_sem] theorem QA (h:aw) (id aA off len:Nat) (x:Int):aV h 1 (.own id aA off len) (.tl [[.int .i64 x]])=(aE h id aA).bind (Qz id aA off len x):=by
 cases ho:aE h id aA with
 |none=>simp[aV,bB,aW,ho]
 |some a=>
  simp only[aV,bB,aW,ho,aJ,Qz,List.all_cons,List.all_nil,List.length_cons,List.length_nil,Option.bind_some]
  by_cases h1:off+len<=a.size<;>by_cases h2:a.k=1<;>by_cases h3:len+1<=aT<;>simp[h1,h2,h3]
@[go_sem] theorem R3 {id aA len:Nat} {x:Int} {l:List Int} (h1:len=l.length) (h2:l.length+1<=2147483648):Qz id aA 0 len x ⟨aA,1,.inl (ints l)⟩=some (.own id (aA+1) 0 (len+1),{ ar:=some (id,⟨aA+1,1,.inl (ints (l++[x]))⟩) }):=by
 subst h1
 unfold Qz
 rw[if_pos ⟨by simp[aR.size,ints],rfl,h2⟩]
 have:List.take l.length (List.map (fun x=>[PV.int IntKind.i64 x]) l)=List.map (fun x=>[PV.int IntKind.i64 x]) l:=List.take_of_length_le (by simp)
 simp[bN,aI,ints,this]
@[go_sem] theorem R4 (h:aw) (x:Int):aV h 1 (.tl []) (.tl [[.int .i64 x]])=some (.own h.ar.length 0 0 1,{ push:=[⟨0,1,.inl (ints [x])⟩],base:=h.ar.length }):=by
 simp[aV,bB,aW,aJ,aT,bN,ints]
variable {A:Nat->Option aj} {Pr:bd}
def bQ {σ:Type} (S:Nat->σ->St) (I:Nat->σ->Prop) (k:Nat) (acc:σ) (Q:Ex->St->Prop) (_t:mZ (S,I,k,acc,Q):=.mk):Ex->St->Prop
 |.normal,s=>s=S k acc/\I k acc
 |.exit i,s=>Q (.exit i) s
 |.ret,s=>Q .ret s
@[go_sem] theorem J5 {σ:Type} (S:Nat->σ->St) (I:Nat->σ->Prop) (k:Nat) (acc:σ) (Q:Ex->St->Prop) (i:Nat) (s:St):bQ S I k acc Q .mk (.exit i) s=Q (.exit i) s:=rfl
@[go_sem] theorem Mh {σ:Type} (S:Nat->σ->St) (I:Nat->σ->Prop) (k:Nat) (acc:σ) (Q:Ex->St->Prop) (s:St):bQ S I k acc Q .mk .ret s=Q .ret s:=rfl
theorem bQ.of {σ:Type} {S:Nat->σ->St} {I:Nat->σ->Prop} {k:Nat} {acc:σ} {Q:Ex->St->Prop} {s:St} (h:s=S k acc) (h2:I k acc):bQ S I k acc Q .mk .normal s:=⟨h,h2⟩
def wx (Q:Ex->St->Prop) (_t:mZ Q:=.mk):Ex->St->Prop
 |.normal,_=>False
 |.exit i,s=>Q (.exit i) s
 |.ret,s=>Q .ret s
@[go_sem] theorem J6 (Q:Ex->St->Prop) (i:Nat) (s:St):wx Q .mk (.exit i) s=Q (.exit i) s:=rfl
@[go_sem] theorem Mi (Q:Ex->St->Prop) (s:St):wx Q .mk .ret s=Q .ret s:=rfl
theorem W.fold {σ α:Type} {a:AC} {s:St} {Q:Ex->St->Prop} (l:List α) (f:σ->α->σ) (x0:σ) (S:Nat->σ->St) (I:Nat->σ->Prop) (hs:s=S 0 x0) (h0:I 0 x0)
  (hr:∀k x acc,l[k]?=some x->k<l.length->acc=(l.take k).foldl f x0->I k acc->W A Pr a (S k acc) (bQ S I (k+1) (f acc x) Q))
  (he:∀acc,acc=l.foldl f x0->I l.length acc->W A Pr a (S l.length acc) (wx Q)):W A Pr (.loop a) s Q:=by
 refine W.du l.length (fun k=>S k ((l.take k).foldl f x0)) (fun k=>I k ((l.take k).foldl f x0)) (by simpa using hs) (by simpa using h0) fun k hk hi=>?_
 rcases Tm k l.length with h|h
 .obtain⟨x,hx⟩:∃x,l[k]?=some x:=⟨l[k],by simp[h]⟩
  obtain⟨ex,s',h1,h2⟩:=hr k x _ hx h rfl hi
  have ht:(l.take (k+1)).foldl f x0=f ((l.take k).foldl f x0) x:=by rw[List.take_add_one,hx]; simp[List.foldl_append]
  refine⟨ex,s',h1,?_⟩
  cases ex with
  |normal=>exact .of h (by rw[ht]; exact h2.1) (by rw[ht]; exact h2.2)
  |exit i=>exact h2
  |ret=>exact h2
 .obtain rfl:k=l.length:=by omega
  rw[T4]at hi |-
  obtain⟨ex,s',h1,h2⟩:=he _ rfl hi
  refine⟨ex,s',h1,?_⟩
  cases ex with
  |normal=>exact h2.elim
  |exit i=>exact h2
  |ret=>exact h2
theorem W.tM {σ:Type} {a:AC} {s:St} {Q:Ex->St->Prop} (n:Nat) (f:σ->Nat->σ) (x0:σ) (S:Nat->σ->St) (I:Nat->σ->Prop) (hs:s=S 0 x0) (h0:I 0 x0)
  (hr:∀k acc,k<n->acc=(List.range k).foldl f x0->I k acc->W A Pr a (S k acc) (bQ S I (k+1) (f acc k) Q))
  (he:∀acc,acc=(List.range n).foldl f x0->I n acc->W A Pr a (S n acc) (wx Q)):W A Pr (.loop a) s Q:=by
 refine W.fold (List.range n) f x0 S I hs h0 (fun k x acc hx hk ha hi=>?_) (fun acc ha hi=>?_)
 .rw[Tv]at hk
  rw[T9 hk]at hx
  cases hx
  refine hr k acc hk ?_ hi
  rw[ha,List.take_range,Nat.min_eq_left (by omega)]
 .rw[Tv]at hi |-
  exact he acc ha hi
def aN (S:Nat->St) (k:Nat) (p:Bool) (Q:Ex->St->Prop) (_t:mZ (S,k,p,Q):=.mk):Ex->St->Prop
 |.normal,s=>p=false/\s=S k
 |.exit i,s=>Q (.exit i) s
 |.ret,s=>Q .ret s
@[go_sem] theorem J7 (S:Nat->St) (k:Nat) (p:Bool) (Q:Ex->St->Prop) (i:Nat) (s:St):aN S k p Q .mk (.exit i) s=Q (.exit i) s:=rfl
@[go_sem] theorem Mj (S:Nat->St) (k:Nat) (p:Bool) (Q:Ex->St->Prop) (s:St):aN S k p Q .mk .ret s=Q .ret s:=rfl
theorem aN.of {S:Nat->St} {k:Nat} {p:Bool} {Q:Ex->St->Prop} {s:St} (h:p=false) (h2:s=S k):aN S k p Q .mk .normal s:=⟨h,h2⟩
structure Found {α:Type} (l:List α) (p:α->Bool) (k:Nat) (x:α):Prop where
 any:l.any p=true
 all:l.all (fun y=>!p y)=false
 find:l.find? p=some x
 idx:l.findIdx? p=some k
structure gK {α:Type} (l:List α) (p:α->Bool):Prop where
 any:l.any p=false
 all:l.all (fun y=>!p y)=true
 find:l.find? p=none
 idx:l.findIdx? p=none
theorem Cx {α:Type} {l:List α} {p:α->Bool} {k:Nat} {x:α} (hb:∀j,j<k->∀y,l[j]?=some y->p y=false) (hx:l[k]?=some x) (hp:p x=true):Found l p k x:=by
 obtain⟨hk,rfl⟩:=Tg.1 hx
 have hi:l.findIdx? p=some k:=by
  rw[TG]
  exact⟨hk,hp,fun j hj=>by simpa using hb j hj _ (by rw[List.getElem?_eq_getElem (by omega)])⟩
 refine⟨Uf.2 ⟨_,T8 hk,hp⟩,?_,?_,hi⟩
 .rw[List.all_eq_false]
  exact⟨_,List.getElem_mem hk,by simp[hp]⟩
 .rw[List.find?_eq_some_iff_getElem]
  exact⟨hp,k,hk,rfl,fun j hj=>by simpa using hb j hj _ (by rw[List.getElem?_eq_getElem (by omega)])⟩
theorem yn {α:Type} {l:List α} {p:α->Bool} (hb:∀j,j<l.length->∀y,l[j]?=some y->p y=false):gK l p:=by
 have hm:∀x∈l,p x=false:=fun x hx=>by
  obtain⟨j,hj,rfl⟩:=UG hx
  exact hb j hj _ (by rw[Th])
 exact⟨by rw[List.any_eq_false]; intro x hx; simp[hm x hx],by rw[List.all_eq_true]; intro x hx; simp[hm x hx],by rw[List.find?_eq_none]; intro x hx; simp[hm x hx],by rw[List.findIdx?_eq_none_iff]; exact hm⟩
theorem W.find {α:Type} {a:AC} {s:St} {Q:Ex->St->Prop} (l:List α) (p:α->Bool) (S:Nat->St) (hs:s=S 0)
  (hr:∀k x,l[k]?=some x->k<l.length->(p x=true->Found l p k x)->W A Pr a (S k) (aN S (k+1) (p x) Q))
  (he:gK l p->W A Pr a (S l.length) (wx Q)):W A Pr (.loop a) s Q:=by
 refine W.du l.length S (fun k=>∀j,j<k->∀y,l[j]?=some y->p y=false) hs (fun j hj=>absurd hj (Ur _)) fun k hk hi=>?_
 rcases Tm k l.length with h|h
 .obtain⟨x,hx⟩:∃x,l[k]?=some x:=⟨l[k],by simp[h]⟩
  obtain⟨ex,s',h1,h2⟩:=hr k x hx h (fun hp=>Cx hi hx hp)
  refine⟨ex,s',h1,?_⟩
  cases ex with
  |normal=>
   refine .of h h2.2 fun j hj y hy=>?_
   rcases Tm j k with g|g
   .exact hi j g y hy
   .obtain rfl:j=k:=by omega
    rw[hx]at hy
    cases hy
    exact h2.1
  |exit i=>exact h2
  |ret=>exact h2
 .obtain rfl:k=l.length:=by omega
  obtain⟨ex,s',h1,h2⟩:=he (yn hi)
  refine⟨ex,s',h1,?_⟩
  cases ex with
  |normal=>exact h2.elim
  |exit i=>exact h2
  |ret=>exact h2
def yp (A:Nat->Option aj) (Pr:bd) (a:AC) (Q:Ex->St->Prop) (_t:mZ (a,Q):=.mk):Ex->St->Prop
 |.normal,s=>W A Pr (.loop a) s Q
 |.exit i,s=>Q (.exit i) s
 |.ret,s=>Q .ret s
@[go_sem] theorem DY (a:AC) (Q:Ex->St->Prop) (s:St):yp A Pr a Q .mk .normal s=W A Pr (.loop a) s Q:=rfl
@[go_sem] theorem F9 (a:AC) (Q:Ex->St->Prop) (i:Nat) (s:St):yp A Pr a Q .mk (.exit i) s=Q (.exit i) s:=rfl
@[go_sem] theorem J8 (a:AC) (Q:Ex->St->Prop) (s:St):yp A Pr a Q .mk .ret s=Q .ret s:=rfl
end Go.Pv
namespace Go.Pv
def sG (n b:Nat) (rows:List (List PV)):V:=if rows.length<=b then .tl rows else .own n (rows.length - b - 1) 0 rows.length
def AG (k b:Nat) (rows:List (List PV)):List aR:=if rows.length<=b then [] else [⟨rows.length - b - 1,k,.inl rows⟩]
theorem lq {n b:Nat} {rows:List (List PV)} (h:rows.length<=b):sG n b rows=.tl rows:=if_pos h
theorem lu {k b:Nat} {rows:List (List PV)} (h:rows.length<=b):AG k b rows=[]:=if_pos h
theorem jQ {n b m:Nat} {rows:List (List PV)} (h:rows.length=b+m+1):sG n b rows=.own n m 0 (b+m+1):=by
 unfold sG
 rw[if_neg (by omega),h,show b+m+1 - b - 1=m by omega]
theorem jR {k b m:Nat} {rows:List (List PV)} (h:rows.length=b+m+1):AG k b rows=[⟨m,k,.inl rows⟩]:=by
 unfold AG
 rw[if_neg (by omega),h,show b+m+1 - b - 1=m by omega]
theorem wy {b:Nat} {rows:List (List PV)}:rows.length<=b\/∃m,rows.length=b+m+1:=by
 rcases Tm b rows.length with h|h
 .exact .inr ⟨rows.length - b - 1,by omega⟩
 .exact .inl h
theorem Cy {n b:Nat} {rows:List (List PV)} {r:List PV} (h:b<=rows.length):sG n b (rows++[r])=.own n (rows.length - b) 0 (rows.length+1):=by
 rw[jQ (m:=rows.length - b) (by simp; omega),show b+(rows.length - b)+1=rows.length+1 by omega]
theorem Cz {k b:Nat} {rows:List (List PV)} {r:List PV} (h:b<=rows.length):AG k b (rows++[r])=[⟨rows.length - b,k,.inl (rows++[r])⟩]:=jR (by simp; omega)
def Ga (id aA off len k:Nat) (r:List PV) (a:aR):Option (V×Tn):=
 if off+len<=a.size/\a.k=k/\len+1<=aT then some (.own id (aA+1) 0 (len+1),{ ar:=some (id,⟨aA+1,k,bN (aI off len a.body) (.inl [r])⟩) }) else none
theorem wz (h:aw) (id aA off len k:Nat) (r:List PV) (hr:r.length=k):aV h k (.own id aA off len) (.tl [r])=(aE h id aA).bind (Ga id aA off len k r):=by
 cases ho:aE h id aA with
 |none=>simp[aV,bB,aW,ho]
 |some a=>
  simp only[aV,bB,aW,ho,aJ,Ga,List.all_cons,List.all_nil,List.length_cons,List.length_nil,Option.bind_some,hr,beq_self_eq_true,Bool.and_self,if_true]
  by_cases h1:off+len<=a.size<;>by_cases h2:a.k=k<;>by_cases h3:len+1<=aT<;>simp[h1,h2,h3]
theorem CA {id aA len k:Nat} {r:List PV} {l:List (List PV)} (h1:len=l.length) (h2:l.length+1<=2147483648):Ga id aA 0 len k r ⟨aA,k,.inl l⟩=some (.own id (aA+1) 0 (len+1),{ ar:=some (id,⟨aA+1,k,.inl (l++[r])⟩) }):=by
 subst h1
 unfold Ga
 rw[if_pos ⟨by simp[aR.size],rfl,h2⟩]
 simp[bN,aI]
theorem uL (h:aw) (k:Nat) (rows:List (List PV)) (r:List PV) (hr:r.length=k) (hk:∀x∈rows,x.length=k) (hm:rows.length+1<=2147483648):aV h k (.tl rows) (.tl [r])=some (.own h.ar.length 0 0 (rows.length+1),{ push:=[⟨0,k,.inl (rows++[r])⟩],base:=h.ar.length }):=by
 have:(rows.all fun x=>x.length==k)=true:=by simpa using hk
 simp[aV,bB,aW,aJ,aT,bN,hr,this,hm]
@[go_sem] theorem QB (h:aw) (l:List Int) (x:Int) (hm:l.length+1<=2147483648):aV h 1 (.tl (ints l)) (.tl [[.int .i64 x]])=some (.own h.ar.length 0 0 (l.length+1),{ push:=[⟨0,1,.inl (ints (l++[x]))⟩],base:=h.ar.length }):=by
 rw[uL h 1 (ints l) [.int .i64 x] rfl (by simp[ints]) (by rw[bq]; exact hm),bq,ln]
@[go_sem] theorem QC (h:aw) (n b:Nat) (rows:List (List PV)):gY h 0 (sG n b rows)=some (rows.length,{}):=by unfold sG; split<;>rfl
@[go_sem] theorem O2 (kb:List Nat) (n b:Nat) (rows:List (List PV)):dP kb (sG n b rows)=sG n b rows:=by unfold sG; split<;>rfl
@[go_sem] theorem QD (h:aw) (n b:Nat) (rows:List (List PV)):cx h false (sG n b rows)=bw h 4 (sG n b rows):=by unfold sG; split<;>rfl
theorem wA (bx:List (Nat×List V)) (mp:List (List (PV×PV))) (pre:List aR) (k b d:Nat) (rows:List (List PV)):bw ⟨bx,pre++AG k b rows,mp⟩ (d+1) (sG pre.length b rows)=some (.ai 0 rows):=by
 unfold sG AG
 split
 .rfl
 .simp[fJ,aE,cr,aI]
@[go_sem] theorem Mk (bx:List (Nat×List V)) (mp:List (List (PV×PV))) (k b:Nat) (rows:List (List PV)):bw ⟨bx,AG k b rows,mp⟩ 4 (sG 0 b rows)=some (.ai 0 rows):=wA bx mp [] k b 3 rows
@[go_sem] theorem Ml (bx:List (Nat×List V)) (mp:List (List (PV×PV))) (a:aR) (k b:Nat) (rows:List (List PV)):bw ⟨bx,a::AG k b rows,mp⟩ 4 (sG 1 b rows)=some (.ai 0 rows):=wA bx mp [a] k b 3 rows
attribute [go_sem] Int.lt_irrefl
@[go_sem] theorem O3 (r:Raw):r.c.length=2:=rfl
def wr (x:Int):Int:=IntKind.wrap .i64 x
def CB (acc:Int) (r:Raw):Int:=wr (wr (acc+1)+r.data.size)
def BD:Nat->List PV->Int
 |0,_=>0
 |n+1,cs=>match cs with
  |[_,_,_,.str s,_,.ai _ keys,.ai _ items,.ai _ rest]=>rest.foldl (fun acc r=>match r with|[_,.str d]=>wr (wr (acc+1)+d.size)|_=>acc) (items.foldl (fun acc r=>wr (acc+BD n r)) (keys.foldl (fun acc r=>wr (acc+BD n r)) (wr (1+s.size))))
  |_=>0
theorem EP (n:Nat) (v:cU):BD (n+1) v.c=v.rest.foldl CB (v.items.foldl (fun acc r=>wr (acc+BD n r)) (v.keys.foldl (fun acc r=>wr (acc+BD n r)) (wr (1+v.str.size)))):=by
 unfold cU.c
 simp only[BD]
 rw[List.foldl_map]
 rfl
theorem iZ.len:∀{n:Nat} {cs:List PV},iZ n cs->cs.length=8
 |0,_,h=>h.elim
 |_+1,_,h=>by
  obtain⟨v,rfl,_⟩:=h
  rfl
theorem iZ.val {n:Nat} {cs:List PV} (h:iZ n cs):∃w:cU,cs=w.c:=by
 cases n with
 |zero=>exact h.elim
 |succ n=>
  obtain⟨v,hv,_⟩:=h
  exact⟨v,hv⟩
set_option maxHeartbeats 2000000 in
theorem r282:∀(n:Nat) (cs:List PV),iZ n cs->res A ay 282 [.agg cs]=some [.int .i64 (BD n cs)]
 |0,cs,h=>h.elim
 |n+1,cs,h=>by
  obtain⟨v,rfl,⟨h1,h2,h3,h4⟩,⟨h5,h6,h7⟩,h8,h9,h10⟩:=h
  have ih:=r282 n
  rw[EP]
  unfold bT at h5 h6 h7
  unfold bh at h3
  obtain⟨kind,bool,int,str,id,keys,items,rest⟩:=v
  unfold cU.c
  dsimp only at *
  refine aq a282 rfl rfl ?_
  simp only[F282,HM]
  simp(disch:=omega)only[go_sem]
  refine W.fold keys (fun acc r=>wr (acc+BD n r)) (wr (1+str.size)) (fun k acc=>⟨[(1,.ptr 1 0),(3,.pv (.int .i64 acc)),(4,.pv (.int .i64 k))],⟨[(1,[.pv (.int .i64 kind),.pv (.bool bool),.pv (.int .i64 int),.pv (.str str),.pv (.int .i64 id),.pv (.ai 0 keys),.pv (.ai 0 items),.pv (.ai 0 (rest.map Raw.c))])],[],[]⟩⟩) (fun _ _=>True) rfl trivial (fun k r acc hr hk _ _=>?_) (fun acc hacc _=>?_)
  .have hv:=h8 r (Tf hr)
   obtain⟨w,rfl⟩:=hv.val
   have hi:=ih _ hv
   generalize BD n w.c=z at hi |-
   unfold cU.c at hi hr
   simp(disch:=omega)only[go_sem]
   refine Br.aB (fun h=>?_) (fun h=>(h (by omega)).elim)
   simp(disch:=omega)only[go_sem,hr,hi]
   exact bQ.of rfl trivial
  .simp(disch:=omega)only[go_sem]
   refine W.fold items (fun acc r=>wr (acc+BD n r)) acc (fun k acc=>⟨[(1,.ptr 1 0),(3,.pv (.int .i64 acc)),(5,.pv (.int .i64 k))],⟨[(1,[.pv (.int .i64 kind),.pv (.bool bool),.pv (.int .i64 int),.pv (.str str),.pv (.int .i64 id),.pv (.ai 0 keys),.pv (.ai 0 items),.pv (.ai 0 (rest.map Raw.c))])],[],[]⟩⟩) (fun _ _=>True) rfl trivial (fun k r acc hr hk _ _=>?_) (fun acc2 hacc2 _=>?_)
   .have hv:=h9 r (Tf hr)
    obtain⟨w,rfl⟩:=hv.val
    have hi:=ih _ hv
    generalize BD n w.c=z at hi |-
    unfold cU.c at hi hr
    simp(disch:=omega)only[go_sem]
    refine Br.aB (fun h=>?_) (fun h=>(h (by omega)).elim)
    simp(disch:=omega)only[go_sem,hr,hi]
    exact bQ.of rfl trivial
   .simp(disch:=omega)only[go_sem]
    refine W.fold rest CB acc2 (fun k acc=>⟨[(1,.ptr 1 0),(3,.pv (.int .i64 acc)),(6,.pv (.int .i64 k))],⟨[(1,[.pv (.int .i64 kind),.pv (.bool bool),.pv (.int .i64 int),.pv (.str str),.pv (.int .i64 id),.pv (.ai 0 keys),.pv (.ai 0 items),.pv (.ai 0 (rest.map Raw.c))])],[],[]⟩⟩) (fun _ _=>True) rfl trivial (fun k r acc hr hk _ _=>?_) (fun acc3 hacc3 _=>?_)
    .have hrk:=(h10 r (Tf hr)).2
     unfold bh at hrk
     simp(disch:=omega)only[go_sem]
     refine Br.aB (fun h=>?_) (fun h=>(h (by omega)).elim)
     simp(disch:=omega)only[go_sem,hr,Raw.c]
     exact bQ.of rfl trivial
    .simp(disch:=omega)only[go_sem]
     rw[hacc3,hacc2,hacc]
@[go_sem] theorem O4 (t:aD):t.c.length=10:=rfl
@[go_sem] theorem O5 (t:Mem):t.c.length=13:=rfl
@[go_sem] theorem O6 (t:Sym):t.c.length=2:=rfl
open Classical in
noncomputable def QE (cs:List PV):Int:=if h:∃n,iZ n cs then BD (Classical.choose h) cs else 0
theorem r282v {cs:List PV} (h:∃n,iZ n cs):res A ay 282 [.agg cs]=some [.int .i64 (QE cs)]:=by
 unfold QE
 rw[dif_pos h]
 exact r282 _ cs (Classical.choose_spec h)
noncomputable def J9 (acc:Int) (m:Mem):Int:=wr (wr (acc+QE m.fQ.c)+m.name.size)
noncomputable def Ka (acc:Int) (t:aD):Int:=(t.aS.take 100).foldl J9 (wr (wr (wr (acc+t.aS.length)+t.syms.length)+t.name.size))
noncomputable def AH (l:List aD):Bool:=decide ((l.length:Int)<=40)&&decide (l.foldl Ka 0<=400)
set_option maxHeartbeats 4000000 in
theorem r266 (u:Nat) (l:List aD) (ho:∀t∈l,t.ok):res A ay 266 [.agg [.ai u (l.map aD.c)]]=some [.bool (AH l)]:=by
 refine aq a266 rfl rfl ?_
 simp only[F266,HI]
 simp(disch:=omega)only[go_sem]
 refine Br.aB (fun h40=>?_) (fun h40=>?_)<;>simp(disch:=omega)only[go_sem,h40]
 .have:¬(l.length:Int)<=40:=by omega
  simp[AH,this]
 refine W.fold l Ka 0 (fun k acc=>⟨[(1,.ptr 1 0),(3,.pv (.int .i64 acc)),(4,.pv (.int .i64 k))],⟨[(1,[.pv (.ai u (l.map aD.c))])],[],[]⟩⟩) (fun _ _=>True) rfl trivial (fun k t acc ht hk _ _=>?_) (fun acc hacc _=>?_)
 .obtain⟨⟨_,t2,_⟩,⟨t3,t4⟩,_,t5⟩:=ho t (Tf ht)
  unfold bh at t2
  unfold bT at t3 t4
  simp(disch:=omega)only[go_sem]
  refine Br.aB (fun h=>?_) (fun h=>(h (by omega)).elim)
  simp(disch:=omega)only[go_sem,ht,aD.c]
  refine W.fold (t.aS.take 100) J9 (wr (wr (wr (acc+t.aS.length)+t.syms.length)+t.name.size)) (fun j n=>⟨[(1,.ptr 1 0),(3,.pv (.int .i64 n)),(4,.pv (.int .i64 k)),(5,.ptr 5 0),(6,.pv (.int .i64 j))],⟨[(1,[.pv (.ai u (l.map aD.c))]),(5,t.c.map .pv)],[],[]⟩⟩) (fun _ _=>True) rfl trivial (fun j m n hm hj _ _=>?_) (fun n hn _=>?_)
  .have hj':j<100/\j<t.aS.length:=by rw[Tt]at hj; omega
   have hm:t.aS[j]?=some m:=by
    rw[Tz,if_pos hj'.1]at hm
    exact hm
   obtain⟨_,m2,_,m3⟩:=t5 m (Tf hm)
   unfold bh at m2
   have hsz:=r282v m3
   generalize hz:QE m.fQ.c=z at hsz
   unfold cU.c at hsz
   unfold aD.c
   simp(disch:=omega)only[go_sem,List.map_cons,List.map_nil]
   refine Br.aB (fun c=>?_) (fun c=>(c (by omega)).elim)
   simp(disch:=omega)only[go_sem,c]
   refine Br.aB (fun c2=>?_) (fun c2=>(c2 (by omega)).elim)
   simp(disch:=omega)only[go_sem,hm,Mem.c,hsz]
   refine bQ.of ?_ trivial
   show _=St.mk _ _
   unfold J9
   rw[hz]
   rfl
  .have hlen:¬((t.aS.take 100).length<100/\(t.aS.take 100).length<t.aS.length):=by rw[Tt]; omega
   have hle:(t.aS.take 100).length<=t.aS.length:=by rw[Tt]; omega
   have hl1:(t.aS.take 100).length<=100:=by rw[Tt]; omega
   generalize (t.aS.take 100).length=j at hlen hle hl1
   unfold aD.c
   simp(disch:=omega)only[go_sem,List.map_cons,List.map_nil]
   have fin:(⟨[(1,.ptr 1 0),(3,.pv (.int .i64 n)),(4,.pv (.int .i64 (k+1)))],⟨[(1,[.pv (.ai u (l.map aD.c))])],[],[]⟩⟩:St)=⟨[(1,.ptr 1 0),(3,.pv (.int .i64 (Ka acc t))),(4,.pv (.int .i64 ((k+1:Nat):Int)))],⟨[(1,[.pv (.ai u (l.map aD.c))])],[],[]⟩⟩:=by
    rw[hn]
    rfl
   refine Br.aB (fun c=>?_) (fun c=>?_)<;>simp(disch:=omega)only[go_sem,c]
   .refine Br.aB (fun c2=>(hlen (by omega)).elim) (fun c2=>?_)
    simp(disch:=omega)only[go_sem,c2]
    exact bQ.of fin trivial
   .exact bQ.of fin trivial
 .simp(disch:=omega)only[go_sem]
  have h4:(l.length:Int)<=40:=by omega
  simp[AH,h4,hacc]
def sH (x:Int):Bool:=decide (x=95)||(decide (97<=x)&&decide (x<=122))||(decide (65<=x)&&decide (x<=90))
def uM (x:Int):Bool:=decide (48<=x)&&decide (x<=57)
theorem wB {p:Bool} (h:p=true):(some [PV.bool true]:Option (List PV))=some [PV.bool p]:=by rw[h]
theorem fL {p:Bool} (h:p=false):(some [PV.bool false]:Option (List PV))=some [PV.bool p]:=by rw[h]
@[go_sem] theorem r323 (x:Int):res A ay 323 [.int .u8 x]=some [.bool (sH x)]:=by
 refine aq a323 rfl rfl ?_
 simp only[F323,Ia]
 simp(disch:=omega)only[go_sem]
 unfold sH
 repeat' (refine Br.aB (fun h=>?_) (fun h=>?_)<;>simp(disch:=omega)only[go_sem,h])
 all_goals (congr 3; rw[Bool.eq_iff_iff]; simp; omega)
@[go_sem] theorem r324 (x:Int):res A ay 324 [.int .u8 x]=some [.bool (uM x)]:=by
 refine aq a324 rfl rfl ?_
 simp only[F324,Ib]
 simp(disch:=omega)only[go_sem]
 unfold uM
 repeat' (refine Br.aB (fun h=>?_) (fun h=>?_)<;>simp(disch:=omega)only[go_sem,h])
 all_goals (congr 3; rw[Bool.eq_iff_iff]; simp; omega)
@[go_sem] theorem r327 (x:Int):res A ay 327 [.int .u8 x]=some [.bool (sH x)]:=by
 refine aq a327 rfl rfl ?_
 simp only[F327,Ig]
 simp(disch:=omega)only[go_sem]
 unfold sH
 repeat' (refine Br.aB (fun h=>?_) (fun h=>?_)<;>simp(disch:=omega)only[go_sem,h])
 all_goals (congr 3; rw[Bool.eq_iff_iff]; simp; omega)
@[go_sem] theorem r328 (x:Int):res A ay 328 [.int .u8 x]=some [.bool (uM x)]:=by
 refine aq a328 rfl rfl ?_
 simp only[F328,Ih]
 simp(disch:=omega)only[go_sem]
 unfold uM
 repeat' (refine Br.aB (fun h=>?_) (fun h=>?_)<;>simp(disch:=omega)only[go_sem,h])
 all_goals (congr 3; rw[Bool.eq_iff_iff]; simp; omega)
def i6 (s:ByteArray):List Int:=s.data.toList.map fun b=>(b.toNat:Int)
theorem ml (s:ByteArray):(i6 s).length=s.size:=by
 show (s.data.toList.map _).length=s.data.size
 rw[Tl,UF]
theorem uN {s:ByteArray} {i:Int} {x:Int} (h0:0<=i) (h:(i6 s)[i.toNat]?=some x):Eo (some i) (.pv (.str s))=some (.pv (.int .u8 x)):=by
 have hlt:=(Tg.1 h).1
 rw[ml]at hlt
 have h1:s[i.toNat]?=some (s[i.toNat]'hlt):=getElem?_pos s i.toNat hlt
 simp only[Eo,uJ h0 (show i<(s.size:Int) by omega),h1]
 simp only[i6,List.getElem?_map]at h
 have h2:s.data.toList[i.toNat]?=some (s[i.toNat]'hlt):=by
  rw[Tw]
  exact UB hlt
 rw[h2]at h
 simp only[Option.map_some,Option.some.injEq]at h
 rw[h]
def kK:List Int->Bool
 |[]=>false
 |x::r=>decide ((x::r).length<=24)&&sH x&&!(x::r).any fun y=>!sH y&&!uM y
def isName (s:ByteArray):Bool:=kK (i6 s)
theorem r306 (s:ByteArray) (hs:bh s):res A ay 306 [.str s]=some [.bool (isName s)]:=by
 refine aq a306 rfl rfl ?_
 simp only[F306,HY]
 simp(disch:=omega)only[go_sem]
 refine Br.aB (fun e=>?_) (fun e=>?_)<;>simp(disch:=omega)only[go_sem,e]
 .rfl
 have hb:=ml s
 unfold bh at hs
 unfold isName
 generalize hl:i6 s=l at hb
 cases l with
 |nil=>exact(e (by
   obtain⟨⟨d⟩⟩:=s
   simp only[ByteArray.size,List.size_toArray,List.length_nil]at hb
   rw[Tx hb.symm])).elim
 |cons x r=>
  have hx:(i6 s)[(0:Int).toNat]?=some x:=by rw[hl]; rfl
  have h0:=uN (UT 0) hx
  refine Br.aB (fun e2=>?_) (fun e2=>?_)<;>simp(disch:=omega)only[go_sem,e2]
  .refine fL ?_
   have:¬(x::r).length<=24:=by omega
   simp only[kK,this,decide_false,Bool.false_and]
  simp(disch:=omega)only[go_sem,h0]
  refine Br.of (fun e3=>?_) (fun e3=>?_)<;>simp(disch:=omega)only[go_sem,e3]
  rotate_left
  .refine fL ?_
   simp only[kK,e3,Bool.and_false,Bool.false_and]
  .refine W.find (x::r) (fun y=>!sH y&&!uM y) (fun k=>⟨[(0,.pv (.str s)),(18,.pv (.int .i64 s.size)),(19,.pv (.int .i64 k))],⟨[],[],[]⟩⟩) rfl (fun k y hy hk hfd=>?_) (fun hn=>?_)
   .have hy':(i6 s)[(k:Int).toNat]?=some y:=by rw[hl,T0]; exact hy
    have hk':=uN (Int.natCast_nonneg k) hy'
    simp(disch:=omega)only[go_sem]
    refine Br.aB (fun c=>?_) (fun c=>(c (by omega)).elim)
    simp(disch:=omega)only[go_sem,hk']
    have done:(!sH y&&!uM y)=true->(some [PV.bool false]:Option (List PV))=some [.bool (kK (x::r))]:=fun g=>by
     refine fL ?_
     simp only[kK,(hfd g).any,Bool.not_true,Bool.and_false]
    refine Br.of (fun g=>?_) (fun g=>?_)<;>simp(disch:=omega)only[go_sem,hk',g]
    .exact aN.of (by simp[g]) rfl
    .refine Br.of (fun g2=>?_) (fun g2=>?_)<;>simp(disch:=omega)only[go_sem,g2]
     .exact aN.of (by simp[g2]) rfl
     .exact done (by simp[g,g2])
   .simp(disch:=omega)only[go_sem,hb]
    refine wB ?_
    have h24:(x::r).length<=24:=by omega
    simp only[kK,h24,e3,hn.any,decide_true,Bool.not_false,Bool.and_self]
theorem r310 (s:ByteArray) (hs:bh s):res A ay 310 [.str s]=some [.bool (isName s)]:=by
 refine aq a310 rfl rfl ?_
 simp only[F310,H3]
 simp(disch:=omega)only[go_sem]
 refine Br.aB (fun e=>?_) (fun e=>?_)<;>simp(disch:=omega)only[go_sem,e]
 .rfl
 have hb:=ml s
 unfold bh at hs
 unfold isName
 generalize hl:i6 s=l at hb
 cases l with
 |nil=>exact(e (by
   obtain⟨⟨d⟩⟩:=s
   simp only[ByteArray.size,List.size_toArray,List.length_nil]at hb
   rw[Tx hb.symm])).elim
 |cons x r=>
  have hx:(i6 s)[(0:Int).toNat]?=some x:=by rw[hl]; rfl
  have h0:=uN (UT 0) hx
  refine Br.aB (fun e2=>?_) (fun e2=>?_)<;>simp(disch:=omega)only[go_sem,e2]
  .refine fL ?_
   have:¬(x::r).length<=24:=by omega
   simp only[kK,this,decide_false,Bool.false_and]
  simp(disch:=omega)only[go_sem,h0]
  refine Br.of (fun e3=>?_) (fun e3=>?_)<;>simp(disch:=omega)only[go_sem,e3]
  rotate_left
  .refine fL ?_
   simp only[kK,e3,Bool.and_false,Bool.false_and]
  .refine W.find (x::r) (fun y=>!sH y&&!uM y) (fun k=>⟨[(0,.pv (.str s)),(3,.pv (.int .i64 k))],⟨[],[],[]⟩⟩) rfl (fun k y hy hk hfd=>?_) (fun hn=>?_)
   .have hy':(i6 s)[(k:Int).toNat]?=some y:=by rw[hl,T0]; exact hy
    have hk':=uN (Int.natCast_nonneg k) hy'
    simp(disch:=omega)only[go_sem]
    refine Br.aB (fun c=>?_) (fun c=>(c (by omega)).elim)
    simp(disch:=omega)only[go_sem,hk']
    have done:(!sH y&&!uM y)=true->(some [PV.bool false]:Option (List PV))=some [.bool (kK (x::r))]:=fun g=>by
     refine fL ?_
     simp only[kK,(hfd g).any,Bool.not_true,Bool.and_false]
    refine Br.of (fun g=>?_) (fun g=>?_)<;>simp(disch:=omega)only[go_sem,hk',g]
    .exact aN.of (by simp[g]) rfl
    .refine Br.of (fun g2=>?_) (fun g2=>?_)<;>simp(disch:=omega)only[go_sem,g2]
     .exact aN.of (by simp[g2]) rfl
     .exact done (by simp[g,g2])
   .simp(disch:=omega)only[go_sem,hb]
    refine wB ?_
    have h24:(x::r).length<=24:=by omega
    simp only[kK,h24,e3,hn.any,decide_true,Bool.not_false,Bool.and_self]
def ir (l:List ByteArray):List (PV×PV):=l.map fun s=>(.str s,.bool true)
def j5 (x:ByteArray) (l:List ByteArray):Option (Nat×PV):=(l.findIdx? fun s=>decide (s=x)).map fun i=>(i,.bool true)
def ch (l:List ByteArray) (x:ByteArray):Bool:=l.any fun s=>decide (s=x)
theorem iu {l:List ByteArray} {x:ByteArray}:ch l x=true↔x∈l:=by simp[ch]
def oH (l:List ByteArray) (x:ByteArray):List ByteArray:=if ch l x=true then l else l++[x]
theorem CC {l:List ByteArray} {x y:ByteArray}:y∈oH l x↔y∈l\/y=x:=by
 unfold oH
 split
 .rename_i h
  rw[iu]at h
  constructor
  .exact .inl
  .rintro (h1|rfl)
   .exact h1
   .exact h
 .simp
theorem tN (a b:ByteArray):gX false [2] (.str a) (.str b)=some (decide (a=b)):=by
 show aX [2] [.str a] [.str b]=_
 rw[py,Eu,yf]
 simp
theorem pB (x:ByteArray):∀(l:List ByteArray) (i:Nat),findKey false [2] (.str x) (ir l) i=some ((j5 x l).map fun p=>(p.1+i,p.2))
 |[],i=>by
  show (if (gX false [2] (.str x) (.str x)).isSome then some none else none)=_
  rw[tN]
  rfl
 |y::l,i=>by
  show (match gX false [2] (.str x) (.str y)with
   |some true=>some (some (i,PV.bool true))
   |some false=>findKey false [2] (.str x) (ir l) (i+1)
   |none=>none)=_
  rw[tN]
  by_cases h:x=y
  .subst h
   simp[j5,List.findIdx?_cons]
  .have h':¬y=x:=fun e=>h e.symm
   simp only[h,decide_false]
   rw[pB x l (i+1)]
   simp only[j5,List.findIdx?_cons,h',decide_false]
   cases l.findIdx? fun s=>decide (s=x)with
   |none=>rfl
   |some j=>simp; omega
@[go_sem] theorem yq (x:ByteArray) (l:List ByteArray):findKey false [2] (.str x) (ir l) 0=some (j5 x l):=by
 rw[pB]
 cases j5 x l<;>rfl
theorem rB {x:ByteArray} {l:List ByteArray}:(j5 x l).isSome=true↔x∈l:=by
 unfold j5
 rw[Option.isSome_map,List.findIdx?_isSome,Uf]
 simp
@[go_sem] theorem Gb (x:ByteArray) (l:List ByteArray):oB (.pv (.bool false)) false (j5 x l)=.pv (.bool (ch l x)):=by
 have h:=rB (x:=x) (l:=l)
 rw[<- iu]at h
 cases hl:j5 x l with
 |none=>
  rw[hl]at h
  have:ch l x=false:=by
   cases hx:ch l x with
   |false=>rfl
   |true=>simpa using h.2 hx
  simp[oB,this]
 |some p=>
  rw[hl]at h
  have hx:ch l x=true:=h.1 rfl
  have hp:p.2=.bool true:=by
   unfold j5 at hl
   obtain⟨i,_,rfl⟩:=TV.1 hl
   rfl
  simp[oB,hx,hp]
@[go_sem] theorem Mm (x:ByteArray) (l:List ByteArray) (id:Nat):uI false [2] (.str x) (.bool true) id (ir l)=some { mp:=some (id,ir (oH l x)) }:=by
 unfold uI
 rw[yq]
 have h:=rB (x:=x) (l:=l)
 rw[<- iu]at h
 cases hl:j5 x l with
 |none=>
  rw[hl]at h
  have:ch l x=false:=by
   cases hx:ch l x with
   |false=>rfl
   |true=>simpa using h.2 hx
  simp[oH,this,ir]
 |some p=>
  rw[hl]at h
  have hx:ch l x=true:=h.1 rfl
  unfold j5 at hl
  obtain⟨i,hi,rfl⟩:=TV.1 hl
  obtain⟨h1,h2,_⟩:=TG.1 hi
  have h3:l[i]=x:=by simpa using h2
  simp only[oH,hx,if_true]
  congr 4
  apply TW
  intro j
  rw[List.getElem?_set]
  split
  .rename_i hj
   subst hj
   simp[ir,h1,h3]
  .rfl
def strs (l:List ByteArray):List (List PV):=l.map fun s=>[.str s]
@[go_sem] theorem eU (l:List ByteArray):(strs l).length=l.length:=by simp[strs]
@[go_sem] theorem O7 (l:List ByteArray) (i:Nat):(strs l)[i]?=l[i]?.map fun s=>[.str s]:=by simp[strs]
theorem oI (l:List ByteArray) (x:ByteArray):strs l++[[.str x]]=strs (l++[x]):=by simp[strs]
abbrev Nm:=Int×ByteArray
def lQ (l:List Nm) (k:Nat):Int:=((l[k - 1]?).map (·.1)).getD 0
def iw (l:List Nm) (k:Nat) (p:Nm):Bool:=decide (p.1<1)||decide (1000<p.1)||(decide (0<k)&&decide (p.1<=lQ l k))||ch ((l.map (·.2)).take k) p.2||!isName p.2
def ix (l:List Nm) (k:Nat):Bool:=match l[k]? with
 |some p=>iw l k p
 |none=>false
def j6 (l:List Nm):Bool:=!(List.range l.length).any (ix l)
theorem cI {n k x:Nat} (h:(List.range n)[k]?=some x):x=k/\k<n:=by
 obtain⟨h1,h2⟩:=Tg.1 h
 simp at h1 h2
 exact⟨h2.symm,h1⟩
set_option maxHeartbeats 1000000 in
theorem r325 (t u:Nat) (l:List Nm) (hl:l.length<=2^63 - 1) (hs:∀p∈l,bh p.2):res A ay 325 [.ai t (ints (l.map (·.1))),.ai u (strs (l.map (·.2)))]=some [.bool (j6 l&&decide (l.length<=16))]:=by
 refine aq a325 rfl rfl ?_
 simp only[F325,Ic]
 simp(disch:=omega)only[go_sem]
 refine W.find (List.range l.length) (ix l) (fun k=>⟨[(0,.pv (.ai t (ints (l.map (·.1))))),(1,.pv (.ai u (strs (l.map (·.2))))),(5,.map 0),(9,.pv (.ai t (ints (l.map (·.1))))),(10,.pv (.int .i64 l.length)),(11,.pv (.int .i64 k))],⟨[],[],[ir ((l.map (·.2)).take k)]⟩⟩) ?_ (fun k x hx hk hfd=>?_) (fun hn=>?_)
 .simp[ir]
 .obtain⟨rfl,hk⟩:=cI hx
  have hp:=Th hk
  generalize l[x]=p at hp
  have h1:(l.map (·.1))[x]?=some p.1:=by rw[To,hp]; rfl
  have h2:(l.map (·.2))[x]?=some p.2:=by rw[To,hp]; rfl
  have hnm:=r306 p.2 (hs p (Tf hp))
  have hb:ix l x=iw l x p:=by simp only[ix,hp]
  have done:iw l x p=true->(some [PV.bool false]:Option (List PV))=some [PV.bool (j6 l&&decide (l.length<=16))]:=fun g=>by
   refine fL ?_
   rw[<- hb]at g
   simp only[j6,(hfd g).any,Bool.not_true,Bool.false_and]
  rw[hb]
  have hins:ch ((l.map (·.2)).take x) p.2=false->oH ((l.map (·.2)).take x) p.2=(l.map (·.2)).take (x+1):=fun h=>by
   rw[oH,h,TM,To,hp]
   rfl
  simp(disch:=omega)only[go_sem]
  refine Br.aB (fun c=>?_) (fun c=>(c (by omega)).elim)
  simp(disch:=omega)only[go_sem,h1]
  refine Br.aB (fun c1=>?_) (fun c1=>?_)<;>simp(disch:=omega)only[go_sem,c1]
  .exact done (by simp[iw,c1])
  refine Br.aB (fun c2=>?_) (fun c2=>?_)<;>simp(disch:=omega)only[go_sem,c2]
  .exact done (by simp[iw,c2])
  have fin:(decide (0<x)&&decide (p.1<=lQ l x))=false->iw l x p=(ch ((l.map (·.2)).take x) p.2||!isName p.2):=fun g=>by
   have d1:decide (p.1<1)=false:=by simp; omega
   have d2:decide (1000<p.1)=false:=by simp; omega
   simp only[iw,d1,d2,g,Bool.false_or]
  have hx1:0<x->(l.map (·.1))[x - 1]?=some (lQ l x):=fun h=>by
   have hq:l[x - 1]?=some (l[x - 1]'(by omega)):=Th (by omega)
   rw[To,lQ,hq]
   rfl
  have hcast:0<x->(x:Int) - 1=((x - 1:Nat):Int):=fun h=>by omega
  refine Br.aB (fun c3=>?_) (fun c3=>?_)<;>simp(disch:=omega)only[go_sem,c3]
  .have hq:l[x - 1]?=some (l[x - 1]'(by omega)):=Th (by omega)
   have hpv:(l[x - 1]'(by omega)).1=lQ l x:=by rw[lQ,hq]; rfl
   simp(disch:=omega)only[go_sem,hcast (by omega),hq,hpv]
   refine Br.aB (fun c4=>?_) (fun c4=>?_)<;>simp(disch:=omega)only[go_sem,c4,hp]
   .exact done (by simp[iw,c4,show 0<x by omega])
   refine Br.of (fun c5=>?_) (fun c5=>?_)<;>simp(disch:=omega)only[go_sem,c5,hnm,hp]
   .exact done (by simp[iw,c5])
   refine Br.of (fun c6=>?_) (fun c6=>?_)<;>simp(disch:=omega)only[go_sem,c6,hp]
   .refine aN.of ?_ ?_
    .rw[fin (by simp; omega),c5,c6]
     rfl
    .rw[hins c5]
     rfl
   .exact done (by simp[iw,c6])
  .simp(disch:=omega)only[go_sem,hp]
   refine Br.of (fun c5=>?_) (fun c5=>?_)<;>simp(disch:=omega)only[go_sem,c5,hnm,hp]
   .exact done (by simp[iw,c5])
   refine Br.of (fun c6=>?_) (fun c6=>?_)<;>simp(disch:=omega)only[go_sem,c6,hp]
   .refine aN.of ?_ ?_
    .rw[fin (by simp; omega),c5,c6]
     rfl
    .rw[hins c5]
     rfl
   .exact done (by simp[iw,c6])
 .rw[Tv]
  simp(disch:=omega)only[go_sem]
  simp[j6,hn.any]
  omega
open Classical in
noncomputable def eqv {α:Type} (a b:α):Bool:=decide (a=b)
theorem dJ {α:Type} (a:α):eqv a a=true:=by simp[eqv]
theorem dE {α:Type} {a b:α} (h:a≠b):eqv a b=false:=by simp[eqv,h]
theorem br {α:Type} {a b:α}:eqv a b=true↔a=b:=by simp[eqv]
theorem gq {α:Type} {a b:α}:eqv a b=false↔a≠b:=by simp[eqv]
theorem gK.eq {α:Type} {l m:List α} (hl:l.length=m.length) (h:gK (l.zip m) fun q=>!eqv q.1 q.2):l=m:=by
 have ha:=h.any
 rw[TU]at ha
 apply List.ext_getElem hl
 intro i h1 h2
 have hm:(l[i],m[i])∈l.zip m:=Tf (Uo.2 ⟨Th h1,Th h2⟩)
 have:=ha _ hm
 simpa [br]using this
theorem Found.ne {α:Type} {l m:List α} {k:Nat} {x:α×α} (h:Found (l.zip m) (fun q=>!eqv q.1 q.2) k x):eqv l m=false:=by
 rw[gq]
 rintro rfl
 have ha:=h.any
 rw[Uf]at ha
 obtain⟨q,hq,hn⟩:=ha
 obtain⟨i,hi⟩:=Ti.1 hq
 obtain⟨h1,h2⟩:=Uo.1 hi
 have:q.1=q.2:=Option.some.inj (h1.symm.trans h2)
 rw[this,dJ]at hn
 cases hn
theorem dq {α:Type} {l m:List α} {k:Nat} {q:α×α} (h:(l.zip m)[k]?=some q):l[k]?=some q.1/\m[k]?=some q.2:=Uo.1 h
theorem ER {α β:Type} {f:α->β} (hf:∀x y,f x=f y->x=y) (l m:List α):eqv (l.map f) (m.map f)=eqv l m:=by
 rw[TQ,br,br]
 refine⟨fun h=>?_,fun h=>by rw[h]⟩
 induction l generalizing m with
 |nil=>cases m with
  |nil=>rfl
  |cons y m=>simp at h
 |cons x l ih=>cases m with
  |nil=>simp at h
  |cons y m=>
   simp only[List.map_cons,List.cons.injEq]at h
   rw[hf _ _ h.1,ih _ h.2]
theorem Raw.CD (x y:Raw) (h:x.c=y.c):x=y:=by
 obtain⟨a,b⟩:=x
 obtain⟨c,d⟩:=y
 simp only[Raw.c,List.cons.injEq,PV.int.injEq,PV.str.injEq,true_and,and_true]at h
 rw[h.1,h.2]
theorem zr (x y:Sym):eqv x y=(decide (x.id=y.id)&&decide (x.name=y.name)):=by
 obtain⟨a,b⟩:=x
 obtain⟨c,d⟩:=y
 simp[eqv]
theorem zs (x y:Raw):eqv x y=(decide (x.id=y.id)&&decide (x.data=y.data)):=by
 obtain⟨a,b⟩:=x
 obtain⟨c,d⟩:=y
 simp[eqv]
theorem bF {α:Type} {l m:List α} (h:l.length=m.length):(l.zip m).length=l.length:=by simp[h]
theorem r317 (t u:Nat) (l m:List Sym) (hl:l.length<=2^63 - 1) (_hm:m.length<=2^63 - 1):res A ay 317 [.ai t (l.map Sym.c),.ai u (m.map Sym.c)]=some [.bool (eqv l m)]:=by
 refine aq a317 rfl rfl ?_
 simp only[F317,H7]
 simp(disch:=omega)only[go_sem]
 refine Br.aB (fun h=>?_) (fun h=>?_)<;>simp(disch:=omega)only[go_sem]
 .refine W.find (l.zip m) (fun q=>!eqv q.1 q.2) (fun k=>⟨[(0,.pv (.ai t (l.map Sym.c))),(1,.pv (.ai u (m.map Sym.c))),(12,.pv (.int .i64 l.length)),(13,.pv (.int .i64 k))],⟨[],[],[]⟩⟩) rfl (fun k q hq hk hfd=>?_) (fun hn=>?_)
  .obtain⟨h1,h2⟩:=dq hq
   rw[bF (by omega)]at hk
   simp(disch:=omega)only[go_sem]
   refine Br.aB (fun c=>?_) (fun c=>(c (by omega)).elim)
   simp(disch:=omega)only[go_sem,h1,h2,Sym.c]
   rw[<- zr]
   refine Br.of (fun g=>?_) (fun g=>?_)<;>simp(disch:=omega)only[go_sem]
   .exact aN.of (by rw[g]; rfl) rfl
   .rw[(hfd (by rw[g]; rfl)).ne]
  .have hz:(l.zip m).length=l.length:=bF (by omega)
   rw[hz]
   simp(disch:=omega)only[go_sem]
   rw[hn.eq (by omega),dJ]
 .rw[dE (fun e=>h (by rw[e]))]
theorem r333 (t u:Nat) (l m:List Raw) (hl:l.length<=2^63 - 1) (_hm:m.length<=2^63 - 1):res A ay 333 [.ai t (l.map Raw.c),.ai u (m.map Raw.c)]=some [.bool (eqv l m)]:=by
 refine aq a333 rfl rfl ?_
 simp only[F333,Ik]
 simp(disch:=omega)only[go_sem]
 refine Br.aB (fun h=>?_) (fun h=>?_)<;>simp(disch:=omega)only[go_sem]
 .refine W.find (l.zip m) (fun q=>!eqv q.1 q.2) (fun k=>⟨[(0,.pv (.ai t (l.map Raw.c))),(1,.pv (.ai u (m.map Raw.c))),(12,.pv (.int .i64 l.length)),(13,.pv (.int .i64 k))],⟨[],[],[]⟩⟩) rfl (fun k q hq hk hfd=>?_) (fun hn=>?_)
  .obtain⟨h1,h2⟩:=dq hq
   rw[bF (by omega)]at hk
   simp(disch:=omega)only[go_sem]
   refine Br.aB (fun c=>?_) (fun c=>(c (by omega)).elim)
   simp(disch:=omega)only[go_sem,h1,h2,Raw.c]
   rw[<- zs]
   refine Br.of (fun g=>?_) (fun g=>?_)<;>simp(disch:=omega)only[go_sem]
   .exact aN.of (by rw[g]; rfl) rfl
   .rw[(hfd (by rw[g]; rfl)).ne]
  .have hz:(l.zip m).length=l.length:=bF (by omega)
   rw[hz]
   simp(disch:=omega)only[go_sem]
   rw[hn.eq (by omega),dJ]
 .rw[dE (fun e=>h (by rw[e]))]
@[go_sem] theorem O8 (v:cU):v.c.length=8:=rfl
theorem r334g {f:Nat} (hcw:∀(vs:List V) (h:aw) (K:V->Tn->Prop),CW A ay f vs h K=CN A ay false f vs h K) (t u:Nat) (l m:List (List PV)) (hl:l.length<=2^63 - 1) (_hm:m.length<=2^63 - 1) (vl:∀r∈l,∃v:cU,r=v.c) (vm:∀r∈m,∃v:cU,r=v.c)
  (hr:∀r∈l,∀q∈m,res A ay f [.agg r,.agg q]=some [.bool (eqv r q)]):res A ay 334 [.ai t l,.ai u m,.func f []]=some [.bool (eqv l m)]:=by
 refine aq a334 rfl rfl ?_
 simp only[F334,Il]
 simp(disch:=omega)only[go_sem]
 refine Br.aB (fun h=>?_) (fun h=>?_)<;>simp(disch:=omega)only[go_sem]
 .refine W.find (l.zip m) (fun q=>!eqv q.1 q.2) (fun k=>⟨[(1,.pv (.ai u m)),(2,.pv (.func f [])),(15,.pv (.ai t l)),(16,.pv (.int .i64 l.length)),(17,.pv (.int .i64 k))],⟨[],[],[]⟩⟩) rfl (fun k q hq hk hfd=>?_) (fun hn=>?_)
  .obtain⟨h1,h2⟩:=dq hq
   rw[bF (by omega)]at hk
   have hc:=hr q.1 (Tf h1) q.2 (Tf h2)
   obtain⟨v,hv⟩:=vl q.1 (Tf h1)
   obtain⟨w,hw⟩:=vm q.2 (Tf h2)
   generalize eqv q.1 q.2=e at hc hfd |-
   rw[hv,hw]at hc
   rw[hv]at h1
   rw[hw]at h2
   unfold cU.c at hc h1 h2
   simp(disch:=omega)only[go_sem]
   refine Br.aB (fun c=>?_) (fun c=>(c (by omega)).elim)
   simp(disch:=omega)only[go_sem,h1,h2,hcw,hc]
   refine Br.of (fun g=>?_) (fun g=>?_)<;>simp(disch:=omega)only[go_sem]
   .exact aN.of (by rw[g]; rfl) rfl
   .rw[(hfd (by rw[g]; rfl)).ne]
  .have hz:(l.zip m).length=l.length:=bF (by omega)
   rw[hz]
   simp(disch:=omega)only[go_sem]
   rw[hn.eq (by omega),dJ]
 .rw[dE (fun e=>h (by rw[e]))]
theorem r334 (t u:Nat) (l m:List (List PV)) (hl:l.length<=2^63 - 1) (hm:m.length<=2^63 - 1) (vl:∀r∈l,∃v:cU,r=v.c) (vm:∀r∈m,∃v:cU,r=v.c)
  (hr:∀r∈l,∀q∈m,res A ay 320 [.agg r,.agg q]=some [.bool (eqv r q)]):res A ay 334 [.ai t l,.ai u m,.func 320 []]=some [.bool (eqv l m)]:=r334g cw320 t u l m hl hm vl vm hr
@[go_sem] theorem QF (h:aw) (x:ByteArray):aV h 1 (.tl []) (.tl [[.str x]])=some (.own h.ar.length 0 0 1,{ push:=[⟨0,1,.inl (strs [x])⟩],base:=h.ar.length }):=uL h 1 [] [.str x] rfl (by simp) (by simp)
@[go_sem] theorem O9 (h:aw) (id aA off len:Nat) (x:ByteArray):aV h 1 (.own id aA off len) (.tl [[.str x]])=(aE h id aA).bind (Ga id aA off len 1 [.str x]):=wz h id aA off len 1 [.str x] rfl
@[go_sem] theorem QG {id aA len:Nat} {x:ByteArray} {l:List ByteArray} (h1:len=l.length) (h2:l.length+1<=2147483648):Ga id aA 0 len 1 [.str x] ⟨aA,1,.inl (strs l)⟩=some (.own id (aA+1) 0 (len+1),{ ar:=some (id,⟨aA+1,1,.inl (strs (l++[x]))⟩) }):=by
 rw[CA (by rw[eU]; exact h1) (by rw[eU]; exact h2),oI]
def BE (i k:Nat):V:=match k with
 |0=>.tl []
 |j+1=>.own i j 0 (j+1)
def DZ (A B:List (List PV)):List aR:=match A.length with
 |0=>[]
 |j+1=>[⟨j,1,.inl A⟩,⟨j,1,.inl B⟩]
def Sym.nm (s:Sym):Nm:=(s.id,s.name)
def jS (l:List Sym):Bool:=decide (0<l.length)&&(j6 (l.map Sym.nm)&&decide (l.length<=16))
set_option maxHeartbeats 1000000 in
theorem r307 (t:Nat) (l:List Sym) (hl:l.length<=2147483648) (hs:∀p∈l,bh p.name):res A ay 307 [.ai t (l.map Sym.c)]=some [.bool (jS l)]:=by
 refine aq a307 rfl rfl ?_
 simp only[F307,HZ]
 simp(disch:=omega)only[go_sem]
 refine W.du l.length (fun k=>⟨[(0,.pv (.ai t (l.map Sym.c))),(3,BE 0 k),(4,BE 1 k),(7,.pv (.ai t (l.map Sym.c))),(8,.pv (.int .i64 l.length)),(9,.pv (.int .i64 k))],⟨[],DZ (ints ((l.take k).map (·.id))) (strs ((l.take k).map (·.name))),[]⟩⟩) (fun _=>True) rfl trivial (fun k hk _=>?_)
 rcases Tm k l.length with hlt|hge
 .have hp:=Th hlt
  generalize l[k]=p at hp
  have t1:(l.take (k+1)).map (·.id)=(l.take k).map (·.id)++[p.id]:=by rw[TM,hp,TI]; rfl
  have t2:(l.take (k+1)).map (·.name)=(l.take k).map (·.name)++[p.name]:=by rw[TM,hp,TI]; rfl
  cases k with
  |zero=>
   simp only[BE,DZ,List.take_zero,List.map_nil,wv,List.length_nil]
   simp(disch:=omega)only[go_sem]
   refine Br.aB (fun c=>?_) (fun c=>(c (by omega)).elim)
   simp(disch:=omega)only[go_sem,hp,Sym.c]
   refine .of (by omega) ?_ trivial
   rw[t1,t2]
   rfl
  |succ j=>
   have l1:((l.take (j+1)).map (·.id)).length=j+1:=by simp; omega
   have l2:((l.take (j+1)).map (·.name)).length=j+1:=by simp; omega
   generalize (l.take (j+1)).map (·.id)=A at t1 l1
   generalize (l.take (j+1)).map (·.name)=B at t2 l2
   simp only[BE,DZ,bq,l1]
   simp(disch:=omega)only[go_sem]
   refine Br.aB (fun c=>?_) (fun c=>(c (by omega)).elim)
   simp(disch:=omega)only[go_sem,hp,Sym.c]
   have l3:((l.take (j+1+1)).map (·.id)).length=j+1+1:=by rw[t1]; simp[l1]
   refine .of (by omega) ?_ trivial
   simp only[bq,l3]
   rw[t1,t2]
   rfl
 .obtain rfl:k=l.length:=by omega
  rw[T4]
  have nm1:l.map (·.id)=(l.map Sym.nm).map (·.1):=by rw[List.map_map]; rfl
  have nm2:l.map (·.name)=(l.map Sym.nm).map (·.2):=by rw[List.map_map]; rfl
  have h325:=fun t u=>r325 t u (l.map Sym.nm) (by simp; omega) (fun p hp=>by
   obtain⟨q,hq,rfl⟩:=TA.1 hp
   exact hs q hq)
  rw[nm1,nm2]
  rw[Tl]at h325
  unfold jS
  cases hn:l.length with
  |zero=>
   have h0:¬(0:Int)<l.length:=by omega
   simp only[BE,DZ,hn,bq,List.length_map]
   simp(disch:=omega)only[go_sem,h0]
  |succ j=>
   have l1:((l.map Sym.nm).map (·.1)).length=j+1:=by simp[hn]
   have l2:((l.map Sym.nm).map (·.2)).length=j+1:=by simp[hn]
   rw[hn]at h325
   generalize (l.map Sym.nm).map (·.1)=A at l1 h325
   generalize (l.map Sym.nm).map (·.2)=B at l2 h325
   simp only[BE,DZ,bq,l1]
   simp(disch:=omega)only[go_sem]
   have d1:A.take (j+1)=A:=Ts (by omega)
   have d2:(strs B).take (j+1)=strs B:=Ts (by rw[eU]; omega)
   refine Br.aB (fun c=>?_) (fun c=>(c (by omega)).elim)
   simp(disch:=omega)only[go_sem,c,d1,d2,h325]
   have h0:0<j+1:=by omega
   simp[h0]
theorem cU.CD (x y:cU) (h:x.c=y.c):x=y:=by
 obtain⟨a1,a2,a3,a4,a5,a6,a7,a8⟩:=x
 obtain⟨b1,b2,b3,b4,b5,b6,b7,b8⟩:=y
 simp only[cU.c,List.cons.injEq,PV.int.injEq,PV.bool.injEq,PV.str.injEq,PV.ai.injEq,true_and,and_true]at h
 obtain⟨h1,h2,h3,h4,h5,h6,h7,h8⟩:=h
 have h8:a8=b8:=br.1 (by rw[<- ER Raw.CD,h8,dJ])
 rw[h1,h2,h3,h4,h5,h6,h7,h8]
theorem gL (x y:cU):eqv x.c y.c=eqv x y:=by
 rw[TQ,br,br]
 exact⟨x.CD y,fun h=>by rw[h]⟩
set_option maxHeartbeats 4000000 in
theorem r320:∀(n k:Nat) (cs ds:List PV),iZ n cs->iZ k ds->res A ay 320 [.agg cs,.agg ds]=some [.bool (eqv cs ds)]
 |0,_,_,_,h,_=>h.elim
 |_+1,0,_,_,_,h=>h.elim
 |n+1,k+1,cs,ds,h,h'=>by
  obtain⟨v,rfl,⟨h1,h2,h3,h4⟩,⟨h5,h6,h7⟩,h8,h9,h10⟩:=h
  obtain⟨w,rfl,⟨g1,g2,g3,g4⟩,⟨g5,g6,g7⟩,g8,g9,g10⟩:=h'
  have ih:=r320 n k
  unfold bT at h5 h6 h7 g5 g6 g7
  have hk:=fun t u=>r334 t u v.keys w.keys (by omega) (by omega) (fun r hr=>(h8 r hr).val) (fun r hr=>(g8 r hr).val) (fun r hr q hq=>ih r q (h8 r hr) (g8 q hq))
  have hi:=fun t u=>r334 t u v.items w.items (by omega) (by omega) (fun r hr=>(h9 r hr).val) (fun r hr=>(g9 r hr).val) (fun r hr q hq=>ih r q (h9 r hr) (g9 q hq))
  have hr:=fun t u=>r333 t u v.rest w.rest (by omega) (by omega)
  rw[gL]
  obtain⟨a1,a2,a3,a4,a5,a6,a7,a8⟩:=v
  obtain⟨b1,b2,b3,b4,b5,b6,b7,b8⟩:=w
  unfold cU.c
  dsimp only at *
  clear ih
  refine aq a320 rfl rfl ?_
  simp only[F320,H9]
  simp(disch:=omega)only[go_sem]
  have no:∀{p q:cU},p≠q->(some [PV.bool false]:Option (List PV))=some [PV.bool (eqv p q)]:=fun h=>by rw[dE h]
  refine Br.aB (fun e=>?_) (fun e=>?_)<;>simp(disch:=omega)only[go_sem,e]
  rotate_left
  .exact no (fun q=>e (by cases q; rfl))
  subst e
  refine Br.aB (fun e=>?_) (fun e=>?_)<;>simp(disch:=omega)only[go_sem,e]
  rotate_left
  .exact no (fun q=>e (by cases q; rfl))
  subst e
  refine Br.aB (fun e=>?_) (fun e=>?_)<;>simp(disch:=omega)only[go_sem,e]
  rotate_left
  .exact no (fun q=>e (by cases q; rfl))
  subst e
  refine Br.aB (fun e=>?_) (fun e=>?_)<;>simp(disch:=omega)only[go_sem,e]
  rotate_left
  .exact no (fun q=>e (by cases q; rfl))
  subst e
  refine Br.aB (fun e=>?_) (fun e=>?_)<;>simp(disch:=omega)only[go_sem,e]
  rotate_left
  .exact no (fun q=>e (by cases q; rfl))
  subst e
  simp(disch:=omega)only[go_sem,hr]
  refine Br.of (fun e=>?_) (fun e=>?_)<;>simp(disch:=omega)only[go_sem,e]
  rotate_left
  .exact no (fun q=>gq.1 e (by cases q; rfl))
  have e:=br.1 e
  subst e
  simp(disch:=omega)only[go_sem,hk]
  refine Br.of (fun e=>?_) (fun e=>?_)<;>simp(disch:=omega)only[go_sem,e]
  rotate_left
  .exact no (fun q=>gq.1 e (by cases q; rfl))
  have e:=br.1 e
  subst e
  simp(disch:=omega)only[go_sem,hi]
  congr 3
  rw[TQ,br,br]
  exact⟨fun e=>by rw[e],fun q=>by cases q; rfl⟩
theorem r320v {cs ds:List PV} (h:∃n,iZ n cs) (h':∃n,iZ n ds):res A ay 320 [.agg cs,.agg ds]=some [.bool (eqv cs ds)]:=by
 obtain⟨n,h⟩:=h
 obtain⟨k,h'⟩:=h'
 exact r320 n k cs ds h h'
theorem r336 (t u:Nat) (l m:List (List PV)) (hl:l.length<=2^63 - 1) (_hm:m.length<=2^63 - 1) (vl:∀r∈l,∃v:cU,r=v.c) (vm:∀r∈m,∃v:cU,r=v.c)
  (hr:∀r∈l,∀q∈m,res A ay 330 [.agg r,.agg q]=some [.bool (eqv r q)]):res A ay 336 [.ai t l,.ai u m]=some [.bool (eqv l m)]:=by
 refine aq a336 rfl rfl ?_
 simp only[F336,Im]
 simp(disch:=omega)only[go_sem]
 refine Br.aB (fun h=>?_) (fun h=>?_)<;>simp(disch:=omega)only[go_sem]
 .refine W.find (l.zip m) (fun q=>!eqv q.1 q.2) (fun k=>⟨[(0,.pv (.ai t l)),(1,.pv (.ai u m)),(5,.pv (.int .i64 k))],⟨[],[],[]⟩⟩) rfl (fun k q hq hk hfd=>?_) (fun hn=>?_)
  .obtain⟨h1,h2⟩:=dq hq
   rw[bF (by omega)]at hk
   have hc:=hr q.1 (Tf h1) q.2 (Tf h2)
   obtain⟨v,hv⟩:=vl q.1 (Tf h1)
   obtain⟨w,hw⟩:=vm q.2 (Tf h2)
   generalize eqv q.1 q.2=e at hc hfd |-
   rw[hv,hw]at hc
   rw[hv]at h1
   rw[hw]at h2
   unfold cU.c at hc h1 h2
   simp(disch:=omega)only[go_sem]
   refine Br.aB (fun c=>?_) (fun c=>(c (by omega)).elim)
   simp(disch:=omega)only[go_sem,h1,h2,hc]
   refine Br.of (fun g=>?_) (fun g=>?_)<;>simp(disch:=omega)only[go_sem]
   .exact aN.of (by rw[g]; rfl) rfl
   .rw[(hfd (by rw[g]; rfl)).ne]
  .have hz:(l.zip m).length=l.length:=bF (by omega)
   rw[hz]
   simp(disch:=omega)only[go_sem]
   rw[hn.eq (by omega),dJ]
 .rw[dE (fun e=>h (by rw[e]))]
set_option maxHeartbeats 4000000 in
theorem r330:∀(n k:Nat) (cs ds:List PV),iZ n cs->iZ k ds->res A ay 330 [.agg cs,.agg ds]=some [.bool (eqv cs ds)]
 |0,_,_,_,h,_=>h.elim
 |_+1,0,_,_,_,h=>h.elim
 |n+1,k+1,cs,ds,h,h'=>by
  obtain⟨v,rfl,⟨h1,h2,h3,h4⟩,⟨h5,h6,h7⟩,h8,h9,h10⟩:=h
  obtain⟨w,rfl,⟨g1,g2,g3,g4⟩,⟨g5,g6,g7⟩,g8,g9,g10⟩:=h'
  have ih:=r330 n k
  unfold bT at h5 h6 h7 g5 g6 g7
  have hk:=fun t u=>r336 t u v.keys w.keys (by omega) (by omega) (fun r hr=>(h8 r hr).val) (fun r hr=>(g8 r hr).val) (fun r hr q hq=>ih r q (h8 r hr) (g8 q hq))
  have hi:=fun t u=>r336 t u v.items w.items (by omega) (by omega) (fun r hr=>(h9 r hr).val) (fun r hr=>(g9 r hr).val) (fun r hr q hq=>ih r q (h9 r hr) (g9 q hq))
  rw[gL]
  obtain⟨a1,a2,a3,a4,a5,a6,a7,a8⟩:=v
  obtain⟨b1,b2,b3,b4,b5,b6,b7,b8⟩:=w
  unfold cU.c
  dsimp only at *
  clear ih
  refine aq a330 rfl rfl ?_
  simp only[F330,Ij]
  simp(disch:=omega)only[go_sem]
  have no:∀{p q:cU},p≠q->(some [PV.bool false]:Option (List PV))=some [PV.bool (eqv p q)]:=fun h=>by rw[dE h]
  refine Br.aB (fun e=>?_) (fun e=>?_)<;>simp(disch:=omega)only[go_sem,e]
  rotate_left
  .exact no (fun q=>e (by cases q; rfl))
  subst e
  refine Br.aB (fun e=>?_) (fun e=>?_)<;>simp(disch:=omega)only[go_sem,e]
  rotate_left
  .exact no (fun q=>e (by cases q; rfl))
  subst e
  refine Br.aB (fun e=>?_) (fun e=>?_)<;>simp(disch:=omega)only[go_sem,e]
  rotate_left
  .exact no (fun q=>e (by cases q; rfl))
  subst e
  refine Br.aB (fun e=>?_) (fun e=>?_)<;>simp(disch:=omega)only[go_sem,e]
  rotate_left
  .exact no (fun q=>e (by cases q; rfl))
  subst e
  refine Br.aB (fun e=>?_) (fun e=>?_)<;>simp(disch:=omega)only[go_sem,e]
  rotate_left
  .exact no (fun q=>e (by cases q; rfl))
  subst e
  refine Br.aB (fun e=>?_) (fun e=>?_)<;>simp(disch:=omega)only[go_sem]
  rotate_left
  .exact no (fun q=>e (by cases q; rfl))
  refine W.find (a8.zip b8) (fun q=>!eqv q.1 q.2) (fun k=>⟨[(2,.ptr 2 0),(3,.ptr 3 0),(5,.pv (.int .i64 k))],⟨[(2,[.pv (.int .i64 a1),.pv (.bool a2),.pv (.int .i64 a3),.pv (.str a4),.pv (.int .i64 a5),.pv (.ai 0 a6),.pv (.ai 0 a7),.pv (.ai 0 (a8.map Raw.c))]),(3,[.pv (.int .i64 a1),.pv (.bool a2),.pv (.int .i64 a3),.pv (.str a4),.pv (.int .i64 a5),.pv (.ai 0 b6),.pv (.ai 0 b7),.pv (.ai 0 (b8.map Raw.c))])],[],[]⟩⟩) rfl (fun k q hq hk' hfd=>?_) (fun hn=>?_)
  .obtain⟨q1,q2⟩:=dq hq
   rw[bF (by omega)]at hk'
   simp(disch:=omega)only[go_sem]
   refine Br.aB (fun c=>?_) (fun c=>(c (by omega)).elim)
   simp(disch:=omega)only[go_sem,q1,q2,Raw.c]
   rw[<- zs]
   refine Br.of (fun g=>?_) (fun g=>?_)<;>simp(disch:=omega)only[go_sem]
   .exact aN.of (by rw[g]; rfl) rfl
   .exact no (fun q=>gq.1 (hfd (by rw[g]; rfl)).ne (by cases q; rfl))
  .have hz:(a8.zip b8).length=a8.length:=bF (by omega)
   rw[hz]
   have e:=hn.eq (by omega)
   subst e
   simp(disch:=omega)only[go_sem,hk]
   refine Br.of (fun e=>?_) (fun e=>?_)<;>simp(disch:=omega)only[go_sem,e]
   rotate_left
   .exact no (fun q=>gq.1 e (by cases q; rfl))
   have e:=br.1 e
   subst e
   simp(disch:=omega)only[go_sem,hi]
   congr 3
   rw[TQ,br,br]
   exact⟨fun e=>by rw[e],fun q=>by cases q; rfl⟩
theorem r330v {cs ds:List PV} (h:∃n,iZ n cs) (h':∃n,iZ n ds):res A ay 330 [.agg cs,.agg ds]=some [.bool (eqv cs ds)]:=by
 obtain⟨n,h⟩:=h
 obtain⟨k,h'⟩:=h'
 exact r330 n k cs ds h h'
def fj:cU:=⟨0,false,0,⟨#[]⟩,0,[],[],[]⟩
theorem zt:∃n,iZ n fj.c:=by
 refine⟨1,fj,rfl,⟨?_,?_,?_,?_⟩,⟨?_,?_,?_⟩,fun r hr=>(List.not_mem_nil hr).elim,fun r hr=>(List.not_mem_nil hr).elim,fun r hr=>(List.not_mem_nil hr).elim⟩<;>simp[fj,fT,bh,bT]
 exact Uv _
theorem r326 {v:cU} (h:∃n,iZ n v.c):res A ay 326 [.agg v.c]=some [.bool (eqv v fj)]:=by
 refine aq a326 rfl rfl ?_
 simp only[F326,Ie]
 have hc:=r320v h zt
 rw[gL]at hc
 unfold fj cU.c at *
 simp only[List.map_nil]at hc
 simp(disch:=omega)only[go_sem,hc]
noncomputable def iy (rec:Bool) (m:Mem):Bool:=(!rec&&(m.BA||m.has))||(m.BA&&m.has)||(!m.has&&!eqv m.fQ fj)
def Mem.nm (s:Mem):Nm:=(s.id,s.name)
noncomputable def ec (rec:Bool) (l:List Mem):Bool:=!l.any (iy rec)&&((rec||decide (0<l.length))&&(j6 (l.map Mem.nm)&&decide (l.length<=16)))
theorem oJ {p:Bool} (h:p=false):(some [PV.bool false]:Option (List PV))=some [PV.bool p]:=by rw[h]
set_option maxHeartbeats 4000000 in
theorem r308 (t : aD) (ht : t.ok) (hl : t.aS.length <= 2147483648) (hk : t.kind = 5 \/ t.kind = 6) : res A ay 308 [.agg t.c] = some [.bool (ec (decide (t.kind = 5)) t.aS)] := by
  obtain ⟨_,⟨_,_⟩,_,ho⟩ := ht
  obtain ⟨a1,a2,a3,a4,a5,a6,l,a8,a9,a10⟩ := t
  unfold aD.c
  dsimp only at *
  refine aq a308 rfl rfl ?_
  simp only [F308,H0]
  simp (disch := omega) only [go_sem]
  refine W.find l (iy (decide (a1 = 5))) (fun k => ⟨[(1,.ptr 1 0),(3,BE 0 k),(4,BE 1 k),(8,.pv (.ai 0 (l.map Mem.c))),(9,.pv (.int .i64 l.length)),(10,.pv (.int .i64 k))],⟨[(1,[.pv (.int .i64 a1),.pv (.str a2),.pv (.int .i64 a3),.pv (.int .i64 a4),.pv (.int .i64 a5),.pv (.ai 0 (a6.map Sym.c)),.pv (.ai 0 (l.map Mem.c)),.pv (.int .i64 a8),.pv (.int .i64 a9),.pv (.bool a10)])],DZ (ints ((l.take k).map (·.id))) (strs ((l.take k).map (·.name))),[]⟩⟩) rfl (fun k p hp hlt hfd => ?_) (fun hn => ?_)
  . have t1 : (l.take (k + 1)).map (·.id) = (l.take k).map (·.id) ++ [p.id] := by rw [TM,hp,TI]; rfl
    have t2 : (l.take (k + 1)).map (·.name) = (l.take k).map (·.name) ++ [p.name] := by rw [TM,hp,TI]; rfl
    obtain ⟨_,_,_,hd⟩ := ho p (Tf hp)
    have hz := r326 hd
    have done : iy (decide (a1 = 5)) p = true -> (some [PV.bool false] : Option (List PV)) = some [PV.bool (ec (decide (a1 = 5)) l)] := fun g => by
      refine oJ ?_
      simp only [ec,(hfd g).any,Bool.not_true,Bool.false_and]
    have hz0 : eqv p.fQ fj = eqv p.fQ fj := rfl
    generalize hzz : eqv p.fQ fj = z at hz
    unfold cU.c at hz
    have hbad : iy (decide (a1 = 5)) p = ((!decide (a1 = 5) && (p.BA || p.has)) || (p.BA && p.has) || (!p.has && !z)) := by rw [iy,hzz]
    rw [hbad] at done |-
    cases k with
    | zero =>
      simp only [BE,DZ,List.take_zero,List.map_nil,wv,List.length_nil]
      simp (disch := omega) only [go_sem]
      refine Br.aB (fun c => ?_) (fun c => (c (by omega)).elim)
      simp (disch := omega) only [go_sem,hp,Mem.c]
      repeat' (first
        | (refine Br.aB (fun h => ?_) (fun h => ?_) <;> simp (disch := omega) only [go_sem,h])
        | (refine Br.of (fun h => ?_) (fun h => ?_) <;> simp (disch := omega) only [go_sem,h,hz]))
      all_goals first
        | (refine done ?_; simp_all; done)
        | (refine aN.of (by simp_all; done) ?_
           rw [t1,t2]
           first
             | rfl
             | (rw [show a1 = 6 by omega]; rfl))
    | succ j =>
      have l1 : ((l.take (j + 1)).map (·.id)).length = j + 1 := by simp; omega
      have l2 : ((l.take (j + 1)).map (·.name)).length = j + 1 := by simp; omega
      have l3 : ((l.take (j + 1 + 1)).map (·.id)).length = j + 1 + 1 := by rw [t1]; simp; omega
      generalize (l.take (j + 1)).map (·.id) = A at t1 l1
      generalize (l.take (j + 1)).map (·.name) = B at t2 l2
      simp only [BE,DZ,bq,l1]
      simp (disch := omega) only [go_sem]
      refine Br.aB (fun c => ?_) (fun c => (c (by omega)).elim)
      simp (disch := omega) only [go_sem,hp,Mem.c]
      repeat' (first
        | (refine Br.aB (fun h => ?_) (fun h => ?_) <;> simp (disch := omega) only [go_sem,h])
        | (refine Br.of (fun h => ?_) (fun h => ?_) <;> simp (disch := omega) only [go_sem,h,hz]))
      all_goals first
        | (refine done ?_; simp_all; done)
        | (refine aN.of (by simp_all; done) ?_
           simp only [bq,l3]
           rw [t1,t2]
           first
             | rfl
             | (rw [show a1 = 6 by omega]; rfl))
  . rw [T4]
    have nm1 : l.map (·.id) = (l.map Mem.nm).map (·.1) := by rw [List.map_map]; rfl
    have nm2 : l.map (·.name) = (l.map Mem.nm).map (·.2) := by rw [List.map_map]; rfl
    have h325 := fun t u => r325 t u (l.map Mem.nm) (by simp; omega) (fun p hp => by
      obtain ⟨q,hq,rfl⟩ := TA.1 hp
      exact (ho q hq).2.1)
    rw [nm1,nm2]
    rw [Tl] at h325
    unfold ec
    rw [hn.any]
    cases hn : l.length with
    | zero =>
      have hnil : l = [] := Tx hn
      subst hnil
      simp only [List.map_nil,ints,strs] at h325
      simp only [BE,DZ,hn,bq,List.length_map]
      simp (disch := omega) only [go_sem]
      refine Br.aB (fun c => ?_) (fun c => ?_) <;> simp (disch := omega) only [go_sem,c,h325]
      refine Br.aB (fun c2 => absurd c2 (by omega)) (fun c2 => ?_)
      simp (disch := omega) only [go_sem,c2]
      simp [c]
    | succ j =>
      have l1 : ((l.map Mem.nm).map (·.1)).length = j + 1 := by simp [hn]
      have l2 : ((l.map Mem.nm).map (·.2)).length = j + 1 := by simp [hn]
      rw [hn] at h325
      generalize (l.map Mem.nm).map (·.1) = A at l1 h325
      generalize (l.map Mem.nm).map (·.2) = B at l2 h325
      simp only [BE,DZ,bq,l1]
      simp (disch := omega) only [go_sem]
      have d1 : A.take (j + 1) = A := Ts (by omega)
      have d2 : (strs B).take (j + 1) = strs B := Ts (by rw [eU]; omega)
      refine Br.aB (fun c => ?_) (fun c => ?_) <;> simp (disch := omega) only [go_sem,c,d1,d2,h325]
      refine Br.aB (fun c2 => ?_) (fun c2 => absurd (show (0 : Int) < ((j + 1 : Nat) : Int) by omega) c2)
      simp (disch := omega) only [go_sem,c,c2,d1,d2,h325]
      simp
def wC (b n:Int):Bool:=decide (b<n)&&(decide (1<=n)&&decide (n<=1000))
theorem r329 (b n:Int):res A ay 329 [.int .i64 b,.int .i64 n]=some [.bool (wC b n)]:=by
 refine aq a329 rfl rfl ?_
 simp only[F329,Ii]
 simp(disch:=omega)only[go_sem]
 unfold wC
 repeat' (refine Br.aB (fun h=>?_) (fun h=>?_)<;>simp(disch:=omega)only[go_sem,h])
 all_goals simp[*]
def pV (l:List Nm) (k:Nat):Int:=match k with
 |0=>0
 |_+1=>lQ l k
theorem CE (l:List Nm) (k:Nat) (p:Nm):iw l k p=(!wC (pV l k) p.1||!isName p.2||ch ((l.map (·.2)).take k) p.2):=by
 have h:(decide (p.1<1)||decide (1000<p.1)||(decide (0<k)&&decide (p.1<=lQ l k)))=!wC (pV l k) p.1:=by
  unfold wC
  rw[TQ]
  cases k with
  |zero=>
   rw[Bool.not_eq_true',UN,UN,decide_eq_false_iff_not,decide_eq_false_iff_not,decide_eq_false_iff_not]
   simp only[pV,Bool.or_eq_true,Bool.and_eq_true,decide_eq_true_eq]
   omega
  |succ j=>
   rw[Bool.not_eq_true',UN,UN,decide_eq_false_iff_not,decide_eq_false_iff_not,decide_eq_false_iff_not]
   simp only[pV,Bool.or_eq_true,Bool.and_eq_true,decide_eq_true_eq]
   omega
 unfold iw
 rw[h]
 generalize (!wC (pV l k) p.1)=x
 generalize ch _ _=y
 generalize isName _=z
 cases x<;>cases y<;>cases z<;>rfl
theorem wD {l:List Nm} {k:Nat} {p:Nm} (hp:l[k]?=some p) (h:iw l k p=true):j6 l=false:=by
 have hk:=(Tg.1 hp).1
 unfold j6
 rw[Bool.not_eq_false',Uf]
 exact⟨k,List.mem_range.2 hk,by simp only[ix,hp]; exact h⟩
theorem zu {α:Type} (nm:α->Nm) (l:List α) (k:Nat) (x:ByteArray):ch (((l.map nm).map (·.2)).take k) x=(l.take k).any fun q=>decide ((nm q).2=x):=by
 unfold ch
 rw[<- Ui,<- Ui,Ug,Ug]
 rfl
theorem wE {l:List Nm} {k:Nat} {p:Nm} (hp:l[k]?=some p):pV l (k+1)=p.1:=by
 show lQ l (k+1)=p.1
 unfold lQ
 rw[Nat.add_sub_cancel,hp]
 rfl
set_option maxHeartbeats 1000000 in
theorem r311 (t:Nat) (l:List Sym) (hl:l.length<=2147483648) (hs:∀p∈l,bh p.name):res A ay 311 [.ai t (l.map Sym.c)]=some [.bool (jS l)]:=by
 refine aq a311 rfl rfl ?_
 simp only[F311,H4]
 simp(disch:=omega)only[go_sem]
 refine W.find (List.range l.length) (ix (l.map Sym.nm)) (fun k=>⟨[(0,.pv (.ai t (l.map Sym.c))),(3,.pv (.int .i64 (pV (l.map Sym.nm) k))),(4,.pv (.int .i64 k))],⟨[],[],[]⟩⟩) rfl (fun k x hx hk hfd=>?_) (fun hn=>?_)
 .obtain⟨rfl,hk⟩:=cI hx
  have hp:=Th hk
  generalize l[x]=p at hp
  have hq:(l.map Sym.nm)[x]?=some p.nm:=by rw[To,hp]; rfl
  have hnm:=r310 p.name (hs p (Tf hp))
  have hid:=r329 (pV (l.map Sym.nm) x) p.id
  have hb:ix (l.map Sym.nm) x=(!wC (pV (l.map Sym.nm) x) p.id||!isName p.name||(l.take x).any fun q=>decide (q.name=p.name)):=by
   simp only[ix,hq]
   rw[CE,zu]
   rfl
  have done:ix (l.map Sym.nm) x=true->(some [PV.bool false]:Option (List PV))=some [PV.bool (jS l)]:=fun g=>by
   refine oJ ?_
   simp only[ix,hq]at g
   simp only[jS,wD hq g,Bool.false_and,Bool.and_false]
  rw[hb]at done |-
  simp(disch:=omega)only[go_sem]
  refine Br.aB (fun c=>?_) (fun c=>(c (by omega)).elim)
  simp(disch:=omega)only[go_sem,hp,Sym.c,hid]
  refine Br.of (fun c1=>?_) (fun c1=>?_)<;>simp(disch:=omega)only[go_sem,c1,hp,Sym.c,hnm]
  rotate_left
  .exact done (by simp[c1])
  refine Br.of (fun c2=>?_) (fun c2=>?_)<;>simp(disch:=omega)only[go_sem,c2]
  rotate_left
  .exact done (by simp[c2])
  refine W.find (l.take x) (fun q=>decide (q.name=p.name)) (fun j=>⟨[(0,.pv (.ai t (l.map Sym.c))),(4,.pv (.int .i64 x)),(5,.pv (.int .i64 j))],⟨[],[],[]⟩⟩) rfl (fun j q hj hjl hfd2=>?_) (fun hn=>?_)
  .have hjl':j<x/\j<l.length:=by rw[Tt]at hjl; omega
   have hj':l[j]?=some q:=by
    rw[Tz,if_pos hjl'.1]at hj
    exact hj
   simp(disch:=omega)only[go_sem]
   refine Br.aB (fun c=>?_) (fun c=>(c (by omega)).elim)
   simp(disch:=omega)only[go_sem,hp,hj',Sym.c]
   refine Br.aB (fun c3=>?_) (fun c3=>?_)<;>simp(disch:=omega)only[go_sem,c3]
   .exact done (by rw[(hfd2 (by simp[c3])).any,Bool.or_true])
   .exact aN.of (by simp[c3]) rfl
  .have hlx:(l.take x).length=x:=by rw[Tt]; omega
   rw[hlx]
   simp(disch:=omega)only[go_sem,hp,Sym.c]
   refine aN.of ?_ ?_
   .rw[hn.any,c1,c2]
    rfl
   .rw[wE hq]
    rfl
 .rw[Tv]
  simp(disch:=omega)only[go_sem]
  have hi:j6 (l.map Sym.nm)=true:=by
   unfold j6
   rw[Tl,hn.any]
   rfl
  refine Br.aB (fun c3=>?_) (fun c3=>?_)<;>simp(disch:=omega)only[go_sem,c3]
  .have h0:0<l.length:=by omega
   simp[jS,hi,h0]
   omega
  .have h0:¬0<l.length:=by omega
   simp[jS,h0]
noncomputable def uO (rec:Bool) (l:List Mem) (k:Nat):Bool:=match l[k]? with
 |some m=>iy rec m
 |none=>false
set_option maxHeartbeats 4000000 in
theorem r312 (t : Nat) (l : List Mem) (rec : Bool) (hl : l.length <= 2147483648) (ho : ∀ p ∈ l,p.ok) : res A ay 312 [.ai t (l.map Mem.c),.bool rec] = some [.bool (ec rec l)] := by
  refine aq a312 rfl rfl ?_
  simp only [F312,H5]
  simp (disch := omega) only [go_sem]
  refine W.find (List.range l.length) (fun k => ix (l.map Mem.nm) k || uO rec l k) (fun k => ⟨[(0,.pv (.ai t (l.map Mem.c))),(1,.pv (.bool rec)),(5,.pv (.int .i64 (pV (l.map Mem.nm) k))),(6,.pv (.int .i64 k))],⟨[],[],[]⟩⟩) rfl (fun k x hx hk hfd => ?_) (fun hn => ?_)
  . obtain ⟨rfl,hk⟩ := cI hx
    have hp := Th hk
    generalize l[x] = p at hp
    clear hfd
    have hq : (l.map Mem.nm)[x]? = some p.nm := by rw [To,hp]; rfl
    obtain ⟨_,hsn,_,hd⟩ := ho p (Tf hp)
    have hnm := r310 p.name hsn
    have hid := r329 (pV (l.map Mem.nm) x) p.id
    have hz := r330v hd zt
    rw [gL] at hz
    have hb : ix (l.map Mem.nm) x = (!wC (pV (l.map Mem.nm) x) p.id || !isName p.name || (l.take x).any fun q => decide (q.name = p.name)) := by
      simp only [ix,hq]
      rw [CE,zu]
      rfl
    have done : (ix (l.map Mem.nm) x || iy rec p) = true -> (some [PV.bool false] : Option (List PV)) = some [PV.bool (ec rec l)] := fun g => by
      refine oJ ?_
      rcases Bool.or_eq_true _ _ |>.mp g with g | g
      . simp only [ix,hq] at g
        simp only [ec,wD hq g,Bool.false_and,Bool.and_false]
      . have : l.any (iy rec) = true := Uf.2 ⟨p,Tf hp,g⟩
        simp only [ec,this,Bool.not_true,Bool.false_and]
    have hbm : uO rec l x = iy rec p := by simp only [uO,hp]
    rw [hbm]
    rw [hb] at done |-
    unfold iy at done |-
    generalize eqv p.fQ fj = z at hz done |-
    unfold fj cU.c at hz
    simp only [List.map_nil] at hz
    simp (disch := omega) only [go_sem]
    refine Br.aB (fun c => ?_) (fun c => (c (by omega)).elim)
    simp (disch := omega) only [go_sem,hp,Mem.c,hid]
    refine Br.of (fun c1 => ?_) (fun c1 => ?_) <;> simp (disch := omega) only [go_sem,c1,hnm]
    rotate_left
    . exact done (by simp [c1])
    refine Br.of (fun c2 => ?_) (fun c2 => ?_) <;> simp (disch := omega) only [go_sem,c2]
    rotate_left
    . exact done (by simp [c2])
    repeat' (refine Br.of (fun h => ?_) (fun h => ?_) <;> simp (disch := omega) only [go_sem,h,hz])
    all_goals subst_vars
    all_goals first
      | (refine done ?_
         simp [*]
         done)
      | skip
    all_goals
      refine W.find (l.take x) (fun q => decide (q.name = p.name)) ((fun (b : V) (cs : List V) => fun j => ⟨[(0,.pv (.ai t (l.map Mem.c))),(1,b),(6,.pv (.int .i64 x)),(7,.ptr 7 0),(8,.pv (.int .i64 (j : Nat)))],⟨[(7,cs)],[],[]⟩⟩) _ _) rfl (fun j q hj hjl hfd2 => ?_) (fun hn => ?_)
      . have hjl' : j < x /\ j < l.length := by rw [Tt] at hjl; omega
        have hj' : l[j]? = some q := by
          rw [Tz,if_pos hjl'.1] at hj
          exact hj
        simp (disch := omega) only [go_sem]
        refine Br.aB (fun c => ?_) (fun c => (c (by omega)).elim)
        simp (disch := omega) only [go_sem,hj',Mem.c]
        refine Br.aB (fun c3 => ?_) (fun c3 => ?_) <;> simp (disch := omega) only [go_sem,c3]
        . exact done (by rw [(hfd2 (by simp [c3])).any]; simp)
        . exact aN.of (by simp [c3]) rfl
      . have hlx : (l.take x).length = x := by rw [Tt]; omega
        rw [hlx]
        simp (disch := omega) only [go_sem]
        refine aN.of ?_ ?_
        . rw [hn.any,c1,c2]
          simp [*]
        . rw [wE hq]
          rfl
  . rw [Tv]
    simp (disch := omega) only [go_sem]
    have ha := hn.any
    rw [TU] at ha
    have hi : j6 (l.map Mem.nm) = true := by
      unfold j6
      rw [Bool.not_eq_true',TU]
      intro k hk
      rw [Tl] at hk
      have := ha k hk
      simp only [Bool.or_eq_true,not_or] at this
      exact this.1
    have hb : l.any (iy rec) = false := by
      rw [TU]
      intro m hm
      obtain ⟨k,hk⟩ := Ti.1 hm
      have := ha k (UO.2 (Tg.1 hk).1)
      simp only [Bool.or_eq_true,not_or,uO,hk] at this
      simpa using this.2
    refine Br.aB (fun c3 => ?_) (fun c3 => ?_) <;> simp (disch := omega) only [go_sem,c3]
    . refine Br.of (fun c4 => ?_) (fun c4 => ?_) <;> simp (disch := omega) only [go_sem,c4]
      . subst c4
        have n3 : l.length <= 16 := by omega
        simp only [ec,hi,hb,n3]
        simp
      . subst c4
        have n3 : l.length <= 16 := by omega
        simp only [ec,hi,hb,n3]
        congr 3
        rw [TQ]
        simp
        omega
    . have n3 : ¬ l.length <= 16 := by omega
      simp only [ec,hi,hb,n3]
      simp
end Go.Pv
