/-
 What the functions of the law give.
-/
import Derived.Test.YtpchfogcccagjaaGreatTab
set_option linter.unusedSimpArgs false
set_option linter.unusedVariables false
open List renaming getElem?_eq_some_iff → Vy, mem_of_getElem? → Vz, getElem?_eq_getElem → VA, length_map → VB, mem_iff_getElem? → VD, getElem?_map → VF, length_take → VH, eq_nil_of_length_eq_zero → VJ, getElem?_take → VN, mem_map → VP, take_of_length_le → VS, take_add_one → VT, take_length → VW, length_range → V7, findIdx?_eq_some_iff_getElem → Wd, ext_getElem? → Wi, append_nil → Wj, map_append → Wk, any_eq_false → Wt, getElem_mem → Ww, mem_range → WA, getElem_of_mem → WC, any_map → WJ, map_take → WK, getElem?_zip_eq_some → WW, any_eq_true → W4, map_map → W6
open Nat renaming lt_or_ge → VG, zero_le → V4, not_lt_zero → WZ
open Array renaming getElem?_toList → VU, getElem?_eq_getElem → W9, length_toList → Xp
open Option renaming map_eq_some_iff → Wf
open Bool renaming eq_iff_iff → Wp, and_eq_false_iff → Xj
open Int renaming toNat_natCast → Ws, le_refl → Xa
namespace Go.Pv
variable {A:Nat->Option ae} {Pr:br}
def cY (n:Nat):List (List PV)->V
 |[]=>.tl []
 |_::r=>.own n r.length 0 (r.length+1)
def cm (k:Nat):List (List PV)->List aL
 |[]=>[]
 |x::r=>[⟨r.length,k,.inl (x::r)⟩]
def wP (n k:Nat) (rows:List (List PV)) (r:List PV):Tn:=
 match rows with
 |[]=>{ push:=[⟨0,k,.inl [r]⟩],base:=n }
 |x::q=>{ ar:=some (n,⟨q.length+1,k,.inl (x::q++[r])⟩) }
theorem grow (bx:List (Nat×List V)) (mp:List (List (PV×PV))) (pre:List aL) (k:Nat) (rows:List (List PV)) (r:List PV) (hr:r.length=k) (hm:rows.length+1<=2147483648):
  aJ ⟨bx,pre++cm k rows,mp⟩ k (cY pre.length rows) (.tl [r])=some (cY pre.length (rows++[r]),wP pre.length k rows r):=by
 cases rows with
 |nil=>simp[aJ,cY,cm,wP,bg,aP,aB,hr,aR,aT]
 |cons x q=>
  have h1:aF ⟨bx,pre++cm k (x::q),mp⟩ pre.length q.length=some ⟨q.length,k,.inl (x::q)⟩:=by simp[aF,cm]
  have h2:(⟨q.length,k,.inl (x::q)⟩:aL).size=q.length+1:=rfl
  have h3:((x::q).drop 0).take (q.length+1)=x::q:=by simp
  simp only[List.length_cons]at hm
  simp[aJ,cY,wP,bg,aP,aB,hr,h1,h2,aR,aI,aT]
  omega
theorem ek (bx:List (Nat×List V)) (mp:List (List (PV×PV))) (pre:List aL) (k:Nat) (rows:List (List PV)) (r:List PV):
  (wP pre.length k rows r).apply ⟨bx,pre++cm k rows,mp⟩=⟨bx,pre++cm k (rows++[r]),mp⟩:=by
 cases rows with
 |nil=>simp[wP,Tn.apply,cm]
 |cons x q=>simp[wP,Tn.apply,cm]
@[go_sem] theorem yN (bx:List (Nat×List V)) (mp:List (List (PV×PV))) (k:Nat) (rows:List (List PV)) (r:List PV) (hr:r.length=k) (hm:rows.length+1<=2147483648):
  aJ ⟨bx,cm k rows,mp⟩ k (cY 0 rows) (.tl [r])=some (cY 0 (rows++[r]),wP 0 k rows r):=grow bx mp [] k rows r hr hm
@[go_sem] theorem HN (bx:List (Nat×List V)) (mp:List (List (PV×PV))) (a:aL) (k:Nat) (rows:List (List PV)) (r:List PV) (hr:r.length=k) (hm:rows.length+1<=2147483648):
  aJ ⟨bx,a::cm k rows,mp⟩ k (cY 1 rows) (.tl [r])=some (cY 1 (rows++[r]),wP 1 k rows r):=grow bx mp [a] k rows r hr hm
@[go_sem] theorem QP (bx:List (Nat×List V)) (mp:List (List (PV×PV))) (a b:aL) (k:Nat) (rows:List (List PV)) (r:List PV) (hr:r.length=k) (hm:rows.length+1<=2147483648):
  aJ ⟨bx,a::b::cm k rows,mp⟩ k (cY 2 rows) (.tl [r])=some (cY 2 (rows++[r]),wP 2 k rows r):=grow bx mp [a,b] k rows r hr hm
@[go_sem] theorem Lt (bx:List (Nat×List V)) (mp:List (List (PV×PV))) (k:Nat) (rows:List (List PV)) (r:List PV):
  (wP 0 k rows r).apply ⟨bx,cm k rows,mp⟩=⟨bx,cm k (rows++[r]),mp⟩:=ek bx mp [] k rows r
@[go_sem] theorem Lu (bx:List (Nat×List V)) (mp:List (List (PV×PV))) (a:aL) (k:Nat) (rows:List (List PV)) (r:List PV):
  (wP 1 k rows r).apply ⟨bx,a::cm k rows,mp⟩=⟨bx,a::cm k (rows++[r]),mp⟩:=ek bx mp [a] k rows r
@[go_sem] theorem Lv (bx:List (Nat×List V)) (mp:List (List (PV×PV))) (a b:aL) (k:Nat) (rows:List (List PV)) (r:List PV):
  (wP 2 k rows r).apply ⟨bx,a::b::cm k rows,mp⟩=⟨bx,a::b::cm k (rows++[r]),mp⟩:=ek bx mp [a,b] k rows r
@[go_sem] theorem Sj (h:af) (n:Nat) (rows:List (List PV)):fY h 0 (cY n rows)=some (rows.length,{}):=by cases rows<;>rfl
@[go_sem] theorem QR (n:Nat) (rows:List (List PV)):V.cells (cY n rows)=[cY n rows]:=by cases rows<;>rfl
@[go_sem] theorem Sk (n:Nat) (rows:List (List PV)):V.calm (cY n rows)=true:=by cases rows<;>rfl
@[go_sem] theorem QS (kb:List Nat) (n:Nat) (rows:List (List PV)):dO kb (cY n rows)=cY n rows:=by cases rows<;>rfl
@[go_sem] theorem QT (n:Nat) (rows:List (List PV)):V.bN (cY n rows)=none:=by cases rows<;>rfl
theorem AH (bx:List (Nat×List V)) (mp:List (List (PV×PV))) (pre post:List aL) (k:Nat) (x:List PV) (q:List (List PV)):aF ⟨bx,pre++(cm k (x::q)++post),mp⟩ pre.length q.length=some ⟨q.length,k,.inl (x::q)⟩:=by simp[aF,cm]
theorem l9 (bx:List (Nat×List V)) (mp:List (List (PV×PV))) (pre:List aL) (k d:Nat) (rows:List (List PV)):aV ⟨bx,pre++cm k rows,mp⟩ (d+1) (cY pre.length rows)=some (.aa 0 rows):=by
 cases rows with
 |nil=>rfl
 |cons x q=>
  have:=AH bx mp pre [] k x q
  rw[Wj]at this
  simp[cY,fC,this,dD,aI]
@[go_sem] theorem NU (bx:List (Nat×List V)) (mp:List (List (PV×PV))) (k:Nat) (rows:List (List PV)):aV ⟨bx,cm k rows,mp⟩ 4 (cY 0 rows)=some (.aa 0 rows):=l9 bx mp [] k 3 rows
@[go_sem] theorem NV (bx:List (Nat×List V)) (mp:List (List (PV×PV))) (a:aL) (k:Nat) (rows:List (List PV)):aV ⟨bx,a::cm k rows,mp⟩ 4 (cY 1 rows)=some (.aa 0 rows):=l9 bx mp [a] k 3 rows
@[go_sem] theorem Sl (h:af) (n:Nat) (rows:List (List PV)):bO h false (cY n rows)=aV h 4 (cY n rows):=by cases rows<;>rfl
def Sm:List (List PV)->Nat
 |[]=>0
 |_=>1
theorem yO (bx:List (Nat×List V)) (mp:List (List (PV×PV))) (pre:List aL) (k d:Nat) (rows:List (List PV)):bf ⟨bx,pre++cm k rows,mp⟩ (d+1) (cY pre.length rows)=some (.aa (Sm rows) rows):=by
 cases rows with
 |nil=>rfl
 |cons x q=>
  have:=AH bx mp pre [] k x q
  rw[Wj]at this
  simp[cY,bf,this,aI,Sm]
@[go_sem] theorem NW (bx:List (Nat×List V)) (mp:List (List (PV×PV))) (k:Nat) (rows:List (List PV)):bf ⟨bx,cm k rows,mp⟩ 4 (cY 0 rows)=some (.aa (Sm rows) rows):=yO bx mp [] k 3 rows
@[go_sem] theorem NX (bx:List (Nat×List V)) (mp:List (List (PV×PV))) (a:aL) (k:Nat) (rows:List (List PV)):bf ⟨bx,a::cm k rows,mp⟩ 4 (cY 1 rows)=some (.aa (Sm rows) rows):=yO bx mp [a] k 3 rows
@[go_sem] theorem Sn (h:af) (n:Nat) (rows:List (List PV)):cM h (cY n rows)=bf h 4 (cY n rows):=by cases rows<;>rfl
theorem pg {i n:Nat} {rows:List (List PV)} (h:rows.length=n+1):cY i rows=.own i n 0 (n+1):=by
 match rows,h with
 |x::q,h=>
  simp at h
  simp[cY,h]
theorem kR {k n:Nat} {rows:List (List PV)} (h:rows.length=n+1):cm k rows=[⟨n,k,.inl rows⟩]:=by
 match rows,h with
 |x::q,h=>
  simp at h
  simp[cm,h]
def wQ {α:Type} (i:Int) (len:Nat) (v:α):Option α:=if 0<=i/\i<=len then some v else none
@[go_sem] theorem Sp {α:Type} {i:Int} {len:Nat} {v:α} (h0:0<=i) (h1:i<=(len:Int)):wQ i len v=some v:=if_pos ⟨h0,h1⟩
@[go_sem] theorem Sq (g:bM->V) (h:af) (k id aq off len:Nat) (lo:bM):
  cZ g h k (.own id aq off len) (some lo) none none=(aF h id aq).bind fun a=>(intOf (g lo)).bind fun i=>if a.k=k then wQ i len (.own id aq (off+i.toNat) (len - i.toNat),{ ra:=some id }) else none:=by
 cases ho:aF h id aq with
 |none=>simp[cZ,ho]
 |some a=>
  cases hi:intOf (g lo)with
  |none=>simp[cZ,ho,bounds,bound,hi]
  |some i=>by_cases hk:a.k=k<;>by_cases h0:0<=i/\i<=len<;>simp[cZ,ho,bounds,bound,hi,hk,h0,wQ]
@[go_sem] theorem UW (g:bM->V) (h:af) (k id aq off len:Nat) (hi:bM):
  cZ g h k (.own id aq off len) none (some hi) none=(aF h id aq).bind fun a=>(intOf (g hi)).bind fun i=>if a.k=k then wQ i len (.own id aq off i.toNat,{ ra:=some id }) else none:=by
 cases ho:aF h id aq with
 |none=>simp[cZ,ho]
 |some a=>
  cases hj:intOf (g hi)with
  |none=>simp[cZ,ho,bounds,bound,hj]
  |some i=>by_cases hk:a.k=k<;>by_cases h0:0<=i/\i<=len<;>simp[cZ,ho,bounds,bound,hj,hk,h0,wQ]
end Go.Pv
namespace Go.Pv
@[go_sem] theorem te:ints []=[]:=rfl
@[go_sem] theorem gr (l:List Int) (x:Int):ints l++[[.int .i64 x]]=ints (l++[x]):=by simp[ints]
def cB (l:List Edge):List (List PV):=l.map Edge.c
@[go_sem] theorem cb (l:List Edge):(cB l).length=l.length:=by simp[cB]
@[go_sem] theorem QU:cB []=[]:=rfl
@[go_sem] theorem QV (l:List Edge) (i:Nat):(cB l)[i]?=l[i]?.map Edge.c:=by simp[cB]
theorem CI (l:List Edge) (e:Edge):cB l++[e.c]=cB (l++[e]):=by simp[cB]
@[go_sem] theorem TH (bx:List (Nat×List V)) (mp:List (List (PV×PV))) (l:List Int) (x:Int) (hm:l.length+1<=2147483648):
  aJ ⟨bx,cm 1 (ints l),mp⟩ 1 (cY 0 (ints l)) (.tl [[.int .i64 x]])=some (cY 0 (ints (l++[x])),wP 0 1 (ints l) [.int .i64 x]):=by
 rw[yN bx mp 1 (ints l) [.int .i64 x] rfl (by rw[aH]; exact hm),gr]
@[go_sem] theorem TI (bx:List (Nat×List V)) (mp:List (List (PV×PV))) (l:List Edge) (f:Int) (s:Bool) (x t:Int) (hm:l.length+1<=2147483648):
  aJ ⟨bx,cm 4 (cB l),mp⟩ 4 (cY 0 (cB l)) (.tl [[.int .i64 f,.bool s,.int .i64 x,.int .i64 t]])=some (cY 0 (cB (l++[⟨f,s,x,t⟩])),wP 0 4 (cB l) (Edge.c ⟨f,s,x,t⟩)):=by
 rw[<- CI]
 exact yN bx mp 4 (cB l) (Edge.c ⟨f,s,x,t⟩) rfl (by rw[cb]; exact hm)
@[go_sem] theorem TJ (bx:List (Nat×List V)) (mp:List (List (PV×PV))) (a:aL) (l:List Int) (x:Int) (hm:l.length+1<=2147483648):
  aJ ⟨bx,a::cm 1 (ints l),mp⟩ 1 (cY 1 (ints l)) (.tl [[.int .i64 x]])=some (cY 1 (ints (l++[x])),wP 1 1 (ints l) [.int .i64 x]):=by
 rw[HN bx mp a 1 (ints l) [.int .i64 x] rfl (by rw[aH]; exact hm),gr]
def cV (l:List Bool):List (List PV):=l.map fun b=>[.bool b]
@[go_sem] theorem wR (l:List Bool):(cV l).length=l.length:=by simp[cV]
@[go_sem] theorem NY (l:List Bool) (i:Nat):(cV l)[i]?=l[i]?.map fun b=>[.bool b]:=by simp[cV]
theorem CJ (l:List Bool) (i:Nat) (b:Bool):(cV l).set i [.bool b]=cV (l.set i b):=by simp[cV,List.map_set]
@[go_sem] theorem HO {id row aq:Nat} {b:Bool} {l:List Bool} (h1:row<l.length):dC id row 0 [.pv (.bool b)] ⟨aq,1,.inl (cV l)⟩=some { ar:=some (id,⟨aq,1,.inl (cV (l.set row b))⟩) }:=by
 rw[oY (by rw[wR]; exact h1) rfl (.inr ⟨.bool l[row],by simp[cV,h1]⟩) rfl,CJ]
@[go_sem] theorem Lw (n:Nat) (b:Bool):cn n [.pv (.bool b)]=.inl (cV (List.replicate n b)):=by
 simp[cn,aA,V.bN,PV.perm,cV]
def Sr (id aq off len:Nat) (x:Int) (a:aL):Option (V×Tn):=
 if off+len<=a.size/\a.k=1/\len+1<=aT then some (.own id (aq+1) 0 (len+1),{ ar:=some (id,⟨aq+1,1,aR (aI off len a.body) (.inl [[.int .i64 x]])⟩) }) else none
@[go_sem] theorem Ss (h:af) (id aq off len:Nat) (x:Int):aJ h 1 (.own id aq off len) (.tl [[.int .i64 x]])=(aF h id aq).bind (Sr id aq off len x):=by
 cases ho:aF h id aq with
 |none=>simp[aJ,bg,aP,ho]
 |some a=>
  simp only[aJ,bg,aP,ho,aB,Sr,List.all_cons,List.all_nil,List.length_cons,List.length_nil,Option.bind_some]
  by_cases h1:off+len<=a.size<;>by_cases h2:a.k=1<;>by_cases h3:len+1<=aT<;>simp[h1,h2,h3]
@[go_sem] theorem TK {id aq len:Nat} {x:Int} {l:List Int} (h1:len=l.length) (h2:l.length+1<=2147483648):Sr id aq 0 len x ⟨aq,1,.inl (ints l)⟩=some (.own id (aq+1) 0 (len+1),{ ar:=some (id,⟨aq+1,1,.inl (ints (l++[x]))⟩) }):=by
 subst h1
 unfold Sr
 rw[if_pos ⟨by simp[aL.size,ints],rfl,h2⟩]
 have:List.take l.length (List.map (fun x=>[PV.int IntKind.i64 x]) l)=List.map (fun x=>[PV.int IntKind.i64 x]) l:=List.take_of_length_le (by simp)
 simp[aR,aI,ints,this]
@[go_sem] theorem TL (h:af) (x:Int):aJ h 1 (.tl []) (.tl [[.int .i64 x]])=some (.own h.ar.length 0 0 1,{ push:=[⟨0,1,.inl (ints [x])⟩],base:=h.ar.length }):=by
 simp[aJ,bg,aP,aB,aT,aR,ints]
variable {A:Nat->Option ae} {Pr:br}
def cI {σ:Type} (S:Nat->σ->St) (I:Nat->σ->Prop) (k:Nat) (acc:σ) (Q:Ex->St->Prop) (_t:oT (S,I,k,acc,Q):=.mk):Ex->St->Prop
 |.normal,s=>s=S k acc/\I k acc
 |.exit i,s=>Q (.exit i) s
 |.ret,s=>Q .ret s
@[go_sem] theorem Ly {σ:Type} (S:Nat->σ->St) (I:Nat->σ->Prop) (k:Nat) (acc:σ) (Q:Ex->St->Prop) (i:Nat) (s:St):cI S I k acc Q .mk (.exit i) s=Q (.exit i) s:=rfl
@[go_sem] theorem NZ {σ:Type} (S:Nat->σ->St) (I:Nat->σ->Prop) (k:Nat) (acc:σ) (Q:Ex->St->Prop) (s:St):cI S I k acc Q .mk .ret s=Q .ret s:=rfl
theorem cI.of {σ:Type} {S:Nat->σ->St} {I:Nat->σ->Prop} {k:Nat} {acc:σ} {Q:Ex->St->Prop} {s:St} (h:s=S k acc) (h2:I k acc):cI S I k acc Q .mk .normal s:=⟨h,h2⟩
def BL (Q:Ex->St->Prop) (_t:oT Q:=.mk):Ex->St->Prop
 |.normal,_=>False
 |.exit i,s=>Q (.exit i) s
 |.ret,s=>Q .ret s
@[go_sem] theorem Lz (Q:Ex->St->Prop) (i:Nat) (s:St):BL Q .mk (.exit i) s=Q (.exit i) s:=rfl
@[go_sem] theorem N0 (Q:Ex->St->Prop) (s:St):BL Q .mk .ret s=Q .ret s:=rfl
theorem W.fold {σ α:Type} {a:AC} {s:St} {Q:Ex->St->Prop} (l:List α) (f:σ->α->σ) (x0:σ) (S:Nat->σ->St) (I:Nat->σ->Prop) (hs:s=S 0 x0) (h0:I 0 x0)
  (hr:∀k x acc,l[k]?=some x->k<l.length->acc=(l.take k).foldl f x0->I k acc->W A Pr a (S k acc) (cI S I (k+1) (f acc x) Q))
  (he:∀acc,acc=l.foldl f x0->I l.length acc->W A Pr a (S l.length acc) (BL Q)):W A Pr (.loop a) s Q:=by
 refine W.cD l.length (fun k=>S k ((l.take k).foldl f x0)) (fun k=>I k ((l.take k).foldl f x0)) (by simpa using hs) (by simpa using h0) fun k hk hi=>?_
 rcases VG k l.length with h|h
 .obtain⟨x,hx⟩:∃x,l[k]?=some x:=⟨l[k],by simp[h]⟩
  obtain⟨ex,s',h1,h2⟩:=hr k x _ hx h rfl hi
  have ht:(l.take (k+1)).foldl f x0=f ((l.take k).foldl f x0) x:=by rw[List.take_add_one,hx]; simp[List.foldl_append]
  refine⟨ex,s',h1,?_⟩
  cases ex with
  |normal=>exact .of h (by rw[ht]; exact h2.1) (by rw[ht]; exact h2.2)
  |exit i=>exact h2
  |ret=>exact h2
 .obtain rfl:k=l.length:=by omega
  rw[VW]at hi |-
  obtain⟨ex,s',h1,h2⟩:=he _ rfl hi
  refine⟨ex,s',h1,?_⟩
  cases ex with
  |normal=>exact h2.elim
  |exit i=>exact h2
  |ret=>exact h2
def aX (S:Nat->St) (k:Nat) (p:Bool) (Q:Ex->St->Prop) (_t:oT (S,k,p,Q):=.mk):Ex->St->Prop
 |.normal,s=>p=false/\s=S k
 |.exit i,s=>Q (.exit i) s
 |.ret,s=>Q .ret s
@[go_sem] theorem LA (S:Nat->St) (k:Nat) (p:Bool) (Q:Ex->St->Prop) (i:Nat) (s:St):aX S k p Q .mk (.exit i) s=Q (.exit i) s:=rfl
@[go_sem] theorem N1 (S:Nat->St) (k:Nat) (p:Bool) (Q:Ex->St->Prop) (s:St):aX S k p Q .mk .ret s=Q .ret s:=rfl
theorem aX.of {S:Nat->St} {k:Nat} {p:Bool} {Q:Ex->St->Prop} {s:St} (h:p=false) (h2:s=S k):aX S k p Q .mk .normal s:=⟨h,h2⟩
structure Found {α:Type} (l:List α) (p:α->Bool) (k:Nat) (x:α):Prop where
 any:l.any p=true
 all:l.all (fun y=>!p y)=false
 find:l.find? p=some x
 idx:l.findIdx? p=some k
structure kS {α:Type} (l:List α) (p:α->Bool):Prop where
 any:l.any p=false
 all:l.all (fun y=>!p y)=true
 find:l.find? p=none
 idx:l.findIdx? p=none
theorem EA {α:Type} {l:List α} {p:α->Bool} {k:Nat} {x:α} (hb:∀j,j<k->∀y,l[j]?=some y->p y=false) (hx:l[k]?=some x) (hp:p x=true):Found l p k x:=by
 obtain⟨hk,rfl⟩:=Vy.1 hx
 have hi:l.findIdx? p=some k:=by
  rw[Wd]
  exact⟨hk,hp,fun j hj=>by simpa using hb j hj _ (by rw[List.getElem?_eq_getElem (by omega)])⟩
 refine⟨W4.2 ⟨_,Ww hk,hp⟩,?_,?_,hi⟩
 .rw[List.all_eq_false]
  exact⟨_,List.getElem_mem hk,by simp[hp]⟩
 .rw[List.find?_eq_some_iff_getElem]
  exact⟨hp,k,hk,rfl,fun j hj=>by simpa using hb j hj _ (by rw[List.getElem?_eq_getElem (by omega)])⟩
theorem AI {α:Type} {l:List α} {p:α->Bool} (hb:∀j,j<l.length->∀y,l[j]?=some y->p y=false):kS l p:=by
 have hm:∀x∈l,p x=false:=fun x hx=>by
  obtain⟨j,hj,rfl⟩:=WC hx
  exact hb j hj _ (by rw[VA])
 exact⟨by rw[List.any_eq_false]; intro x hx; simp[hm x hx],by rw[List.all_eq_true]; intro x hx; simp[hm x hx],by rw[List.find?_eq_none]; intro x hx; simp[hm x hx],by rw[List.findIdx?_eq_none_iff]; exact hm⟩
theorem W.find {α:Type} {a:AC} {s:St} {Q:Ex->St->Prop} (l:List α) (p:α->Bool) (S:Nat->St) (hs:s=S 0)
  (hr:∀k x,l[k]?=some x->k<l.length->(p x=true->Found l p k x)->W A Pr a (S k) (aX S (k+1) (p x) Q))
  (he:kS l p->W A Pr a (S l.length) (BL Q)):W A Pr (.loop a) s Q:=by
 refine W.cD l.length S (fun k=>∀j,j<k->∀y,l[j]?=some y->p y=false) hs (fun j hj=>absurd hj (WZ _)) fun k hk hi=>?_
 rcases VG k l.length with h|h
 .obtain⟨x,hx⟩:∃x,l[k]?=some x:=⟨l[k],by simp[h]⟩
  obtain⟨ex,s',h1,h2⟩:=hr k x hx h (fun hp=>EA hi hx hp)
  refine⟨ex,s',h1,?_⟩
  cases ex with
  |normal=>
   refine .of h h2.2 fun j hj y hy=>?_
   rcases VG j k with g|g
   .exact hi j g y hy
   .obtain rfl:j=k:=by omega
    rw[hx]at hy
    cases hy
    exact h2.1
  |exit i=>exact h2
  |ret=>exact h2
 .obtain rfl:k=l.length:=by omega
  obtain⟨ex,s',h1,h2⟩:=he (AI hi)
  refine⟨ex,s',h1,?_⟩
  cases ex with
  |normal=>exact h2.elim
  |exit i=>exact h2
  |ret=>exact h2
def AJ (A:Nat->Option ae) (Pr:br) (a:AC) (Q:Ex->St->Prop) (_t:oT (a,Q):=.mk):Ex->St->Prop
 |.normal,s=>W A Pr (.loop a) s Q
 |.exit i,s=>Q (.exit i) s
 |.ret,s=>Q .ret s
@[go_sem] theorem FW (a:AC) (Q:Ex->St->Prop) (s:St):AJ A Pr a Q .mk .normal s=W A Pr (.loop a) s Q:=rfl
@[go_sem] theorem HP (a:AC) (Q:Ex->St->Prop) (i:Nat) (s:St):AJ A Pr a Q .mk (.exit i) s=Q (.exit i) s:=rfl
@[go_sem] theorem LB (a:AC) (Q:Ex->St->Prop) (s:St):AJ A Pr a Q .mk .ret s=Q .ret s:=rfl
end Go.Pv
namespace Go.Pv
def mI (n b:Nat) (rows:List (List PV)):V:=if rows.length<=b then .tl rows else .own n (rows.length - b - 1) 0 rows.length
def tf (k b:Nat) (rows:List (List PV)):List aL:=if rows.length<=b then [] else [⟨rows.length - b - 1,k,.inl rows⟩]
theorem eY {n b:Nat} {rows:List (List PV)} (h:rows.length<=b):mI n b rows=.tl rows:=if_pos h
theorem eZ {k b:Nat} {rows:List (List PV)} (h:rows.length<=b):tf k b rows=[]:=if_pos h
theorem eJ {n b m:Nat} {rows:List (List PV)} (h:rows.length=b+m+1):mI n b rows=.own n m 0 (b+m+1):=by
 unfold mI
 rw[if_neg (by omega),h,show b+m+1 - b - 1=m by omega]
theorem eK {k b m:Nat} {rows:List (List PV)} (h:rows.length=b+m+1):tf k b rows=[⟨m,k,.inl rows⟩]:=by
 unfold tf
 rw[if_neg (by omega),h,show b+m+1 - b - 1=m by omega]
theorem gT {b:Nat} {rows:List (List PV)}:rows.length<=b\/∃m,rows.length=b+m+1:=by
 rcases VG b rows.length with h|h
 .exact .inr ⟨rows.length - b - 1,by omega⟩
 .exact .inl h
theorem yP {n b:Nat} {rows:List (List PV)} {r:List PV} (h:b<=rows.length):mI n b (rows++[r])=.own n (rows.length - b) 0 (rows.length+1):=by
 rw[eJ (m:=rows.length - b) (by simp; omega),show b+(rows.length - b)+1=rows.length+1 by omega]
theorem yQ {k b:Nat} {rows:List (List PV)} {r:List PV} (h:b<=rows.length):tf k b (rows++[r])=[⟨rows.length - b,k,.inl (rows++[r])⟩]:=eK (by simp; omega)
def N2 (id aq off len k:Nat) (r:List PV) (a:aL):Option (V×Tn):=
 if off+len<=a.size/\a.k=k/\len+1<=aT then some (.own id (aq+1) 0 (len+1),{ ar:=some (id,⟨aq+1,k,aR (aI off len a.body) (.inl [r])⟩) }) else none
theorem EB (h:af) (id aq off len k:Nat) (r:List PV) (hr:r.length=k):aJ h k (.own id aq off len) (.tl [r])=(aF h id aq).bind (N2 id aq off len k r):=by
 cases ho:aF h id aq with
 |none=>simp[aJ,bg,aP,ho]
 |some a=>
  simp only[aJ,bg,aP,ho,aB,N2,List.all_cons,List.all_nil,List.length_cons,List.length_nil,Option.bind_some,hr,beq_self_eq_true,Bool.and_self,if_true]
  by_cases h1:off+len<=a.size<;>by_cases h2:a.k=k<;>by_cases h3:len+1<=aT<;>simp[h1,h2,h3]
theorem LC {id aq len k:Nat} {r:List PV} {l:List (List PV)} (h1:len=l.length) (h2:l.length+1<=2147483648):N2 id aq 0 len k r ⟨aq,k,.inl l⟩=some (.own id (aq+1) 0 (len+1),{ ar:=some (id,⟨aq+1,k,.inl (l++[r])⟩) }):=by
 subst h1
 unfold N2
 rw[if_pos ⟨by simp[aL.size],rfl,h2⟩]
 simp[aR,aI]
theorem BM (h:af) (k:Nat) (rows:List (List PV)) (r:List PV) (hr:r.length=k) (hk:∀x∈rows,x.length=k) (hm:rows.length+1<=2147483648):aJ h k (.tl rows) (.tl [r])=some (.own h.ar.length 0 0 (rows.length+1),{ push:=[⟨0,k,.inl (rows++[r])⟩],base:=h.ar.length }):=by
 have:(rows.all fun x=>x.length==k)=true:=by simpa using hk
 simp[aJ,bg,aP,aB,aT,aR,hr,this,hm]
@[go_sem] theorem Su (h:af) (l:List Int) (x:Int) (hm:l.length+1<=2147483648):aJ h 1 (.tl (ints l)) (.tl [[.int .i64 x]])=some (.own h.ar.length 0 0 (l.length+1),{ push:=[⟨0,1,.inl (ints (l++[x]))⟩],base:=h.ar.length }):=by
 rw[BM h 1 (ints l) [.int .i64 x] rfl (by simp[ints]) (by rw[aH]; exact hm),aH,gr]
@[go_sem] theorem Sv (h:af) (n b:Nat) (rows:List (List PV)):fY h 0 (mI n b rows)=some (rows.length,{}):=by unfold mI; split<;>rfl
@[go_sem] theorem QW (kb:List Nat) (n b:Nat) (rows:List (List PV)):dO kb (mI n b rows)=mI n b rows:=by unfold mI; split<;>rfl
@[go_sem] theorem Sw (h:af) (n b:Nat) (rows:List (List PV)):bO h false (mI n b rows)=aV h 4 (mI n b rows):=by unfold mI; split<;>rfl
@[go_sem] theorem Sx (h:af) (n b:Nat) (rows:List (List PV)):cM h (mI n b rows)=bf h 4 (mI n b rows):=by unfold mI; split<;>rfl
def TM (b:Nat) (rows:List (List PV)):Nat:=if rows.length<=b then 0 else 1
theorem yR (bx:List (Nat×List V)) (mp:List (List (PV×PV))) (pre:List aL) (k b d:Nat) (rows:List (List PV)):aV ⟨bx,pre++tf k b rows,mp⟩ (d+1) (mI pre.length b rows)=some (.aa 0 rows):=by
 unfold mI tf
 split
 .rfl
 .simp[fC,aF,dD,aI]
theorem EC (bx:List (Nat×List V)) (mp:List (List (PV×PV))) (pre:List aL) (k b d:Nat) (rows:List (List PV)):bf ⟨bx,pre++tf k b rows,mp⟩ (d+1) (mI pre.length b rows)=some (.aa (TM b rows) rows):=by
 unfold mI tf TM
 split
 .rfl
 .simp[bf,aF,aI]
@[go_sem] theorem N3 (bx:List (Nat×List V)) (mp:List (List (PV×PV))) (k b:Nat) (rows:List (List PV)):aV ⟨bx,tf k b rows,mp⟩ 4 (mI 0 b rows)=some (.aa 0 rows):=yR bx mp [] k b 3 rows
@[go_sem] theorem N4 (bx:List (Nat×List V)) (mp:List (List (PV×PV))) (a:aL) (k b:Nat) (rows:List (List PV)):aV ⟨bx,a::tf k b rows,mp⟩ 4 (mI 1 b rows)=some (.aa 0 rows):=yR bx mp [a] k b 3 rows
@[go_sem] theorem N5 (bx:List (Nat×List V)) (mp:List (List (PV×PV))) (k b:Nat) (rows:List (List PV)):bf ⟨bx,tf k b rows,mp⟩ 4 (mI 0 b rows)=some (.aa (TM b rows) rows):=EC bx mp [] k b 3 rows
attribute [go_sem] Int.lt_irrefl
@[go_sem] theorem QX (r:Raw):r.c.length=2:=rfl
def wr (x:Int):Int:=IntKind.wrap .i64 x
def TN:Nat->List PV->Int
 |0,_=>0
 |n+1,cs=>match cs with
  |[_,_,_,.str s,_,.aa _ keys,.aa _ items,.aa _ rest]=>rest.foldl (fun acc r=>match r with|[_,.str d]=>wr (wr (acc+1)+d.size)|_=>acc) (items.foldl (fun acc r=>wr (acc+TN n r)) (keys.foldl (fun acc r=>wr (acc+TN n r)) (wr (1+s.size))))
  |_=>0
theorem mH.val {n:Nat} {cs:List PV} (h:mH n cs):∃w:dM,cs=w.c:=by
 cases n with
 |zero=>exact h.elim
 |succ n=>
  obtain⟨v,hv,_⟩:=h
  exact⟨v,hv⟩
@[go_sem] theorem QY (t:aC):t.c.length=10:=rfl
@[go_sem] theorem QZ (t:Mem):t.c.length=13:=rfl
@[go_sem] theorem Q0 (t:Sym):t.c.length=2:=rfl
open Classical in
noncomputable def U3 (cs:List PV):Int:=if h:∃n,mH n cs then TN (Classical.choose h) cs else 0
noncomputable def TO (acc:Int) (m:Mem):Int:=wr (wr (acc+U3 m.il.c)+m.name.size)
noncomputable def TP (acc:Int) (t:aC):Int:=(t.aN.take 100).foldl TO (wr (wr (wr (acc+t.aN.length)+t.syms.length)+t.name.size))
noncomputable def HQ (l:List aC):Bool:=decide ((l.length:Int)<=40)&&decide (l.foldl TP 0<=400)
def uH (x:Int):Bool:=decide (x=95)||(decide (97<=x)&&decide (x<=122))||(decide (65<=x)&&decide (x<=90))
def wS (x:Int):Bool:=decide (48<=x)&&decide (x<=57)
theorem yS {p:Bool} (h:p=true):(some [PV.bool true]:Option (List PV))=some [PV.bool p]:=by rw[h]
theorem gu {p:Bool} (h:p=false):(some [PV.bool false]:Option (List PV))=some [PV.bool p]:=by rw[h]
@[go_sem] theorem r323 (x:Int):res A az 323 [.int .u8 x]=some [.bool (uH x)]:=by
 refine ai a323 rfl rfl ?_
 simp only[F323,J7]
 simp(disch:=omega)only[go_sem]
 unfold uH
 repeat' (refine Br.aD (fun h=>?_) (fun h=>?_)<;>simp(disch:=omega)only[go_sem,h])
 all_goals (congr 3; rw[Bool.eq_iff_iff]; simp; omega)
@[go_sem] theorem r324 (x:Int):res A az 324 [.int .u8 x]=some [.bool (wS x)]:=by
 refine ai a324 rfl rfl ?_
 simp only[F324,J8]
 simp(disch:=omega)only[go_sem]
 unfold wS
 repeat' (refine Br.aD (fun h=>?_) (fun h=>?_)<;>simp(disch:=omega)only[go_sem,h])
 all_goals (congr 3; rw[Bool.eq_iff_iff]; simp; omega)
@[go_sem] theorem r327 (x:Int):res A az 327 [.int .u8 x]=some [.bool (uH x)]:=by
 refine ai a327 rfl rfl ?_
 simp only[F327,Kb]
 simp(disch:=omega)only[go_sem]
 unfold uH
 repeat' (refine Br.aD (fun h=>?_) (fun h=>?_)<;>simp(disch:=omega)only[go_sem,h])
 all_goals (congr 3; rw[Bool.eq_iff_iff]; simp; omega)
@[go_sem] theorem r328 (x:Int):res A az 328 [.int .u8 x]=some [.bool (wS x)]:=by
 refine ai a328 rfl rfl ?_
 simp only[F328,Kc]
 simp(disch:=omega)only[go_sem]
 unfold wS
 repeat' (refine Br.aD (fun h=>?_) (fun h=>?_)<;>simp(disch:=omega)only[go_sem,h])
 all_goals (congr 3; rw[Bool.eq_iff_iff]; simp; omega)
def jT (s:ByteArray):List Int:=s.data.toList.map fun b=>(b.toNat:Int)
theorem nY (s:ByteArray):(jT s).length=s.size:=by
 show (s.data.toList.map _).length=s.data.size
 rw[VB,Xp]
theorem wT {s:ByteArray} {i:Int} {x:Int} (h0:0<=i) (h:(jT s)[i.toNat]?=some x):Gr (some i) (.pv (.str s))=some (.pv (.int .u8 x)):=by
 have hlt:=(Vy.1 h).1
 rw[nY]at hlt
 have h1:s[i.toNat]?=some (s[i.toNat]'hlt):=getElem?_pos s i.toNat hlt
 simp only[Gr,wM h0 (show i<(s.size:Int) by omega),h1]
 simp only[jT,List.getElem?_map]at h
 have h2:s.data.toList[i.toNat]?=some (s[i.toNat]'hlt):=by
  rw[VU]
  exact W9 hlt
 rw[h2]at h
 simp only[Option.map_some,Option.some.injEq]at h
 rw[h]
def ma:List Int->Bool
 |[]=>false
 |x::r=>decide ((x::r).length<=24)&&uH x&&!(x::r).any fun y=>!uH y&&!wS y
def isName (s:ByteArray):Bool:=ma (jT s)
theorem r306 (s:ByteArray) (hs:bw s):res A az 306 [.str s]=some [.bool (isName s)]:=by
 refine ai a306 rfl rfl ?_
 simp only[F306,JT]
 simp(disch:=omega)only[go_sem]
 refine Br.aD (fun e=>?_) (fun e=>?_)<;>simp(disch:=omega)only[go_sem,e]
 .rfl
 have hb:=nY s
 unfold bw at hs
 unfold isName
 generalize hl:jT s=l at hb
 cases l with
 |nil=>exact(e (by
   obtain⟨⟨d⟩⟩:=s
   simp only[ByteArray.size,List.size_toArray,List.length_nil]at hb
   rw[VJ hb.symm])).elim
 |cons x r=>
  have hx:(jT s)[(0:Int).toNat]?=some x:=by rw[hl]; rfl
  have h0:=wT (Xa 0) hx
  refine Br.aD (fun e2=>?_) (fun e2=>?_)<;>simp(disch:=omega)only[go_sem,e2]
  .refine gu ?_
   have:¬(x::r).length<=24:=by omega
   simp only[ma,this,decide_false,Bool.false_and]
  simp(disch:=omega)only[go_sem,h0]
  refine Br.of (fun e3=>?_) (fun e3=>?_)<;>simp(disch:=omega)only[go_sem,e3]
  rotate_left
  .refine gu ?_
   simp only[ma,e3,Bool.and_false,Bool.false_and]
  .refine W.find (x::r) (fun y=>!uH y&&!wS y) (fun k=>⟨[(0,.pv (.str s)),(18,.pv (.int .i64 s.size)),(19,.pv (.int .i64 k))],⟨[],[],[]⟩⟩) rfl (fun k y hy hk hfd=>?_) (fun hn=>?_)
   .have hy':(jT s)[(k:Int).toNat]?=some y:=by rw[hl,Ws]; exact hy
    have hk':=wT (Int.natCast_nonneg k) hy'
    simp(disch:=omega)only[go_sem]
    refine Br.aD (fun c=>?_) (fun c=>(c (by omega)).elim)
    simp(disch:=omega)only[go_sem,hk']
    have done:(!uH y&&!wS y)=true->(some [PV.bool false]:Option (List PV))=some [.bool (ma (x::r))]:=fun g=>by
     refine gu ?_
     simp only[ma,(hfd g).any,Bool.not_true,Bool.and_false]
    refine Br.of (fun g=>?_) (fun g=>?_)<;>simp(disch:=omega)only[go_sem,hk',g]
    .exact aX.of (by simp[g]) rfl
    .refine Br.of (fun g2=>?_) (fun g2=>?_)<;>simp(disch:=omega)only[go_sem,g2]
     .exact aX.of (by simp[g2]) rfl
     .exact done (by simp[g,g2])
   .simp(disch:=omega)only[go_sem,hb]
    refine yS ?_
    have h24:(x::r).length<=24:=by omega
    simp only[ma,h24,e3,hn.any,decide_true,Bool.not_false,Bool.and_self]
theorem r310 (s:ByteArray) (hs:bw s):res A az 310 [.str s]=some [.bool (isName s)]:=by
 refine ai a310 rfl rfl ?_
 simp only[F310,JX]
 simp(disch:=omega)only[go_sem]
 refine Br.aD (fun e=>?_) (fun e=>?_)<;>simp(disch:=omega)only[go_sem,e]
 .rfl
 have hb:=nY s
 unfold bw at hs
 unfold isName
 generalize hl:jT s=l at hb
 cases l with
 |nil=>exact(e (by
   obtain⟨⟨d⟩⟩:=s
   simp only[ByteArray.size,List.size_toArray,List.length_nil]at hb
   rw[VJ hb.symm])).elim
 |cons x r=>
  have hx:(jT s)[(0:Int).toNat]?=some x:=by rw[hl]; rfl
  have h0:=wT (Xa 0) hx
  refine Br.aD (fun e2=>?_) (fun e2=>?_)<;>simp(disch:=omega)only[go_sem,e2]
  .refine gu ?_
   have:¬(x::r).length<=24:=by omega
   simp only[ma,this,decide_false,Bool.false_and]
  simp(disch:=omega)only[go_sem,h0]
  refine Br.of (fun e3=>?_) (fun e3=>?_)<;>simp(disch:=omega)only[go_sem,e3]
  rotate_left
  .refine gu ?_
   simp only[ma,e3,Bool.and_false,Bool.false_and]
  .refine W.find (x::r) (fun y=>!uH y&&!wS y) (fun k=>⟨[(0,.pv (.str s)),(3,.pv (.int .i64 k))],⟨[],[],[]⟩⟩) rfl (fun k y hy hk hfd=>?_) (fun hn=>?_)
   .have hy':(jT s)[(k:Int).toNat]?=some y:=by rw[hl,Ws]; exact hy
    have hk':=wT (Int.natCast_nonneg k) hy'
    simp(disch:=omega)only[go_sem]
    refine Br.aD (fun c=>?_) (fun c=>(c (by omega)).elim)
    simp(disch:=omega)only[go_sem,hk']
    have done:(!uH y&&!wS y)=true->(some [PV.bool false]:Option (List PV))=some [.bool (ma (x::r))]:=fun g=>by
     refine gu ?_
     simp only[ma,(hfd g).any,Bool.not_true,Bool.and_false]
    refine Br.of (fun g=>?_) (fun g=>?_)<;>simp(disch:=omega)only[go_sem,hk',g]
    .exact aX.of (by simp[g]) rfl
    .refine Br.of (fun g2=>?_) (fun g2=>?_)<;>simp(disch:=omega)only[go_sem,g2]
     .exact aX.of (by simp[g2]) rfl
     .exact done (by simp[g,g2])
   .simp(disch:=omega)only[go_sem,hb]
    refine yS ?_
    have h24:(x::r).length<=24:=by omega
    simp only[ma,h24,e3,hn.any,decide_true,Bool.not_false,Bool.and_self]
def jj (l:List ByteArray):List (PV×PV):=l.map fun s=>(.str s,.bool true)
def ll (x:ByteArray) (l:List ByteArray):Option (Nat×PV):=(l.findIdx? fun s=>decide (s=x)).map fun i=>(i,.bool true)
def cy (l:List ByteArray) (x:ByteArray):Bool:=l.any fun s=>decide (s=x)
theorem jk {l:List ByteArray} {x:ByteArray}:cy l x=true↔x∈l:=by simp[cy]
def qk (l:List ByteArray) (x:ByteArray):List ByteArray:=if cy l x=true then l else l++[x]
theorem ED {l:List ByteArray} {x y:ByteArray}:y∈qk l x↔y∈l\/y=x:=by
 unfold qk
 split
 .rename_i h
  rw[jk]at h
  constructor
  .exact .inl
  .rintro (h1|rfl)
   .exact h1
   .exact h
 .simp
theorem vu (a b:ByteArray):j0 false [2] (.str a) (.str b)=some (decide (a=b)):=by
 show bk [2] [.str a] [.str b]=_
 rw[qS,Gw,AB]
 simp
theorem qW (x:ByteArray):∀(l:List ByteArray) (i:Nat),findKey false [2] (.str x) (jj l) i=some ((ll x l).map fun p=>(p.1+i,p.2))
 |[],i=>by
  show (if (j0 false [2] (.str x) (.str x)).isSome then some none else none)=_
  rw[vu]
  rfl
 |y::l,i=>by
  show (match j0 false [2] (.str x) (.str y)with
   |some true=>some (some (i,PV.bool true))
   |some false=>findKey false [2] (.str x) (jj l) (i+1)
   |none=>none)=_
  rw[vu]
  by_cases h:x=y
  .subst h
   simp[ll,List.findIdx?_cons]
  .have h':¬y=x:=fun e=>h e.symm
   simp only[h,decide_false]
   rw[qW x l (i+1)]
   simp only[ll,List.findIdx?_cons,h',decide_false]
   cases l.findIdx? fun s=>decide (s=x)with
   |none=>rfl
   |some j=>simp; omega
@[go_sem] theorem AK (x:ByteArray) (l:List ByteArray):findKey false [2] (.str x) (jj l) 0=some (ll x l):=by
 rw[qW]
 cases ll x l<;>rfl
theorem th {x:ByteArray} {l:List ByteArray}:(ll x l).isSome=true↔x∈l:=by
 unfold ll
 rw[Option.isSome_map,List.findIdx?_isSome,W4]
 simp
@[go_sem] theorem HS (x:ByteArray) (l:List ByteArray):wL (.pv (.bool false)) false (ll x l)=.pv (.bool (cy l x)):=by
 have h:=th (x:=x) (l:=l)
 rw[<- jk]at h
 cases hl:ll x l with
 |none=>
  rw[hl]at h
  have:cy l x=false:=by
   cases hx:cy l x with
   |false=>rfl
   |true=>simpa using h.2 hx
  simp[wL,this]
 |some p=>
  rw[hl]at h
  have hx:cy l x=true:=h.1 rfl
  have hp:p.2=.bool true:=by
   unfold ll at hl
   obtain⟨i,_,rfl⟩:=Wf.1 hl
   rfl
  simp[wL,hx,hp]
@[go_sem] theorem N6 (x:ByteArray) (l:List ByteArray) (id:Nat):Ej false [2] (.str x) (.bool true) id (jj l)=some { mp:=some (id,jj (qk l x)) }:=by
 unfold Ej
 rw[AK]
 have h:=th (x:=x) (l:=l)
 rw[<- jk]at h
 cases hl:ll x l with
 |none=>
  rw[hl]at h
  have:cy l x=false:=by
   cases hx:cy l x with
   |false=>rfl
   |true=>simpa using h.2 hx
  simp[qk,this,jj]
 |some p=>
  rw[hl]at h
  have hx:cy l x=true:=h.1 rfl
  unfold ll at hl
  obtain⟨i,hi,rfl⟩:=Wf.1 hl
  obtain⟨h1,h2,_⟩:=Wd.1 hi
  have h3:l[i]=x:=by simpa using h2
  simp only[qk,hx,if_true]
  congr 4
  apply Wi
  intro j
  rw[List.getElem?_set]
  split
  .rename_i hj
   subst hj
   simp[jj,h1,h3]
  .rfl
def strs (l:List ByteArray):List (List PV):=l.map fun s=>[.str s]
@[go_sem] theorem fE (l:List ByteArray):(strs l).length=l.length:=by simp[strs]
@[go_sem] theorem Q1 (l:List ByteArray) (i:Nat):(strs l)[i]?=l[i]?.map fun s=>[.str s]:=by simp[strs]
theorem ql (l:List ByteArray) (x:ByteArray):strs l++[[.str x]]=strs (l++[x]):=by simp[strs]
abbrev Nm:=Int×ByteArray
def nw (l:List Nm) (k:Nat):Int:=((l[k - 1]?).map (·.1)).getD 0
def jm (l:List Nm) (k:Nat) (p:Nm):Bool:=decide (p.1<1)||decide (1000<p.1)||(decide (0<k)&&decide (p.1<=nw l k))||cy ((l.map (·.2)).take k) p.2||!isName p.2
def jn (l:List Nm) (k:Nat):Bool:=match l[k]? with
 |some p=>jm l k p
 |none=>false
def lq (l:List Nm):Bool:=!(List.range l.length).any (jn l)
theorem cL {n k x:Nat} (h:(List.range n)[k]?=some x):x=k/\k<n:=by
 obtain⟨h1,h2⟩:=Vy.1 h
 simp at h1 h2
 exact⟨h2.symm,h1⟩
set_option maxHeartbeats 1000000 in
theorem r325 (t u:Nat) (l:List Nm) (hl:l.length<=2^63 - 1) (hs:∀p∈l,bw p.2):res A az 325 [.aa t (ints (l.map (·.1))),.aa u (strs (l.map (·.2)))]=some [.bool (lq l&&decide (l.length<=16))]:=by
 refine ai a325 rfl rfl ?_
 simp only[F325,J9]
 simp(disch:=omega)only[go_sem]
 refine W.find (List.range l.length) (jn l) (fun k=>⟨[(0,.pv (.aa t (ints (l.map (·.1))))),(1,.pv (.aa u (strs (l.map (·.2))))),(5,.map 0),(9,.pv (.aa t (ints (l.map (·.1))))),(10,.pv (.int .i64 l.length)),(11,.pv (.int .i64 k))],⟨[],[],[jj ((l.map (·.2)).take k)]⟩⟩) ?_ (fun k x hx hk hfd=>?_) (fun hn=>?_)
 .simp[jj]
 .obtain⟨rfl,hk⟩:=cL hx
  have hp:=VA hk
  generalize l[x]=p at hp
  have h1:(l.map (·.1))[x]?=some p.1:=by rw[VF,hp]; rfl
  have h2:(l.map (·.2))[x]?=some p.2:=by rw[VF,hp]; rfl
  have hnm:=r306 p.2 (hs p (Vz hp))
  have hb:jn l x=jm l x p:=by simp only[jn,hp]
  have done:jm l x p=true->(some [PV.bool false]:Option (List PV))=some [PV.bool (lq l&&decide (l.length<=16))]:=fun g=>by
   refine gu ?_
   rw[<- hb]at g
   simp only[lq,(hfd g).any,Bool.not_true,Bool.false_and]
  rw[hb]
  have hins:cy ((l.map (·.2)).take x) p.2=false->qk ((l.map (·.2)).take x) p.2=(l.map (·.2)).take (x+1):=fun h=>by
   rw[qk,h,VT,VF,hp]
   rfl
  simp(disch:=omega)only[go_sem]
  refine Br.aD (fun c=>?_) (fun c=>(c (by omega)).elim)
  simp(disch:=omega)only[go_sem,h1]
  refine Br.aD (fun c1=>?_) (fun c1=>?_)<;>simp(disch:=omega)only[go_sem,c1]
  .exact done (by simp[jm,c1])
  refine Br.aD (fun c2=>?_) (fun c2=>?_)<;>simp(disch:=omega)only[go_sem,c2]
  .exact done (by simp[jm,c2])
  have fin:(decide (0<x)&&decide (p.1<=nw l x))=false->jm l x p=(cy ((l.map (·.2)).take x) p.2||!isName p.2):=fun g=>by
   have d1:decide (p.1<1)=false:=by simp; omega
   have d2:decide (1000<p.1)=false:=by simp; omega
   simp only[jm,d1,d2,g,Bool.false_or]
  have hx1:0<x->(l.map (·.1))[x - 1]?=some (nw l x):=fun h=>by
   have hq:l[x - 1]?=some (l[x - 1]'(by omega)):=VA (by omega)
   rw[VF,nw,hq]
   rfl
  have hcast:0<x->(x:Int) - 1=((x - 1:Nat):Int):=fun h=>by omega
  refine Br.aD (fun c3=>?_) (fun c3=>?_)<;>simp(disch:=omega)only[go_sem,c3]
  .have hq:l[x - 1]?=some (l[x - 1]'(by omega)):=VA (by omega)
   have hpv:(l[x - 1]'(by omega)).1=nw l x:=by rw[nw,hq]; rfl
   simp(disch:=omega)only[go_sem,hcast (by omega),hq,hpv]
   refine Br.aD (fun c4=>?_) (fun c4=>?_)<;>simp(disch:=omega)only[go_sem,c4,hp]
   .exact done (by simp[jm,c4,show 0<x by omega])
   refine Br.of (fun c5=>?_) (fun c5=>?_)<;>simp(disch:=omega)only[go_sem,c5,hnm,hp]
   .exact done (by simp[jm,c5])
   refine Br.of (fun c6=>?_) (fun c6=>?_)<;>simp(disch:=omega)only[go_sem,c6,hp]
   .refine aX.of ?_ ?_
    .rw[fin (by simp; omega),c5,c6]
     rfl
    .rw[hins c5]
     rfl
   .exact done (by simp[jm,c6])
  .simp(disch:=omega)only[go_sem,hp]
   refine Br.of (fun c5=>?_) (fun c5=>?_)<;>simp(disch:=omega)only[go_sem,c5,hnm,hp]
   .exact done (by simp[jm,c5])
   refine Br.of (fun c6=>?_) (fun c6=>?_)<;>simp(disch:=omega)only[go_sem,c6,hp]
   .refine aX.of ?_ ?_
    .rw[fin (by simp; omega),c5,c6]
     rfl
    .rw[hins c5]
     rfl
   .exact done (by simp[jm,c6])
 .rw[V7]
  simp(disch:=omega)only[go_sem]
  simp[lq,hn.any]
  omega
open Classical in
noncomputable def eqv {α:Type} (a b:α):Bool:=decide (a=b)
theorem eW {α:Type} (a:α):eqv a a=true:=by simp[eqv]
theorem hZ {α:Type} {a b:α} (h:a≠b):eqv a b=false:=by simp[eqv,h]
theorem cJ {α:Type} {a b:α}:eqv a b=true↔a=b:=by simp[eqv]
theorem mb {α:Type} {a b:α}:eqv a b=false↔a≠b:=by simp[eqv]
theorem kS.eq {α:Type} {l m:List α} (hl:l.length=m.length) (h:kS (l.zip m) fun q=>!eqv q.1 q.2):l=m:=by
 have ha:=h.any
 rw[Wt]at ha
 apply List.ext_getElem hl
 intro i h1 h2
 have hm:(l[i],m[i])∈l.zip m:=Vz (WW.2 ⟨VA h1,VA h2⟩)
 have:=ha _ hm
 simpa [cJ]using this
theorem Found.ne {α:Type} {l m:List α} {k:Nat} {x:α×α} (h:Found (l.zip m) (fun q=>!eqv q.1 q.2) k x):eqv l m=false:=by
 rw[mb]
 rintro rfl
 have ha:=h.any
 rw[W4]at ha
 obtain⟨q,hq,hn⟩:=ha
 obtain⟨i,hi⟩:=VD.1 hq
 obtain⟨h1,h2⟩:=WW.1 hi
 have:q.1=q.2:=Option.some.inj (h1.symm.trans h2)
 rw[this,eW]at hn
 cases hn
theorem iJ {α:Type} {l m:List α} {k:Nat} {q:α×α} (h:(l.zip m)[k]?=some q):l[k]?=some q.1/\m[k]?=some q.2:=WW.1 h
theorem GO {α β:Type} {f:α->β} (hf:∀x y,f x=f y->x=y) (l m:List α):eqv (l.map f) (m.map f)=eqv l m:=by
 rw[Wp,cJ,cJ]
 refine⟨fun h=>?_,fun h=>by rw[h]⟩
 induction l generalizing m with
 |nil=>cases m with
  |nil=>rfl
  |cons y m=>simp at h
 |cons x l ih=>cases m with
  |nil=>simp at h
  |cons y m=>
   simp only[List.map_cons,List.cons.injEq]at h
   rw[hf _ _ h.1,ih _ h.2]
theorem Raw.EE (x y:Raw) (h:x.c=y.c):x=y:=by
 obtain⟨a,b⟩:=x
 obtain⟨c,d⟩:=y
 simp only[Raw.c,List.cons.injEq,PV.int.injEq,PV.str.injEq,true_and,and_true]at h
 rw[h.1,h.2]
theorem BN (x y:Sym):eqv x y=(decide (x.id=y.id)&&decide (x.name=y.name)):=by
 obtain⟨a,b⟩:=x
 obtain⟨c,d⟩:=y
 simp[eqv]
theorem BO (x y:Raw):eqv x y=(decide (x.id=y.id)&&decide (x.data=y.data)):=by
 obtain⟨a,b⟩:=x
 obtain⟨c,d⟩:=y
 simp[eqv]
theorem dF {α:Type} {l m:List α} (h:l.length=m.length):(l.zip m).length=l.length:=by simp[h]
theorem r317 (t u:Nat) (l m:List Sym) (hl:l.length<=2^63 - 1) (_hm:m.length<=2^63 - 1):res A az 317 [.aa t (l.map Sym.c),.aa u (m.map Sym.c)]=some [.bool (eqv l m)]:=by
 refine ai a317 rfl rfl ?_
 simp only[F317,J1]
 simp(disch:=omega)only[go_sem]
 refine Br.aD (fun h=>?_) (fun h=>?_)<;>simp(disch:=omega)only[go_sem]
 .refine W.find (l.zip m) (fun q=>!eqv q.1 q.2) (fun k=>⟨[(0,.pv (.aa t (l.map Sym.c))),(1,.pv (.aa u (m.map Sym.c))),(12,.pv (.int .i64 l.length)),(13,.pv (.int .i64 k))],⟨[],[],[]⟩⟩) rfl (fun k q hq hk hfd=>?_) (fun hn=>?_)
  .obtain⟨h1,h2⟩:=iJ hq
   rw[dF (by omega)]at hk
   simp(disch:=omega)only[go_sem]
   refine Br.aD (fun c=>?_) (fun c=>(c (by omega)).elim)
   simp(disch:=omega)only[go_sem,h1,h2,Sym.c]
   rw[<- BN]
   refine Br.of (fun g=>?_) (fun g=>?_)<;>simp(disch:=omega)only[go_sem]
   .exact aX.of (by rw[g]; rfl) rfl
   .rw[(hfd (by rw[g]; rfl)).ne]
  .have hz:(l.zip m).length=l.length:=dF (by omega)
   rw[hz]
   simp(disch:=omega)only[go_sem]
   rw[hn.eq (by omega),eW]
 .rw[hZ (fun e=>h (by rw[e]))]
theorem r333 (t u:Nat) (l m:List Raw) (hl:l.length<=2^63 - 1) (_hm:m.length<=2^63 - 1):res A az 333 [.aa t (l.map Raw.c),.aa u (m.map Raw.c)]=some [.bool (eqv l m)]:=by
 refine ai a333 rfl rfl ?_
 simp only[F333,Kf]
 simp(disch:=omega)only[go_sem]
 refine Br.aD (fun h=>?_) (fun h=>?_)<;>simp(disch:=omega)only[go_sem]
 .refine W.find (l.zip m) (fun q=>!eqv q.1 q.2) (fun k=>⟨[(0,.pv (.aa t (l.map Raw.c))),(1,.pv (.aa u (m.map Raw.c))),(12,.pv (.int .i64 l.length)),(13,.pv (.int .i64 k))],⟨[],[],[]⟩⟩) rfl (fun k q hq hk hfd=>?_) (fun hn=>?_)
  .obtain⟨h1,h2⟩:=iJ hq
   rw[dF (by omega)]at hk
   simp(disch:=omega)only[go_sem]
   refine Br.aD (fun c=>?_) (fun c=>(c (by omega)).elim)
   simp(disch:=omega)only[go_sem,h1,h2,Raw.c]
   rw[<- BO]
   refine Br.of (fun g=>?_) (fun g=>?_)<;>simp(disch:=omega)only[go_sem]
   .exact aX.of (by rw[g]; rfl) rfl
   .rw[(hfd (by rw[g]; rfl)).ne]
  .have hz:(l.zip m).length=l.length:=dF (by omega)
   rw[hz]
   simp(disch:=omega)only[go_sem]
   rw[hn.eq (by omega),eW]
 .rw[hZ (fun e=>h (by rw[e]))]
@[go_sem] theorem Q2 (v:dM):v.c.length=8:=rfl
theorem r334g {f:Nat} (hcw:∀(vs:List V) (h:af) (K:V->Tn->Prop),CW A az f vs h K=CN A az false f vs h K) (t u:Nat) (l m:List (List PV)) (hl:l.length<=2^63 - 1) (_hm:m.length<=2^63 - 1) (vl:∀r∈l,∃v:dM,r=v.c) (vm:∀r∈m,∃v:dM,r=v.c)
  (hr:∀r∈l,∀q∈m,res A az f [.agg r,.agg q]=some [.bool (eqv r q)]):res A az 334 [.aa t l,.aa u m,.func f []]=some [.bool (eqv l m)]:=by
 refine ai a334 rfl rfl ?_
 simp only[F334,Kg]
 simp(disch:=omega)only[go_sem]
 refine Br.aD (fun h=>?_) (fun h=>?_)<;>simp(disch:=omega)only[go_sem]
 .refine W.find (l.zip m) (fun q=>!eqv q.1 q.2) (fun k=>⟨[(1,.pv (.aa u m)),(2,.pv (.func f [])),(15,.pv (.aa t l)),(16,.pv (.int .i64 l.length)),(17,.pv (.int .i64 k))],⟨[],[],[]⟩⟩) rfl (fun k q hq hk hfd=>?_) (fun hn=>?_)
  .obtain⟨h1,h2⟩:=iJ hq
   rw[dF (by omega)]at hk
   have hc:=hr q.1 (Vz h1) q.2 (Vz h2)
   obtain⟨v,hv⟩:=vl q.1 (Vz h1)
   obtain⟨w,hw⟩:=vm q.2 (Vz h2)
   generalize eqv q.1 q.2=e at hc hfd |-
   rw[hv,hw]at hc
   rw[hv]at h1
   rw[hw]at h2
   unfold dM.c at hc h1 h2
   simp(disch:=omega)only[go_sem]
   refine Br.aD (fun c=>?_) (fun c=>(c (by omega)).elim)
   simp(disch:=omega)only[go_sem,h1,h2,hcw,hc]
   refine Br.of (fun g=>?_) (fun g=>?_)<;>simp(disch:=omega)only[go_sem]
   .exact aX.of (by rw[g]; rfl) rfl
   .rw[(hfd (by rw[g]; rfl)).ne]
  .have hz:(l.zip m).length=l.length:=dF (by omega)
   rw[hz]
   simp(disch:=omega)only[go_sem]
   rw[hn.eq (by omega),eW]
 .rw[hZ (fun e=>h (by rw[e]))]
theorem r334 (t u:Nat) (l m:List (List PV)) (hl:l.length<=2^63 - 1) (hm:m.length<=2^63 - 1) (vl:∀r∈l,∃v:dM,r=v.c) (vm:∀r∈m,∃v:dM,r=v.c)
  (hr:∀r∈l,∀q∈m,res A az 320 [.agg r,.agg q]=some [.bool (eqv r q)]):res A az 334 [.aa t l,.aa u m,.func 320 []]=some [.bool (eqv l m)]:=r334g cw320 t u l m hl hm vl vm hr
@[go_sem] theorem Sy (h:af) (x:ByteArray):aJ h 1 (.tl []) (.tl [[.str x]])=some (.own h.ar.length 0 0 1,{ push:=[⟨0,1,.inl (strs [x])⟩],base:=h.ar.length }):=BM h 1 [] [.str x] rfl (by simp) (by simp)
@[go_sem] theorem Q3 (h:af) (id aq off len:Nat) (x:ByteArray):aJ h 1 (.own id aq off len) (.tl [[.str x]])=(aF h id aq).bind (N2 id aq off len 1 [.str x]):=EB h id aq off len 1 [.str x] rfl
@[go_sem] theorem Sz {id aq len:Nat} {x:ByteArray} {l:List ByteArray} (h1:len=l.length) (h2:l.length+1<=2147483648):N2 id aq 0 len 1 [.str x] ⟨aq,1,.inl (strs l)⟩=some (.own id (aq+1) 0 (len+1),{ ar:=some (id,⟨aq+1,1,.inl (strs (l++[x]))⟩) }):=by
 rw[LC (by rw[fE]; exact h1) (by rw[fE]; exact h2),ql]
def DG (i k:Nat):V:=match k with
 |0=>.tl []
 |j+1=>.own i j 0 (j+1)
def FX (A B:List (List PV)):List aL:=match A.length with
 |0=>[]
 |j+1=>[⟨j,1,.inl A⟩,⟨j,1,.inl B⟩]
def Sym.nm (s:Sym):Nm:=(s.id,s.name)
def kT (l:List Sym):Bool:=decide (0<l.length)&&(lq (l.map Sym.nm)&&decide (l.length<=16))
set_option maxHeartbeats 1000000 in
theorem r307 (t:Nat) (l:List Sym) (hl:l.length<=2147483648) (hs:∀p∈l,bw p.name):res A az 307 [.aa t (l.map Sym.c)]=some [.bool (kT l)]:=by
 refine ai a307 rfl rfl ?_
 simp only[F307,JU]
 simp(disch:=omega)only[go_sem]
 refine W.cD l.length (fun k=>⟨[(0,.pv (.aa t (l.map Sym.c))),(3,DG 0 k),(4,DG 1 k),(7,.pv (.aa t (l.map Sym.c))),(8,.pv (.int .i64 l.length)),(9,.pv (.int .i64 k))],⟨[],FX (ints ((l.take k).map (·.id))) (strs ((l.take k).map (·.name))),[]⟩⟩) (fun _=>True) rfl trivial (fun k hk _=>?_)
 rcases VG k l.length with hlt|hge
 .have hp:=VA hlt
  generalize l[k]=p at hp
  have t1:(l.take (k+1)).map (·.id)=(l.take k).map (·.id)++[p.id]:=by rw[VT,hp,Wk]; rfl
  have t2:(l.take (k+1)).map (·.name)=(l.take k).map (·.name)++[p.name]:=by rw[VT,hp,Wk]; rfl
  cases k with
  |zero=>
   simp only[DG,FX,List.take_zero,List.map_nil,te,List.length_nil]
   simp(disch:=omega)only[go_sem]
   refine Br.aD (fun c=>?_) (fun c=>(c (by omega)).elim)
   simp(disch:=omega)only[go_sem,hp,Sym.c]
   refine .of (by omega) ?_ trivial
   rw[t1,t2]
   rfl
  |succ j=>
   have l1:((l.take (j+1)).map (·.id)).length=j+1:=by simp; omega
   have l2:((l.take (j+1)).map (·.name)).length=j+1:=by simp; omega
   generalize (l.take (j+1)).map (·.id)=A at t1 l1
   generalize (l.take (j+1)).map (·.name)=B at t2 l2
   simp only[DG,FX,aH,l1]
   simp(disch:=omega)only[go_sem]
   refine Br.aD (fun c=>?_) (fun c=>(c (by omega)).elim)
   simp(disch:=omega)only[go_sem,hp,Sym.c]
   have l3:((l.take (j+1+1)).map (·.id)).length=j+1+1:=by rw[t1]; simp[l1]
   refine .of (by omega) ?_ trivial
   simp only[aH,l3]
   rw[t1,t2]
   rfl
 .obtain rfl:k=l.length:=by omega
  rw[VW]
  have nm1:l.map (·.id)=(l.map Sym.nm).map (·.1):=by rw[W6]; rfl
  have nm2:l.map (·.name)=(l.map Sym.nm).map (·.2):=by rw[W6]; rfl
  have h325:=fun t u=>r325 t u (l.map Sym.nm) (by simp; omega) (fun p hp=>by
   obtain⟨q,hq,rfl⟩:=VP.1 hp
   exact hs q hq)
  rw[nm1,nm2]
  rw[VB]at h325
  unfold kT
  cases hn:l.length with
  |zero=>
   have h0:¬(0:Int)<l.length:=by omega
   simp only[DG,FX,hn,aH,List.length_map]
   simp(disch:=omega)only[go_sem,h0]
  |succ j=>
   have l1:((l.map Sym.nm).map (·.1)).length=j+1:=by simp[hn]
   have l2:((l.map Sym.nm).map (·.2)).length=j+1:=by simp[hn]
   rw[hn]at h325
   generalize (l.map Sym.nm).map (·.1)=A at l1 h325
   generalize (l.map Sym.nm).map (·.2)=B at l2 h325
   simp only[DG,FX,aH,l1]
   simp(disch:=omega)only[go_sem]
   have d1:A.take (j+1)=A:=VS (by omega)
   have d2:(strs B).take (j+1)=strs B:=VS (by rw[fE]; omega)
   refine Br.aD (fun c=>?_) (fun c=>(c (by omega)).elim)
   simp(disch:=omega)only[go_sem,c,d1,d2,h325]
   have h0:0<j+1:=by omega
   simp[h0]
theorem dM.EE (x y:dM) (h:x.c=y.c):x=y:=by
 obtain⟨a1,a2,a3,a4,a5,a6,a7,a8⟩:=x
 obtain⟨b1,b2,b3,b4,b5,b6,b7,b8⟩:=y
 simp only[dM.c,List.cons.injEq,PV.int.injEq,PV.bool.injEq,PV.str.injEq,PV.aa.injEq,true_and,and_true]at h
 obtain⟨h1,h2,h3,h4,h5,h6,h7,h8⟩:=h
 have h8:a8=b8:=cJ.1 (by rw[<- GO Raw.EE,h8,eW])
 rw[h1,h2,h3,h4,h5,h6,h7,h8]
theorem mJ (x y:dM):eqv x.c y.c=eqv x y:=by
 rw[Wp,cJ,cJ]
 exact⟨x.EE y,fun h=>by rw[h]⟩
set_option maxHeartbeats 4000000 in
theorem r320:∀(n k:Nat) (cs ds:List PV),mH n cs->mH k ds->res A az 320 [.agg cs,.agg ds]=some [.bool (eqv cs ds)]
 |0,_,_,_,h,_=>h.elim
 |_+1,0,_,_,_,h=>h.elim
 |n+1,k+1,cs,ds,h,h'=>by
  obtain⟨v,rfl,⟨h1,h2,h3,h4⟩,⟨h5,h6,h7⟩,h8,h9,h10⟩:=h
  obtain⟨w,rfl,⟨g1,g2,g3,g4⟩,⟨g5,g6,g7⟩,g8,g9,g10⟩:=h'
  have ih:=r320 n k
  unfold bV at h5 h6 h7 g5 g6 g7
  have hk:=fun t u=>r334 t u v.keys w.keys (by omega) (by omega) (fun r hr=>(h8 r hr).val) (fun r hr=>(g8 r hr).val) (fun r hr q hq=>ih r q (h8 r hr) (g8 q hq))
  have hi:=fun t u=>r334 t u v.items w.items (by omega) (by omega) (fun r hr=>(h9 r hr).val) (fun r hr=>(g9 r hr).val) (fun r hr q hq=>ih r q (h9 r hr) (g9 q hq))
  have hr:=fun t u=>r333 t u v.rest w.rest (by omega) (by omega)
  rw[mJ]
  obtain⟨a1,a2,a3,a4,a5,a6,a7,a8⟩:=v
  obtain⟨b1,b2,b3,b4,b5,b6,b7,b8⟩:=w
  unfold dM.c
  dsimp only at *
  clear ih
  refine ai a320 rfl rfl ?_
  simp only[F320,J4]
  simp(disch:=omega)only[go_sem]
  have no:∀{p q:dM},p≠q->(some [PV.bool false]:Option (List PV))=some [PV.bool (eqv p q)]:=fun h=>by rw[hZ h]
  refine Br.aD (fun e=>?_) (fun e=>?_)<;>simp(disch:=omega)only[go_sem,e]
  rotate_left
  .exact no (fun q=>e (by cases q; rfl))
  subst e
  refine Br.aD (fun e=>?_) (fun e=>?_)<;>simp(disch:=omega)only[go_sem,e]
  rotate_left
  .exact no (fun q=>e (by cases q; rfl))
  subst e
  refine Br.aD (fun e=>?_) (fun e=>?_)<;>simp(disch:=omega)only[go_sem,e]
  rotate_left
  .exact no (fun q=>e (by cases q; rfl))
  subst e
  refine Br.aD (fun e=>?_) (fun e=>?_)<;>simp(disch:=omega)only[go_sem,e]
  rotate_left
  .exact no (fun q=>e (by cases q; rfl))
  subst e
  refine Br.aD (fun e=>?_) (fun e=>?_)<;>simp(disch:=omega)only[go_sem,e]
  rotate_left
  .exact no (fun q=>e (by cases q; rfl))
  subst e
  simp(disch:=omega)only[go_sem,hr]
  refine Br.of (fun e=>?_) (fun e=>?_)<;>simp(disch:=omega)only[go_sem,e]
  rotate_left
  .exact no (fun q=>mb.1 e (by cases q; rfl))
  have e:=cJ.1 e
  subst e
  simp(disch:=omega)only[go_sem,hk]
  refine Br.of (fun e=>?_) (fun e=>?_)<;>simp(disch:=omega)only[go_sem,e]
  rotate_left
  .exact no (fun q=>mb.1 e (by cases q; rfl))
  have e:=cJ.1 e
  subst e
  simp(disch:=omega)only[go_sem,hi]
  congr 3
  rw[Wp,cJ,cJ]
  exact⟨fun e=>by rw[e],fun q=>by cases q; rfl⟩
theorem r320v {cs ds:List PV} (h:∃n,mH n cs) (h':∃n,mH n ds):res A az 320 [.agg cs,.agg ds]=some [.bool (eqv cs ds)]:=by
 obtain⟨n,h⟩:=h
 obtain⟨k,h'⟩:=h'
 exact r320 n k cs ds h h'
theorem r336 (t u:Nat) (l m:List (List PV)) (hl:l.length<=2^63 - 1) (_hm:m.length<=2^63 - 1) (vl:∀r∈l,∃v:dM,r=v.c) (vm:∀r∈m,∃v:dM,r=v.c)
  (hr:∀r∈l,∀q∈m,res A az 330 [.agg r,.agg q]=some [.bool (eqv r q)]):res A az 336 [.aa t l,.aa u m]=some [.bool (eqv l m)]:=by
 refine ai a336 rfl rfl ?_
 simp only[F336,Ki]
 simp(disch:=omega)only[go_sem]
 refine Br.aD (fun h=>?_) (fun h=>?_)<;>simp(disch:=omega)only[go_sem]
 .refine W.find (l.zip m) (fun q=>!eqv q.1 q.2) (fun k=>⟨[(0,.pv (.aa t l)),(1,.pv (.aa u m)),(5,.pv (.int .i64 k))],⟨[],[],[]⟩⟩) rfl (fun k q hq hk hfd=>?_) (fun hn=>?_)
  .obtain⟨h1,h2⟩:=iJ hq
   rw[dF (by omega)]at hk
   have hc:=hr q.1 (Vz h1) q.2 (Vz h2)
   obtain⟨v,hv⟩:=vl q.1 (Vz h1)
   obtain⟨w,hw⟩:=vm q.2 (Vz h2)
   generalize eqv q.1 q.2=e at hc hfd |-
   rw[hv,hw]at hc
   rw[hv]at h1
   rw[hw]at h2
   unfold dM.c at hc h1 h2
   simp(disch:=omega)only[go_sem]
   refine Br.aD (fun c=>?_) (fun c=>(c (by omega)).elim)
   simp(disch:=omega)only[go_sem,h1,h2,hc]
   refine Br.of (fun g=>?_) (fun g=>?_)<;>simp(disch:=omega)only[go_sem]
   .exact aX.of (by rw[g]; rfl) rfl
   .rw[(hfd (by rw[g]; rfl)).ne]
  .have hz:(l.zip m).length=l.length:=dF (by omega)
   rw[hz]
   simp(disch:=omega)only[go_sem]
   rw[hn.eq (by omega),eW]
 .rw[hZ (fun e=>h (by rw[e]))]
set_option maxHeartbeats 4000000 in
theorem r330:∀(n k:Nat) (cs ds:List PV),mH n cs->mH k ds->res A az 330 [.agg cs,.agg ds]=some [.bool (eqv cs ds)]
 |0,_,_,_,h,_=>h.elim
 |_+1,0,_,_,_,h=>h.elim
 |n+1,k+1,cs,ds,h,h'=>by
  obtain⟨v,rfl,⟨h1,h2,h3,h4⟩,⟨h5,h6,h7⟩,h8,h9,h10⟩:=h
  obtain⟨w,rfl,⟨g1,g2,g3,g4⟩,⟨g5,g6,g7⟩,g8,g9,g10⟩:=h'
  have ih:=r330 n k
  unfold bV at h5 h6 h7 g5 g6 g7
  have hk:=fun t u=>r336 t u v.keys w.keys (by omega) (by omega) (fun r hr=>(h8 r hr).val) (fun r hr=>(g8 r hr).val) (fun r hr q hq=>ih r q (h8 r hr) (g8 q hq))
  have hi:=fun t u=>r336 t u v.items w.items (by omega) (by omega) (fun r hr=>(h9 r hr).val) (fun r hr=>(g9 r hr).val) (fun r hr q hq=>ih r q (h9 r hr) (g9 q hq))
  rw[mJ]
  obtain⟨a1,a2,a3,a4,a5,a6,a7,a8⟩:=v
  obtain⟨b1,b2,b3,b4,b5,b6,b7,b8⟩:=w
  unfold dM.c
  dsimp only at *
  clear ih
  refine ai a330 rfl rfl ?_
  simp only[F330,Ke]
  simp(disch:=omega)only[go_sem]
  have no:∀{p q:dM},p≠q->(some [PV.bool false]:Option (List PV))=some [PV.bool (eqv p q)]:=fun h=>by rw[hZ h]
  refine Br.aD (fun e=>?_) (fun e=>?_)<;>simp(disch:=omega)only[go_sem,e]
  rotate_left
  .exact no (fun q=>e (by cases q; rfl))
  subst e
  refine Br.aD (fun e=>?_) (fun e=>?_)<;>simp(disch:=omega)only[go_sem,e]
  rotate_left
  .exact no (fun q=>e (by cases q; rfl))
  subst e
  refine Br.aD (fun e=>?_) (fun e=>?_)<;>simp(disch:=omega)only[go_sem,e]
  rotate_left
  .exact no (fun q=>e (by cases q; rfl))
  subst e
  refine Br.aD (fun e=>?_) (fun e=>?_)<;>simp(disch:=omega)only[go_sem,e]
  rotate_left
  .exact no (fun q=>e (by cases q; rfl))
  subst e
  refine Br.aD (fun e=>?_) (fun e=>?_)<;>simp(disch:=omega)only[go_sem,e]
  rotate_left
  .exact no (fun q=>e (by cases q; rfl))
  subst e
  refine Br.aD (fun e=>?_) (fun e=>?_)<;>simp(disch:=omega)only[go_sem]
  rotate_left
  .exact no (fun q=>e (by cases q; rfl))
  refine W.find (a8.zip b8) (fun q=>!eqv q.1 q.2) (fun k=>⟨[(2,.ptr 2 0),(3,.ptr 3 0),(5,.pv (.int .i64 k))],⟨[(2,[.pv (.int .i64 a1),.pv (.bool a2),.pv (.int .i64 a3),.pv (.str a4),.pv (.int .i64 a5),.pv (.aa 0 a6),.pv (.aa 0 a7),.pv (.aa 0 (a8.map Raw.c))]),(3,[.pv (.int .i64 a1),.pv (.bool a2),.pv (.int .i64 a3),.pv (.str a4),.pv (.int .i64 a5),.pv (.aa 0 b6),.pv (.aa 0 b7),.pv (.aa 0 (b8.map Raw.c))])],[],[]⟩⟩) rfl (fun k q hq hk' hfd=>?_) (fun hn=>?_)
  .obtain⟨q1,q2⟩:=iJ hq
   rw[dF (by omega)]at hk'
   simp(disch:=omega)only[go_sem]
   refine Br.aD (fun c=>?_) (fun c=>(c (by omega)).elim)
   simp(disch:=omega)only[go_sem,q1,q2,Raw.c]
   rw[<- BO]
   refine Br.of (fun g=>?_) (fun g=>?_)<;>simp(disch:=omega)only[go_sem]
   .exact aX.of (by rw[g]; rfl) rfl
   .exact no (fun q=>mb.1 (hfd (by rw[g]; rfl)).ne (by cases q; rfl))
  .have hz:(a8.zip b8).length=a8.length:=dF (by omega)
   rw[hz]
   have e:=hn.eq (by omega)
   subst e
   simp(disch:=omega)only[go_sem,hk]
   refine Br.of (fun e=>?_) (fun e=>?_)<;>simp(disch:=omega)only[go_sem,e]
   rotate_left
   .exact no (fun q=>mb.1 e (by cases q; rfl))
   have e:=cJ.1 e
   subst e
   simp(disch:=omega)only[go_sem,hi]
   congr 3
   rw[Wp,cJ,cJ]
   exact⟨fun e=>by rw[e],fun q=>by cases q; rfl⟩
theorem r330v {cs ds:List PV} (h:∃n,mH n cs) (h':∃n,mH n ds):res A az 330 [.agg cs,.agg ds]=some [.bool (eqv cs ds)]:=by
 obtain⟨n,h⟩:=h
 obtain⟨k,h'⟩:=h'
 exact r330 n k cs ds h h'
def bX:dM:=⟨0,false,0,⟨#[]⟩,0,[],[],[]⟩
theorem BP:∃n,mH n bX.c:=by
 refine⟨1,bX,rfl,⟨?_,?_,?_,?_⟩,⟨?_,?_,?_⟩,fun r hr=>(List.not_mem_nil hr).elim,fun r hr=>(List.not_mem_nil hr).elim,fun r hr=>(List.not_mem_nil hr).elim⟩<;>simp[bX,dY,bw,bV]
 exact V4 _
theorem r326 {v:dM} (h:∃n,mH n v.c):res A az 326 [.agg v.c]=some [.bool (eqv v bX)]:=by
 refine ai a326 rfl rfl ?_
 simp only[F326,Ka]
 have hc:=r320v h BP
 rw[mJ]at hc
 unfold bX dM.c at *
 simp only[List.map_nil]at hc
 simp(disch:=omega)only[go_sem,hc]
noncomputable def jo (rec:Bool) (m:Mem):Bool:=(!rec&&(m.FL||m.has))||(m.FL&&m.has)||(!m.has&&!eqv m.il bX)
def Mem.nm (s:Mem):Nm:=(s.id,s.name)
noncomputable def eE (rec:Bool) (l:List Mem):Bool:=!l.any (jo rec)&&((rec||decide (0<l.length))&&(lq (l.map Mem.nm)&&decide (l.length<=16)))
theorem qm {p:Bool} (h:p=false):(some [PV.bool false]:Option (List PV))=some [PV.bool p]:=by rw[h]
set_option maxHeartbeats 4000000 in
theorem r308 (t : aC) (ht : t.ok) (hl : t.aN.length <= 2147483648) (hk : t.kind = 5 \/ t.kind = 6) : res A az 308 [.agg t.c] = some [.bool (eE (decide (t.kind = 5)) t.aN)] := by
  obtain ⟨_,⟨_,_⟩,_,ho⟩ := ht
  obtain ⟨a1,a2,a3,a4,a5,a6,l,a8,a9,a10⟩ := t
  unfold aC.c
  dsimp only at *
  refine ai a308 rfl rfl ?_
  simp only [F308,JV]
  simp (disch := omega) only [go_sem]
  refine W.find l (jo (decide (a1 = 5))) (fun k => ⟨[(1,.ptr 1 0),(3,DG 0 k),(4,DG 1 k),(8,.pv (.aa 0 (l.map Mem.c))),(9,.pv (.int .i64 l.length)),(10,.pv (.int .i64 k))],⟨[(1,[.pv (.int .i64 a1),.pv (.str a2),.pv (.int .i64 a3),.pv (.int .i64 a4),.pv (.int .i64 a5),.pv (.aa 0 (a6.map Sym.c)),.pv (.aa 0 (l.map Mem.c)),.pv (.int .i64 a8),.pv (.int .i64 a9),.pv (.bool a10)])],FX (ints ((l.take k).map (·.id))) (strs ((l.take k).map (·.name))),[]⟩⟩) rfl (fun k p hp hlt hfd => ?_) (fun hn => ?_)
  . have t1 : (l.take (k + 1)).map (·.id) = (l.take k).map (·.id) ++ [p.id] := by rw [VT,hp,Wk]; rfl
    have t2 : (l.take (k + 1)).map (·.name) = (l.take k).map (·.name) ++ [p.name] := by rw [VT,hp,Wk]; rfl
    obtain ⟨_,_,_,hd⟩ := ho p (Vz hp)
    have hz := r326 hd
    have done : jo (decide (a1 = 5)) p = true -> (some [PV.bool false] : Option (List PV)) = some [PV.bool (eE (decide (a1 = 5)) l)] := fun g => by
      refine qm ?_
      simp only [eE,(hfd g).any,Bool.not_true,Bool.false_and]
    have hz0 : eqv p.il bX = eqv p.il bX := rfl
    generalize hzz : eqv p.il bX = z at hz
    unfold dM.c at hz
    have hbad : jo (decide (a1 = 5)) p = ((!decide (a1 = 5) && (p.FL || p.has)) || (p.FL && p.has) || (!p.has && !z)) := by rw [jo,hzz]
    rw [hbad] at done |-
    cases k with
    | zero =>
      simp only [DG,FX,List.take_zero,List.map_nil,te,List.length_nil]
      simp (disch := omega) only [go_sem]
      refine Br.aD (fun c => ?_) (fun c => (c (by omega)).elim)
      simp (disch := omega) only [go_sem,hp,Mem.c]
      repeat' (first
        | (refine Br.aD (fun h => ?_) (fun h => ?_) <;> simp (disch := omega) only [go_sem,h])
        | (refine Br.of (fun h => ?_) (fun h => ?_) <;> simp (disch := omega) only [go_sem,h,hz]))
      all_goals first
        | (refine done ?_; simp_all; done)
        | (refine aX.of (by simp_all; done) ?_
           rw [t1,t2]
           first
             | rfl
             | (rw [show a1 = 6 by omega]; rfl))
    | succ j =>
      have l1 : ((l.take (j + 1)).map (·.id)).length = j + 1 := by simp; omega
      have l2 : ((l.take (j + 1)).map (·.name)).length = j + 1 := by simp; omega
      have l3 : ((l.take (j + 1 + 1)).map (·.id)).length = j + 1 + 1 := by rw [t1]; simp; omega
      generalize (l.take (j + 1)).map (·.id) = A at t1 l1
      generalize (l.take (j + 1)).map (·.name) = B at t2 l2
      simp only [DG,FX,aH,l1]
      simp (disch := omega) only [go_sem]
      refine Br.aD (fun c => ?_) (fun c => (c (by omega)).elim)
      simp (disch := omega) only [go_sem,hp,Mem.c]
      repeat' (first
        | (refine Br.aD (fun h => ?_) (fun h => ?_) <;> simp (disch := omega) only [go_sem,h])
        | (refine Br.of (fun h => ?_) (fun h => ?_) <;> simp (disch := omega) only [go_sem,h,hz]))
      all_goals first
        | (refine done ?_; simp_all; done)
        | (refine aX.of (by simp_all; done) ?_
           simp only [aH,l3]
           rw [t1,t2]
           first
             | rfl
             | (rw [show a1 = 6 by omega]; rfl))
  . rw [VW]
    have nm1 : l.map (·.id) = (l.map Mem.nm).map (·.1) := by rw [W6]; rfl
    have nm2 : l.map (·.name) = (l.map Mem.nm).map (·.2) := by rw [W6]; rfl
    have h325 := fun t u => r325 t u (l.map Mem.nm) (by simp; omega) (fun p hp => by
      obtain ⟨q,hq,rfl⟩ := VP.1 hp
      exact (ho q hq).2.1)
    rw [nm1,nm2]
    rw [VB] at h325
    unfold eE
    rw [hn.any]
    cases hn : l.length with
    | zero =>
      have hnil : l = [] := VJ hn
      subst hnil
      simp only [List.map_nil,ints,strs] at h325
      simp only [DG,FX,hn,aH,List.length_map]
      simp (disch := omega) only [go_sem]
      refine Br.aD (fun c => ?_) (fun c => ?_) <;> simp (disch := omega) only [go_sem,c,h325]
      refine Br.aD (fun c2 => absurd c2 (by omega)) (fun c2 => ?_)
      simp (disch := omega) only [go_sem,c2]
      simp [c]
    | succ j =>
      have l1 : ((l.map Mem.nm).map (·.1)).length = j + 1 := by simp [hn]
      have l2 : ((l.map Mem.nm).map (·.2)).length = j + 1 := by simp [hn]
      rw [hn] at h325
      generalize (l.map Mem.nm).map (·.1) = A at l1 h325
      generalize (l.map Mem.nm).map (·.2) = B at l2 h325
      simp only [DG,FX,aH,l1]
      simp (disch := omega) only [go_sem]
      have d1 : A.take (j + 1) = A := VS (by omega)
      have d2 : (strs B).take (j + 1) = strs B := VS (by rw [fE]; omega)
      refine Br.aD (fun c => ?_) (fun c => ?_) <;> simp (disch := omega) only [go_sem,c,d1,d2,h325]
      refine Br.aD (fun c2 => ?_) (fun c2 => absurd (show (0 : Int) < ((j + 1 : Nat) : Int) by omega) c2)
      simp (disch := omega) only [go_sem,c,c2,d1,d2,h325]
      simp
def yT (b n:Int):Bool:=decide (b<n)&&(decide (1<=n)&&decide (n<=1000))
theorem r329 (b n:Int):res A az 329 [.int .i64 b,.int .i64 n]=some [.bool (yT b n)]:=by
 refine ai a329 rfl rfl ?_
 simp only[F329,Kd]
 simp(disch:=omega)only[go_sem]
 unfold yT
 repeat' (refine Br.aD (fun h=>?_) (fun h=>?_)<;>simp(disch:=omega)only[go_sem,h])
 all_goals simp[*]
def rC (l:List Nm) (k:Nat):Int:=match k with
 |0=>0
 |_+1=>nw l k
theorem EF (l:List Nm) (k:Nat) (p:Nm):jm l k p=(!yT (rC l k) p.1||!isName p.2||cy ((l.map (·.2)).take k) p.2):=by
 have h:(decide (p.1<1)||decide (1000<p.1)||(decide (0<k)&&decide (p.1<=nw l k)))=!yT (rC l k) p.1:=by
  unfold yT
  rw[Wp]
  cases k with
  |zero=>
   rw[Bool.not_eq_true',Xj,Xj,decide_eq_false_iff_not,decide_eq_false_iff_not,decide_eq_false_iff_not]
   simp only[rC,Bool.or_eq_true,Bool.and_eq_true,decide_eq_true_eq]
   omega
  |succ j=>
   rw[Bool.not_eq_true',Xj,Xj,decide_eq_false_iff_not,decide_eq_false_iff_not,decide_eq_false_iff_not]
   simp only[rC,Bool.or_eq_true,Bool.and_eq_true,decide_eq_true_eq]
   omega
 unfold jm
 rw[h]
 generalize (!yT (rC l k) p.1)=x
 generalize cy _ _=y
 generalize isName _=z
 cases x<;>cases y<;>cases z<;>rfl
theorem yU {l:List Nm} {k:Nat} {p:Nm} (hp:l[k]?=some p) (h:jm l k p=true):lq l=false:=by
 have hk:=(Vy.1 hp).1
 unfold lq
 rw[Bool.not_eq_false',W4]
 exact⟨k,List.mem_range.2 hk,by simp only[jn,hp]; exact h⟩
theorem BQ {α:Type} (nm:α->Nm) (l:List α) (k:Nat) (x:ByteArray):cy (((l.map nm).map (·.2)).take k) x=(l.take k).any fun q=>decide ((nm q).2=x):=by
 unfold cy
 rw[<- WK,<- WK,WJ,WJ]
 rfl
theorem yV {l:List Nm} {k:Nat} {p:Nm} (hp:l[k]?=some p):rC l (k+1)=p.1:=by
 show nw l (k+1)=p.1
 unfold nw
 rw[Nat.add_sub_cancel,hp]
 rfl
set_option maxHeartbeats 1000000 in
theorem r311 (t:Nat) (l:List Sym) (hl:l.length<=2147483648) (hs:∀p∈l,bw p.name):res A az 311 [.aa t (l.map Sym.c)]=some [.bool (kT l)]:=by
 refine ai a311 rfl rfl ?_
 simp only[F311,JY]
 simp(disch:=omega)only[go_sem]
 refine W.find (List.range l.length) (jn (l.map Sym.nm)) (fun k=>⟨[(0,.pv (.aa t (l.map Sym.c))),(3,.pv (.int .i64 (rC (l.map Sym.nm) k))),(4,.pv (.int .i64 k))],⟨[],[],[]⟩⟩) rfl (fun k x hx hk hfd=>?_) (fun hn=>?_)
 .obtain⟨rfl,hk⟩:=cL hx
  have hp:=VA hk
  generalize l[x]=p at hp
  have hq:(l.map Sym.nm)[x]?=some p.nm:=by rw[VF,hp]; rfl
  have hnm:=r310 p.name (hs p (Vz hp))
  have hid:=r329 (rC (l.map Sym.nm) x) p.id
  have hb:jn (l.map Sym.nm) x=(!yT (rC (l.map Sym.nm) x) p.id||!isName p.name||(l.take x).any fun q=>decide (q.name=p.name)):=by
   simp only[jn,hq]
   rw[EF,BQ]
   rfl
  have done:jn (l.map Sym.nm) x=true->(some [PV.bool false]:Option (List PV))=some [PV.bool (kT l)]:=fun g=>by
   refine qm ?_
   simp only[jn,hq]at g
   simp only[kT,yU hq g,Bool.false_and,Bool.and_false]
  rw[hb]at done |-
  simp(disch:=omega)only[go_sem]
  refine Br.aD (fun c=>?_) (fun c=>(c (by omega)).elim)
  simp(disch:=omega)only[go_sem,hp,Sym.c,hid]
  refine Br.of (fun c1=>?_) (fun c1=>?_)<;>simp(disch:=omega)only[go_sem,c1,hp,Sym.c,hnm]
  rotate_left
  .exact done (by simp[c1])
  refine Br.of (fun c2=>?_) (fun c2=>?_)<;>simp(disch:=omega)only[go_sem,c2]
  rotate_left
  .exact done (by simp[c2])
  refine W.find (l.take x) (fun q=>decide (q.name=p.name)) (fun j=>⟨[(0,.pv (.aa t (l.map Sym.c))),(4,.pv (.int .i64 x)),(5,.pv (.int .i64 j))],⟨[],[],[]⟩⟩) rfl (fun j q hj hjl hfd2=>?_) (fun hn=>?_)
  .have hjl':j<x/\j<l.length:=by rw[VH]at hjl; omega
   have hj':l[j]?=some q:=by
    rw[VN,if_pos hjl'.1]at hj
    exact hj
   simp(disch:=omega)only[go_sem]
   refine Br.aD (fun c=>?_) (fun c=>(c (by omega)).elim)
   simp(disch:=omega)only[go_sem,hp,hj',Sym.c]
   refine Br.aD (fun c3=>?_) (fun c3=>?_)<;>simp(disch:=omega)only[go_sem,c3]
   .exact done (by rw[(hfd2 (by simp[c3])).any,Bool.or_true])
   .exact aX.of (by simp[c3]) rfl
  .have hlx:(l.take x).length=x:=by rw[VH]; omega
   rw[hlx]
   simp(disch:=omega)only[go_sem,hp,Sym.c]
   refine aX.of ?_ ?_
   .rw[hn.any,c1,c2]
    rfl
   .rw[yV hq]
    rfl
 .rw[V7]
  simp(disch:=omega)only[go_sem]
  have hi:lq (l.map Sym.nm)=true:=by
   unfold lq
   rw[VB,hn.any]
   rfl
  refine Br.aD (fun c3=>?_) (fun c3=>?_)<;>simp(disch:=omega)only[go_sem,c3]
  .have h0:0<l.length:=by omega
   simp[kT,hi,h0]
   omega
  .have h0:¬0<l.length:=by omega
   simp[kT,h0]
noncomputable def wU (rec:Bool) (l:List Mem) (k:Nat):Bool:=match l[k]? with
 |some m=>jo rec m
 |none=>false
set_option maxHeartbeats 4000000 in
theorem r312 (t : Nat) (l : List Mem) (rec : Bool) (hl : l.length <= 2147483648) (ho : ∀ p ∈ l,p.ok) : res A az 312 [.aa t (l.map Mem.c),.bool rec] = some [.bool (eE rec l)] := by
  refine ai a312 rfl rfl ?_
  simp only [F312,JZ]
  simp (disch := omega) only [go_sem]
  refine W.find (List.range l.length) (fun k => jn (l.map Mem.nm) k || wU rec l k) (fun k => ⟨[(0,.pv (.aa t (l.map Mem.c))),(1,.pv (.bool rec)),(5,.pv (.int .i64 (rC (l.map Mem.nm) k))),(6,.pv (.int .i64 k))],⟨[],[],[]⟩⟩) rfl (fun k x hx hk hfd => ?_) (fun hn => ?_)
  . obtain ⟨rfl,hk⟩ := cL hx
    have hp := VA hk
    generalize l[x] = p at hp
    clear hfd
    have hq : (l.map Mem.nm)[x]? = some p.nm := by rw [VF,hp]; rfl
    obtain ⟨_,hsn,_,hd⟩ := ho p (Vz hp)
    have hnm := r310 p.name hsn
    have hid := r329 (rC (l.map Mem.nm) x) p.id
    have hz := r330v hd BP
    rw [mJ] at hz
    have hb : jn (l.map Mem.nm) x = (!yT (rC (l.map Mem.nm) x) p.id || !isName p.name || (l.take x).any fun q => decide (q.name = p.name)) := by
      simp only [jn,hq]
      rw [EF,BQ]
      rfl
    have done : (jn (l.map Mem.nm) x || jo rec p) = true -> (some [PV.bool false] : Option (List PV)) = some [PV.bool (eE rec l)] := fun g => by
      refine qm ?_
      rcases Bool.or_eq_true _ _ |>.mp g with g | g
      . simp only [jn,hq] at g
        simp only [eE,yU hq g,Bool.false_and,Bool.and_false]
      . have : l.any (jo rec) = true := W4.2 ⟨p,Vz hp,g⟩
        simp only [eE,this,Bool.not_true,Bool.false_and]
    have hbm : wU rec l x = jo rec p := by simp only [wU,hp]
    rw [hbm]
    rw [hb] at done |-
    unfold jo at done |-
    generalize eqv p.il bX = z at hz done |-
    unfold bX dM.c at hz
    simp only [List.map_nil] at hz
    simp (disch := omega) only [go_sem]
    refine Br.aD (fun c => ?_) (fun c => (c (by omega)).elim)
    simp (disch := omega) only [go_sem,hp,Mem.c,hid]
    refine Br.of (fun c1 => ?_) (fun c1 => ?_) <;> simp (disch := omega) only [go_sem,c1,hnm]
    rotate_left
    . exact done (by simp [c1])
    refine Br.of (fun c2 => ?_) (fun c2 => ?_) <;> simp (disch := omega) only [go_sem,c2]
    rotate_left
    . exact done (by simp [c2])
    repeat' (refine Br.of (fun h => ?_) (fun h => ?_) <;> simp (disch := omega) only [go_sem,h,hz])
    all_goals subst_vars
    all_goals first
      | (refine done ?_
         simp [*]
         done)
      | skip
    all_goals
      refine W.find (l.take x) (fun q => decide (q.name = p.name)) ((fun (b : V) (cs : List V) => fun j => ⟨[(0,.pv (.aa t (l.map Mem.c))),(1,b),(6,.pv (.int .i64 x)),(7,.ptr 7 0),(8,.pv (.int .i64 (j : Nat)))],⟨[(7,cs)],[],[]⟩⟩) _ _) rfl (fun j q hj hjl hfd2 => ?_) (fun hn => ?_)
      . have hjl' : j < x /\ j < l.length := by rw [VH] at hjl; omega
        have hj' : l[j]? = some q := by
          rw [VN,if_pos hjl'.1] at hj
          exact hj
        simp (disch := omega) only [go_sem]
        refine Br.aD (fun c => ?_) (fun c => (c (by omega)).elim)
        simp (disch := omega) only [go_sem,hj',Mem.c]
        refine Br.aD (fun c3 => ?_) (fun c3 => ?_) <;> simp (disch := omega) only [go_sem,c3]
        . exact done (by rw [(hfd2 (by simp [c3])).any]; simp)
        . exact aX.of (by simp [c3]) rfl
      . have hlx : (l.take x).length = x := by rw [VH]; omega
        rw [hlx]
        simp (disch := omega) only [go_sem]
        refine aX.of ?_ ?_
        . rw [hn.any,c1,c2]
          simp [*]
        . rw [yV hq]
          rfl
  . rw [V7]
    simp (disch := omega) only [go_sem]
    have ha := hn.any
    rw [Wt] at ha
    have hi : lq (l.map Mem.nm) = true := by
      unfold lq
      rw [Bool.not_eq_true',Wt]
      intro k hk
      rw [VB] at hk
      have := ha k hk
      simp only [Bool.or_eq_true,not_or] at this
      exact this.1
    have hb : l.any (jo rec) = false := by
      rw [Wt]
      intro m hm
      obtain ⟨k,hk⟩ := VD.1 hm
      have := ha k (WA.2 (Vy.1 hk).1)
      simp only [Bool.or_eq_true,not_or,wU,hk] at this
      simpa using this.2
    refine Br.aD (fun c3 => ?_) (fun c3 => ?_) <;> simp (disch := omega) only [go_sem,c3]
    . refine Br.of (fun c4 => ?_) (fun c4 => ?_) <;> simp (disch := omega) only [go_sem,c4]
      . subst c4
        have n3 : l.length <= 16 := by omega
        simp only [eE,hi,hb,n3]
        simp
      . subst c4
        have n3 : l.length <= 16 := by omega
        simp only [eE,hi,hb,n3]
        congr 3
        rw [Wp]
        simp
        omega
    . have n3 : ¬ l.length <= 16 := by omega
      simp only [eE,hi,hb,n3]
      simp
end Go.Pv
