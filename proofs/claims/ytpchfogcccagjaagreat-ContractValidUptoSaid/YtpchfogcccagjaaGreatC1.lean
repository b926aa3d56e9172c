/-
 What the functions of the law give.
-/
import Derived.Test.YtpchfogcccagjaaGreatTab
set_option linter.unusedSimpArgs false
set_option linter.unusedVariables false
open List renaming getElem?_eq_some_iff → Pg, mem_of_getElem? → Ph, getElem?_eq_getElem → Pj, length_map → Pm, length_take → Pt, getElem?_take → Pw, mem_cons_self → PN, getElem?_eq_none → PS, findIdx?_eq_some_iff_getElem → PT, take_length → PU, getElem_mem → P4, append_nil → P7, getElem?_zip_eq_some → Ql, findIdx?_eq_none_iff → Qm, getElem_of_mem → Qq, any_eq_true → Qs
open Nat renaming lt_or_ge → Po, not_lt_zero → Qu
open Int renaming toNat_natCast → P9, eq_ofNat_of_zero_le → Qp
open Bool renaming true_and → Qo, false_and → Qt
namespace Go.Pv
variable {A:Nat→Option aa} {Pr:bf}
def eu (n:Nat):List (List PV)→V
 |[]=>.tl []
 |_::r=>.own n r.length 0 (r.length+1)
def dY (k:Nat):List (List PV)→List aK
 |[]=>[]
 |x::r=>[⟨r.length,k,.inl (x::r)⟩]
def zi (n k:Nat) (rows:List (List PV)) (r:List PV):Tn:=
 match rows with
 |[]=>{ push:=[⟨0,k,.inl [r]⟩],base:=n }
 |x::q=>{ ar:=some (n,⟨q.length+1,k,.inl (x::q++[r])⟩) }
theorem grow (bx:List (Nat×List V)) (mp:List (List (PV×PV))) (pre:List aK) (k:Nat) (rows:List (List PV)) (r:List PV) (hr:r.length=k) (hm:rows.length+1≤2147483648):
  aU ⟨bx,pre++dY k rows,mp⟩ k (eu pre.length rows) (.tl [r])=some (eu pre.length (rows++[r]),zi pre.length k rows r):=by
 cases rows with
 |nil=>simp[aU,eu,dY,zi,bE,aW,aD,hr,bd,aQ]
 |cons x q=>
  have h1:aB ⟨bx,pre++dY k (x::q),mp⟩ pre.length q.length=some ⟨q.length,k,.inl (x::q)⟩:=by simp[aB,dY]
  have h2:(⟨q.length,k,.inl (x::q)⟩:aK).size=q.length+1:=rfl
  have h3:((x::q).drop 0).take (q.length+1)=x::q:=by simp
  simp only[List.length_cons]at hm
  simp[aU,eu,zi,bE,aW,aD,hr,h1,h2,bd,aI,aQ]
  omega
theorem jr (bx:List (Nat×List V)) (mp:List (List (PV×PV))) (pre:List aK) (k:Nat) (rows:List (List PV)) (r:List PV):
  (zi pre.length k rows r).apply ⟨bx,pre++dY k rows,mp⟩=⟨bx,pre++dY k (rows++[r]),mp⟩:=by
 cases rows with
 |nil=>simp[zi,Tn.apply,dY]
 |cons x q=>simp[zi,Tn.apply,dY]
@[go_sem] theorem wk (bx:List (Nat×List V)) (mp:List (List (PV×PV))) (k:Nat) (rows:List (List PV)) (r:List PV) (hr:r.length=k) (hm:rows.length+1≤2147483648):
  aU ⟨bx,dY k rows,mp⟩ k (eu 0 rows) (.tl [r])=some (eu 0 (rows++[r]),zi 0 k rows r):=grow bx mp [] k rows r hr hm
@[go_sem] theorem Lh (bx:List (Nat×List V)) (mp:List (List (PV×PV))) (a:aK) (k:Nat) (rows:List (List PV)) (r:List PV) (hr:r.length=k) (hm:rows.length+1≤2147483648):
  aU ⟨bx,a::dY k rows,mp⟩ k (eu 1 rows) (.tl [r])=some (eu 1 (rows++[r]),zi 1 k rows r):=grow bx mp [a] k rows r hr hm
@[go_sem] theorem Li (bx:List (Nat×List V)) (mp:List (List (PV×PV))) (a b:aK) (k:Nat) (rows:List (List PV)) (r:List PV) (hr:r.length=k) (hm:rows.length+1≤2147483648):
  aU ⟨bx,a::b::dY k rows,mp⟩ k (eu 2 rows) (.tl [r])=some (eu 2 (rows++[r]),zi 2 k rows r):=grow bx mp [a,b] k rows r hr hm
@[go_sem] theorem GQ (bx:List (Nat×List V)) (mp:List (List (PV×PV))) (k:Nat) (rows:List (List PV)) (r:List PV):
  (zi 0 k rows r).apply ⟨bx,dY k rows,mp⟩=⟨bx,dY k (rows++[r]),mp⟩:=jr bx mp [] k rows r
@[go_sem] theorem GR (bx:List (Nat×List V)) (mp:List (List (PV×PV))) (a:aK) (k:Nat) (rows:List (List PV)) (r:List PV):
  (zi 1 k rows r).apply ⟨bx,a::dY k rows,mp⟩=⟨bx,a::dY k (rows++[r]),mp⟩:=jr bx mp [a] k rows r
@[go_sem] theorem GS (bx:List (Nat×List V)) (mp:List (List (PV×PV))) (a b:aK) (k:Nat) (rows:List (List PV)) (r:List PV):
  (zi 2 k rows r).apply ⟨bx,a::b::dY k rows,mp⟩=⟨bx,a::b::dY k (rows++[r]),mp⟩:=jr bx mp [a,b] k rows r
@[go_sem] theorem MI (h:af) (n:Nat) (rows:List (List PV)):gu h 0 (eu n rows)=some (rows.length,{}):=by cases rows<;>rfl
@[go_sem] theorem Lj (n:Nat) (rows:List (List PV)):V.cells (eu n rows)=[eu n rows]:=by cases rows<;>rfl
@[go_sem] theorem MJ (n:Nat) (rows:List (List PV)):V.calm (eu n rows)=true:=by cases rows<;>rfl
@[go_sem] theorem Lk (kb:List Nat) (n:Nat) (rows:List (List PV)):dU kb (eu n rows)=eu n rows:=by cases rows<;>rfl
theorem yd (bx:List (Nat×List V)) (mp:List (List (PV×PV))) (pre post:List aK) (k:Nat) (x:List PV) (q:List (List PV)):aB ⟨bx,pre++(dY k (x::q)++post),mp⟩ pre.length q.length=some ⟨q.length,k,.inl (x::q)⟩:=by simp[aB,dY]
theorem wm (bx:List (Nat×List V)) (mp:List (List (PV×PV))) (pre:List aK) (k d:Nat) (rows:List (List PV)):aX ⟨bx,pre++dY k rows,mp⟩ (d+1) (eu pre.length rows)=some (.ae 0 rows):=by
 cases rows with
 |nil=>rfl
 |cons x q=>
  have:=yd bx mp pre [] k x q
  rw[P7]at this
  simp[eu,hD,this,ej,aI]
@[go_sem] theorem I6 (bx:List (Nat×List V)) (mp:List (List (PV×PV))) (k:Nat) (rows:List (List PV)):aX ⟨bx,dY k rows,mp⟩ 4 (eu 0 rows)=some (.ae 0 rows):=wm bx mp [] k 3 rows
@[go_sem] theorem MK (h:af) (n:Nat) (rows:List (List PV)):bW h false (eu n rows)=aX h 4 (eu n rows):=by cases rows<;>rfl
def ML:List (List PV)→Nat
 |[]=>0
 |_=>1
theorem wo (bx:List (Nat×List V)) (mp:List (List (PV×PV))) (pre:List aK) (k d:Nat) (rows:List (List PV)):aT ⟨bx,pre++dY k rows,mp⟩ (d+1) (eu pre.length rows)=some (.ae (ML rows) rows):=by
 cases rows with
 |nil=>rfl
 |cons x q=>
  have:=yd bx mp pre [] k x q
  rw[P7]at this
  simp[eu,aT,this,aI,ML]
@[go_sem] theorem I7 (bx:List (Nat×List V)) (mp:List (List (PV×PV))) (k:Nat) (rows:List (List PV)):aT ⟨bx,dY k rows,mp⟩ 4 (eu 0 rows)=some (.ae (ML rows) rows):=wo bx mp [] k 3 rows
@[go_sem] theorem I8 (bx:List (Nat×List V)) (mp:List (List (PV×PV))) (a:aK) (k:Nat) (rows:List (List PV)):aT ⟨bx,a::dY k rows,mp⟩ 4 (eu 1 rows)=some (.ae (ML rows) rows):=wo bx mp [a] k 3 rows
@[go_sem] theorem MM (h:af) (n:Nat) (rows:List (List PV)):cE h (eu n rows)=aT h 4 (eu n rows):=by cases rows<;>rfl
theorem nB {i n:Nat} {rows:List (List PV)} (h:rows.length=n+1):eu i rows=.own i n 0 (n+1):=by
 match rows,h with
 |x::q,h=>
  simp at h
  simp[eu,h]
theorem jW {k n:Nat} {rows:List (List PV)} (h:rows.length=n+1):dY k rows=[⟨n,k,.inl rows⟩]:=by
 match rows,h with
 |x::q,h=>
  simp at h
  simp[dY,h]
def ye {α:Type} (i:Int) (len:Nat) (v:α):Option α:=if 0≤i∧i≤len then some v else none
@[go_sem] theorem MN {α:Type} {i:Int} {len:Nat} {v:α} (h0:0≤i) (h1:i≤(len:Int)):ye i len v=some v:=if_pos ⟨h0,h1⟩
@[go_sem] theorem MO (g:bz→V) (h:af) (k id aj off len:Nat) (lo:bz):
  du g h k (.own id aj off len) (some lo) none none=(aB h id aj).bind fun a=>(intOf (g lo)).bind fun i=>if a.k=k then ye i len (.own id aj (off+i.toNat) (len - i.toNat),{ ra:=some id }) else none:=by
 cases ho:aB h id aj with
 |none=>simp[du,ho]
 |some a=>
  cases hi:intOf (g lo)with
  |none=>simp[du,ho,bounds,bound,hi]
  |some i=>by_cases hk:a.k=k<;>by_cases h0:0≤i∧i≤len<;>simp[du,ho,bounds,bound,hi,hk,h0,ye]
@[go_sem] theorem OK (g:bz→V) (h:af) (k id aj off len:Nat) (hi:bz):
  du g h k (.own id aj off len) none (some hi) none=(aB h id aj).bind fun a=>(intOf (g hi)).bind fun i=>if a.k=k then ye i len (.own id aj off i.toNat,{ ra:=some id }) else none:=by
 cases ho:aB h id aj with
 |none=>simp[du,ho]
 |some a=>
  cases hj:intOf (g hi)with
  |none=>simp[du,ho,bounds,bound,hj]
  |some i=>by_cases hk:a.k=k<;>by_cases h0:0≤i∧i≤len<;>simp[du,ho,bounds,bound,hj,hk,h0,ye]
end Go.Pv
namespace Go.Pv
@[go_sem] theorem I9 (g:bz→V) (h:af) (k t:Nat) (rows:List (List PV)) (hi:bz):
  du g h k (.pv (.ae t rows)) none (some hi) none=if aW k (.inl rows)=true then (intOf (g hi)).bind fun i=>ye i rows.length (.pv (.ae t (rows.take i.toNat)),{}) else none:=by
 cases hf:aW k (.inl rows)with
 |false=>simp[du,hf]
 |true=>
  cases hj:intOf (g hi)with
  |none=>simp[du,hf,bounds,bound,hj]
  |some i=>by_cases h0:0≤i∧i≤rows.length<;>simp[du,hf,bounds,bound,hj,h0,ye]
end Go.Pv
namespace Go.Pv
def gN (t u x y:Nat) (v:je):List PV:=[.str v.name,.ae t (v.types.map aF.c),.ae u (bQ v.calls),.ae x (aE v.aE),.ae y (ct v.aN)]
def GU (k:Nat) (rows:List (List PV)):PV:=if rows=[] then .ae 0 [] else .fr k rows
theorem uG {α:Type} {c:α→List PV} {k:Nat} (hc:∀x,(c x).length=k) (l:List α) (hm:l.length≤2147483648):(l=[]∧∀h,cY k [.pv (.ae 0 (l.map c))] h=some (.tl [],{}))∨(l≠[]∧∀h,cY k [.pv (.ae 0 (l.map c))] h=some (.own h.ar.length 0 0 l.length,{ push:=[⟨0,k,.inl (l.map c)⟩],base:=h.ar.length })):=by
 have hf:aW k (.inl (l.map c))=true:=by simp[aW,hc]
 cases l with
 |nil=>exact .inl ⟨rfl,fun h=>by simp[cY,bE,aW]⟩
 |cons x l=>
  refine .inr ⟨by simp,fun h=>?_⟩
  have hl:((x::l).map c).length=(x::l).length:=Pm _
  have h0:¬((x::l).map c).length=0:=by simp
  unfold cY
  simp only[bE]
  rw[if_pos (by omega:0≤1)]
  dsimp only
  rw[if_pos ⟨hf,by unfold aQ; rw[hl]; omega⟩,if_neg h0,hl]
theorem r445 (x:dE) (h1:x.msgs.length≤2147483648) (h2:x.auto.aA.length≤2147483648):res A az 445 [.agg x.c]=some [.agg [.str x.name,GU 3 (msgs x.msgs),.int .i64 x.auto.aw,.int .i64 x.auto.start,GU 4 (x.auto.aA.map Edge.c)]]:=by
 refine aq a445 rfl rfl ?_
 simp only[F445,dE.c]
 try delta sS tT zZ nN gG bB pZ
 have k1:(x.msgs.map et.c).take x.msgs.length=x.msgs.map et.c:=List.take_of_length_le (by simp)
 have k2:(x.auto.aA.map Edge.c).take x.auto.aA.length=x.auto.aA.map Edge.c:=List.take_of_length_le (by simp)
 rcases uG (c:=et.c) (k:=3) (fun _=>rfl) x.msgs h1 with⟨h3,h4⟩|⟨h3,h4⟩<;>rcases uG (c:=Edge.c) (k:=4) (fun _=>rfl) x.auto.aA h2 with⟨h5,h6⟩|⟨h5,h6⟩
 ·simp only[h3,h5,List.map_nil]at h4 h6 ⊢
  simp(disch:=omega)only[go_sem,h4,h6]
  refine Eq.trans (if_pos (by rfl)) ?_
  simp[bW,ax,eK,aX,PV.perm,GU,msgs,h3,h5]
 ·simp only[h3,List.map_nil]at h4 ⊢
  simp(disch:=omega)only[go_sem,h4,h6]
  refine Eq.trans (if_pos (by rfl)) ?_
  simp[bW,ax,eK,aB,aX,PV.perm,GU,msgs,h3,h5,k2]
 ·simp only[h5,List.map_nil]at h6 ⊢
  simp(disch:=omega)only[go_sem,h4,h6]
  refine Eq.trans (if_pos (by rfl)) ?_
  simp[bW,ax,eK,aB,aX,PV.perm,GU,msgs,h3,h5,k1]
 ·simp(disch:=omega)only[go_sem,h4,h6]
  refine Eq.trans (if_pos (by rfl)) ?_
  simp[bW,ax,eK,aB,aX,PV.perm,GU,msgs,h3,h5,k1,k2]
end Go.Pv
namespace Go.Pv
@[go_sem] theorem wq:ints []=[]:=rfl
@[go_sem] theorem hV (l:List Int) (x:Int):ints l++[[.int .i64 x]]=ints (l++[x]):=by simp[ints]
def cM (l:List Edge):List (List PV):=l.map Edge.c
@[go_sem] theorem bM (l:List Edge):(cM l).length=l.length:=by simp[cM]
@[go_sem] theorem Ll:cM []=[]:=rfl
@[go_sem] theorem Lm (l:List Edge) (i:Nat):(cM l)[i]?=l[i]?.map Edge.c:=by simp[cM]
theorem Ap (l:List Edge) (e:Edge):cM l++[e.c]=cM (l++[e]):=by simp[cM]
@[go_sem] theorem NM (bx:List (Nat×List V)) (mp:List (List (PV×PV))) (l:List Int) (x:Int) (hm:l.length+1≤2147483648):
  aU ⟨bx,dY 1 (ints l),mp⟩ 1 (eu 0 (ints l)) (.tl [[.int .i64 x]])=some (eu 0 (ints (l++[x])),zi 0 1 (ints l) [.int .i64 x]):=by
 rw[wk bx mp 1 (ints l) [.int .i64 x] rfl (by rw[aJ]; exact hm),hV]
@[go_sem] theorem NN (bx:List (Nat×List V)) (mp:List (List (PV×PV))) (l:List Edge) (f:Int) (s:Bool) (x t:Int) (hm:l.length+1≤2147483648):
  aU ⟨bx,dY 4 (cM l),mp⟩ 4 (eu 0 (cM l)) (.tl [[.int .i64 f,.bool s,.int .i64 x,.int .i64 t]])=some (eu 0 (cM (l++[⟨f,s,x,t⟩])),zi 0 4 (cM l) (Edge.c ⟨f,s,x,t⟩)):=by
 rw[← Ap]
 exact wk bx mp 4 (cM l) (Edge.c ⟨f,s,x,t⟩) rfl (by rw[bM]; exact hm)
def cJ (l:List Bool):List (List PV):=l.map fun b=>[.bool b]
@[go_sem] theorem uH (l:List Bool):(cJ l).length=l.length:=by simp[cJ]
@[go_sem] theorem Ja (l:List Bool) (i:Nat):(cJ l)[i]?=l[i]?.map fun b=>[.bool b]:=by simp[cJ]
theorem Aq (l:List Bool) (i:Nat) (b:Bool):(cJ l).set i [.bool b]=cJ (l.set i b):=by simp[cJ,List.map_set]
@[go_sem] theorem Fh {id row aj:Nat} {b:Bool} {l:List Bool} (h1:row<l.length):dq id row 0 [.pv (.bool b)] ⟨aj,1,.inl (cJ l)⟩=some { ar:=some (id,⟨aj,1,.inl (cJ (l.set row b))⟩) }:=by
 rw[nu (by rw[uH]; exact h1) rfl (.inr ⟨.bool l[row],by simp[cJ,h1]⟩) rfl,Aq]
@[go_sem] theorem GV (n:Nat) (b:Bool):bY n [.pv (.bool b)]=.inl (cJ (List.replicate n b)):=by
 simp[bY,ax,V.bG,PV.perm,cJ]
end Go.Pv
namespace Go.Pv
def MP (id aj off len:Nat) (x:Int) (a:aK):Option (V×Tn):=
 if off+len≤a.size∧a.k=1∧len+1≤aQ then some (.own id (aj+1) 0 (len+1),{ ar:=some (id,⟨aj+1,1,bd (aI off len a.body) (.inl [[.int .i64 x]])⟩) }) else none
@[go_sem] theorem MQ (h:af) (id aj off len:Nat) (x:Int):aU h 1 (.own id aj off len) (.tl [[.int .i64 x]])=(aB h id aj).bind (MP id aj off len x):=by
 cases ho:aB h id aj with
 |none=>simp[aU,bE,aW,ho]
 |some a=>
  simp only[aU,bE,aW,ho,aD,MP,List.all_cons,List.all_nil,List.length_cons,List.length_nil,Option.bind_some]
  by_cases h1:off+len≤a.size<;>by_cases h2:a.k=1<;>by_cases h3:len+1≤aQ<;>simp[h1,h2,h3]
@[go_sem] theorem NO {id aj len:Nat} {x:Int} {l:List Int} (h1:len=l.length) (h2:l.length+1≤2147483648):MP id aj 0 len x ⟨aj,1,.inl (ints l)⟩=some (.own id (aj+1) 0 (len+1),{ ar:=some (id,⟨aj+1,1,.inl (ints (l++[x]))⟩) }):=by
 subst h1
 unfold MP
 rw[if_pos ⟨by simp[aK.size,ints],rfl,h2⟩]
 have:List.take l.length (List.map (fun x=>[PV.int IntKind.i64 x]) l)=List.map (fun x=>[PV.int IntKind.i64 x]) l:=List.take_of_length_le (by simp)
 simp[bd,aI,ints,this]
@[go_sem] theorem NP (h:af) (x:Int):aU h 1 (.tl []) (.tl [[.int .i64 x]])=some (.own h.ar.length 0 0 1,{ push:=[⟨0,1,.inl (ints [x])⟩],base:=h.ar.length }):=by
 simp[aU,bE,aW,aD,aQ,bd,ints]
end Go.Pv
namespace Go.Pv
variable {A:Nat→Option aa} {Pr:bf}
def cD {σ:Type} (S:Nat→σ→St) (I:Nat→σ→Prop) (k:Nat) (acc:σ) (Q:Ex→St→Prop) (_t:nj (S,I,k,acc,Q):=.mk):Ex→St→Prop
 |.normal,s=>s=S k acc∧I k acc
 |.exit i,s=>Q (.exit i) s
 |.ret,s=>Q .ret s
@[go_sem] theorem GW {σ:Type} (S:Nat→σ→St) (I:Nat→σ→Prop) (k:Nat) (acc:σ) (Q:Ex→St→Prop) (i:Nat) (s:St):cD S I k acc Q .mk (.exit i) s=Q (.exit i) s:=rfl
@[go_sem] theorem Jb {σ:Type} (S:Nat→σ→St) (I:Nat→σ→Prop) (k:Nat) (acc:σ) (Q:Ex→St→Prop) (s:St):cD S I k acc Q .mk .ret s=Q .ret s:=rfl
theorem cD.of {σ:Type} {S:Nat→σ→St} {I:Nat→σ→Prop} {k:Nat} {acc:σ} {Q:Ex→St→Prop} {s:St} (h:s=S k acc) (h2:I k acc):cD S I k acc Q .mk .normal s:=⟨h,h2⟩
def zj (Q:Ex→St→Prop) (_t:nj Q:=.mk):Ex→St→Prop
 |.normal,_=>False
 |.exit i,s=>Q (.exit i) s
 |.ret,s=>Q .ret s
@[go_sem] theorem GX (Q:Ex→St→Prop) (i:Nat) (s:St):zj Q .mk (.exit i) s=Q (.exit i) s:=rfl
@[go_sem] theorem Jc (Q:Ex→St→Prop) (s:St):zj Q .mk .ret s=Q .ret s:=rfl
theorem W.fold {σ α:Type} {a:AC} {s:St} {Q:Ex→St→Prop} (l:List α) (f:σ→α→σ) (x0:σ) (S:Nat→σ→St) (I:Nat→σ→Prop) (hs:s=S 0 x0) (h0:I 0 x0)
  (hr:∀k x acc,l[k]?=some x→k<l.length→acc=(l.take k).foldl f x0→I k acc→W A Pr a (S k acc) (cD S I (k+1) (f acc x) Q))
  (he:∀acc,acc=l.foldl f x0→I l.length acc→W A Pr a (S l.length acc) (zj Q)):W A Pr (.loop a) s Q:=by
 refine W.dD l.length (fun k=>S k ((l.take k).foldl f x0)) (fun k=>I k ((l.take k).foldl f x0)) (by simpa using hs) (by simpa using h0) fun k hk hi=>?_
 rcases Po k l.length with h|h
 ·obtain⟨x,hx⟩:∃x,l[k]?=some x:=⟨l[k],by simp[h]⟩
  obtain⟨ex,s',h1,h2⟩:=hr k x _ hx h rfl hi
  have ht:(l.take (k+1)).foldl f x0=f ((l.take k).foldl f x0) x:=by rw[List.take_add_one,hx]; simp[List.foldl_append]
  refine⟨ex,s',h1,?_⟩
  cases ex with
  |normal=>exact .of h (by rw[ht]; exact h2.1) (by rw[ht]; exact h2.2)
  |exit i=>exact h2
  |ret=>exact h2
 ·obtain rfl:k=l.length:=by omega
  rw[PU]at hi ⊢
  obtain⟨ex,s',h1,h2⟩:=he _ rfl hi
  refine⟨ex,s',h1,?_⟩
  cases ex with
  |normal=>exact h2.elim
  |exit i=>exact h2
  |ret=>exact h2
def aR (S:Nat→St) (k:Nat) (p:Bool) (Q:Ex→St→Prop) (_t:nj (S,k,p,Q):=.mk):Ex→St→Prop
 |.normal,s=>p=false∧s=S k
 |.exit i,s=>Q (.exit i) s
 |.ret,s=>Q .ret s
@[go_sem] theorem GY (S:Nat→St) (k:Nat) (p:Bool) (Q:Ex→St→Prop) (i:Nat) (s:St):aR S k p Q .mk (.exit i) s=Q (.exit i) s:=rfl
@[go_sem] theorem Jd (S:Nat→St) (k:Nat) (p:Bool) (Q:Ex→St→Prop) (s:St):aR S k p Q .mk .ret s=Q .ret s:=rfl
theorem aR.of {S:Nat→St} {k:Nat} {p:Bool} {Q:Ex→St→Prop} {s:St} (h:p=false) (h2:s=S k):aR S k p Q .mk .normal s:=⟨h,h2⟩
structure Found {α:Type} (l:List α) (p:α→Bool) (k:Nat) (x:α):Prop where
 any:l.any p=true
 all:l.all (fun y=>!p y)=false
 find:l.find? p=some x
 idx:l.findIdx? p=some k
structure jX {α:Type} (l:List α) (p:α→Bool):Prop where
 any:l.any p=false
 all:l.all (fun y=>!p y)=true
 find:l.find? p=none
 idx:l.findIdx? p=none
theorem Ck {α:Type} {l:List α} {p:α→Bool} {k:Nat} {x:α} (hb:∀j,j<k→∀y,l[j]?=some y→p y=false) (hx:l[k]?=some x) (hp:p x=true):Found l p k x:=by
 obtain⟨hk,rfl⟩:=Pg.1 hx
 have hi:l.findIdx? p=some k:=by
  rw[PT]
  exact⟨hk,hp,fun j hj=>by simpa using hb j hj _ (by rw[List.getElem?_eq_getElem (by omega)])⟩
 refine⟨Qs.2 ⟨_,P4 hk,hp⟩,?_,?_,hi⟩
 ·rw[List.all_eq_false]
  exact⟨_,List.getElem_mem hk,by simp[hp]⟩
 ·rw[List.find?_eq_some_iff_getElem]
  exact⟨hp,k,hk,rfl,fun j hj=>by simpa using hb j hj _ (by rw[List.getElem?_eq_getElem (by omega)])⟩
theorem yf {α:Type} {l:List α} {p:α→Bool} (hb:∀j,j<l.length→∀y,l[j]?=some y→p y=false):jX l p:=by
 have hm:∀x∈l,p x=false:=fun x hx=>by
  obtain⟨j,hj,rfl⟩:=Qq hx
  exact hb j hj _ (by rw[Pj])
 exact⟨by rw[List.any_eq_false]; intro x hx; simp[hm x hx],by rw[List.all_eq_true]; intro x hx; simp[hm x hx],by rw[List.find?_eq_none]; intro x hx; simp[hm x hx],by rw[List.findIdx?_eq_none_iff]; exact hm⟩
theorem W.find {α:Type} {a:AC} {s:St} {Q:Ex→St→Prop} (l:List α) (p:α→Bool) (S:Nat→St) (hs:s=S 0)
  (hr:∀k x,l[k]?=some x→k<l.length→(p x=true→Found l p k x)→W A Pr a (S k) (aR S (k+1) (p x) Q))
  (he:jX l p→W A Pr a (S l.length) (zj Q)):W A Pr (.loop a) s Q:=by
 refine W.dD l.length S (fun k=>∀j,j<k→∀y,l[j]?=some y→p y=false) hs (fun j hj=>absurd hj (Qu _)) fun k hk hi=>?_
 rcases Po k l.length with h|h
 ·obtain⟨x,hx⟩:∃x,l[k]?=some x:=⟨l[k],by simp[h]⟩
  obtain⟨ex,s',h1,h2⟩:=hr k x hx h (fun hp=>Ck hi hx hp)
  refine⟨ex,s',h1,?_⟩
  cases ex with
  |normal=>
   refine .of h h2.2 fun j hj y hy=>?_
   rcases Po j k with g|g
   ·exact hi j g y hy
   ·obtain rfl:j=k:=by omega
    rw[hx]at hy
    cases hy
    exact h2.1
  |exit i=>exact h2
  |ret=>exact h2
 ·obtain rfl:k=l.length:=by omega
  obtain⟨ex,s',h1,h2⟩:=he (yf hi)
  refine⟨ex,s',h1,?_⟩
  cases ex with
  |normal=>exact h2.elim
  |exit i=>exact h2
  |ret=>exact h2
def yg (A:Nat→Option aa) (Pr:bf) (a:AC) (Q:Ex→St→Prop) (_t:nj (a,Q):=.mk):Ex→St→Prop
 |.normal,s=>W A Pr (.loop a) s Q
 |.exit i,s=>Q (.exit i) s
 |.ret,s=>Q .ret s
@[go_sem] theorem Ds (a:AC) (Q:Ex→St→Prop) (s:St):yg A Pr a Q .mk .normal s=W A Pr (.loop a) s Q:=rfl
@[go_sem] theorem Fi (a:AC) (Q:Ex→St→Prop) (i:Nat) (s:St):yg A Pr a Q .mk (.exit i) s=Q (.exit i) s:=rfl
@[go_sem] theorem GZ (a:AC) (Q:Ex→St→Prop) (s:St):yg A Pr a Q .mk .ret s=Q .ret s:=rfl
end Go.Pv
namespace Go.Pv
def ml (n b:Nat) (rows:List (List PV)):V:=if rows.length≤b then .tl rows else .own n (rows.length - b - 1) 0 rows.length
def tw (k b:Nat) (rows:List (List PV)):List aK:=if rows.length≤b then [] else [⟨rows.length - b - 1,k,.inl rows⟩]
theorem gQ {n b:Nat} {rows:List (List PV)} (h:rows.length≤b):ml n b rows=.tl rows:=if_pos h
theorem gR {k b:Nat} {rows:List (List PV)} (h:rows.length≤b):tw k b rows=[]:=if_pos h
theorem ga {n b m:Nat} {rows:List (List PV)} (h:rows.length=b+m+1):ml n b rows=.own n m 0 (b+m+1):=by
 unfold ml
 rw[if_neg (by omega),h,show b+m+1 - b - 1=m by omega]
theorem gb {k b m:Nat} {rows:List (List PV)} (h:rows.length=b+m+1):tw k b rows=[⟨m,k,.inl rows⟩]:=by
 unfold tw
 rw[if_neg (by omega),h,show b+m+1 - b - 1=m by omega]
theorem kS {b:Nat} {rows:List (List PV)}:rows.length≤b∨∃m,rows.length=b+m+1:=by
 rcases Po b rows.length with h|h
 ·exact .inr ⟨rows.length - b - 1,by omega⟩
 ·exact .inl h
theorem wt {n b:Nat} {rows:List (List PV)} {r:List PV} (h:b≤rows.length):ml n b (rows++[r])=.own n (rows.length - b) 0 (rows.length+1):=by
 rw[ga (m:=rows.length - b) (by simp; omega),show b+(rows.length - b)+1=rows.length+1 by omega]
theorem wu {k b:Nat} {rows:List (List PV)} {r:List PV} (h:b≤rows.length):tw k b (rows++[r])=[⟨rows.length - b,k,.inl (rows++[r])⟩]:=gb (by simp; omega)
def Je (id aj off len k:Nat) (r:List PV) (a:aK):Option (V×Tn):=
 if off+len≤a.size∧a.k=k∧len+1≤aQ then some (.own id (aj+1) 0 (len+1),{ ar:=some (id,⟨aj+1,k,bd (aI off len a.body) (.inl [r])⟩) }) else none
theorem Cl (h:af) (id aj off len k:Nat) (r:List PV) (hr:r.length=k):aU h k (.own id aj off len) (.tl [r])=(aB h id aj).bind (Je id aj off len k r):=by
 cases ho:aB h id aj with
 |none=>simp[aU,bE,aW,ho]
 |some a=>
  simp only[aU,bE,aW,ho,aD,Je,List.all_cons,List.all_nil,List.length_cons,List.length_nil,Option.bind_some,hr,beq_self_eq_true,Bool.and_self,if_true]
  by_cases h1:off+len≤a.size<;>by_cases h2:a.k=k<;>by_cases h3:len+1≤aQ<;>simp[h1,h2,h3]
theorem G0 {id aj len k:Nat} {r:List PV} {l:List (List PV)} (h1:len=l.length) (h2:l.length+1≤2147483648):Je id aj 0 len k r ⟨aj,k,.inl l⟩=some (.own id (aj+1) 0 (len+1),{ ar:=some (id,⟨aj+1,k,.inl (l++[r])⟩) }):=by
 subst h1
 unfold Je
 rw[if_pos ⟨by simp[aK.size],rfl,h2⟩]
 simp[bd,aI]
theorem zk (h:af) (k:Nat) (rows:List (List PV)) (r:List PV) (hr:r.length=k) (hk:∀x∈rows,x.length=k) (hm:rows.length+1≤2147483648):aU h k (.tl rows) (.tl [r])=some (.own h.ar.length 0 0 (rows.length+1),{ push:=[⟨0,k,.inl (rows++[r])⟩],base:=h.ar.length }):=by
 have:(rows.all fun x=>x.length==k)=true:=by simpa using hk
 simp[aU,bE,aW,aD,aQ,bd,hr,this,hm]
@[go_sem] theorem MR (h:af) (l:List Int) (x:Int) (hm:l.length+1≤2147483648):aU h 1 (.tl (ints l)) (.tl [[.int .i64 x]])=some (.own h.ar.length 0 0 (l.length+1),{ push:=[⟨0,1,.inl (ints (l++[x]))⟩],base:=h.ar.length }):=by
 rw[zk h 1 (ints l) [.int .i64 x] rfl (by simp[ints]) (by rw[aJ]; exact hm),aJ,hV]
@[go_sem] theorem MS (h:af) (n b:Nat) (rows:List (List PV)):gu h 0 (ml n b rows)=some (rows.length,{}):=by unfold ml; split<;>rfl
@[go_sem] theorem Ln (kb:List Nat) (n b:Nat) (rows:List (List PV)):dU kb (ml n b rows)=ml n b rows:=by unfold ml; split<;>rfl
@[go_sem] theorem MT (h:af) (n b:Nat) (rows:List (List PV)):bW h false (ml n b rows)=aX h 4 (ml n b rows):=by unfold ml; split<;>rfl
@[go_sem] theorem MU (h:af) (n b:Nat) (rows:List (List PV)):cE h (ml n b rows)=aT h 4 (ml n b rows):=by unfold ml; split<;>rfl
def NQ (b:Nat) (rows:List (List PV)):Nat:=if rows.length≤b then 0 else 1
theorem wv (bx:List (Nat×List V)) (mp:List (List (PV×PV))) (pre:List aK) (k b d:Nat) (rows:List (List PV)):aX ⟨bx,pre++tw k b rows,mp⟩ (d+1) (ml pre.length b rows)=some (.ae 0 rows):=by
 unfold ml tw
 split
 ·rfl
 ·simp[hD,aB,ej,aI]
theorem Cm (bx:List (Nat×List V)) (mp:List (List (PV×PV))) (pre:List aK) (k b d:Nat) (rows:List (List PV)):aT ⟨bx,pre++tw k b rows,mp⟩ (d+1) (ml pre.length b rows)=some (.ae (NQ b rows) rows):=by
 unfold ml tw NQ
 split
 ·rfl
 ·simp[aT,aB,aI]
@[go_sem] theorem Jf (bx:List (Nat×List V)) (mp:List (List (PV×PV))) (k b:Nat) (rows:List (List PV)):aX ⟨bx,tw k b rows,mp⟩ 4 (ml 0 b rows)=some (.ae 0 rows):=wv bx mp [] k b 3 rows
@[go_sem] theorem Jg (bx:List (Nat×List V)) (mp:List (List (PV×PV))) (a:aK) (k b:Nat) (rows:List (List PV)):aX ⟨bx,a::tw k b rows,mp⟩ 4 (ml 1 b rows)=some (.ae 0 rows):=wv bx mp [a] k b 3 rows
@[go_sem] theorem Jh (bx:List (Nat×List V)) (mp:List (List (PV×PV))) (k b:Nat) (rows:List (List PV)):aT ⟨bx,tw k b rows,mp⟩ 4 (ml 0 b rows)=some (.ae (NQ b rows) rows):=Cm bx mp [] k b 3 rows
attribute [go_sem] Int.lt_irrefl
end Go.Pv
namespace Go.Pv
@[go_sem] theorem Lo (r:Raw):r.c.length=2:=rfl
def wr (x:Int):Int:=IntKind.wrap .i64 x
def Cn (acc:Int) (r:Raw):Int:=wr (wr (acc+1)+r.data.size)
def Bp:Nat→List PV→Int
 |0,_=>0
 |n+1,cs=>match cs with
  |[_,_,_,.str s,_,.ae _ keys,.ae _ items,.ae _ rest]=>rest.foldl (fun acc r=>match r with|[_,.str d]=>wr (wr (acc+1)+d.size)|_=>acc) (items.foldl (fun acc r=>wr (acc+Bp n r)) (keys.foldl (fun acc r=>wr (acc+Bp n r)) (wr (1+s.size))))
  |_=>0
theorem Eh (n:Nat) (v:dC):Bp (n+1) v.c=v.rest.foldl Cn (v.items.foldl (fun acc r=>wr (acc+Bp n r)) (v.keys.foldl (fun acc r=>wr (acc+Bp n r)) (wr (1+v.str.size)))):=by
 unfold dC.c
 simp only[Bp]
 rw[List.foldl_map]
 rfl
theorem jq.len:∀{n:Nat} {cs:List PV},jq n cs→cs.length=8
 |0,_,h=>h.elim
 |_+1,_,h=>by
  obtain⟨v,rfl,_⟩:=h
  rfl
theorem jq.val {n:Nat} {cs:List PV} (h:jq n cs):∃w:dC,cs=w.c:=by
 cases n with
 |zero=>exact h.elim
 |succ n=>
  obtain⟨v,hv,_⟩:=h
  exact⟨v,hv⟩
set_option maxHeartbeats 2000000 in
theorem r282:∀(n:Nat) (cs:List PV),jq n cs→res A az 282 [.agg cs]=some [.int .i64 (Bp n cs)]
 |0,cs,h=>h.elim
 |n+1,cs,h=>by
  obtain⟨v,rfl,⟨h1,h2,h3,h4⟩,⟨h5,h6,h7⟩,h8,h9,h10⟩:=h
  have ih:=r282 n
  rw[Eh]
  unfold cu at h5 h6 h7
  unfold bh at h3
  obtain⟨kind,bool,int,str,id,keys,items,rest⟩:=v
  unfold dC.c
  dsimp only at *
  refine aq a282 rfl rfl ?_
  simp only[F282]; try delta sS tT zZ nN gG bB pZ
  simp(disch:=omega)only[go_sem]
  refine W.fold keys (fun acc r=>wr (acc+Bp n r)) (wr (1+str.size)) (fun k acc=>⟨[(1,.ptr 1 0),(3,.pv (.int .i64 acc)),(4,.pv (.int .i64 k))],⟨[(1,[.pv (.int .i64 kind),.pv (.bool bool),.pv (.int .i64 int),.pv (.str str),.pv (.int .i64 id),.pv (.ae 0 keys),.pv (.ae 0 items),.pv (.ae 0 (rest.map Raw.c))])],[],[]⟩⟩) (fun _ _=>True) rfl trivial (fun k r acc hr hk _ _=>?_) (fun acc hacc _=>?_)
  ·have hv:=h8 r (Ph hr)
   obtain⟨w,rfl⟩:=hv.val
   have hi:=ih _ hv
   generalize Bp n w.c=z at hi ⊢
   unfold dC.c at hi hr
   simp(disch:=omega)only[go_sem]
   refine Br.aG (fun h=>?_) (fun h=>(h (by omega)).elim)
   simp(disch:=omega)only[go_sem,hr,hi]
   exact cD.of rfl trivial
  ·simp(disch:=omega)only[go_sem]
   refine W.fold items (fun acc r=>wr (acc+Bp n r)) acc (fun k acc=>⟨[(1,.ptr 1 0),(3,.pv (.int .i64 acc)),(5,.pv (.int .i64 k))],⟨[(1,[.pv (.int .i64 kind),.pv (.bool bool),.pv (.int .i64 int),.pv (.str str),.pv (.int .i64 id),.pv (.ae 0 keys),.pv (.ae 0 items),.pv (.ae 0 (rest.map Raw.c))])],[],[]⟩⟩) (fun _ _=>True) rfl trivial (fun k r acc hr hk _ _=>?_) (fun acc2 hacc2 _=>?_)
   ·have hv:=h9 r (Ph hr)
    obtain⟨w,rfl⟩:=hv.val
    have hi:=ih _ hv
    generalize Bp n w.c=z at hi ⊢
    unfold dC.c at hi hr
    simp(disch:=omega)only[go_sem]
    refine Br.aG (fun h=>?_) (fun h=>(h (by omega)).elim)
    simp(disch:=omega)only[go_sem,hr,hi]
    exact cD.of rfl trivial
   ·simp(disch:=omega)only[go_sem]
    refine W.fold rest Cn acc2 (fun k acc=>⟨[(1,.ptr 1 0),(3,.pv (.int .i64 acc)),(6,.pv (.int .i64 k))],⟨[(1,[.pv (.int .i64 kind),.pv (.bool bool),.pv (.int .i64 int),.pv (.str str),.pv (.int .i64 id),.pv (.ae 0 keys),.pv (.ae 0 items),.pv (.ae 0 (rest.map Raw.c))])],[],[]⟩⟩) (fun _ _=>True) rfl trivial (fun k r acc hr hk _ _=>?_) (fun acc3 hacc3 _=>?_)
    ·have hrk:=(h10 r (Ph hr)).2
     unfold bh at hrk
     simp(disch:=omega)only[go_sem]
     refine Br.aG (fun h=>?_) (fun h=>(h (by omega)).elim)
     simp(disch:=omega)only[go_sem,hr,Raw.c]
     exact cD.of rfl trivial
    ·simp(disch:=omega)only[go_sem]
     rw[hacc3,hacc2,hacc]
end Go.Pv
namespace Go.Pv
theorem r66 {Pr:bf} (x:Int):res A Pr 66 [.int .i64 x]=some [.bool false]:=by
 refine aq a66 rfl rfl ?_
 simp only[F66]; try delta sS tT zZ nN gG bB pZ
 simp(disch:=omega)only[go_sem]
theorem r60 {Pr:bf} (hp:Pr 66=none) (x y:Int):res A Pr 60 [.int .i64 x,.int .i64 y]=some [.int .i64 (gL x y)]:=by
 refine aq a60 rfl rfl ?_
 simp only[F60]; try delta sS tT zZ nN gG bB pZ
 simp(disch:=omega)only[go_sem,wc (by kernel_rfl) hp NL,r66]
 unfold gL
 refine Br.aG (fun h=>?_) (fun h=>?_)<;>simp(disch:=omega)only[go_sem,h]
 refine Br.aG (fun h2=>?_) (fun h2=>?_)<;>simp(disch:=omega)only[go_sem,h,h2]
theorem r58 {Pr:bf} (a:Edge):res A Pr 58 [.agg a.c]=some [.int .i64 a.side]:=by
 refine aq a58 rfl rfl ?_
 simp only[F58]; try delta sS tT zZ nN gG bB pZ
 simp(disch:=omega)only[go_sem]
 unfold Edge.side
 refine Br.of (fun h=>?_) (fun h=>?_)<;>simp(disch:=omega)only[go_sem,h]
def Co:List Int→Int
 |[]=>0
 |x::r=>if x≠0 then x else Co r
theorem qd {α:Type} {l:List α} {k:Nat} {x:α} (h:l[k]?=some x):l.drop k=x::l.drop (k+1):=by
 obtain⟨h1,h2⟩:=Pg.1 h
 rw[List.drop_eq_getElem_cons h1,h2]
theorem get_at {α:Type} {l:List α} {k:Nat} (h:k<l.length):∃x,l[k]?=some x:=⟨_,Pj h⟩
theorem nC {α:Type} {l:List α} {k:Nat} (h:¬(k:Int)<l.length):l.drop k=[]:=List.drop_eq_nil_of_le (by omega)
theorem r59 {Pr:bf} (t:Nat) (l:List Int) (hl:l.length<1000):res A Pr 59 [.ae t (ints l)]=some [.int .i64 (Co l)]:=by
 refine aq a59 rfl rfl ?_
 simp only[F59]; try delta sS tT zZ nN gG bB pZ
 simp(disch:=omega)only[go_sem]
 refine W.dD l.length (fun k=>⟨[(3,.pv (.int .i64 0)),(6,.pv (.ae t (ints l))),(7,.pv (.int .i64 l.length)),(8,.pv (.int .i64 k))],⟨[],[],[]⟩⟩) (fun k=>Co l=Co (l.drop k)) rfl rfl fun k hk hi=>?_
 simp(disch:=omega)only[go_sem]
 refine Br.aG (fun h=>?_) (fun h=>?_)
 ·obtain⟨x,hx⟩:=get_at (l:=l) (k:=k) (by omega)
  rw[qd hx,Co]at hi
  simp(disch:=omega)only[go_sem,hx]
  refine Br.aG (fun h1=>?_) (fun h1=>?_)<;>simp(disch:=omega)only[go_sem]
  ·exact .of (by omega) rfl (by simpa [h1]using hi)
  ·simp[hi,h1]
 ·simp(disch:=omega)only[go_sem]
  simp[hi,nC h,Co]
theorem r47 {Pr:bf} (h66:Pr 66=none) (h60:Pr 60=none) (h59:Pr 59=none) (h58:Pr 58=none) (a b:Edge):res A Pr 47 [.agg a.c,.agg b.c]=some [.int .i64 (Edge.cmp a b)]:=by
 refine aq a47 rfl rfl ?_
 simp only[F47]; try delta sS tT zZ nN gG bB pZ
 have e59:=fun x y z=>r59 (Pr:=Pr) 0 [x,y,z] (by simp)
 simp only[ints,List.map_cons,List.map_nil]at e59
 have e58:=fun x=>r58 (Pr:=Pr) x
 simp only[Edge.c]at e58
 simp(disch:=omega)only[go_sem,wc (by kernel_rfl) h60 NK,wc (by kernel_rfl) h59 NJ,wc (by kernel_rfl) h58 NI,r60 h66,e58 a,e58 b,e59]
 by_cases h:gL a.label b.label=0<;>simp[Co,Edge.cmp,h]
end Go.Pv
namespace Go.Pv
theorem js (x:Int):IntKind.wrap .u64 x=x%18446744073709551616:=by
 show (if (false&&decide (x%(2^64:Int)≥(2^63:Int)))=true then x%(2^64:Int) - (2^64:Int) else x%(2^64:Int))=_
 simp only[Bool.false_and,Bool.false_eq_true,if_false,Int.reducePow]
theorem gn {x:Int} (h1:0≤x) (h2:x<18446744073709551616):IntKind.wrap .u64 x=x:=by
 rw[js]
 omega
def zz (n:Int):Int:=if 0≤n then 2*n else -2*n - 1
theorem Lp {a b:Int}:zz a=zz b↔a=b:=by
 unfold zz
 split<;>split<;>omega
theorem r515 (n:Int) (h:fZ n):res A az 515 [.int .i64 n]=some [.int .u64 (zz n)]:=by
 refine aq a515 rfl rfl ?_
 simp only[F515]; try delta sS tT zZ nN gG bB pZ
 obtain⟨h1,h2⟩:=h
 unfold zz
 simp(disch:=omega)only[go_sem]
 refine Br.aG (fun c=>?_) (fun c=>?_)
 ·have e1:=gn (x:=n) (by omega) (by omega)
  have e2:=gn (x:=2*n) (by omega) (by omega)
  simp(disch:=omega)only[go_sem,e1,e2]
  rw[if_pos c]
 ·have e1:=gn (x:=0 - (n+1)) (by omega) (by omega)
  have e2:=gn (x:=2*(0 - (n+1))) (by omega) (by omega)
  have e3:=gn (x:=2*(0 - (n+1))+1) (by omega) (by omega)
  simp(disch:=omega)only[go_sem,e1,e2,e3]
  rw[if_neg c]
  congr 3
  omega
theorem Ei (a b:Int):ea .xor (.pv (.int .u64 a)) (.pv (.int .u64 b))=some (.pv (.int .u64 (IntKind.wrap .u64 (BitVec.ofInt 64 a^^^BitVec.ofInt 64 b).toNat))):=rfl
theorem Ej (a:Int):ea .shl (.pv (.int .u64 a)) (.pv (.int .u64 1))=some (.pv (.int .u64 (IntKind.wrap .u64 (a*2)))):=rfl
theorem Ek (a:Int):ea .shr (.pv (.int .i64 a)) (.pv (.int .u64 63))=some (.pv (.int .i64 (a.fdiv 9223372036854775808))):=rfl
theorem r520 (n:Int) (h:fZ n):res A az 520 [.int .i64 n]=some [.int .u64 (zz n)]:=by
 refine aq a520 rfl rfl ?_
 simp only[F520]; try delta sS tT zZ nN gG bB pZ
 obtain⟨h1,h2⟩:=h
 simp(disch:=omega)only[go_sem,Ei,Ej,Ek]
 congr 3
 rw[js,js,js,js]
 unfold zz
 by_cases c:0≤n
 ·have f1:n.fdiv 9223372036854775808=0:=by
   rw[Int.fdiv_eq_ediv_of_nonneg _ (by decide)]
   omega
  have f2:(n%18446744073709551616*2)%18446744073709551616=2*n:=by omega
  rw[if_pos c,f1,f2]
  have f3:BitVec.ofInt 64 (0%18446744073709551616)=0#64:=by decide
  rw[f3,BitVec.xor_zero]
  simp only[BitVec.toNat_ofInt]
  omega
 ·have f1:n.fdiv 9223372036854775808= -1:=by
   rw[Int.fdiv_eq_ediv_of_nonneg _ (by decide)]
   omega
  have f2:(n%18446744073709551616*2)%18446744073709551616=2*n+18446744073709551616:=by omega
  rw[if_neg c,f1,f2]
  have f3:BitVec.ofInt 64 (-1%18446744073709551616)=BitVec.allOnes 64:=by decide
  rw[f3,BitVec.xor_allOnes,BitVec.toNat_not]
  simp only[BitVec.toNat_ofInt]
  omega
theorem r523 (n:Int):res A az 523 [.int .u64 n]=some [.bool false]:=by
 refine aq a523 rfl rfl ?_
 simp only[F523]; try delta sS tT zZ nN gG bB pZ
 simp(disch:=omega)only[go_sem]
theorem r524 (s:ByteArray):res A az 524 [.str s]=some [.bool false]:=by
 refine aq a524 rfl rfl ?_
 simp only[F524]; try delta sS tT zZ nN gG bB pZ
 simp(disch:=omega)only[go_sem]
def strLt (a b:ByteArray):Bool:=Go.Op.bytesLess a.toList b.toList
@[go_sem] theorem Ji (a b:ByteArray):ea .lss (.pv (.str a)) (.pv (.str b))=some (.pv (.bool (strLt a b))):=rfl
@[go_sem] theorem Jj (a b:ByteArray):ea .gtr (.pv (.str a)) (.pv (.str b))=some (.pv (.bool (!(strLt a b||decide (a=b))))):=by simp only[ea,qk,Option.map_some,ns]; rfl
theorem wx:∀l:List UInt8,Go.Op.bytesLess l l=false
 |[]=>rfl
 |a::l=>by simp[Go.Op.bytesLess,wx l]
theorem Ar (a:ByteArray):strLt a a=false:=wx _
def wy (a b:ByteArray):Int:=if strLt a b=true then -1 else if a=b then 0 else 1
theorem r519 (a b:Int):res A az 519 [.int .u64 a,.int .u64 b]=some [.int .i64 (gL a b)]:=by
 refine aq a519 rfl rfl ?_
 simp only[F519]; try delta sS tT zZ nN gG bB pZ
 have h1:=r523 a
 have h2:=r523 b
 unfold gL
 simp(disch:=omega)only[go_sem,h1,h2]
 refine Br.aG (fun c=>?_) (fun c=>?_)
 ·simp(disch:=omega)only[go_sem]
  rw[if_pos c]
 ·simp(disch:=omega)only[go_sem]
  refine Br.aG (fun d=>?_) (fun d=>?_)
  ·simp(disch:=omega)only[go_sem]
   rw[if_neg c,if_pos d]
  ·simp(disch:=omega)only[go_sem]
   rw[if_neg c,if_neg d]
theorem r521 (a b:ByteArray):res A az 521 [.str a,.str b]=some [.int .i64 (wy a b)]:=by
 refine aq a521 rfl rfl ?_
 simp only[F521]; try delta sS tT zZ nN gG bB pZ
 have h1:=r524 a
 have h2:=r524 b
 unfold wy
 cases hs:strLt a b with
 |true=>simp(disch:=omega)only[go_sem,h1,h2,hs,if_true]
 |false=>
  by_cases he:a=b
  ·have e:decide (a=b)=true:=decide_eq_true he
   simp(disch:=omega)only[go_sem,h1,h2,hs,e,Bool.or_true,Bool.not_true]
   rw[if_pos he]
  ·have e:decide (a=b)=false:=decide_eq_false he
   simp(disch:=omega)only[go_sem,h1,h2,hs,e,Bool.or_false,Bool.not_false]
   rw[if_neg he]
def yh (l e:Bool):Int:=if e=true then 0 else if l=true then -1 else 1
theorem r514 (l e:Bool):res A az 514 [.bool l,.bool e]=some [.int .i64 (yh l e)]:=by
 refine aq a514 rfl rfl ?_
 simp only[F514]; try delta sS tT zZ nN gG bB pZ
 cases e<;>cases l<;>simp(disch:=omega)only[go_sem]<;>rfl
def kT (a b:dC):Int:=if a.kind≠b.kind then 0 else
 if a.kind=1 then (if a.bool=b.bool then 0 else if b.bool=true then -1 else 1)
 else if a.kind=2 then gL (zz a.int) (zz b.int)
 else if a.kind=3 then Co [gL a.str.size b.str.size,wy a.str b.str]
 else if a.kind=4 then gL a.id b.id else 0
set_option maxHeartbeats 2000000 in
theorem r513 (a b:dC) (ha:fZ a.int) (hb:fZ b.int) (has:bh a.str) (hbs:bh b.str):res A az 513 [.agg a.c,.agg b.c]=some [.int .i64 (kT a b)]:=by
 refine aq a513 rfl rfl ?_
 simp only[F513,dC.c]
 try delta sS tT zZ nN gG bB pZ
 unfold bh at has hbs
 have h1:=r520 a.int ha
 have h2:=r520 b.int hb
 have h3:=r519 (zz a.int) (zz b.int)
 have h4:=r60 (Pr:=az) (by kernel_rfl) (a.str.size:Int) (b.str.size:Int)
 have h5:=r521 a.str b.str
 have h6:=fun t=>r59 (Pr:=az) t [gL a.str.size b.str.size,wy a.str b.str] (by simp)
 have h7:=r60 (Pr:=az) (by kernel_rfl) a.id b.id
 unfold kT
 by_cases c0:a.kind=b.kind
 ·have e0:decide (a.kind=b.kind)=true:=decide_eq_true c0
  rw[if_neg (by simpa using c0)]
  by_cases c1:a.kind=1
  ·have e1:decide (a.kind=1)=true:=decide_eq_true c1
   rw[if_pos c1]
   have b1:decide (true=false)=false:=rfl
   have b2:decide (false=true)=false:=rfl
   cases hab:a.bool<;>cases hbb:b.bool<;>simp(disch:=omega)only[go_sem,e0,e1,hab,hbb,b1,b2]<;>rfl
  ·have e1:decide (a.kind=1)=false:=decide_eq_false c1
   rw[if_neg c1]
   by_cases c2:a.kind=2
   ·have e2:decide (a.kind=2)=true:=decide_eq_true c2
    rw[if_pos c2]
    simp(disch:=omega)only[go_sem,e0,e1,e2,h1,h2,h3]
   ·have e2:decide (a.kind=2)=false:=decide_eq_false c2
    rw[if_neg c2]
    by_cases c3:a.kind=3
    ·have e3:decide (a.kind=3)=true:=decide_eq_true c3
     rw[if_pos c3]
     have hi:ints [gL a.str.size b.str.size,wy a.str b.str]=[[.int .i64 (gL a.str.size b.str.size)],[.int .i64 (wy a.str b.str)]]:=rfl
     rw[hi]at h6
     simp(disch:=omega)only[go_sem,e0,e1,e2,e3,h4,h5,h6]
    ·have e3:decide (a.kind=3)=false:=decide_eq_false c3
     rw[if_neg c3]
     by_cases c4:a.kind=4
     ·have e4:decide (a.kind=4)=true:=decide_eq_true c4
      rw[if_pos c4]
      simp(disch:=omega)only[go_sem,e0,e1,e2,e3,e4,h7]
     ·have e4:decide (a.kind=4)=false:=decide_eq_false c4
      rw[if_neg c4]
      simp(disch:=omega)only[go_sem,e0,e1,e2,e3,e4]
 ·have e0:decide (a.kind=b.kind)=false:=decide_eq_false c0
  rw[if_pos c0]
  simp(disch:=omega)only[go_sem,e0]
theorem zl (x y:Int):Co [x,y]=if x=0 then y else x:=by
 by_cases h:x=0
 ·rw[if_pos h]
  subst h
  by_cases g:y=0
  ·subst g
   rfl
  ·simp[Co,g]
 ·rw[if_neg h]
  simp[Co,h]
theorem NR (a b:ByteArray):yh (strLt a b) (decide (a=b))=wy a b:=by
 unfold yh wy
 by_cases h:a=b
 ·subst h
  rw[Ar]
  simp
 ·simp[h]
theorem Lq (a b:Int):yh (decide (a<b)) (decide (a=b))=gL a b:=by
 unfold yh gL
 simp only[decide_eq_true_eq]
 by_cases h:a=b
 ·rw[if_pos h,if_neg (by omega),if_neg (by omega)]
 ·rw[if_neg h]
  by_cases g:a<b
  ·rw[if_pos g,if_pos g]
  ·rw[if_neg g,if_neg g,if_pos (by omega)]
set_option maxHeartbeats 2000000 in
theorem r509 (a b:dC) (ha:fZ a.int) (hb:fZ b.int) (has:bh a.str) (hbs:bh b.str):res A az 509 [.agg a.c,.agg b.c]=some [.int .i64 (kT a b)]:=by
 refine aq a509 rfl rfl ?_
 simp only[F509,dC.c]
 try delta sS tT zZ nN gG bB pZ
 unfold bh at has hbs
 have h1:=r515 a.int ha
 have h2:=r515 b.int hb
 unfold kT
 by_cases c0:a.kind=b.kind
 ·have e0:decide (a.kind=b.kind)=true:=decide_eq_true c0
  rw[if_neg (by simpa using c0)]
  by_cases c1:a.kind=1
  ·have e1:decide (a.kind=1)=true:=decide_eq_true c1
   rw[if_pos c1]
   have h3:=r514 b.bool (decide (a.bool=b.bool))
   simp(disch:=omega)only[go_sem,e0,e1,h3]
   unfold yh
   cases a.bool<;>cases b.bool<;>rfl
  ·have e1:decide (a.kind=1)=false:=decide_eq_false c1
   rw[if_neg c1]
   by_cases c2:a.kind=2
   ·have e2:decide (a.kind=2)=true:=decide_eq_true c2
    rw[if_pos c2]
    have h3:=r514 (decide (zz a.int<zz b.int)) (decide (a.int=b.int))
    simp(disch:=omega)only[go_sem,e0,e1,e2,h1,h2,h3]
    unfold yh gL
    simp only[decide_eq_true_eq]
    have:=Lp (a:=a.int) (b:=b.int)
    congr 3
    by_cases d:a.int=b.int
    ·rw[if_pos d,d,if_neg (by omega),if_neg (by omega)]
    ·rw[if_neg d]
     have d2:zz a.int≠zz b.int:=fun e=>d (this.1 e)
     split
     ·rfl
     ·rw[if_pos (by omega)]
   ·have e2:decide (a.kind=2)=false:=decide_eq_false c2
    rw[if_neg c2]
    by_cases c3:a.kind=3
    ·have e3:decide (a.kind=3)=true:=decide_eq_true c3
     rw[if_pos c3]
     by_cases d:(a.str.size:Int)=(b.str.size:Int)
     ·have d1:decide ((a.str.size:Int)=(b.str.size:Int))=true:=decide_eq_true d
      have h3:=r514 (strLt a.str b.str) (decide (a.str=b.str))
      simp(disch:=omega)only[go_sem,e0,e1,e2,e3,d1,h3]
      have d2:gL a.str.size b.str.size=0:=by
       unfold gL
       rw[if_neg (by omega),if_neg (by omega)]
      rw[zl,if_pos d2,NR]
     ·have d1:decide ((a.str.size:Int)=(b.str.size:Int))=false:=decide_eq_false d
      have h3:=r514 (decide ((a.str.size:Int)<(b.str.size:Int))) false
      simp(disch:=omega)only[go_sem,e0,e1,e2,e3,d1,h3]
      have d2:gL a.str.size b.str.size≠0:=by
       unfold gL
       split
       ·decide
       ·rw[if_pos (by omega)]
        decide
      rw[zl,if_neg d2,← Lq,d1]
    ·have e3:decide (a.kind=3)=false:=decide_eq_false c3
     rw[if_neg c3]
     by_cases c4:a.kind=4
     ·have e4:decide (a.kind=4)=true:=decide_eq_true c4
      rw[if_pos c4]
      have h3:=r514 (decide (a.id<b.id)) (decide (a.id=b.id))
      simp(disch:=omega)only[go_sem,e0,e1,e2,e3,e4,h3]
      rw[Lq]
     ·have e4:decide (a.kind=4)=false:=decide_eq_false c4
      rw[if_neg c4]
      simp(disch:=omega)only[go_sem,e0,e1,e2,e3,e4]
 ·have e0:decide (a.kind=b.kind)=false:=decide_eq_false c0
  rw[if_pos c0]
  simp(disch:=omega)only[go_sem,e0]
end Go.Pv
namespace Go.Pv
@[go_sem] theorem Lr (t:aF):t.c.length=10:=rfl
@[go_sem] theorem Ls (t:Mem):t.c.length=13:=rfl
@[go_sem] theorem Lt (t:Sym):t.c.length=2:=rfl
open Classical in
noncomputable def MV (cs:List PV):Int:=if h:∃n,jq n cs then Bp (Classical.choose h) cs else 0
theorem r282v {cs:List PV} (h:∃n,jq n cs):res A az 282 [.agg cs]=some [.int .i64 (MV cs)]:=by
 unfold MV
 rw[dif_pos h]
 exact r282 _ cs (Classical.choose_spec h)
noncomputable def G1 (acc:Int) (m:Mem):Int:=wr (wr (acc+MV m.gr.c)+m.name.size)
noncomputable def G2 (acc:Int) (t:aF):Int:=(t.aM.take 100).foldl G1 (wr (wr (wr (acc+t.aM.length)+t.syms.length)+t.name.size))
noncomputable def Bq (l:List aF):Bool:=decide ((l.length:Int)≤40)&&decide (l.foldl G2 0≤400)
set_option maxHeartbeats 4000000 in
theorem r266 (u:Nat) (l:List aF) (ho:∀t∈l,t.ok):res A az 266 [.agg [.ae u (l.map aF.c)]]=some [.bool (Bq l)]:=by
 refine aq a266 rfl rfl ?_
 simp only[F266]; try delta sS tT zZ nN gG bB pZ
 simp(disch:=omega)only[go_sem]
 refine Br.aG (fun h40=>?_) (fun h40=>?_)<;>simp(disch:=omega)only[go_sem,h40]
 ·have:¬(l.length:Int)≤40:=by omega
  simp[Bq,this]
 refine W.fold l G2 0 (fun k acc=>⟨[(1,.ptr 1 0),(3,.pv (.int .i64 acc)),(4,.pv (.int .i64 k))],⟨[(1,[.pv (.ae u (l.map aF.c))])],[],[]⟩⟩) (fun _ _=>True) rfl trivial (fun k t acc ht hk _ _=>?_) (fun acc hacc _=>?_)
 ·obtain⟨⟨_,t2,_⟩,⟨t3,t4⟩,_,t5⟩:=ho t (Ph ht)
  unfold bh at t2
  unfold cu at t3 t4
  simp(disch:=omega)only[go_sem]
  refine Br.aG (fun h=>?_) (fun h=>(h (by omega)).elim)
  simp(disch:=omega)only[go_sem,ht,aF.c]
  refine W.fold (t.aM.take 100) G1 (wr (wr (wr (acc+t.aM.length)+t.syms.length)+t.name.size)) (fun j n=>⟨[(1,.ptr 1 0),(3,.pv (.int .i64 n)),(4,.pv (.int .i64 k)),(5,.ptr 5 0),(6,.pv (.int .i64 j))],⟨[(1,[.pv (.ae u (l.map aF.c))]),(5,t.c.map .pv)],[],[]⟩⟩) (fun _ _=>True) rfl trivial (fun j m n hm hj _ _=>?_) (fun n hn _=>?_)
  ·have hj':j<100∧j<t.aM.length:=by rw[Pt]at hj; omega
   have hm:t.aM[j]?=some m:=by
    rw[Pw,if_pos hj'.1]at hm
    exact hm
   obtain⟨_,m2,_,m3⟩:=t5 m (Ph hm)
   unfold bh at m2
   have hsz:=r282v m3
   generalize hz:MV m.gr.c=z at hsz
   unfold dC.c at hsz
   unfold aF.c
   simp(disch:=omega)only[go_sem,List.map_cons,List.map_nil]
   refine Br.aG (fun c=>?_) (fun c=>(c (by omega)).elim)
   simp(disch:=omega)only[go_sem,c]
   refine Br.aG (fun c2=>?_) (fun c2=>(c2 (by omega)).elim)
   simp(disch:=omega)only[go_sem,hm,Mem.c,hsz]
   refine cD.of ?_ trivial
   show _=St.mk _ _
   unfold G1
   rw[hz]
   rfl
  ·have hlen:¬((t.aM.take 100).length<100∧(t.aM.take 100).length<t.aM.length):=by rw[Pt]; omega
   have hle:(t.aM.take 100).length≤t.aM.length:=by rw[Pt]; omega
   have hl1:(t.aM.take 100).length≤100:=by rw[Pt]; omega
   generalize (t.aM.take 100).length=j at hlen hle hl1
   unfold aF.c
   simp(disch:=omega)only[go_sem,List.map_cons,List.map_nil]
   have fin:(⟨[(1,.ptr 1 0),(3,.pv (.int .i64 n)),(4,.pv (.int .i64 (k+1)))],⟨[(1,[.pv (.ae u (l.map aF.c))])],[],[]⟩⟩:St)=⟨[(1,.ptr 1 0),(3,.pv (.int .i64 (G2 acc t))),(4,.pv (.int .i64 ((k+1:Nat):Int)))],⟨[(1,[.pv (.ae u (l.map aF.c))])],[],[]⟩⟩:=by
    rw[hn]
    rfl
   refine Br.aG (fun c=>?_) (fun c=>?_)<;>simp(disch:=omega)only[go_sem,c]
   ·refine Br.aG (fun c2=>(hlen (by omega)).elim) (fun c2=>?_)
    simp(disch:=omega)only[go_sem,c2]
    exact cD.of fin trivial
   ·exact cD.of fin trivial
 ·simp(disch:=omega)only[go_sem]
  have h4:(l.length:Int)≤40:=by omega
  simp[Bq,h4,hacc]
end Go.Pv
namespace Go.Pv
def aV {α:Type} (p:α→Bool) (l:List α):Int:=match l.findIdx? p with
 |some k=>(k:Int)
 |none=> -1
theorem Found.aV {α:Type} {l:List α} {p:α→Bool} {k:Nat} {x:α} (h:Found l p k x):Pv.aV p l=k:=by
 unfold Pv.aV
 rw[h.idx]
theorem jX.aV {α:Type} {l:List α} {p:α→Bool} (h:jX l p):Pv.aV p l= -1:=by
 unfold Pv.aV
 rw[h.idx]
def pU (i:Int) (m:Mem):Bool:=decide (m.id=i)
def sz (i:Int) (m:Sym):Bool:=decide (m.id=i)
@[go_sem] theorem r305 (m:Mem) (u:Nat) (i:Int) (cs:List PV):res A az 305 [.agg m.c,.ro u (.int .i64 i::cs)]=some [.bool (pU i m)]:=by
 refine aq a305 rfl rfl ?_
 simp only[F305]; try delta sS tT zZ nN gG bB pZ
 simp(disch:=omega)only[go_sem,Mem.c]
 rfl
@[go_sem] theorem r395 (m:Sym) (u:Nat) (i:Int) (cs:List PV):res A az 395 [.agg m.c,.ro u (.int .i64 i::cs)]=some [.bool (sz i m)]:=by
 refine aq a395 rfl rfl ?_
 simp only[F395]; try delta sS tT zZ nN gG bB pZ
 simp(disch:=omega)only[go_sem,Sym.c]
 rfl
theorem r304 (t u:Nat) (i:Int) (cs:List PV) (l:List Mem) (hl:l.length≤2^63 - 1):res A az 304 [.ae t (l.map Mem.c),.func 305 [.ro u (.int .i64 i::cs)]]=some [.int .i64 (aV (pU i) l)]:=by
 refine aq a304 rfl rfl ?_
 simp only[F304]; try delta sS tT zZ nN gG bB pZ
 simp(disch:=omega)only[go_sem]
 refine W.find l (pU i) (fun k=>⟨[(0,.pv (.ae t (l.map Mem.c))),(1,.pv (.func 305 [.ro u (.int .i64 i::cs)])),(7,.pv (.int .i64 l.length)),(8,.pv (.int .i64 k))],⟨[],[],[]⟩⟩) rfl (fun k x hx hk hfd=>?_) (fun hn=>?_)
 ·have hfx:=r305 x u i cs
  have hl13:x.c.length=13:=rfl
  have hmap:(x.c.map V.pv).take 13=x.c.map .pv:=rfl
  simp(disch:=omega)only[go_sem]
  refine Br.aG (fun h=>?_) (fun h=>(h (by omega)).elim)
  unfold Mem.c at hfx
  simp(disch:=omega)only[go_sem,hx,Mem.c,hfx]
  refine Br.of (fun h2=>?_) (fun h2=>?_)<;>simp(disch:=omega)only[go_sem]
  ·rw[(hfd h2).aV]
  ·exact aR.of h2 rfl
 ·simp(disch:=omega)only[go_sem]
  rw[hn.aV]
theorem r394 (t u:Nat) (i:Int) (cs:List PV) (l:List Sym) (hl:l.length≤2^63 - 1):res A az 394 [.ae t (l.map Sym.c),.func 395 [.ro u (.int .i64 i::cs)]]=some [.int .i64 (aV (sz i) l)]:=by
 refine aq a394 rfl rfl ?_
 simp only[F394]; try delta sS tT zZ nN gG bB pZ
 simp(disch:=omega)only[go_sem]
 refine W.find l (sz i) (fun k=>⟨[(0,.pv (.ae t (l.map Sym.c))),(1,.pv (.func 395 [.ro u (.int .i64 i::cs)])),(7,.pv (.int .i64 l.length)),(8,.pv (.int .i64 k))],⟨[],[],[]⟩⟩) rfl (fun k x hx hk hfd=>?_) (fun hn=>?_)
 ·have hfx:=r395 x u i cs
  simp(disch:=omega)only[go_sem]
  refine Br.aG (fun h=>?_) (fun h=>(h (by omega)).elim)
  unfold Sym.c at hfx
  simp(disch:=omega)only[go_sem,hx,Sym.c,hfx]
  refine Br.of (fun h2=>?_) (fun h2=>?_)<;>simp(disch:=omega)only[go_sem]
  ·rw[(hfd h2).aV]
  ·exact aR.of h2 rfl
 ·simp(disch:=omega)only[go_sem]
  rw[hn.aV]
end Go.Pv
namespace Go.Pv
theorem r281 (t:aF) (i:Int) (h:t.aM.length≤2^63 - 1):res A az 281 [.agg t.c,.int .i64 i]=some [.int .i64 (max (aV (pU i) t.aM) 0),.bool (decide (0≤aV (pU i) t.aM))]:=by
 refine aq a281 rfl rfl ?_
 simp only[F281]; try delta sS tT zZ nN gG bB pZ
 unfold aF.c
 have h304:=fun u=>r304 0 u i [] t.aM h
 simp(disch:=omega)only[go_sem,h304]
theorem r392 (t:aF) (i:Int) (h:t.syms.length≤2^63 - 1):res A az 392 [.agg t.c,.int .i64 i]=some [.int .i64 (max (aV (sz i) t.syms) 0),.bool (decide (0≤aV (sz i) t.syms))]:=by
 refine aq a392 rfl rfl ?_
 simp only[F392]; try delta sS tT zZ nN gG bB pZ
 unfold aF.c
 have h394:=fun u=>r394 0 u i [] t.syms h
 simp(disch:=omega)only[go_sem,h394]
theorem r391 (t:aF) (i:Int) (h:t.aM.length≤2^63 - 1):res A az 391 [.agg t.c,.int .i64 i]=some [.int .i64 (max (aV (pU i) t.aM) 0),.bool (decide (0≤aV (pU i) t.aM))]:=by
 refine aq a391 rfl rfl ?_
 simp only[F391]; try delta sS tT zZ nN gG bB pZ
 unfold aF.c
 simp(disch:=omega)only[go_sem]
 refine W.find t.aM (pU i) (fun k=>⟨[(1,.pv (.int .i64 i)),(2,.ptr 2 0),(6,.pv (.int .i64 k))],⟨[(2,t.c.map .pv)],[],[]⟩⟩) rfl (fun k x hx hk hfd=>?_) (fun hn=>?_)
 ·unfold aF.c
  simp(disch:=omega)only[go_sem,List.map_cons,List.map_nil]
  refine Br.aG (fun h=>?_) (fun h=>(h (by omega)).elim)
  simp(disch:=omega)only[go_sem,hx,Mem.c]
  have hpx:decide (x.id=i)=pU i x:=rfl
  rw[hpx]
  refine Br.of (fun g=>?_) (fun g=>?_)<;>simp(disch:=omega)only[go_sem]
  ·rw[(hfd g).aV]
   have h1:max (k:Int) 0=k:=by omega
   have h2:(0:Int)≤k:=by omega
   simp[h1,h2]
  ·exact aR.of g rfl
 ·unfold aF.c
  simp(disch:=omega)only[go_sem,List.map_cons,List.map_nil]
  rw[hn.aV]
  rfl
theorem r393 (t:aF) (i:Int) (h:t.syms.length≤2^63 - 1):res A az 393 [.agg t.c,.int .i64 i]=some [.int .i64 (max (aV (sz i) t.syms) 0),.bool (decide (0≤aV (sz i) t.syms))]:=by
 refine aq a393 rfl rfl ?_
 simp only[F393]; try delta sS tT zZ nN gG bB pZ
 unfold aF.c
 simp(disch:=omega)only[go_sem]
 refine W.find t.syms (sz i) (fun k=>⟨[(1,.pv (.int .i64 i)),(2,.ptr 2 0),(6,.pv (.int .i64 k))],⟨[(2,t.c.map .pv)],[],[]⟩⟩) rfl (fun k x hx hk hfd=>?_) (fun hn=>?_)
 ·unfold aF.c
  simp(disch:=omega)only[go_sem,List.map_cons,List.map_nil]
  refine Br.aG (fun h=>?_) (fun h=>(h (by omega)).elim)
  simp(disch:=omega)only[go_sem,hx,Sym.c]
  have hpx:decide (x.id=i)=sz i x:=rfl
  rw[hpx]
  refine Br.of (fun g=>?_) (fun g=>?_)<;>simp(disch:=omega)only[go_sem]
  ·rw[(hfd g).aV]
   have h1:max (k:Int) 0=k:=by omega
   have h2:(0:Int)≤k:=by omega
   simp[h1,h2]
  ·exact aR.of g rfl
 ·unfold aF.c
  simp(disch:=omega)only[go_sem,List.map_cons,List.map_nil]
  rw[hn.aV]
  rfl
end Go.Pv
namespace Go.Pv
def Cp (v:dC):dC:=⟨v.kind,if v.kind=1 then v.bool else false,if v.kind=2 then v.int else 0,if v.kind=3 then v.str else ⟨#[]⟩,if v.kind=4∨v.kind=6 then v.id else 0,if v.kind=8 then v.keys else [],if 5≤v.kind then v.items else [],if v.kind=5∨v.kind=6 then v.rest else []⟩
theorem nine {k:Int} (h:1≤k∧k≤9):k=1∨k=2∨k=3∨k=4∨k=5∨k=6∨k=7∨k=8∨k=9:=by omega
theorem r516 (v:dC) (hk:1≤v.kind∧v.kind≤9):res A az 516 [.agg v.c]=some [.agg (Cp v).c]:=by
 refine aq a516 rfl rfl ?_
 simp only[F516]; try delta sS tT zZ nN gG bB pZ
 obtain⟨kind,bool,int,str,id,keys,items,rest⟩:=v
 unfold dC.c Cp
 dsimp only at *
 rcases nine hk with rfl|rfl|rfl|rfl|rfl|rfl|rfl|rfl|rfl<;>
 ·simp(disch:=omega)only[go_sem,decide_true,decide_false,Int.reduceEq,Int.reduceLE,if_true,if_false,or_true,true_or,or_false,false_or]
  try rfl
noncomputable def nD (v:dC):Bool:=by
 classical exact decide ((v.kind=1∨v.bool=false)∧(v.kind=2∨v.int=0)∧(v.kind=3∨v.str=⟨#[]⟩)∧(v.kind=4∨v.kind=6∨v.id=0)∧(v.kind=8∨v.keys=[])∧(5≤v.kind∨v.items=[])∧(v.kind=5∨v.kind=6∨v.rest=[]))
set_option maxHeartbeats 4000000 in
theorem r510 (v:dC) (hk:1≤v.kind∧v.kind≤9) (hv:cu v.keys∧cu v.items∧cu v.rest):res A az 510 [.agg v.c]=some [.bool (nD v)]:=by
 refine aq a510 rfl rfl ?_
 simp only[F510]; try delta sS tT zZ nN gG bB pZ
 have h1:=r516 v hk
 obtain⟨kind,bool,int,str,id,keys,items,rest⟩:=v
 unfold dC.c Cp at h1
 unfold dC.c
 dsimp only at *
 unfold nD
 have l1:((keys.length:Int)=0)=(keys=[]):=by simp
 have l2:((items.length:Int)=0)=(items=[]):=by simp
 have l3:((rest.length:Int)=0)=(rest=[]):=by simp
 rcases nine hk with rfl|rfl|rfl|rfl|rfl|rfl|rfl|rfl|rfl<;>cases bool<;>
 ·simp(disch:=omega)only[go_sem,decide_true,decide_false,Int.reduceEq,Int.reduceLE,if_true,if_false,or_true,true_or,or_false,false_or]at h1
  simp(disch:=omega)only[go_sem,h1,l1,l2,l3,List.length_nil,Int.reduceEq,Int.reduceLE,List.map_nil,reduceCtorEq,decide_false]
  clear h1 hk hv
  repeat' (refine Br.aG (fun c=>?_) (fun c=>?_)<;>simp(disch:=omega)only[go_sem,c,decide_true,decide_false,reduceCtorEq])
  all_goals first|rfl|(simp; done)|(simp_all; done)
set_option maxHeartbeats 4000000 in
theorem r505 (v:dC) (hk:1≤v.kind∧v.kind≤9) (hv:cu v.keys∧cu v.items∧cu v.rest):res A az 505 [.agg v.c]=some [.bool (nD v)]:=by
 refine aq a505 rfl rfl ?_
 simp only[F505]; try delta sS tT zZ nN gG bB pZ
 obtain⟨kind,bool,int,str,id,keys,items,rest⟩:=v
 unfold dC.c nD
 dsimp only at *
 obtain⟨g1,g2,g3⟩:=hv
 unfold cu at g1 g2 g3
 rcases nine hk with rfl|rfl|rfl|rfl|rfl|rfl|rfl|rfl|rfl<;>cases bool<;>
 ·simp(disch:=omega)only[go_sem,List.length_nil,Int.reduceEq,Int.reduceLE,List.map_nil,List.length_map,reduceCtorEq,decide_false,decide_true]
  clear hk
  repeat' (refine Br.aG (fun c=>?_) (fun c=>?_)<;>simp(disch:=omega)only[go_sem,c,decide_true,decide_false,reduceCtorEq])
  all_goals first|rfl|(simp; done)|(simp_all; done)
end Go.Pv
namespace Go.Pv
theorem iZ {α:Type} (l:List α) (f:α→Bool):l.all (fun y=>!!f y)=l.all f:=by simp
theorem r508 (u v:Nat) (T:List (List PV)) (t:Int) (l:List (List PV)) (f:List PV→Bool) (hl:l.length≤2^63 - 1) (hv:∀r∈l,∃w:dC,r=w.c) (h:∀r∈l,res A az 502 [.agg [.ae u T],.int .i64 t,.agg r,.bool true]=some [.bool (f r)]):res A az 508 [.agg [.ae u T],.int .i64 t,.ae v l,.bool true]=some [.bool (l.all f)]:=by
 refine aq a508 rfl rfl ?_
 simp only[F508]; try delta sS tT zZ nN gG bB pZ
 simp(disch:=omega)only[go_sem]
 refine W.find l (fun r=>!f r) (fun k=>⟨[(1,.pv (.int .i64 t)),(2,.pv (.ae v l)),(3,.pv (.bool true)),(4,.ptr 4 0),(9,.pv (.int .i64 k))],⟨[(4,[.pv (.ae u T)])],[],[]⟩⟩) rfl (fun k x hx hk hfd=>?_) (fun hn=>?_)
 ·obtain⟨w,rfl⟩:=hv x (Ph hx)
  have hc:=h w.c (Ph hx)
  have hfd:=fun g=>(hfd g).all
  rw[iZ]at hfd
  generalize f w.c=e at hc hfd ⊢
  unfold dC.c at hc hx
  simp(disch:=omega)only[go_sem]
  refine Br.aG (fun c=>?_) (fun c=>(c (by omega)).elim)
  simp(disch:=omega)only[go_sem,hx,hc]
  refine Br.of (fun g=>?_) (fun g=>?_)<;>simp(disch:=omega)only[go_sem]
  ·exact aR.of (by rw[g]; rfl) rfl
  ·rw[hfd (by rw[g]; rfl)]
 ·have hn:=hn.all
  rw[iZ]at hn
  simp(disch:=omega)only[go_sem]
  rw[hn]
theorem r518 (u a b c:Nat) (T:List (List PV)) (t:Int) (w:dC) (e:Bool) (h:res A az 503 [.agg [.ae u T],.int .i64 t,.agg w.c,.bool true]=some [.bool e]):res A az 518 [.agg w.c,.ro a [.ae u T],.ro b [.int .i64 t],.ro c [.bool true]]=some [.bool (!e)]:=by
 refine aq a518 rfl rfl ?_
 simp only[F518]; try delta sS tT zZ nN gG bB pZ
 unfold dC.c at h ⊢
 simp(disch:=omega)only[go_sem,h]
theorem r522 (u v a b c:Nat) (T:List (List PV)) (t:Int) (l:List (List PV)) (f:List PV→Bool) (hl:l.length≤2^63 - 1) (hv:∀r∈l,∃w:dC,r=w.c) (h:∀r∈l,res A az 503 [.agg [.ae u T],.int .i64 t,.agg r,.bool true]=some [.bool (f r)]):res A az 522 [.ae v l,.func 518 [.ro a [.ae u T],.ro b [.int .i64 t],.ro c [.bool true]]]=some [.int .i64 (aV (fun r=>!f r) l)]:=by
 refine aq a522 rfl rfl ?_
 simp only[F522]; try delta sS tT zZ nN gG bB pZ
 simp(disch:=omega)only[go_sem]
 refine W.find l (fun r=>!f r) (fun k=>⟨[(0,.pv (.ae v l)),(1,.pv (.func 518 [.ro a [.ae u T],.ro b [.int .i64 t],.ro c [.bool true]])),(7,.pv (.int .i64 l.length)),(8,.pv (.int .i64 k))],⟨[],[],[]⟩⟩) rfl (fun k x hx hk hfd=>?_) (fun hn=>?_)
 ·obtain⟨w,rfl⟩:=hv x (Ph hx)
  have hc:=r518 u a b c T t w _ (h w.c (Ph hx))
  have hfd:=fun g=>(hfd g).aV
  generalize f w.c=e at hc hfd ⊢
  unfold dC.c at hc hx
  simp(disch:=omega)only[go_sem]
  refine Br.aG (fun c=>?_) (fun c=>(c (by omega)).elim)
  simp(disch:=omega)only[go_sem,hx,hc]
  refine Br.of (fun g=>?_) (fun g=>?_)<;>simp(disch:=omega)only[go_sem]
  ·exact aR.of (by rw[g]; rfl) rfl
  ·rw[hfd (by rw[g]; rfl)]
 ·simp(disch:=omega)only[go_sem]
  rw[hn.aV]
theorem yi {α:Type} (f:α→Bool) (l:List α):decide (0≤aV (fun r=>!f r) l)=!l.all f:=by
 unfold aV
 cases h:l.findIdx? (fun r=>!f r)with
 |none=>
  have:=Qm.1 h
  have h2:l.all f=true:=List.all_eq_true.2 fun x hx=>by simpa using this x hx
  simp[h2]
 |some k=>
  obtain⟨hk,h2,_⟩:=PT.1 h
  have h3:l.all f=false:=List.all_eq_false.2 ⟨_,List.getElem_mem hk,by simpa using h2⟩
  rw[h3]
  simp
theorem r512 (u v:Nat) (T:List (List PV)) (t:Int) (l:List (List PV)) (f:List PV→Bool) (hl:l.length≤2^63 - 1) (hv:∀r∈l,∃w:dC,r=w.c) (h:∀r∈l,res A az 503 [.agg [.ae u T],.int .i64 t,.agg r,.bool true]=some [.bool (f r)]):res A az 512 [.agg [.ae u T],.int .i64 t,.ae v l,.bool true]=some [.bool (l.all f)]:=by
 refine aq a512 rfl rfl ?_
 simp only[F512]; try delta sS tT zZ nN gG bB pZ
 have h517:∀a b c,res A az 517 [.ae v l,.func 518 [.ro a [.ae u T],.ro b [.int .i64 t],.ro c [.bool true]]]=some [.bool (!l.all f)]:=by
  intro a b c
  refine aq a517 rfl rfl ?_
  simp only[F517]; try delta sS tT zZ nN gG bB pZ
  have h522:=r522 u v a b c T t l f hl hv h
  simp(disch:=omega)only[go_sem,h522,yi]
 simp(disch:=omega)only[go_sem,h517,Bool.not_not]
end Go.Pv
namespace Go.Pv
def El:List PV→List PV→Int
 |[.int _ k,.bool b,.int _ i,.str s,.int _ id,.ae _ ks,.ae _ is,_],[.int _ k',.bool b',.int _ i',.str s',.int _ id',.ae _ ks',.ae _ is',_]=>kT ⟨k,b,i,s,id,ks,is,[]⟩ ⟨k',b',i',s',id',ks',is',[]⟩
 |_,_=>0
theorem nE (a b:dC):El a.c b.c=kT a b:=rfl
def Cq (l:List (List PV)):Bool:=(l.zip l.tail).all fun q=>decide (El q.1 q.2<0)
def jY (rec:Int→List PV→Bool) (x:aF) (v:dC):Bool:=
 if x.kind=1 then true
 else if x.kind=2 then decide (x.low≤v.int)&&decide (v.int≤x.high)
 else if x.kind=3 then decide ((v.str.size:Int)≤x.max)
 else if x.kind=4 then decide (0≤aV (sz v.id) x.syms)
 else if x.kind=5 then decide (v.items.length=x.aM.length)&&(x.aM.zip v.items).all fun q=>rec q.1.type q.2
 else if x.kind=6 then (match x.aM.find? (pU v.id),v.items with
  |some m,[r]=>rec m.type r
  |_,_=>false)
 else if x.kind=7 then decide ((v.items.length:Int)≤x.max)&&v.items.all (rec x.elem)
 else if x.kind=8 then decide ((v.keys.length:Int)≤x.max)&&(decide (v.items.length=v.keys.length)&&(v.keys.all (rec x.key)&&(v.items.all (rec x.elem)&&Cq v.keys)))
 else decide ((v.items.length:Int)≤1)&&v.items.all (rec x.elem)
noncomputable def fi (T:List aF):Nat→Int→List PV→Bool
 |0,_,_=>false
 |n+1,t,cs=>match cs with
  |[.int _ k,.bool b,.int _ i,.str s,.int _ id,.ae _ ks,.ae _ is,.ae _ rest]=>
   (match (if t<0 then none else T[t.toNat]?)with
   |none=>false
   |some x=>decide (k=x.kind)&&(nD ⟨k,b,i,s,id,ks,is,[]⟩&&(rest.isEmpty&&jY (fi T n) x ⟨k,b,i,s,id,ks,is,[]⟩)))
  |_=>false
theorem wz (T : List aF) (n : Nat) (t : Int) (v : dC) : fi T (n + 1) t v.c = (match (if t < 0 then none else T[t.toNat]?) with
   | none => false
   | some x => decide (v.kind = x.kind) && (nD { v with rest := [] } && (v.rest.isEmpty && jY (fi T n) x { v with rest := [] }))) := by
 unfold dC.c
 simp only [fi,List.isEmpty_map]
def Jk (T:List aF):Prop:=T.length≤2147483648∧(∀x∈T,x.ok)∧∀x∈T,1≤x.kind∧x.kind≤9
theorem nF {α β:Type} {l:List α} {m:List β} {k:Nat} {q:α×β} (h:(l.zip m)[k]?=some q):l[k]?=some q.1∧m[k]?=some q.2:=by
 rw[Ql]at h
 exact h
theorem nG {α β:Type} {l:List α} {m:List β} (h:l.length=m.length):(l.zip m).length=l.length:=by
 rw[List.length_zip]
 omega
theorem nH {α:Type} (l:List α):(l.zip l.tail).length=l.length - 1:=by
 rw[List.length_zip,List.length_tail]
 omega
theorem jq.is {n:Nat} {w:dC} (h:jq n w.c):fZ w.int∧bh w.str:=by
 cases n with
 |zero=>exact h.elim
 |succ n=>
  obtain⟨v,hv,⟨_,h2,h3,_⟩,_⟩:=h
  simp only[dC.c,List.cons.injEq,PV.int.injEq,PV.str.injEq]at hv
  obtain⟨_,_,⟨_,e1⟩,e2,_⟩:=hv
  rw[e1,e2]
  exact⟨h2,h3⟩
theorem jZ {α:Type} (p:α→Bool) (l:List α):(l.find? p=none∧aV p l= -1)∨∃(k:Nat) (x:α),l.find? p=some x∧l[k]?=some x∧aV p l=k:=by
 unfold aV
 cases h:l.findIdx? p with
 |none=>
  left
  have:=Qm.1 h
  exact⟨List.find?_eq_none.2 fun x hx=>by simp[this x hx],rfl⟩
 |some k=>
  right
  obtain⟨hk,h1,h2⟩:=PT.1 h
  refine⟨k,l[k],?_,Pj hk,rfl⟩
  rw[List.find?_eq_some_iff_getElem]
  exact⟨h1,k,hk,rfl,fun j hj=>by simpa using h2 j hj⟩
theorem Lu (a b c d e f g h:PV):kl 8 0 [[a,b,c,d,e,f,g,h]] (some 0)=some (V.pv (.ro 0 [a,b,c,d,e,f,g,h])):=by rw[gl _ _ _ (by decide)]; rfl
theorem r507 (x:aF) (v:Nat):res A az 507 [.agg x.c,.ae v []]=some [.bool true]:=by
 refine aq a507 rfl rfl ?_
 simp only[F507]; try delta sS tT zZ nN gG bB pZ
 unfold aF.c
 simp(disch:=omega)only[go_sem]
 refine W.dD 0 (fun k=>⟨[(1,.pv (.ae v [])),(2,.ptr 2 0),(5,.pv (.int .i64 k))],⟨[(2,x.c.map .pv)],[],[]⟩⟩) (fun _=>True) rfl trivial fun k hk _=>?_
 simp(disch:=omega)only[go_sem]
 refine Br.aG (fun c=>absurd c (by omega)) (fun c=>?_)
 simp(disch:=omega)only[go_sem]
set_option maxHeartbeats 4000000 in
theorem r502 (u:Nat) (T:List aF) (hT:Jk T):∀(n:Nat) (t:Int) (cs:List PV),jq n cs→fZ t→res A az 502 [.agg [.ae u (T.map aF.c)],.int .i64 t,.agg cs,.bool true]=some [.bool (fi T n t cs)]
 |0,_,_,h,_=>h.elim
 |n+1,t,cs,h,ht=>by
  obtain⟨v,rfl,⟨h1,h2,h3,h4⟩,⟨h5,h6,h7⟩,h8,h9,h10⟩:=h
  have ih:=r502 u T hT n
  rw[wz]
  obtain⟨ht1,ht2⟩:=ht
  have hTl:=hT.1
  refine aq a502 rfl rfl ?_
  simp only[F502]; try delta sS tT zZ nN gG bB pZ
  unfold dC.c
  by_cases c0:t<0
  ·rw[if_pos c0]
   have e0:decide (t<0)=true:=decide_eq_true c0
   simp(disch:=omega)only[go_sem,e0]
  ·rw[if_neg c0]
   have e0:decide (t<0)=false:=decide_eq_false c0
   obtain⟨k,rfl⟩:=Qp (by omega:0≤t)
   rw[P9]
   by_cases c1:(T.length:Int)≤k
   ·rw[PS (by omega)]
    have e1:decide ((T.length:Int)≤k)=true:=decide_eq_true c1
    simp(disch:=omega)only[go_sem,e0,e1]
   ·obtain⟨x,hx⟩:=get_some (l:=T) (k:=k) (by omega)
    have e1:decide ((T.length:Int)≤k)=false:=decide_eq_false c1
    have hxm:=Ph hx
    have hk:=hT.2.2 x hxm
    rw[hx]
    dsimp only
    by_cases ck:v.kind=x.kind
    ·have e2:decide (v.kind=x.kind)=true:=decide_eq_true ck
     have h505:=r505 v (by omega) ⟨h5,h6,h7⟩
     rw[e2,Qo]
     cases hz:nD v with
     |false=>
      rw[hz]at h505
      have:(nD { v with rest:=[] }&&(v.rest.isEmpty&&jY (fi T n) x { v with rest:=[] }))=false:=by
       cases hr:v.rest with
       |nil=>rw[show ({ v with rest:=[] }:dC)=v by rw[← hr],hz]; rfl
       |cons a b=>simp
      rw[this]
      simp only[dC.c]at h505
      simp(disch:=omega)only[go_sem,e0,e1,e2,hx,Option.map_some,aF.c,h505]
     |true=>
      rw[hz]at h505
      simp only[dC.c]at h505
      cases hr:v.rest with
      |cons a b=>
       rw[hr]at h505
       simp only[List.map_cons]at h505
       simp(disch:=omega)only[go_sem,e0,e1,e2,hx,Option.map_some,aF.c,h505,hr]
       refine Br.aG (fun c=>?_) (fun c=>absurd (by omega) c)
       simp(disch:=omega)only[go_sem,e0,e1,e2,hx,Option.map_some,aF.c,h505,hr]
      |nil=>
       rw[hr]at h505
       simp only[List.map_nil]at h505
       simp(disch:=omega)only[go_sem,e0,e1,e2,hx,Option.map_some,aF.c,h505,hr,List.map_nil]
       refine Br.aG (fun c=>absurd c (by omega)) (fun c=>?_)
       have hvv:({ v with rest:=[] }:dC)=v:=by rw[← hr]
       rw[hvv,hz]
       try simp only[List.isEmpty_nil,Bool.true_and]
       have hxo:=hT.2.1 x hxm
       obtain⟨⟨x1,x2,x3,x4,x5,x6,x7⟩,⟨x8,x9⟩,x10,x11⟩:=hxo
       have h393:=r393 x v.id x8
       have h391:=r391 x v.id x9
       have h507:=r507 x
       obtain⟨kind,name,low,high,max,syms,aM,key,elem,pc⟩:=x
       have h508:∀(e:Int) (l:List (List PV)),fZ e→cu l→(∀r∈l,jq n r)→res A az 508 [.agg [.ae u (T.map aF.c)],.int .i64 e,.ae 0 l,.bool true]=some [.bool (l.all (fi T n e))]:=fun e l he hl hv=>r508 u 0 _ e l (fi T n e) hl (fun r hr=>(hv r hr).val) (fun r hr=>ih e r (hv r hr) he)
       dsimp only at *
       have hk5:=h508 key v.keys x6 h5 h8
       have he6:=h508 elem v.items x7 h6 h9
       unfold jY
       dsimp only
       simp only[aF.c]at h393 h391 h507
       rcases nine hk with rfl|rfl|rfl|rfl|rfl|rfl|rfl|rfl|rfl
       ·simp(disch:=omega)only[go_sem,aF.c,h505,decide_true,decide_false,Int.reduceEq,if_true,if_false]
       ·simp(disch:=omega)only[go_sem,aF.c,h505,decide_true,decide_false,Int.reduceEq,if_true,if_false]
        refine Br.aG (fun c=>?_) (fun c=>?_)<;>simp(disch:=omega)only[go_sem,c,decide_true,decide_false,Bool.true_and,Bool.false_and]
       ·simp(disch:=omega)only[go_sem,aF.c,h505,decide_true,decide_false,Int.reduceEq,if_true,if_false]
       ·simp(disch:=omega)only[go_sem,aF.c,h505,decide_true,decide_false,Int.reduceEq,if_true,if_false,h393]
        refine Br.aG (fun c=>?_) (fun c=>?_)<;>simp(disch:=omega)only[go_sem,c,decide_true,decide_false]
        cases pc<;>simp(disch:=omega)only[go_sem,c,decide_false]
       ·simp(disch:=omega)only[go_sem,aF.c,h505,decide_true,decide_false,Int.reduceEq,if_true,if_false,h507]
        refine Br.aG (fun c=>?_) (fun c=>?_)<;>simp(disch:=omega)only[go_sem,c,decide_true,decide_false,Bool.true_and,Bool.false_and]
        ·have h507:=h507 0
         simp(disch:=omega)only[go_sem,h507]
         have hml:aM.length=v.items.length:=by omega
         have x9':aM.length≤9223372036854775807:=x9
         rw[decide_eq_true hml.symm,Qo]
         refine W.find (aM.zip v.items) (fun q=>!fi T n q.1.type q.2) (fun k=>⟨[(3,.pv (.bool true)),(4,.ptr 4 0),(6,.ptr 6 0),(9,.ptr 9 0),(12,.pv (.int .i64 k))],⟨[(4,[.pv (.ae u (T.map aF.c))]),(6,[.pv (.int .i64 v.kind),.pv (.bool v.bool),.pv (.int .i64 v.int),.pv (.str v.str),.pv (.int .i64 v.id),.pv (.ae 0 v.keys),.pv (.ae 0 v.items),.pv (.ae 0 [])]),(9,[.pv (.int .i64 5),.pv (.str name),.pv (.int .i64 low),.pv (.int .i64 high),.pv (.int .i64 max),.pv (.ae 0 (syms.map Sym.c)),.pv (.ae 0 (aM.map Mem.c)),.pv (.int .i64 key),.pv (.int .i64 elem),.pv (.bool pc)])],[],[]⟩⟩) rfl (fun k q hq hk hfd=>?_) (fun hn=>?_)
         ·obtain⟨g1,g2⟩:=nF hq
          rw[nG hml]at hk
          have hm:=x11 q.1 (Ph g1)
          have hv:=h9 q.2 (Ph g2)
          have hc:=ih q.1.type q.2 hv hm.2.2.1
          have hfd:=fun g=>(hfd g).all
          rw[iZ]at hfd
          generalize fi T n q.1.type q.2=e at hc hfd ⊢
          obtain⟨w,hw⟩:=hv.val
          rw[hw]at hc g2
          unfold dC.c at hc g2
          simp(disch:=omega)only[go_sem]
          refine Br.aG (fun c=>?_) (fun c=>(c (by omega)).elim)
          simp(disch:=omega)only[go_sem,g1,g2,Option.map_some,Mem.c,hc]
          refine Br.of (fun g=>?_) (fun g=>?_)<;>simp(disch:=omega)only[go_sem]
          ·exact aR.of (by rw[g]; rfl) rfl
          ·rw[hfd (by rw[g]; rfl)]
         ·have hn:=hn.all
          rw[iZ]at hn
          rw[nG hml,hn]
          simp(disch:=omega)only[go_sem,hml]
        ·have:decide (v.items.length=aM.length)=false:=decide_eq_false (fun e=>c (by rw[e]))
         rw[this,Qt]
       ·simp(disch:=omega)only[go_sem,aF.c,h505,decide_true,decide_false,Int.reduceEq,if_true,if_false,h391]
        rcases jZ (pU v.id) aM with⟨f1,f2⟩|⟨k,m,f1,f2,f3⟩
        ·rw[f1]
         simp(disch:=omega)only[go_sem,f2]
         cases pc<;>simp(disch:=omega)only[go_sem,f2]
        ·rw[f1]
         have d0:decide ((0:Int)≤(k:Int))=true:=by simp
         have d1:Max.max (k:Int) 0=(k:Int):=by omega
         simp(disch:=omega)only[go_sem,f2,f3,d0,d1]
         cases hi:v.items with
         |nil=>
          rw[hi]at h6
          have e7:decide (((0:Nat):Int)=1)=false:=rfl
          simp(disch:=omega)only[go_sem,List.length_nil,e7]
         |cons r rs=>
          cases rs with
          |cons r2 rs2=>
           have e7:decide (((rs2.length+1+1:Nat):Int)=1)=false:=decide_eq_false (by omega)
           simp(disch:=omega)only[go_sem,List.length_cons,e7]
          |nil=>
           have hv:=h9 r (by rw[hi]; exact PN)
           have hm:=x11 m (Ph f2)
           have hc:=ih m.type r hv hm.2.2.1
           obtain⟨w,hw⟩:=hv.val
           dsimp only
           generalize fi T n m.type r=e at hc ⊢
           rw[hw]at hc ⊢
           unfold dC.c at hc ⊢
           have e7:decide (((0+1:Nat):Int)=1)=true:=rfl
           have e8:decide (((0:Nat):Int)=0)=true:=rfl
           simp(disch:=omega)only[go_sem,f2,Option.map_some,Mem.c,hc,List.length_cons,List.length_nil,e7,e8,Lu]
       ·simp(disch:=omega)only[go_sem,aF.c,h505,decide_true,decide_false,Int.reduceEq,if_true,if_false]
        refine Br.aG (fun c=>?_) (fun c=>?_)<;>simp(disch:=omega)only[go_sem,c,decide_true,decide_false,Bool.true_and,Bool.false_and,he6]
       ·simp(disch:=omega)only[go_sem,aF.c,h505,decide_true,decide_false,Int.reduceEq,if_true,if_false]
        refine Br.aG (fun c=>?_) (fun c=>?_)
        ·rw[show decide ((v.keys.length:Int)≤max)=false from decide_eq_false (by omega),Qt]
         simp(disch:=omega)only[go_sem,c,decide_true,decide_false]
        ·rw[show decide ((v.keys.length:Int)≤max)=true from decide_eq_true (by omega),Qo]
         simp(disch:=omega)only[go_sem,c,decide_true,decide_false]
         refine Br.aG (fun d=>?_) (fun d=>?_)
         ·rw[show decide (v.items.length=v.keys.length)=true from decide_eq_true (by omega),Qo]
          generalize v.keys.all (fi T n key)=p at hk5 ⊢
          generalize v.items.all (fi T n elem)=q at he6 ⊢
          simp(disch:=omega)only[go_sem,d,decide_true,decide_false,hk5]
          cases p
          ·simp(disch:=omega)only[go_sem]
          ·cases q
           ·simp(disch:=omega)only[go_sem,he6]
           ·simp(disch:=omega)only[go_sem,he6]
            have h5':v.keys.length≤9223372036854775807:=h5
            refine W.find (v.keys.zip v.keys.tail) (fun q=>!decide (El q.1 q.2<0)) (fun k=>⟨[(6,.ptr 6 0),(15,.pv (.int .i64 (((k+1:Nat)):Int)))],⟨[(6,[.pv (.int .i64 v.kind),.pv (.bool v.bool),.pv (.int .i64 v.int),.pv (.str v.str),.pv (.int .i64 v.id),.pv (.ae 0 v.keys),.pv (.ae 0 v.items),.pv (.ae 0 [])])],[],[]⟩⟩) rfl (fun k q hq hk hfd=>?_) (fun hn=>?_)
            ·obtain⟨g1,g2⟩:=nF hq
             rw[List.getElem?_tail]at g2
             have hk2:k+1<v.keys.length:=(Pg.1 g2).1
             have e3:(((k+1:Nat):Int)) - 1=(k:Int):=by omega
             simp(disch:=omega)only[go_sem]
             refine Br.aG (fun c=>?_) (fun c=>(c (by omega)).elim)
             have hv1:=h8 q.1 (Ph g1)
             have hv2:=h8 q.2 (Ph g2)
             obtain⟨w1,hw1⟩:=hv1.val
             obtain⟨w2,hw2⟩:=hv2.val
             have i1:=(hw1 ▸ hv1:jq n w1.c).is
             have i2:=(hw2 ▸ hv2:jq n w2.c).is
             have h509:=r509 w1 w2 i1.1 i2.1 i1.2 i2.2
             rw[hw1]at g1 hfd
             rw[hw2]at g2 hfd
             rw[hw1,hw2]
             have hfd:=fun g=>(hfd g).all
             rw[iZ,nE]at hfd
             rw[nE]
             generalize kT w1 w2=e at h509 hfd ⊢
             unfold dC.c at h509 g1 g2
             simp(disch:=omega)only[go_sem,e3,g1,g2,h509]
             refine Br.aG (fun g=>?_) (fun g=>?_)<;>simp(disch:=omega)only[go_sem]
             ·have:=hfd (by simp; omega)
              rw[show Cq v.keys=false from this]
             ·exact aR.of (by simp; omega) rfl
            ·have:=hn.all
             rw[iZ]at this
             rw[show Cq v.keys=true from this,nH]
             simp(disch:=omega)only[go_sem]
             refine Br.aG (fun c=>absurd c (by omega)) (fun c=>?_)
             simp(disch:=omega)only[go_sem]
         ·rw[show decide (v.items.length=v.keys.length)=false from decide_eq_false (by omega),Qt]
          simp(disch:=omega)only[go_sem,d,decide_true,decide_false]
       ·simp(disch:=omega)only[go_sem,aF.c,h505,decide_true,decide_false,Int.reduceEq,if_true,if_false]
        refine Br.aG (fun c=>?_) (fun c=>?_)<;>simp(disch:=omega)only[go_sem,c,decide_true,decide_false,Bool.true_and,Bool.false_and,he6]
    ·have e2:decide (v.kind=x.kind)=false:=decide_eq_false ck
     rw[e2]
     simp(disch:=omega)only[go_sem,e0,e1,e2,hx,Option.map_some,aF.c]
end Go.Pv
