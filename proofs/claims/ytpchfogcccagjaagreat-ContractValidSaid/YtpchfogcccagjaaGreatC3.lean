/-
 What the functions of the law give.
-/
import Derived.Test.YtpchfogcccagjaaGreatC2
set_option linter.unusedSimpArgs false
set_option linter.unusedVariables false
open List renaming mem_of_getElem? → Wa, getElem?_eq_some_iff → V9, getElem?_eq_getElem → Wb, getElem?_append_left → We, length_map → Wg, getElem?_map → Wf, length_append → Wz, take_of_length_le → Wq, getD_eq_getElem?_getD → Ws, take_add_one → WL, getElem?_append_right → Wn, mem_map → Wk, mem_cons → WG, getElem?_set_self → WU, length_range → WI, append_assoc → WK, getElem?_set_ne → Xk, mem_cons_of_mem → W3, pairwise_cons → Wv, findIdx?_eq_some_iff_getElem → Ww, mem_cons_self → WH, take_length → WV, getElem?_drop → WQ, mem_append_left → Xa, ext_getElem? → WW, length_set → Xx, findIdx?_eq_none_iff → Xe, getElem?_range → Xr, take_append_drop → XG, length_replicate → XV, getElem?_replicate → XA, foldl_cons → Xp, drop_eq_getElem_cons → aft, getElem?_set → afz, set_append_right → afB, length_filter_le → XW, range_succ → Xq, pairwise_singleton → XC, ext_getElem → afC, mem_map_of_mem → abQ
open Nat renaming le_refl → Wj, lt_or_ge → Wh, not_lt_zero → Xo, add_zero → afv, sub_self → afA, min_eq_left → afF
open Int renaming toNat_natCast → WX, toNat_of_nonneg → aby
open Option renaming bind_some → abw, map_some → afx
namespace Go.Pv
variable {P:Program}
theorem mu.up:∀{n:Nat} {cs:List PV},mu n cs->mu (n+1) cs
 |0,_,h=>h.elim
 |n+1,_,h=>by
  obtain⟨v,h1,h2,h3,h4,h5,h6⟩:=h
  exact⟨v,h1,h2,h3,fun r hr=>mu.up (h4 r hr),fun r hr=>mu.up (h5 r hr),h6⟩
theorem afV {n:Nat} {t:TypeId} {cs:List PV} (hu:P.underlying t=some (.int .i64)) (h:typed P n t cs):∃x,cs=[.int .i64 x]/\eH x:=by
 cases n with
 |zero=>exact h.elim
 |succ n=>
  obtain⟨x,rfl,h1,h2⟩:=CF hu h
  exact⟨x,rfl,h1,h2⟩
theorem A1 {n:Nat} {t:TypeId} {cs:List PV} (hu:P.underlying t=some .bool) (h:typed P n t cs):∃x,cs=[.bool x]:=by
 cases n with
 |zero=>exact h.elim
 |succ n=>exact aeB hu h
theorem UK {n:Nat} {t:TypeId} {cs:List PV} (hu:P.underlying t=some .string) (h:typed P n t cs):∃s,cs=[.str s]/\bC s:=by
 cases n with
 |zero=>exact h.elim
 |succ n=>
  simp only[typed,hu]at h
  exact h
theorem jH {α:Type} {c:α->List PV} {ok:α->Prop} {n:Nat} {t el:TypeId} {cs:List PV} (hu:P.underlying t=some (.slice el)) (he:∀m cs,m+1=n->typed P m el cs->∃x,cs=c x/\ok x) (h:typed P n t cs):∃l:List α,cs=[.aq 0 (l.map c)]/\bP l/\∀x∈l,ok x:=by
 cases n with
 |zero=>exact h.elim
 |succ n=>
  obtain⟨rows,rfl,hl,hr⟩:=yh hu h
  obtain⟨l,rfl⟩:=yi (c:=fun x:{x:α//ok x}=>c x.1) (rows:=rows) (fun r hr'=>by
   obtain⟨x,rfl,hx⟩:=he n r rfl (hr r hr')
   exact⟨⟨x,hx⟩,rfl⟩)
  refine⟨l.map (·.1),by simp,by simpa [bP,maxLen]using hl,fun x hx=>?_⟩
  obtain⟨y,_,rfl⟩:=Wk.1 hx
  exact y.2
structure VJ (P:Program) (sch typ sym mem val raw ls lsym lmem lval lraw tx ti t64 tb:TypeId):Prop where
 i:P.underlying ti=some (.int .i64)
 i64:P.underlying t64=some (.int .i64)
 b:P.underlying tb=some .bool
 x:P.underlying tx=some .string
 l:P.underlying ls=some (.slice typ)
 ly:P.underlying lsym=some (.slice sym)
 lm:P.underlying lmem=some (.slice mem)
 lv:P.underlying lval=some (.slice val)
 lr:P.underlying lraw=some (.slice raw)
 s:∃fs,P.underlying sch=some (.struct fs)/\fs.toList.map (·.type)=[ls]
 t:∃fs,P.underlying typ=some (.struct fs)/\fs.toList.map (·.type)=[ti,tx,t64,t64,ti,lsym,lmem,ti,ti,tb]
 y:∃fs,P.underlying sym=some (.struct fs)/\fs.toList.map (·.type)=[ti,tx]
 m:∃fs,P.underlying mem=some (.struct fs)/\fs.toList.map (·.type)=[ti,tx,ti,tb,tb,val]
 v:∃fs,P.underlying val=some (.struct fs)/\fs.toList.map (·.type)=[ti,tb,t64,tx,ti,lval,lval,lraw]
 r:∃fs,P.underlying raw=some (.struct fs)/\fs.toList.map (·.type)=[ti,tx]
section
variable {sch typ sym mem val raw ls lsym lmem lval lraw tx ti t64 tb:TypeId}
theorem aeD (T:VJ P sch typ sym mem val raw ls lsym lmem lval lraw tx ti t64 tb) {n:Nat} {cs:List PV} (h:typed P n raw cs):∃r:Raw,cs=r.c/\r.ok:=by
 cases n with
 |zero=>exact h.elim
 |succ n=>
  obtain⟨fs,hu,hts⟩:=T.r
  obtain⟨r0,q0,rfl,h0,r1,q1,rfl,h1,rfl⟩:=dK hu hts h
  obtain⟨x,rfl,hx⟩:=afV T.i h0
  obtain⟨s,rfl,hs⟩:=UK T.x h1
  exact⟨⟨x,s⟩,rfl,hx,hs⟩
theorem ae5 (T:VJ P sch typ sym mem val raw ls lsym lmem lval lraw tx ti t64 tb) {n:Nat} {cs:List PV} (h:typed P n sym cs):∃r:Sym,cs=r.c/\r.ok:=by
 cases n with
 |zero=>exact h.elim
 |succ n=>
  obtain⟨fs,hu,hts⟩:=T.y
  obtain⟨r0,q0,rfl,h0,r1,q1,rfl,h1,rfl⟩:=dK hu hts h
  obtain⟨x,rfl,hx⟩:=afV T.i h0
  obtain⟨s,rfl,hs⟩:=UK T.x h1
  exact⟨⟨x,s⟩,rfl,hx,hs⟩
theorem af6 (T:VJ P sch typ sym mem val raw ls lsym lmem lval lraw tx ti t64 tb):∀(n:Nat) {cs:List PV},typed P n val cs->mu n cs
 |0,_,h=>h.elim
 |1,cs,h=>by
  obtain⟨fs,hu,hts⟩:=T.v
  obtain⟨r0,q0,rfl,h0,_⟩:=dK hu hts h
  exact h0.elim
 |n+2,cs,h=>by
  obtain⟨fs,hu,hts⟩:=T.v
  obtain⟨r0,q0,rfl,h0,r1,q1,rfl,h1,r2,q2,rfl,h2,r3,q3,rfl,h3,r4,q4,rfl,h4,r5,q5,rfl,h5,r6,q6,rfl,h6,r7,q7,rfl,h7,rfl⟩:=dK hu hts h
  obtain⟨kind,rfl,k1⟩:=afV T.i h0
  obtain⟨b,rfl⟩:=A1 T.b h1
  obtain⟨i,rfl,k2⟩:=afV T.i64 h2
  obtain⟨s,rfl,k3⟩:=UK T.x h3
  obtain⟨id,rfl,k4⟩:=afV T.i h4
  obtain⟨keys,rfl,l1,g1⟩:=yh T.lv h5
  obtain⟨items,rfl,l2,g2⟩:=yh T.lv h6
  obtain⟨rest,rfl,l3,g3⟩:=jH T.lr (fun m cs _ hh=>aeD T hh) h7
  exact⟨⟨kind,b,i,s,id,keys,items,rest⟩,rfl,⟨k1,k2,k3,k4⟩,⟨by simpa [bP,maxLen]using l1,by simpa [bP,maxLen]using l2,l3⟩,fun r hr=>(af6 T n (g1 r hr)).up,fun r hr=>(af6 T n (g2 r hr)).up,g3⟩
theorem ae6 (T:VJ P sch typ sym mem val raw ls lsym lmem lval lraw tx ti t64 tb) {n:Nat} {cs:List PV} (h:typed P n mem cs):∃r:Mem,cs=r.c/\r.ok:=by
 cases n with
 |zero=>exact h.elim
 |succ n=>
  obtain⟨fs,hu,hts⟩:=T.m
  obtain⟨r0,q0,rfl,h0,r1,q1,rfl,h1,r2,q2,rfl,h2,r3,q3,rfl,h3,r4,q4,rfl,h4,r5,q5,rfl,h5,rfl⟩:=dK hu hts h
  obtain⟨id,rfl,k1⟩:=afV T.i h0
  obtain⟨s,rfl,k2⟩:=UK T.x h1
  obtain⟨t,rfl,k3⟩:=afV T.i h2
  obtain⟨c,rfl⟩:=A1 T.b h3
  obtain⟨hd,rfl⟩:=A1 T.b h4
  have hv:=af6 T n h5
  cases n with
  |zero=>exact hv.elim
  |succ n=>
   have hv':=hv
   obtain⟨v,rfl,_⟩:=hv'
   exact⟨⟨id,s,t,c,hd,v⟩,by simp[Mem.c,dz.c],k1,k2,k3,_,hv⟩
theorem ae7 (T:VJ P sch typ sym mem val raw ls lsym lmem lval lraw tx ti t64 tb) {n:Nat} {cs:List PV} (h:typed P n typ cs):∃r:aH,cs=r.c/\r.ok:=by
 cases n with
 |zero=>exact h.elim
 |succ n=>
  obtain⟨fs,hu,hts⟩:=T.t
  obtain⟨r0,q0,rfl,h0,r1,q1,rfl,h1,r2,q2,rfl,h2,r3,q3,rfl,h3,r4,q4,rfl,h4,r5,q5,rfl,h5,r6,q6,rfl,h6,r7,q7,rfl,h7,r8,q8,rfl,h8,r9,q9,rfl,h9,rfl⟩:=dK hu hts h
  obtain⟨kind,rfl,k0⟩:=afV T.i h0
  obtain⟨s,rfl,k1⟩:=UK T.x h1
  obtain⟨lo,rfl,k2⟩:=afV T.i64 h2
  obtain⟨hi,rfl,k3⟩:=afV T.i64 h3
  obtain⟨mx,rfl,k4⟩:=afV T.i h4
  obtain⟨syms,rfl,k5,g5⟩:=jH T.ly (fun m cs _ hh=>ae5 T hh) h5
  obtain⟨bc,rfl,k6,g6⟩:=jH T.lm (fun m cs _ hh=>ae6 T hh) h6
  obtain⟨key,rfl,k7⟩:=afV T.i h7
  obtain⟨el,rfl,k8⟩:=afV T.i h8
  obtain⟨op,rfl⟩:=A1 T.b h9
  exact⟨⟨kind,s,lo,hi,mx,syms,bc,key,el,op⟩,rfl,⟨k0,k1,k2,k3,k4,k7,k8⟩,⟨k5,k6⟩,g5,g6⟩
theorem afb (T:VJ P sch typ sym mem val raw ls lsym lmem lval lraw tx ti t64 tb) {n:Nat} {cs:List PV} (h:typed P n sch cs):∃l:List aH,cs=[.aq 0 (l.map aH.c)]/\bP l/\∀t∈l,t.ok:=by
 cases n with
 |zero=>exact h.elim
 |succ n=>
  obtain⟨fs,hu,hts⟩:=T.s
  obtain⟨r0,q0,rfl,h0,rfl⟩:=dK hu hts h
  obtain⟨l,rfl,k,g⟩:=jH T.l (fun m cs _ hh=>ae7 T hh) h0
  exact⟨l,by simp,k,g⟩
end
end Go.Pv
namespace Go.Pv
theorem yD {k:Nat} {rows:List (List PV)} (h:∀r∈rows,r.length=k):aO k (.inl rows)=true:=by
 simp only[aO,List.all_eq_true,beq_iff_eq]
 exact h
def Holds (ar:List aL) (id ax k:Nat) (rows:List (List PV)):Prop:=∃R,ar[id]?=some ⟨ax,k,.inl R⟩/\R.take rows.length=rows
theorem Holds.whole {ar:List aL} {id ax k:Nat} {rows:List (List PV)} (h:ar[id]?=some ⟨ax,k,.inl rows⟩):Holds ar id ax k rows:=⟨_,h,WV⟩
theorem Holds.lt {ar:List aL} {id ax k:Nat} {rows:List (List PV)} (h:Holds ar id ax k rows):id<ar.length:=by
 obtain⟨R,h,_⟩:=h
 exact(V9.1 h).1
theorem Holds.move {a b:List aL} {id ax k:Nat} {rows:List (List PV)} (h:Holds a id ax k rows) (e:b[id]?=a[id]?):Holds b id ax k rows:=by
 obtain⟨R,h,h2⟩:=h
 exact⟨R,e.trans h,h2⟩
def Home (ar:List aL) (o k:Nat) (v:V) (rows:List (List PV)):Prop:=v=.pv (.aq 0 rows)\/(∃id ax,v=.own id ax 0 rows.length/\id≠o/\Holds ar id ax k rows)\/v=.tl rows
theorem Home.push {ar:List aL} {o k:Nat} {v:V} {rows:List (List PV)} (h:Home ar o k v rows) (x:List aL):Home (ar++x) o k v rows:=by
 rcases h with h|⟨id,ax,h1,h2,h3⟩|h
 .exact .inl h
 .exact .inr (.inl ⟨id,ax,h1,h2,h3.move (We h3.lt)⟩)
 .exact .inr (.inr h)
theorem Home.set {ar:List aL} {o k:Nat} {v:V} {rows:List (List PV)} (h:Home ar o k v rows) (a:aL):Home (ar.set o a) o k v rows:=by
 rcases h with h|⟨id,ax,h1,h2,h3⟩|h
 .exact .inl h
 .exact .inr (.inl ⟨id,ax,h1,h2,h3.move (Xk (fun e=>h2 e.symm))⟩)
 .exact .inr (.inr h)
theorem Home.keep {ar:List aL} {o k:Nat} {v:V} {rows:List (List PV)} (h:Home ar o k v rows) (bx:List (Nat×List V)) (mp:List (List (PV×PV))) (d:Nat):aY ⟨bx,ar,mp⟩ (d+1) v=some (.aq 0 rows):=by
 rcases h with rfl|⟨id,ax,rfl,h2,R,h3,h4⟩|rfl
 .rfl
 .rw[dS,jB,h3]
  simp only[Option.bind_some,if_true,az,bO,List.drop_zero,h4]
 .rfl
def dX:Sum (List (List PV)) (List (List V))->List (List V)
 |.inl x=>x.map (·.map .pv)
 |.inr x=>x
theorem im (b:Sum (List (List PV)) (List (List V))):(dX b).length=aD b:=by cases b<;>simp[dX,aD]
theorem l7 (a b:Sum (List (List PV)) (List (List V))):dX (aU a b)=dX a++dX b:=by
 cases a<;>cases b<;>simp[dX,aU]
theorem pP {α β γ:Type} {f:α->Option β}:∀{rows:List (List α)} {ts:List γ} {c:γ->List β},rows.length=ts.length->(∀(i:Nat) row t,rows[i]?=some row->ts[i]?=some t->ay f row=some (c t))->ay (ay f) rows=some (ts.map c)
 |[],[],_,_,_=>rfl
 |r::rows,t::ts,c,hl,h=>by
  have h1:=h 0 r t rfl rfl
  have h2:=pP (f:=f) (rows:=rows) (ts:=ts) (c:=c) (by simpa using hl) (fun i row u hi hu=>h (i+1) row u (by simpa using hi) (by simpa using hu))
  simp only[ay,h1,h2,List.map_cons]
theorem sO {h:aa} {d:Nat}:∀{l r:List PV},ay (aY h d) (l.map V.pv)=some r->r=l
 |[],r,he=>by
  cases he
  rfl
 |x::l,r,he=>by
  simp only[List.map_cons,su,ya]at he
  split at he
  .cases hm:ay (aY h d) (l.map V.pv)with
   |none=>simp[hm]at he
   |some y=>
    simp[hm]at he
    rw[<- he,sO hm]
  .simp at he
def afX (L:List Int) (j:Int):Int:=bj (fun y=>decide (y=j)) L
def xb (L:List Int) (m:Mem):Mem:={ m with type:=afX L m.type }
def af0 (L:List Int) (t:aH):aH:={ t with bc:=t.bc.map (xb L),key:=if t.kind=8 then afX L t.key else t.key,elem:=if 7<=t.kind then afX L t.elem else t.elem }
theorem ade {α:Type} {l:List α} {k:Nat} {x:α} (h:l[k]?=some x):l.drop k=x::l.drop (k+1):=by
 obtain⟨hk,rfl⟩:=V9.1 h
 exact aft hk
theorem ox {k:Nat} {b:Sum (List (List PV)) (List (List V))} (h:∀r∈dX b,r.length=k):aO k b=true:=by
 cases b with
 |inl x=>
  simp only[aO,List.all_eq_true,beq_iff_eq]
  intro r hr
  have:=h (r.map .pv) (abQ hr)
  simpa using this
 |inr x=>
  simp only[aO,List.all_eq_true,beq_iff_eq]
  exact h
def acn (L:List Int) (l:List Mem) (j:Nat):List Mem:=(l.take j).map (xb L)++l.drop j
theorem adQ (L:List Int) (l:List Mem):acn L l 0=l:=by simp[acn]
theorem aec (L:List Int) (l:List Mem):acn L l l.length=l.map (xb L):=by simp[acn]
theorem adf (L:List Int) (l:List Mem) (j:Nat):(acn L l j).length=l.length:=by
 simp only[acn,List.length_append,List.length_map,List.length_take,List.length_drop]
 omega
theorem adg {L:List Int} {l:List Mem} {j:Nat} {m:Mem} (h:l[j]?=some m):(acn L l j)[j]?=some m:=by
 have hj:=(V9.1 h).1
 have hl:((l.take j).map (xb L)).length=j:=by simp; omega
 unfold acn
 rw[Wn (by omega),hl,afA,WQ,afv]
 exact h
theorem aed {L:List Int} {l:List Mem} {j:Nat} {m:Mem} (h:l[j]?=some m):(acn L l j).set j (xb L m)=acn L l (j+1):=by
 have hj:=(V9.1 h).1
 have hl:((l.take j).map (xb L)).length=j:=by simp; omega
 unfold acn
 rw[afB _ _ (by omega),hl,afA,ade h,List.set_cons_zero,WL,h]
 simp
theorem abY {t:aH} {m:Mem} (h:m∈t.bc):m.type∈cT t:=by
 unfold cT
 exact Xa _ (Xa _ (abQ h))
theorem acf {t:aH} (h:7<=t.kind):t.elem∈cT t:=by simp[cT,abG,h]
theorem adE {L:List Int} {l:List Mem} {j:Nat} {m:Mem} (h:l[j]?=some m) (id:Nat):eG id j 2 [.pv (.int .i64 (afX L m.type))] ⟨0,13,.inl ((acn L l j).map Mem.c)⟩=some { ar:=some (id,⟨0,13,.inl ((acn L l (j+1)).map Mem.c)⟩) }:=by
 have hj:=(V9.1 h).1
 rw[n9 (l:=[.int .i64 (afX L m.type)]) (by rw[List.length_map,adf]; exact hj) rfl (by simp) rfl,<- aed h,List.map_set]
 unfold over
 have hd:((acn L l j).map Mem.c).getD j []=m.c:=by rw[Ws,Wf,adg h]; rfl
 rw[hd]
 rfl
theorem ac4 {L:List Int} {u j:Int} (h:u≠j):afX (L++[u]) j=afX L j:=by
 unfold afX bj
 rw[List.findIdx?_append]
 have:List.findIdx? (fun y=>decide (y=j)) [u]=none:=by simp[List.findIdx?_cons,h]
 rw[this]
 cases L.findIdx? (fun y=>decide (y=j))<;>rfl
theorem adR {L:List Int} {u:Int} (h:¬u∈L):afX (L++[u]) u=L.length:=by
 unfold afX bj
 rw[List.findIdx?_append]
 have h1:L.findIdx? (fun y=>decide (y=u))=none:=by
  rw[Xe]
  intro x hx
  simp only[decide_eq_false_iff_not]
  exact fun e=>h (e ▸ hx)
 have h2:List.findIdx? (fun y=>decide (y=u)) [u]=some 0:=by simp[List.findIdx?_cons]
 rw[h1,h2]
 simp
section
variable {α:Type} [Inhabited α]
def oV (lt:α->α->Bool) (x y:α):Prop:=lt x y=true\/lt y x=true
def uZ (lt:α->α->Bool) (x:α) (l:List α):Nat->Nat
 |0=>0
 |p+1=>if lt x (l.getD p default)=true then uZ lt x l p else p+1
def kE (x:α) (l:List α) (p:Nat):List α:=l.take p++x::l.drop p
def tY (lt:α->α->Bool) (x:α) (l:List α):List α:=kE x l (uZ lt x l l.length)
theorem Ay (lt:α->α->Bool) (x:α) (l:List α):∀q,uZ lt x l q<=q
 |0=>Wj _
 |q+1=>by
  have:=Ay lt x l q
  unfold uZ
  split<;>omega
omit [Inhabited α] in
theorem sR (x:α) (l:List α) (p:Nat) (h:p<=l.length):(kE x l p).length=l.length+1:=by simp[kE]; omega
theorem yK (lt:α->α->Bool) (x:α) (l:List α):(tY lt x l).length=l.length+1:=sR x l _ (Ay lt x l _)
omit [Inhabited α] in
theorem BP (x:α) (l:List α) (p:Nat) (h:p<=l.length):(kE x l p)[p]?=some x:=by
 unfold kE
 rw[List.getElem?_append_right (by simp; omega)]
 simp[Nat.min_eq_left h]
theorem Az (x:α) (l:List α) (p:Nat) (h:p<l.length):(kE x l (p+1))[p]?=some (l.getD p default):=by
 unfold kE
 rw[List.getElem?_append_left (by simp; omega),List.getElem?_take,if_pos (by omega)]
 simp[h]
theorem CY (x:α) (l:List α) (p:Nat) (h:p<l.length):((kE x l (p+1)).set (p+1) (l.getD p default)).set p x=kE x l p:=by
 apply WW
 intro i
 have h1:=sR x l (p+1) (by omega)
 by_cases ip:i=p
 .subst ip
  rw[BP x l i (by omega),List.getElem?_set_self (by simp[h1]; omega)]
 .rw[Xk (Ne.symm ip)]
  by_cases iq:i=p+1
  .subst iq
   rw[WU (by rw[h1]; omega)]
   unfold kE
   rw[List.getElem?_append_right (by simp; omega)]
   simp[Nat.min_eq_left (Nat.le_of_lt h),h]
  .rw[Xk (Ne.symm iq)]
   unfold kE
   rcases Wh i p with hi|hi
   .rw[List.getElem?_append_left (by simp; omega),List.getElem?_append_left (by simp; omega),List.getElem?_take,List.getElem?_take,if_pos (by omega),if_pos hi]
   .rw[List.getElem?_append_right (by simp; omega),List.getElem?_append_right (by simp; omega)]
    obtain⟨q,rfl⟩:∃q,i=p+2+q:=⟨i - (p+2),by omega⟩
    simp only[List.length_take,Nat.min_eq_left (Nat.le_of_lt h),Nat.min_eq_left (Nat.succ_le_of_lt h)]
    rw[show p+2+q - (p+1)=q+1 by omega,show p+2+q - p=q+2 by omega]
    simp only[List.getElem?_cons_succ,List.getElem?_drop]
    congr 1
    omega
def mA (lt:α->α->Bool) (l:List α):List α:=l.foldl (fun o x=>tY lt x o) []
omit [Inhabited α] in
theorem E6 {lt:α->α->Bool} (tr:∀x y z,lt x y=true->lt y z=true->lt x z=true) {x:α}:∀{l:List α},l.Pairwise (fun a b=>lt a b=true)->(∀y∈l,oV lt x y)->(ins lt x l).Pairwise (fun a b=>lt a b=true)
 |[],_,_=>XC _ _
 |y::r,h,hx=>by
  obtain⟨h1,h2⟩:=Wv.1 h
  unfold ins
  split
  .rename_i hc
   refine List.pairwise_cons.2 ⟨fun z hz=>?_,E6 tr h2 (fun z hz=>hx z (by simp[hz]))⟩
   rcases WG.1 ((oe lt x r).subset hz)with rfl|hz
   .exact hc
   .exact h1 z hz
  .rename_i hc
   have hxy:lt x y=true:=(hx y (by simp)).resolve_right (by simpa using hc)
   refine Wv.2 ⟨fun z hz=>?_,h⟩
   rcases WG.1 hz with rfl|hz
   .exact hxy
   .exact tr _ _ _ hxy (h1 z hz)
omit [Inhabited α] in
theorem oC {lt:α->α->Bool} (tr:∀x y z,lt x y=true->lt y z=true->lt x z=true):∀{l:List α},l.Pairwise (oV lt)->(dp lt l).Pairwise (fun a b=>lt a b=true)
 |[],_=>List.Pairwise.nil
 |x::l,h=>by
  obtain⟨h1,h2⟩:=Wv.1 h
  exact E6 tr (oC tr h2) fun y hy=>h1 y ((dc lt l).subset hy)
omit [Inhabited α] in
theorem u6 {lt:α->α->Bool}:∀{l:List α},l.Pairwise (fun a b=>lt a b=true)->rising lt l=true
 |[],_=>rfl
 |[_],_=>rfl
 |x::y::r,h=>by
  obtain⟨h1,h2⟩:=Wv.1 h
  simp only[rising,Bool.and_eq_true]
  exact⟨h1 y (by simp),u6 h2⟩
end
end Go.Pv
namespace Go.Pv
theorem r66 {Pr:bm} (x:Int):res A Pr 66 [.int .i64 x]=some [.bool false]:=by
 refine aw a66 rfl rfl ?_
 simp only[F66,Uw]
 simp(disch:=omega)only[go_sem]
theorem r60 {Pr:bm} (hp:Pr 66=none) (x y:Int):res A Pr 60 [.int .i64 x,.int .i64 y]=some [.int .i64 (abU x y)]:=by
 refine aw a60 rfl rfl ?_
 simp only[F60,Uu]
 simp(disch:=omega)only[go_sem,yb (by kernel_rfl) hp UC,r66]
 unfold abU
 refine Br.aJ (fun h=>?_) (fun h=>?_)<;>simp(disch:=omega)only[go_sem,h]
 refine Br.aJ (fun h2=>?_) (fun h2=>?_)<;>simp(disch:=omega)only[go_sem,h,h2]
theorem r58 {Pr:bm} (a:Edge):res A Pr 58 [.agg a.c]=some [.int .i64 a.side]:=by
 refine aw a58 rfl rfl ?_
 simp only[F58,Us]
 simp(disch:=omega)only[go_sem]
 unfold Edge.side
 refine Br.of (fun h=>?_) (fun h=>?_)<;>simp(disch:=omega)only[go_sem,h]
def E7:List Int->Int
 |[]=>0
 |x::r=>if x≠0 then x else E7 r
theorem fL {α:Type} {l:List α} {k:Nat} {x:α} (h:l[k]?=some x):l.drop k=x::l.drop (k+1):=by
 obtain⟨h1,h2⟩:=V9.1 h
 rw[aft h1,h2]
theorem get_at {α:Type} {l:List α} {k:Nat} (h:k<l.length):∃x,l[k]?=some x:=⟨_,Wb h⟩
theorem jK {α:Type} {l:List α} {k:Nat} (h:¬(k:Int)<l.length):l.drop k=[]:=List.drop_eq_nil_of_le (by omega)
theorem r59 {Pr:bm} (t:Nat) (l:List Int) (hl:l.length<1000):res A Pr 59 [.aq t (ints l)]=some [.int .i64 (E7 l)]:=by
 refine aw a59 rfl rfl ?_
 simp only[F59,Ut]
 simp(disch:=omega)only[go_sem]
 refine W.fv l.length (fun k=>⟨[(3,.pv (.int .i64 0)),(6,.pv (.aq t (ints l))),(7,.pv (.int .i64 l.length)),(8,.pv (.int .i64 k))],⟨[],[],[]⟩⟩) (fun k=>E7 l=E7 (l.drop k)) rfl rfl fun k hk hi=>?_
 simp(disch:=omega)only[go_sem]
 refine Br.aJ (fun h=>?_) (fun h=>?_)
 .obtain⟨x,hx⟩:=get_at (l:=l) (k:=k) (by omega)
  rw[fL hx,E7]at hi
  simp(disch:=omega)only[go_sem,hx]
  refine Br.aJ (fun h1=>?_) (fun h1=>?_)<;>simp(disch:=omega)only[go_sem]
  .exact .of (by omega) rfl (by simpa [h1]using hi)
  .simp[hi,h1]
 .simp(disch:=omega)only[go_sem]
  simp[hi,jK h,E7]
theorem r47 {Pr:bm} (h66:Pr 66=none) (h60:Pr 60=none) (h59:Pr 59=none) (h58:Pr 58=none) (a b:Edge):res A Pr 47 [.agg a.c,.agg b.c]=some [.int .i64 (Edge.cmp a b)]:=by
 refine aw a47 rfl rfl ?_
 simp only[F47,Ul]
 have e59:=fun x y z=>r59 (Pr:=Pr) 0 [x,y,z] (by simp)
 simp only[ints,List.map_cons,List.map_nil]at e59
 have e58:=fun x=>r58 (Pr:=Pr) x
 simp only[Edge.c]at e58
 simp(disch:=omega)only[go_sem,yb (by kernel_rfl) h60 UB,yb (by kernel_rfl) h59 UA,yb (by kernel_rfl) h58 Uz,r60 h66,e58 a,e58 b,e59]
 by_cases h:abU a.label b.label=0<;>simp[E7,Edge.cmp,h]
@[go_sem] theorem r44 (a b:Edge):res A aA 44 [.agg [.int .i64 a.fr,.bool a.send,.int .i64 a.label,.int .i64 a.to],.agg [.int .i64 b.fr,.bool b.send,.int .i64 b.label,.int .i64 b.to]]=some [.bool (Edge.lt a b)]:=by
 refine aw a44 rfl rfl ?_
 simp only[F44,Ui]
 simp(disch:=omega)only[go_sem]
 unfold Edge.lt
 by_cases h:a.fr=b.fr<;>by_cases h2:a.send=b.send<;>simp(disch:=omega)only[go_sem,h,h2,ne_eq,not_true_eq_false,not_false_eq_true]
theorem aP.E8 {a:aP} (h1:a.aj<=12) (h2:a.af.length<=100) (h3:0<=a.start/\a.start<a.aj):a.err=if sF a.aj none a.af=true then 0 else 1:=by
 unfold aP.err
 rw[if_neg (by omega),if_pos h3]
theorem aP.l8 {a:aP} (h1:a.aj<=12) (h2:a.af.length<=100) (h3:¬(0<=a.start/\a.start<a.aj)):a.err=1:=by
 unfold aP.err
 rw[if_neg (by omega),if_neg h3]
theorem aP.l9 {a:aP} (h:12<a.aj\/100<a.af.length):a.err=3:=by
 unfold aP.err
 rw[if_pos h]
theorem E9 {n:Int} {p:Option Edge} {e:Edge} {r:List Edge} (h:e.fits n=false):sF n p (e::r)=false:=by simp[sF,h]
set_option maxHeartbeats 1000000 in
@[go_sem] theorem r26 (t:Nat) (a:aP) (hl:a.af.length<=2^63 - 1):res A aA 26 [.agg [.int .i64 a.aj,.int .i64 a.start,.aq t (a.af.map Edge.c)]]=some [.int .i64 a.err]:=by
 refine aw a26 rfl rfl ?_
 simp only[F26,Ua]
 simp(disch:=omega)only[go_sem]
 refine Br.aJ (fun h1=>?_) (fun h1=>?_)<;>simp(disch:=omega)only[go_sem,h1]
 .rw[aP.l9 (.inl h1)]
 refine Br.aJ (fun h2=>?_) (fun h2=>?_)<;>simp(disch:=omega)only[go_sem,h2]
 .rw[aP.l9 (.inr (by omega))]
 refine Br.aJ (fun h3=>?_) (fun h3=>?_)<;>simp(disch:=omega)only[go_sem,h3]
 .rw[aP.l8 (by omega) (by omega) (by omega)]
 refine Br.aJ (fun h4=>?_) (fun h4=>?_)<;>simp(disch:=omega)only[go_sem,h4]
 .rw[aP.l8 (by omega) (by omega) (by omega)]
 refine Br.aJ (fun h5=>?_) (fun h5=>?_)<;>simp(disch:=omega)only[go_sem,h5]
 .rw[aP.l8 (by omega) (by omega) (by omega)]
 rw[aP.E8 (by omega) (by omega) (by omega)]
 refine W.fv a.af.length (fun k=>⟨[(1,.ptr 1 0),(3,.pv (.int .i64 k))],⟨[(1,[.pv (.int .i64 a.aj),.pv (.int .i64 a.start),.pv (.aq t (a.af.map Edge.c))])],[],[]⟩⟩) (fun k=>sF a.aj none a.af=sF a.aj (pI a.af k) (a.af.drop k)) rfl rfl fun k hk hi=>?_
 simp(disch:=omega)only[go_sem]
 refine Br.aJ (fun h=>?_) (fun h=>?_)
 .obtain⟨e,he⟩:=get_at (l:=a.af) (k:=k) (by omega)
  rw[fL he]at hi
  have bad:e.fits a.aj=false->sF a.aj none a.af=false:=fun hb=>hi.trans (E9 hb)
  simp(disch:=omega)only[go_sem,he]
  refine Br.aJ (fun g1=>?_) (fun g1=>?_)<;>simp(disch:=omega)only[go_sem,g1]
  .rw[bad (by simp[Edge.fits]; omega)]; rfl
  refine Br.aJ (fun g2=>?_) (fun g2=>?_)<;>simp(disch:=omega)only[go_sem,g2]
  .rw[bad (by simp[Edge.fits]; omega)]; rfl
  refine Br.aJ (fun g3=>?_) (fun g3=>?_)<;>simp(disch:=omega)only[go_sem,g3]
  .rw[bad (by simp[Edge.fits]; omega)]; rfl
  refine Br.aJ (fun g4=>?_) (fun g4=>?_)<;>simp(disch:=omega)only[go_sem,g4]
  .rw[bad (by simp[Edge.fits]; omega)]; rfl
  refine Br.aJ (fun g5=>?_) (fun g5=>?_)<;>simp(disch:=omega)only[go_sem,g5]
  .rw[bad (by simp[Edge.fits]; omega)]; rfl
  refine Br.aJ (fun g6=>?_) (fun g6=>?_)<;>simp(disch:=omega)only[go_sem,g6]
  .rw[bad (by simp[Edge.fits]; omega)]; rfl
  have fit:e.fits a.aj=true:=by simp[Edge.fits]; omega
  refine Br.aJ (fun g7=>?_) (fun g7=>?_)<;>simp(disch:=omega)only[go_sem,g7]
  .obtain⟨j,rfl⟩:∃j,k=j+1:=⟨k - 1,by omega⟩
   obtain⟨d,hd⟩:=get_at (l:=a.af) (k:=j) (by omega)
   have hj:((j+1:Nat):Int) - 1=(j:Int):=by omega
   rw[fp,hd]at hi
   simp(disch:=omega)only[go_sem,hj,hd]
   refine Br.of (fun g8=>?_) (fun g8=>?_)<;>simp(disch:=omega)only[go_sem]
   .exact .of (by omega) rfl (by rw[hi,fp,he]; simp[sF,fit,g8])
   .rw[hi]; simp[sF,g8]
  .obtain rfl:k=0:=by omega
   exact .of (by omega) rfl (by rw[hi,fp,he]; simp[sF,fit,pI])
 .simp(disch:=omega)only[go_sem]
  rw[hi,jK h]
  rfl
@[go_sem] theorem r47a (a b:Edge):res A aA 47 [.agg [.int .i64 a.fr,.bool a.send,.int .i64 a.label,.int .i64 a.to],.agg [.int .i64 b.fr,.bool b.send,.int .i64 b.label,.int .i64 b.to]]=some [.int .i64 (Edge.cmp a b)]:=
 r47 (by kernel_rfl) (by kernel_rfl) (by kernel_rfl) (by kernel_rfl) a b
@[go_sem] theorem r46 (n s:Int) (t:Nat) (cs:List PV):res A aA 46 [.int .i64 n,.ro t (.int .i64 s::cs)]=some [.bool (decide (0<=n)&&decide (n<s))]:=by
 refine aw a46 rfl rfl ?_
 simp only[F46,Uk]
 simp(disch:=omega)only[go_sem]
 refine Br.aJ (fun h1=>?_) (fun h1=>?_)<;>simp(disch:=omega)only[go_sem,h1]
theorem BR {e:Edge} {n:Int}:e.fits n=(((decide (0<=e.fr)&&decide (e.fr<n))&&(decide (0<=e.to)&&decide (e.to<n)))&&(decide (1<=e.label)&&decide (e.label<=1000))):=by
 simp[Edge.fits,Bool.and_assoc]
set_option maxHeartbeats 2000000 in
@[go_sem] theorem r29 (t:Nat) (a:aP) (hl:a.af.length<=2^63 - 1):res A aA 29 [.agg [.int .i64 a.aj,.int .i64 a.start,.aq t (a.af.map Edge.c)]]=some [.int .i64 a.err]:=by
 refine aw a29 rfl rfl ?_
 simp only[F29,Ub]
 simp(disch:=omega)only[go_sem]
 refine Br.aJ (fun h1=>?_) (fun h1=>?_)<;>simp(disch:=omega)only[go_sem,h1]
 .rw[aP.l9 (.inl h1)]
 refine Br.aJ (fun h2=>?_) (fun h2=>?_)<;>simp(disch:=omega)only[go_sem,h2]
 .rw[aP.l9 (.inr (by omega))]
 refine Br.of (fun h3=>?_) (fun h3=>?_)<;>simp at h3<;>simp(disch:=omega)only[go_sem]
 case refine_2=>rw[aP.l8 (by omega) (by omega) (by omega)]
 rw[aP.E8 (by omega) (by omega) (by omega)]
 refine W.fv a.af.length (fun k=>⟨[(1,.ptr 1 0),(3,.func 46 [.ptr 1 0]),(22,.pv (.aq t (a.af.map Edge.c))),(23,.pv (.int .i64 a.af.length)),(24,.pv (.int .i64 k))],⟨[(1,[.pv (.int .i64 a.aj),.pv (.int .i64 a.start),.pv (.aq t (a.af.map Edge.c))])],[],[]⟩⟩) (fun k=>sF a.aj none a.af=sF a.aj (pI a.af k) (a.af.drop k)) rfl rfl fun k hk hi=>?_
 simp(disch:=omega)only[go_sem]
 refine Br.aJ (fun h=>?_) (fun h=>?_)
 .obtain⟨e,he⟩:=get_at (l:=a.af) (k:=k) (by omega)
  rw[fL he]at hi
  have bad:e.fits a.aj=false->sF a.aj none a.af=false:=fun hb=>hi.trans (E9 hb)
  rw[BR]at bad
  simp(disch:=omega)only[go_sem,he]
  refine Br.of (fun g1=>?_) (fun g1=>?_)<;>simp(disch:=omega)only[go_sem,g1]
  case refine_2=>rw[bad (by rw[g1]; rfl)]; rfl
  refine Br.of (fun g2=>?_) (fun g2=>?_)<;>simp(disch:=omega)only[go_sem,g2]
  case refine_2=>rw[bad (by rw[g1,g2]; rfl)]; rfl
  refine Br.aJ (fun g3=>?_) (fun g3=>?_)<;>simp(disch:=omega)only[go_sem,g3]
  .rw[bad (by simp; omega)]; rfl
  refine Br.aJ (fun g4=>?_) (fun g4=>?_)<;>simp(disch:=omega)only[go_sem,g4]
  .rw[bad (by simp; omega)]; rfl
  have fit:e.fits a.aj=true:=by rw[BR,g1,g2]; simp; omega
  refine Br.aJ (fun g7=>?_) (fun g7=>?_)<;>simp(disch:=omega)only[go_sem,g7]
  .obtain⟨j,rfl⟩:∃j,k=j+1:=⟨k - 1,by omega⟩
   obtain⟨d,hd⟩:=get_at (l:=a.af) (k:=j) (by omega)
   have hj:((j+1:Nat):Int) - 1=(j:Int):=by omega
   rw[fp,hd]at hi
   simp(disch:=omega)only[go_sem,hj,hd,Edge.Kv]
   refine Br.of (fun g8=>?_) (fun g8=>?_)<;>simp(disch:=omega)only[go_sem]
   .exact .of (by omega) rfl (by rw[hi,fp,he]; simp[sF,fit,g8])
   .rw[hi]; simp[sF,g8]
  .obtain rfl:k=0:=by omega
   exact .of (by omega) rfl (by rw[hi,fp,he]; simp[sF,fit,pI])
 .simp(disch:=omega)only[go_sem]
  rw[hi,jK h]
  rfl
def cO (s:Int) (d:Bool) (x:Int):List Edge->Option Int
 |[]=>none
 |e::r=>if e.fr=s/\e.send=d/\e.label=x then some e.to else cO s d x r
@[go_sem] theorem r45 (t:Nat) (a:aP) (s:Int) (d:Bool) (x:Int) (hl:a.af.length<=2^63 - 1):
  res A aA 45 [.agg [.int .i64 a.aj,.int .i64 a.start,.aq t (a.af.map Edge.c)],.int .i64 s,.bool d,.int .i64 x]=some [.int .i64 ((cO s d x a.af).getD 0),.bool (cO s d x a.af).isSome]:=by
 refine aw a45 rfl rfl ?_
 simp only[F45,Uj]
 simp(disch:=omega)only[go_sem]
 refine W.fv a.af.length (fun k=>⟨[(1,.pv (.int .i64 s)),(2,.pv (.bool d)),(3,.pv (.int .i64 x)),(13,.pv (.aq t (a.af.map Edge.c))),(14,.pv (.int .i64 a.af.length)),(15,.pv (.int .i64 k))],⟨[],[],[]⟩⟩) (fun k=>cO s d x a.af=cO s d x (a.af.drop k)) rfl rfl fun k hk hi=>?_
 simp(disch:=omega)only[go_sem]
 refine Br.aJ (fun h=>?_) (fun h=>?_)
 .obtain⟨e,he⟩:=get_at (l:=a.af) (k:=k) (by omega)
  rw[fL he]at hi
  have no:¬(e.fr=s/\e.send=d/\e.label=x)->cO s d x a.af=cO s d x (a.af.drop (k+1)):=fun hn=>hi.trans (by simp only[cO,if_neg hn])
  have yes:(e.fr=s/\e.send=d/\e.label=x)->cO s d x a.af=some e.to:=fun hn=>hi.trans (by simp only[cO,if_pos hn])
  simp(disch:=omega)only[go_sem,he]
  refine Br.aJ (fun g1=>?_) (fun g1=>?_)<;>simp(disch:=omega)only[go_sem,g1]
  .refine Br.aJ (fun g2=>?_) (fun g2=>?_)<;>simp(disch:=omega)only[go_sem,g2]
   .refine Br.aJ (fun g3=>?_) (fun g3=>?_)<;>simp(disch:=omega)only[go_sem,g3]
    .rw[yes ⟨g1,g2,g3⟩]
     rfl
    .exact .of (by omega) rfl (no (fun hn=>g3 hn.2.2))
   .exact .of (by omega) rfl (no (fun hn=>g2 hn.2.1))
  .exact .of (by omega) rfl (no (fun hn=>g1 hn.1))
 .simp(disch:=omega)only[go_sem]
  rw[hi,jK h]
  rfl
@[go_sem] theorem r39 (t:Nat) (a:aP) (s:Int) (d:Bool) (x:Int) (hl:a.af.length<=2^63 - 1):
  res A aA 39 [.agg [.int .i64 a.aj,.int .i64 a.start,.aq t (a.af.map Edge.c)],.int .i64 s,.bool d,.int .i64 x]=some [.int .i64 ((cO s d x a.af).getD 0),.bool (cO s d x a.af).isSome]:=by
 refine aw a39 rfl rfl ?_
 simp only[F39,Ug]
 simp(disch:=omega)only[go_sem]
 refine W.fv a.af.length (fun k=>⟨[(1,.pv (.int .i64 s)),(2,.pv (.bool d)),(3,.pv (.int .i64 x)),(4,.ptr 4 0),(10,.pv (.int .i64 k))],⟨[(4,[.pv (.int .i64 a.aj),.pv (.int .i64 a.start),.pv (.aq t (a.af.map Edge.c))])],[],[]⟩⟩) (fun k=>cO s d x a.af=cO s d x (a.af.drop k)) rfl rfl fun k hk hi=>?_
 simp(disch:=omega)only[go_sem]
 refine Br.aJ (fun h=>?_) (fun h=>?_)
 .obtain⟨e,he⟩:=get_at (l:=a.af) (k:=k) (by omega)
  rw[fL he]at hi
  have no:¬(e.fr=s/\e.send=d/\e.label=x)->cO s d x a.af=cO s d x (a.af.drop (k+1)):=fun hn=>hi.trans (by simp only[cO,if_neg hn])
  have yes:(e.fr=s/\e.send=d/\e.label=x)->cO s d x a.af=some e.to:=fun hn=>hi.trans (by simp only[cO,if_pos hn])
  simp(disch:=omega)only[go_sem,he]
  refine Br.aJ (fun g1=>?_) (fun g1=>?_)<;>simp(disch:=omega)only[go_sem,g1]
  .refine Br.aJ (fun g2=>?_) (fun g2=>?_)<;>simp(disch:=omega)only[go_sem,g2]
   .refine Br.aJ (fun g3=>?_) (fun g3=>?_)<;>simp(disch:=omega)only[go_sem,g3]
    .rw[yes ⟨g1,g2,g3⟩]
     rfl
    .exact .of (by omega) rfl (no (fun hn=>g3 hn.2.2))
   .exact .of (by omega) rfl (no (fun hn=>g2 hn.2.1))
  .exact .of (by omega) rfl (no (fun hn=>g1 hn.1))
 .simp(disch:=omega)only[go_sem]
  rw[hi,jK h]
  rfl
def Fa (s:Int):List Edge->Bool
 |[]=>true
 |e::r=>if e.fr=s then false else Fa s r
def AA (es:List Edge):Nat->List Int
 |0=>[]
 |k+1=>if Fa k es then AA es k++[(k:Int)] else AA es k
def aP.ends (a:aP):List Int:=if a.aj<=12 then AA a.af a.aj.toNat else []
def abH (x:Int):Nat->List Int->Int
 |_,[]=> -1
 |k,y::r=>if y=x then k else abH x (k+1) r
def jM (x:Int) (l:List Int):Int:=abH x 0 l
@[go_sem] theorem r53 (t:Nat) (l:List Int) (x:Int) (hl:l.length<=2^63 - 1):res A aA 53 [.aq t (ints l),.int .i64 x]=some [.int .i64 (jM x l)]:=by
 refine aw a53 rfl rfl ?_
 simp only[F53,Uo]
 simp(disch:=omega)only[go_sem]
 refine W.fv l.length (fun k=>⟨[(0,.pv (.aq t (ints l))),(1,.pv (.int .i64 x)),(5,.pv (.int .i64 k))],⟨[],[],[]⟩⟩) (fun k=>jM x l=abH x k (l.drop k)) rfl rfl fun k hk hi=>?_
 simp(disch:=omega)only[go_sem]
 refine Br.aJ (fun h=>?_) (fun h=>?_)
 .obtain⟨y,hy⟩:=get_at (l:=l) (k:=k) (by omega)
  rw[fL hy]at hi
  simp(disch:=omega)only[go_sem,hy]
  refine Br.aJ (fun g1=>?_) (fun g1=>?_)<;>simp(disch:=omega)only[go_sem,g1]
  .rw[hi]
   simp only[abH,if_pos g1]
  .exact .of (by omega) rfl (hi.trans (by simp only[abH,if_neg g1]))
 .simp(disch:=omega)only[go_sem]
  rw[hi,jK h]
  rfl
def afQ:List Int->List Int
 |[]=>[]
 |[x]=>[x]
 |x::y::r=>if x=y then afQ (y::r) else x::afQ (y::r)
@[go_sem] theorem Ms (a b c d:Nat):distinct (dT [.own a b c d])=true:=rfl
@[go_sem] theorem aeN (bx:List (Nat×List V)) (mp:List (List (PV×PV))) (ar:List aL) (v n:Nat) (l:List Int):keep ⟨bx,⟨v,1,.inl (ints l)⟩::ar,mp⟩ true (.own 0 v 0 n)=some (.fr 1 (ints (l.take n))):=by
 simp[keep,eM,aB,ints]
@[go_sem] theorem aeY (bx:List (Nat×List V)) (mp:List (List (PV×PV))) (ar:List aL) (v off len:Nat) (l:List Int) (h:off+len<=l.length):JZ ⟨bx,⟨v,1,.inl (ints l)⟩::ar,mp⟩ 1 [.pv (.int .i64 0)] (.own 0 v off len)=
  some (.dy [],{ ar:=some (0,⟨v,1,.inl (ints (l.take off++List.replicate len 0++l.drop (off+len)))⟩) }):=by
 simp[JZ,aB,ay,V.bS,PV.perm,ints,h]
theorem r104_small (l:List Int) (h1:l.length<2):res A aA 104 [.fr 1 (ints l)]=some [.fr 1 (ints l)]:=by
 refine aw a104 rfl rfl ?_
 simp only[F104,Rr]
 have h2:((l.length:Nat):Int)<2:=by omega
 simp(disch:=omega)only[go_sem,h2,List.take_length]
theorem acG (l:List Int) (x y:Int) (k:Nat) (hx:l[k]?=some x) (hy:l[k+1]?=some y):afQ (l.take (k+2))=if x=y then afQ (l.take (k+1)) else afQ (l.take (k+1))++[y]:=by
 induction l generalizing k with
 |nil=>simp at hx
 |cons z l ih=>
  cases k with
  |zero=>
   simp at hx hy
   subst hx
   match l,hy with
   |w::r,hy=>
    simp at hy
    subst hy
    simp only[Nat.zero_add,List.take_succ_cons,List.take_zero,afQ]
    split
    .rename_i hzw
     rw[hzw]
    .rfl
  |succ k=>
   simp at hx hy
   have:=ih k hx hy
   match l,hx with
   |w::r,hx=>
    simp only[List.take_succ_cons,afQ]at this |-
    split
    .exact this
    .rw[this]
     split<;>simp
theorem aet (c l:List Int) (v:Int) (h:c.length<l.length):(c++l.drop c.length).set c.length v=(c++[v])++l.drop (c++[v]).length:=by
 rw[afB _ _ (Wj _),afA,WK]
 have:(c++[v]).length=c.length+1:=by simp
 rw[this,aft h]
 rfl
theorem r104_big (l:List Int) (h1:2<=l.length) (h0:l.length<=2000000000):res A aA 104 [.fr 1 (ints l)]=some [.fr 1 (ints (afQ l))]:=by
 refine aw a104 rfl rfl ?_
 simp only[F104,Rr]
 have h2:¬((l.length:Nat):Int)<2:=by omega
 simp(disch:=omega)only[go_sem,h2]
 refine W.fv (l.length - 1) (fun j=>⟨[(0,.own 0 0 0 l.length),(3,.pv (.int .i64 (j+1:Nat)))],⟨[],[⟨0,1,.inl (ints l)⟩],[]⟩⟩) (fun j=>afQ (l.take (j+1))=l.take (j+1)) rfl ?_ fun j hj hi=>?_
 .match l,h1 with
  |x::r,_=>rfl
 have e1:((j+1:Nat):Int) - 1=(j:Int):=by omega
 simp(disch:=omega)only[go_sem]
 refine Br.aJ (fun h=>?_) (fun h=>?_)
 .obtain⟨x,hx⟩:=get_at (l:=l) (k:=j) (by omega)
  obtain⟨y,hy⟩:=get_at (l:=l) (k:=j+1) (by omega)
  have hs:=acG l x y j hx hy
  simp(disch:=omega)only[go_sem,e1,hx,hy]
  refine Br.aJ (fun g=>?_) (fun g=>?_)
  case refine_2=>
   simp(disch:=omega)only[go_sem,g]
   refine .of (by omega) rfl ?_
   rw[hs,if_neg (fun hc=>g hc.symm),hi,WL (i:=j+1),hy]
   rfl
  simp(disch:=omega)only[go_sem,g]
  have hc0:afQ (l.take (j+2))=l.take (j+1):=by rw[hs,if_pos g.symm,hi]
  refine W.fv (l.length - (j+2)) (fun i=>⟨[(0,.own 0 0 0 l.length),(3,.pv (.int .i64 (afQ (l.take (j+2+i))).length)),(4,.own 0 0 (j+1) (l.length - (j+1))),(5,.pv (.int .i64 (i+1:Nat)))],⟨[],[⟨0,1,.inl (ints (afQ (l.take (j+2+i))++l.drop (afQ (l.take (j+2+i))).length))⟩],[]⟩⟩)
   (fun i=>(afQ (l.take (j+2+i))).length<=j+1+i) ?_ ?_ fun i hj2 hw=>?_
  .simp only[Nat.add_zero,hc0,List.length_take]
   rw[afF (by omega),XG]
   rfl
  .simp only[Nat.add_zero,hc0,List.length_take]
   omega
  have hkeep:∀q,(afQ (l.take (j+2+i))).length<=q->(afQ (l.take (j+2+i))++l.drop (afQ (l.take (j+2+i))).length)[q]?=l[q]?:=fun q hq=>by
   rw[Wn hq,WQ]
   congr 1
   omega
  simp(disch:=omega)only[go_sem]
  refine Br.aJ (fun f=>?_) (fun f=>?_)
  .obtain⟨u,hu⟩:=get_at (l:=l) (k:=j+1+i) (by omega)
   obtain⟨v,hv⟩:=get_at (l:=l) (k:=j+1+i+1) (by omega)
   have hst:=acG l u v (j+1+i) hu hv
   have k1:=(hkeep (j+1+i) hw).trans hu
   have k2:=(hkeep (j+1+i+1) (by omega)).trans hv
   have e3:((i+1:Nat):Int) - 1=(i:Int):=by omega
   have e4:j+1+(i+1)=j+1+i+1:=by omega
   have e5:j+1+i+2=j+2+(i+1):=by omega
   have e6:j+1+i+1=j+2+i:=by omega
   rw[e5,e6]at hst
   simp(disch:=omega)only[go_sem,e3,e4,k1,k2]
   refine Br.aJ (fun g3=>?_) (fun g3=>?_)
   .simp(disch:=omega)only[go_sem,g3]
    rw[if_pos g3.symm]at hst
    refine .of (by omega) ?_ ?_
    .show _=St.mk _ _
     rw[hst]
     rfl
    .show (afQ _).length<=_
     rw[hst]
     omega
   .have hln:(afQ (l.take (j+2+i))++l.drop (afQ (l.take (j+2+i))).length).length=l.length:=by simp; omega
    rw[if_neg (fun hc=>g3 hc.symm)]at hst
    simp(disch:=omega)only[go_sem,g3,e4,k2]
    refine .of (by omega) ?_ ?_
    .show _=St.mk _ _
     rw[hst,aet _ _ _ (by omega),Wz]
     rfl
    .show (afQ _).length<=_
     rw[hst,Wz]
     simp
     omega
  .have hln:(afQ (l.take (j+2+i))++l.drop (afQ (l.take (j+2+i))).length).length=l.length:=by simp; omega
   have hall:afQ (l.take (j+2+i))=afQ l:=by rw[Wq (by omega)]
   rw[hall]at hln hw |-
   simp(disch:=omega)only[go_sem]
   rw[List.append_assoc,List.take_append_of_le_length (by simp),List.take_take,Nat.min_self,List.take_append_of_le_length (Nat.le_refl _),List.take_length]
 .simp(disch:=omega)only[go_sem]
  rw[Wq (by omega)]at hi
  rw[WV,hi]
inductive AB where
 |e
 |a (x:Int) (l:List Int)
 |b (x:Int) (l:List Int)
 |ab (x:Int) (l:List Int) (y:Int) (r:List Int)
 |ba (x:Int) (l:List Int) (y:Int) (r:List Int)
def ow (i:Nat) (l:List Int):V:=.own i l.length 0 (l.length+1)
def ao (x:Int) (l:List Int):aL:=⟨l.length,1,.inl (ints (x::l))⟩
def AB.v0:AB->V
 |.e|.b _ _=>.tl []
 |.a _ l|.ab _ l _ _=>ow 0 l
 |.ba _ l _ _=>ow 1 l
def AB.v1:AB->V
 |.e|.a _ _=>.tl []
 |.b _ l|.ba _ _ _ l=>ow 0 l
 |.ab _ _ _ r=>ow 1 r
def AB.ar:AB->List aL
 |.e=>[]
 |.a x l|.b x l=>[ao x l]
 |.ab x l y r=>[ao x l,ao y r]
 |.ba x l y r=>[ao y r,ao x l]
def AB.l0:AB->List Int
 |.e|.b _ _=>[]
 |.a x l|.ab x l _ _|.ba x l _ _=>x::l
def AB.l1:AB->List Int
 |.e|.a _ _=>[]
 |.b x l|.ab _ _ x l|.ba _ _ x l=>x::l
def AB.put (s:Bool) (z:Int):AB->AB
 |.e=>if s then .b z [] else .a z []
 |.a x l=>if s then .ab x l z [] else .a x (l++[z])
 |.b x l=>if s then .b x (l++[z]) else .ba z [] x l
 |.ab x l y r=>if s then .ab x l y (r++[z]) else .ab x (l++[z]) y r
 |.ba x l y r=>if s then .ba x l y (r++[z]) else .ba x (l++[z]) y r
def AB.len (t:AB):Nat:=t.l0.length+t.l1.length
def adF (id ax off len : Nat) (a : aL) : Option (V × Tn) :=
 if len = 0 then some (.dy [],{ ra := some id }) else (match a.body with
    | .inl rows => if a.k = 1 /\ off + len <= rows.length /\ len <= aN then (match ay sE ((rows.drop off).take len) with
     | some l => some (.dy [],{ ar := some (id,⟨ax,1,.inl (rows.take off ++ (dp Gz l).map (fun x => [.int .i64 x]) ++ rows.drop (off + len))⟩) })
     | none => none) else none
    | .inr _ => none)
@[go_sem] theorem Pc (h:aa):gL [.tl []] h=some (.dy [],{}):=rfl
@[go_sem] theorem aeO (h:aa) (id ax off len:Nat):gL [.own id ax off len] h=(aB h id ax).bind (adF id ax off len):=by
 simp only[gL]
 cases aB h id ax<;>rfl
@[go_sem] theorem aeE {id ax n:Nat} {l:List Int} (hn:n=l.length) (h0:n≠0) (hm:n<=2147483648):adF id ax 0 n ⟨ax,1,.inl (ints l)⟩=some (.dy [],{ ar:=some (id,⟨ax,1,.inl (ints (dp Gz l))⟩) }):=by
 subst hn
 have e1:(ints l).length=l.length:=bt l
 simp[adF,h0,e1,aN,hm,acE,List.take_of_length_le (Nat.le_of_eq e1),List.drop_eq_nil_of_le (Nat.le_of_eq e1)]
 rfl
def BS (id ax len:Nat) (a:aL):Option (List PV×Option (Nat×aL)):=
 if a.size=len/\a.k≠0 then (match a.body with
   |.inl rows=>some ([.fr a.k rows],some (id,⟨ax+1,0,.inl []⟩))
   |.inr _=>none) else none
@[go_sem] theorem aeF (h:aa) (id ax len:Nat):ca h true [.own id ax 0 len]=(aB h id ax).bind (BS id ax len):=by
 simp only[ca,cb]
 cases aB h id ax with
 |none=>rfl
 |some a=>
  simp only[Option.bind_some,if_true,BS]
  by_cases hc:a.size=len/\a.k≠0
  .cases hb:a.body<;>simp[hc,ay]
  .simp[hc]
@[go_sem] theorem aeP {id ax v len:Nat} {l:List Int} (hn:len=l.length):BS id ax len ⟨v,1,.inl (ints l)⟩=some ([.fr 1 (ints l)],some (id,⟨ax+1,0,.inl []⟩)):=by
 subst hn
 simp[BS,aL.size,bt]
theorem adh:∀{l:List Int},l.length<2->afQ l=l
 |[],_=>rfl
 |[_],_=>rfl
 |_::_::_,h=>by simp at h; omega
@[go_sem] theorem r104 (l:List Int) (h0:l.length<=2000000000):res A aA 104 [.fr 1 (ints l)]=some [.fr 1 (ints (afQ l))]:=by
 rcases Wh l.length 2 with h|h
 .rw[r104_small l h,adh h]
 .exact r104_big l h h0
@[go_sem] theorem r104_nil:res A aA 104 [.aq 0 []]=some [.aq 0 []]:=by
 refine aw a104 rfl rfl ?_
 simp only[F104,Rr]
 have h2:(((0:Nat):Nat):Int)<2:=by omega
 simp(disch:=omega)only[go_sem,h2]
 rfl
@[go_sem] theorem acx (l:List Int):(dp Gz l).length=l.length:=(dc Gz l).length_eq
theorem acS:∀{l:List Int} {x:Int},x∈afQ l↔x∈l
 |[],_=>by simp[afQ]
 |[y],_=>by simp[afQ]
 |y::z::r,x=>by
  have ih:=acS (l:=z::r) (x:=x)
  unfold afQ
  split
  .rename_i h
   subst h
   rw[ih]
   simp
  .simp only[List.mem_cons]at ih |-
   rw[ih]
theorem acT:∀l:List Int,(afQ l).length<=l.length
 |[]=>Wj _
 |[_]=>Wj _
 |x::y::r=>by
  have:=acT (y::r)
  unfold afQ
  split<;>simp at *<;>omega
def acU (l:List Int):List Int:=afQ (dp Gz l)
theorem adS (l:List Int):(acU l).length<=l.length:=by
 have:=acT (dp Gz l)
 rw[acx]at this
 exact this
theorem acV {l:List Int} {x:Int}:x∈acU l↔x∈l:=by
 unfold acU
 rw[acS,(dc Gz l).mem_iff]
theorem sT {x:Int}:∀{l:List Int} {k:Nat},abH x k l<0↔x∉l
 |[],k=>by simp[abH]
 |y::r,k=>by
  unfold abH
  split
  .rename_i h
   subst h
   simp
  .rename_i h
   rw[sT]
   simp only[List.mem_cons,not_or]
   exact⟨fun h2=>⟨fun e=>h e.symm,h2⟩,fun h2=>h2.2⟩
theorem oD {x:Int} {l:List Int}:jM x l<0↔x∉l:=sT
theorem rp {x:Int} {l:List Int}:0<=jM x l↔x∈l:=by
 rw[<- Int.not_lt,oD]
 simp
def BT (l:List Cal):List Int:=l.flatMap fun c=>[c.ud,c.rep]
def UP (l:List gI):List Int:=l.map (·.ty)
def HB (l:List eE):List Int:=l.flatMap fun w=>UP w.msgs
def HC (l:List Tpc):List Int:=l.map (·.ty)
def afY (v:ij):List Int:=BT v.calls++HB v.aG++HC v.aT
theorem acj {α:Type} (f:α->List Int) (l:List α) (k:Nat):((l.take k).flatMap f).length<=(l.flatMap f).length:=by
 have:=congrArg List.length (congrArg (List.flatMap f) (XG k l))
 rw[List.flatMap_append,Wz]at this
 omega
theorem acy {α:Type} (f:α->List Int) {l:List α} {k:Nat} {x:α} (h:l[k]?=some x):(l.take (k+1)).flatMap f=(l.take k).flatMap f++f x:=by
 rw[WL,h,List.flatMap_append]
 simp
def ack (u:List Bool) (l:List Int):List Bool:=l.foldl (fun u x=>u.set x.toNat true) u
noncomputable def acD (T:List aH) (R:List Int):List Bool:=R.foldl (fun u r=>ack u (afS T r).1) (List.replicate T.length false)
def ab2 (U:List Bool) (k:Nat):List Nat:=(List.range k).filter fun i=>U.getD i false
def abN (U:List Bool) (k:Nat):List Int:=(ab2 U k).map fun(i:Nat)=>(i:Int)
def aci (U:List Bool) (n k:Nat):List Int:=(List.range n).map fun j=>if j<k then ((ab2 U j).length:Int) else 0
theorem acW (l:List Int):∀u:List Bool,(ack u l).length=u.length:=by
 induction l with
 |nil=>intro u; rfl
 |cons x l ih=>
  intro u
  show (ack (u.set x.toNat true) l).length=_
  rw[ih,Xx]
theorem adT (l:List Int):∀(u:List Bool) (i:Nat),(∀x∈l,0<=x/\x<u.length)->((ack u l).getD i false=true↔u.getD i false=true\/(i:Int)∈l):=by
 induction l with
 |nil=>intro u i _; simp[ack]
 |cons x l ih=>
  intro u i h
  have h0:=h x WH
  show ((ack (u.set x.toNat true) l).getD i false=true↔_)
  rw[ih _ _ fun y hy=>by rw[Xx]; exact h y (W3 _ hy),WG,Ws,afz,Ws]
  by_cases e:x.toNat=i
  .rw[if_pos e,if_pos (by omega)]
   have:(i:Int)=x:=by omega
   simp[this]
  .rw[if_neg e]
   have:¬(i:Int)=x:=by omega
   simp[this]
theorem adU (T:List aH) (R:List Int):∀u:List Bool,(R.foldl (fun u r=>ack u (afS T r).1) u).length=u.length:=by
 induction R with
 |nil=>intro u; rfl
 |cons r R ih=>
  intro u
  rw[Xp,ih,acW]
theorem acX (T:List aH) (R:List Int):(acD T R).length=T.length:=by
 unfold acD
 rw[adU,XV]
theorem adV (T:List aH) (R:List Int):∀(u:List Bool) (i:Nat),u.length=T.length->(∀r∈R,∀x∈(afS T r).1,inT T x)->((R.foldl (fun u r=>ack u (afS T r).1) u).getD i false=true↔u.getD i false=true\/∃r∈R,(i:Int)∈(afS T r).1):=by
 induction R with
 |nil=>intro u i _ _; simp
 |cons r R ih=>
  intro u i hl h
  have h1:=adT (afS T r).1 u i fun x hx=>by rw[hl]; exact h r WH x hx
  rw[Xp,ih _ _ (by rw[acW,hl]) fun s hs=>h s (W3 _ hs),h1]
  simp only[List.mem_cons,exists_eq_or_imp]
  exact or_assoc
theorem adW {T:List aH} {R:List Int} (h:∀r∈R,∀x∈(afS T r).1,inT T x) (i:Nat):(acD T R).getD i false=true↔∃r∈R,(i:Int)∈(afS T r).1:=by
 unfold acD
 rw[adV T R _ i XV h]
 have:(List.replicate T.length false).getD i false=false:=by
  rw[Ws,XA]
  split<;>rfl
 rw[this]
 simp
theorem acH (U:List Bool) (k:Nat):ab2 U (k+1)=if U.getD k false=true then ab2 U k++[k] else ab2 U k:=by
 unfold ab2
 rw[Xq,List.filter_append]
 by_cases h:U.getD k false=true
 .rw[if_pos h]
  simp only[List.filter_cons,h,if_true,List.filter_nil]
 .rw[if_neg h]
  simp only[List.filter_cons,h,if_false,List.filter_nil,List.append_nil,Bool.false_eq_true]
theorem acY {U:List Bool} {k i:Nat}:i∈ab2 U k↔i<k/\U.getD i false=true:=by
 simp[ab2,List.mem_filter]
theorem acZ {U:List Bool} {k:Nat} {u:Int}:u∈abN U k↔0<=u/\u<k/\U.getD u.toNat false=true:=by
 unfold abN
 rw[Wk]
 constructor
 .rintro ⟨i,hi,rfl⟩
  have:=acY.1 hi
  rw[WX]
  exact⟨by omega,by omega,this.2⟩
 .rintro ⟨h1,h2,h3⟩
  exact⟨u.toNat,acY.2 ⟨by omega,h3⟩,by omega⟩
theorem acg (U:List Bool) (k:Nat):(ab2 U k).length<=k:=by
 unfold ab2
 have:=XW (fun i=>U.getD i false) (List.range k)
 rw[WI]at this
 exact this
theorem adi (U:List Bool):∀(k i:Nat),i<k->U.getD i false=true->afX (abN U k) (i:Int)=(ab2 U i).length
 |0,i,h,_=>absurd h (Xo _)
 |k+1,i,h,hu=>by
  have hs:abN U (k+1)=if U.getD k false=true then abN U k++[(k:Int)] else abN U k:=by
   unfold abN
   rw[acH]
   split<;>simp
  rw[hs]
  by_cases e:i=k
  .subst e
   rw[if_pos hu,adR]
   .simp[abN]
   .intro hm
    have:=(acZ.1 hm).2.1
    omega
  .have ih:=adi U k i (by omega) hu
   split
   .rw[ac4 (by omega)]
    exact ih
   .exact ih
theorem adj (U:List Bool) (n k:Nat):(aci U n k).length=n:=by simp[aci]
theorem adX (U:List Bool) (n:Nat):aci U n 0=List.replicate n 0:=by
 apply afC
 .simp[aci]
 .intro i h1 h2
  simp[aci]
theorem aee (U:List Bool) (n k:Nat):(aci U n k).set k ((ab2 U k).length:Int)=aci U n (k+1):=by
 apply afC
 .simp[aci]
 .intro i h1 h2
  rw[List.getElem_set]
  by_cases h:k=i
  .subst h
   simp[aci]
  .have:(i<k+1)=(i<k):=by rw[eq_iff_iff]; omega
   simp[aci,h,this]
theorem aef {U:List Bool} {n:Nat} {u:Int} (h0:0<=u) (h1:u<n) (hu:U.getD u.toNat false=true):(aci U n n)[u.toNat]?=some (afX (abN U n) u):=by
 have hk:=adi U n u.toNat (by omega) hu
 rw[aby h0]at hk
 have hl:u.toNat<n:=by omega
 unfold aci
 rw[Wf,Xr hl,afx,if_pos hl,hk]
noncomputable def ab5 (v:ij):List Bool:=acD v.types (acU (afY v))
noncomputable def afM (v:ij):List Int:=abN (ab5 v) v.types.length
def afN (L:List Int) (c:Cal):Cal:=⟨c.name,afX L c.ud,afX L c.rep⟩
def afT (L:List Int) (c:Tpc):Tpc:=⟨c.name,afX L c.ty⟩
def abM (L:List Int) (m:gI):gI:=⟨m.id,m.name,afX L m.ty⟩
def afR (L:List Int) (w:eE):eE:=⟨w.name,w.msgs.map (abM L),w.auto⟩
noncomputable def afH (v:ij):ij:=⟨v.name,(afM v).map fun u=>af0 (afM v) (ji v.types u),v.calls.map (afN (afM v)),v.aG.map (afR (afM v)),v.aT.map (afT (afM v))⟩
theorem adk {T:List aH} {r:Int} (hv:cS T=0) (h0:0<=r) (h1:r<T.length):r∈(afS T r).1:=by
 have hk:abL T r=0:=by
  unfold abL
  rw[hv]
  have:dP T.length r=false:=by
   simp[dP]
   omega
  simp[this]
 unfold afS
 rw[if_neg (by simp[hk])]
 refine(dc Gz _).mem_iff.2 ?_
 unfold ab7
 rw[Hv (P:=inT T) (eZ hv).next abI ⟨h0,h1⟩]
 exact .refl
theorem adl {T:List aH} {r u x:Int} (hu:u∈(afS T r).1) (hx:x∈cT (ji T u)):x∈(afS T r).1:=by
 unfold afS at hu |-
 split at hu
 .simp at hu
 .rename_i h1
  have hk:abL T r=0:=by simpa using h1
  rw[if_neg h1]
  obtain⟨hv,h0,h2⟩:=acm hk
  have hP:=(eZ hv).next
  refine(dc Gz _).mem_iff.2 ?_
  have hu:=(dc Gz _).mem_iff.1 hu
  unfold ab7 at *
  rw[Hv (P:=inT T) hP abI ⟨h0,h2⟩]at *
  exact .step hu hx
theorem aco {T:List aH} {r:Int}:∀x∈(afS T r).1,inT T x:=by
 intro x hx
 unfold afS at hx
 split at hx
 .simp at hx
 .rename_i h1
  have hk:abL T r=0:=by simpa using h1
  exact(acR hk).2 x ((dc Gz _).mem_iff.1 hx)
def Used (v:ij) (u:Int):Prop:=0<=u/\u<v.types.length/\(ab5 v).getD u.toNat false=true
theorem adY (v:ij):(ab5 v).length=v.types.length:=acX _ _
theorem af9 {v:ij} {u:Int}:u∈afM v↔Used v u:=by
 unfold afM Used
 rw[acZ]
theorem acb {v:ij} {u:Int} (h0:0<=u):(ab5 v).getD u.toNat false=true↔∃r∈afY v,u∈(afS v.types r).1:=by
 unfold ab5
 rw[adW fun r _ x hx=>aco x hx,aby h0]
 simp only[acV]
theorem acz {v:ij} (hv:cS v.types=0) (hr:∀r∈afY v,0<=r/\r<v.types.length):∀r∈afY v,Used v r:=fun r h=>⟨(hr r h).1,(hr r h).2,(acb (hr r h).1).2 ⟨r,h,adk hv (hr r h).1 (hr r h).2⟩⟩
theorem ac1 {v:ij} {u x:Int} (hu:Used v u) (hx:x∈cT (ji v.types u)):Used v x:=by
 obtain⟨h0,h1,h2⟩:=hu
 obtain⟨r,hr,hm⟩:=(acb h0).1 h2
 have:=adl hm hx
 obtain⟨g0,g1⟩:=aco x this
 exact⟨g0,g1,(acb g0).2 ⟨r,hr,this⟩⟩
@[go_sem] theorem Pd (g:bJ->V) (h:aa) (k t:Nat) (rows:List (List PV)) (hi:bJ):
  di g h k (.pv (.aq t rows)) none (some hi) none=if aO k (.inl rows)=true then (intOf (g hi)).bind fun i=>Ah i rows.length (.pv (.aq t (rows.take i.toNat)),{}) else none:=by
 cases hf:aO k (.inl rows)with
 |false=>simp[di,hf]
 |true=>
  cases hj:intOf (g hi)with
  |none=>simp[di,hf,bounds,bound,hj]
  |some i=>by_cases h0:0<=i/\i<=rows.length<;>simp[di,hf,bounds,bound,hj,h0,Ah]
def lB (t u x y:Nat) (v:ij):List PV:=[.str v.name,.aq t (v.types.map aH.c),.aq u (ch v.calls),.aq x (aG v.aG),.aq y (df v.aT)]
theorem r447 (t:Nat) (w:Cal) (nm:ByteArray):res A aA 447 [.agg w.c,.ro t [.str nm]]=some [.bool (decide (w.name=nm))]:=by
 refine aw a447 rfl rfl ?_
 simp only[F447,Ll]
 simp(disch:=omega)only[go_sem]
theorem r446 (t u:Nat) (l:List Cal) (nm:ByteArray) (hl:l.length<=2^63 - 1):res A aA 446 [.aq t (ch l),.func 447 [.ro u [.str nm]]]=some [.int .i64 (qO (fun w=>decide (w.name=nm)) l)]:=by
 refine aw a446 rfl rfl ?_
 simp only[F446,Lk]
 simp(disch:=omega)only[go_sem]
 refine W.fv l.length (fun k=>⟨[(0,.pv (.aq t (ch l))),(1,.pv (.func 447 [.ro u [.str nm]])),(7,.pv (.int .i64 l.length)),(8,.pv (.int .i64 k))],⟨[],[],[]⟩⟩) (fun k=>∀(i:Nat) (w:Cal),i<k->l[i]?=some w->decide (w.name=nm)=false) rfl (fun i w hi=>absurd hi (by omega)) fun k hk hi=>?_
 simp(disch:=omega)only[go_sem]
 refine Br.aJ (fun c1=>?_) (fun c1=>?_)
 .obtain⟨w,hw⟩:=get_some (l:=l) (k:=k) (by omega)
  have h447:=fun t=>r447 t w nm
  simp only[Cal.c]at h447
  cases hd:decide (w.name=nm)with
  |true=>
   rw[hd]at h447
   simp(disch:=omega)only[go_sem,hw,Option.map_some,h447]
   unfold qO
   rw[wv hw hd hi]
  |false=>
   rw[hd]at h447
   simp(disch:=omega)only[go_sem,hw,Option.map_some,h447]
   exact .of (by omega) rfl (sH hw hi hd)
 .simp(disch:=omega)only[go_sem]
  unfold qO
  rw[wx (pJ (k:=k) (by omega) hi)]
def Mt (o:Option Cal):List PV:=match o with
 |some w=>[.agg w.c,.bool true]
 |none=>[.agg [.str ⟨#[]⟩,.int .i64 0,.int .i64 0],.bool false]
theorem r410 (t u x y:Nat) (v:ij) (nm:ByteArray) (hl:v.calls.length<=2^63 - 1):res A aA 410 [.agg (lB t u x y v),.str nm]=some (Mt (jf (fun w=>decide (w.name=nm)) v.calls)):=by
 refine aw a410 rfl rfl ?_
 simp only[F410,K9,lB]
 have h446:=fun t u=>r446 t u v.calls nm hl
 unfold qO at h446
 unfold jf
 cases hj:v.calls.findIdx? fun w=>decide (w.name=nm)with
 |none=>
  rw[hj]at h446
  have e0:decide ((0:Int)<= -1)=false:=rfl
  simp(disch:=omega)only[go_sem,h446]
  rfl
 |some j=>
  rw[hj]at h446
  have hjl:=(Ww.1 hj).1
  obtain⟨w,hw⟩:=get_some hjl
  have e0:decide ((0:Int)<=(j:Int))=true:=decide_eq_true (by omega)
  simp(disch:=omega)only[go_sem,h446,e0,hw,Option.map_some,Option.bind_some]
  rfl
theorem r411 (t u x y:Nat) (v:ij) (nm:ByteArray) (hl:v.calls.length<=2^63 - 1):res A aA 411 [.agg (lB t u x y v),.str nm]=some (Mt (jf (fun w=>decide (w.name=nm)) v.calls)):=by
 refine aw a411 rfl rfl ?_
 simp only[F411,aay,lB]
 simp(disch:=omega)only[go_sem]
 refine W.fv v.calls.length (fun k=>⟨[(1,.pv (.str nm)),(2,.ptr 2 0),(4,.ptr 4 0),(6,.pv (.int .i64 k))],⟨[(2,[.pv (.str v.name),.pv (.aq t (v.types.map aH.c)),.pv (.aq u (ch v.calls)),.pv (.aq x (aG v.aG)),.pv (.aq y (df v.aT))]),(4,[.pv (.str ⟨#[]⟩),.pv (.int .i64 0),.pv (.int .i64 0)])],[],[]⟩⟩) (fun k=>∀(i:Nat) (w:Cal),i<k->v.calls[i]?=some w->decide (w.name=nm)=false) rfl (fun i w hi=>absurd hi (by omega)) fun k hk hi=>?_
 simp(disch:=omega)only[go_sem]
 refine Br.aJ (fun c1=>?_) (fun c1=>?_)
 .obtain⟨w,hw⟩:=get_some (l:=v.calls) (k:=k) (by omega)
  cases hd:decide (w.name=nm)with
  |true=>
   simp(disch:=omega)only[go_sem,hw,Option.map_some,hd]
   unfold jf
   rw[wv hw hd hi,abw,hw]
   rfl
  |false=>
   simp(disch:=omega)only[go_sem,hw,Option.map_some,hd]
   exact .of (by omega) rfl (sH hw hi hd)
 .simp(disch:=omega)only[go_sem]
  unfold jf
  rw[wx (pJ (k:=k) (by omega) hi)]
  rfl
theorem r449 (t:Nat) (w:eE) (nm:ByteArray):res A aA 449 [.agg w.c,.ro t [.str nm]]=some [.bool (decide (w.name=nm))]:=by
 refine aw a449 rfl rfl ?_
 simp only[F449,Lm]
 simp(disch:=omega)only[go_sem]
theorem r448 (t u:Nat) (l:List eE) (nm:ByteArray) (hl:l.length<=2^63 - 1):res A aA 448 [.aq t (aG l),.func 449 [.ro u [.str nm]]]=some [.int .i64 (qO (fun w=>decide (w.name=nm)) l)]:=by
 refine aw a448 rfl rfl ?_
 simp only[F448,Hp]
 simp(disch:=omega)only[go_sem]
 refine W.fv l.length (fun k=>⟨[(0,.pv (.aq t (aG l))),(1,.pv (.func 449 [.ro u [.str nm]])),(7,.pv (.int .i64 l.length)),(8,.pv (.int .i64 k))],⟨[],[],[]⟩⟩) (fun k=>∀(i:Nat) (w:eE),i<k->l[i]?=some w->decide (w.name=nm)=false) rfl (fun i w hi=>absurd hi (by omega)) fun k hk hi=>?_
 simp(disch:=omega)only[go_sem]
 refine Br.aJ (fun c1=>?_) (fun c1=>?_)
 .obtain⟨w,hw⟩:=get_some (l:=l) (k:=k) (by omega)
  have h449:=fun t=>r449 t w nm
  simp only[eE.c]at h449
  cases hd:decide (w.name=nm)with
  |true=>
   rw[hd]at h449
   simp(disch:=omega)only[go_sem,hw,Option.map_some,h449]
   unfold qO
   rw[wv hw hd hi]
  |false=>
   rw[hd]at h449
   simp(disch:=omega)only[go_sem,hw,Option.map_some,h449]
   exact .of (by omega) rfl (sH hw hi hd)
 .simp(disch:=omega)only[go_sem]
  unfold qO
  rw[wx (pJ (k:=k) (by omega) hi)]
def AD (o:Option eE):List PV:=match o with
 |some w=>[.agg w.c,.bool true]
 |none=>[.agg [.str ⟨#[]⟩,.aq 0 [],.int .i64 0,.int .i64 0,.aq 0 []],.bool false]
def Mu (k:Nat) (rows:List (List PV)):PV:=if rows=[] then .aq 0 [] else .fr k rows
theorem Fb {α:Type} {c:α->List PV} {k:Nat} (hc:∀x,(c x).length=k) (l:List α) (hm:l.length<=2147483648):(l=[]/\∀h,aZ k [.pv (.aq 0 (l.map c))] h=some (.tl [],{}))\/(l≠[]/\∀h,aZ k [.pv (.aq 0 (l.map c))] h=some (.own h.ar.length 0 0 l.length,{ push:=[⟨0,k,.inl (l.map c)⟩],base:=h.ar.length })):=by
 have hf:aO k (.inl (l.map c))=true:=by simp[aO,hc]
 cases l with
 |nil=>exact .inl ⟨rfl,fun h=>by simp[aZ,aW,aO]⟩
 |cons x l=>
  refine .inr ⟨by simp,fun h=>?_⟩
  have hl:((x::l).map c).length=(x::l).length:=Wg _
  have h0:¬((x::l).map c).length=0:=by simp
  unfold aZ
  simp only[aW]
  rw[if_pos (by omega:0<=1)]
  dsimp only
  rw[if_pos ⟨hf,by unfold aN; rw[hl]; omega⟩,if_neg h0,hl]
theorem r445 (x:eE) (h1:x.msgs.length<=2147483648) (h2:x.auto.af.length<=2147483648):res A aA 445 [.agg x.c]=some [.agg [.str x.name,Mu 3 (msgs x.msgs),.int .i64 x.auto.aj,.int .i64 x.auto.start,Mu 4 (x.auto.af.map Edge.c)]]:=by
 refine aw a445 rfl rfl ?_
 simp only[F445,Lj,eE.c]
 have k1:(x.msgs.map gI.c).take x.msgs.length=x.msgs.map gI.c:=List.take_of_length_le (by simp)
 have k2:(x.auto.af.map Edge.c).take x.auto.af.length=x.auto.af.map Edge.c:=List.take_of_length_le (by simp)
 rcases Fb (c:=gI.c) (k:=3) (fun _=>rfl) x.msgs h1 with⟨h3,h4⟩|⟨h3,h4⟩<;>rcases Fb (c:=Edge.c) (k:=4) (fun _=>rfl) x.auto.af h2 with⟨h5,h6⟩|⟨h5,h6⟩
 .simp only[h3,h5,List.map_nil]at h4 h6 |-
  simp(disch:=omega)only[go_sem,h4,h6]
  refine Eq.trans (if_pos (by rfl)) ?_
  simp[keep,ay,eM,aY,PV.perm,Mu,msgs,h3,h5]
 .simp only[h3,List.map_nil]at h4 |-
  simp(disch:=omega)only[go_sem,h4,h6]
  refine Eq.trans (if_pos (by rfl)) ?_
  simp[keep,ay,eM,aB,aY,PV.perm,Mu,msgs,h3,h5,k2]
 .simp only[h5,List.map_nil]at h6 |-
  simp(disch:=omega)only[go_sem,h4,h6]
  refine Eq.trans (if_pos (by rfl)) ?_
  simp[keep,ay,eM,aB,aY,PV.perm,Mu,msgs,h3,h5,k1]
 .simp(disch:=omega)only[go_sem,h4,h6]
  refine Eq.trans (if_pos (by rfl)) ?_
  simp[keep,ay,eM,aB,aY,PV.perm,Mu,msgs,h3,h5,k1,k2]
theorem r412 (t u x y:Nat) (v:ij) (nm:ByteArray) (hl:v.aG.length<=2^63 - 1) (hs:∀w∈v.aG,w.msgs.length<=2147483648/\w.auto.af.length<=2147483648):res A aA 412 [.agg (lB t u x y v),.str nm]=some (AD (jf (fun w=>decide (w.name=nm)) v.aG)):=by
 refine aw a412 rfl rfl ?_
 simp only[F412,La,lB]
 have h448:=fun t u=>r448 t u v.aG nm hl
 unfold qO at h448
 unfold jf
 cases hj:v.aG.findIdx? fun w=>decide (w.name=nm)with
 |none=>
  rw[hj]at h448
  have e0:decide ((0:Int)<= -1)=false:=rfl
  simp(disch:=omega)only[go_sem,h448]
  rfl
 |some j=>
  rw[hj]at h448
  have hjl:=(Ww.1 hj).1
  obtain⟨w,hw⟩:=get_some hjl
  have e0:decide ((0:Int)<=(j:Int))=true:=decide_eq_true (by omega)
  have hsw:=hs w (Wa hw)
  have h445:=r445 w hsw.1 hsw.2
  have k1:(w.msgs.map gI.c).take w.msgs.length=w.msgs.map gI.c:=List.take_of_length_le (by simp)
  have k2:(w.auto.af.map Edge.c).take w.auto.af.length=w.auto.af.map Edge.c:=List.take_of_length_le (by simp)
  unfold Mu msgs eE.c at h445
  by_cases h3:w.msgs=[]<;>by_cases h5:w.auto.af=[]
  .simp only[h3,h5,List.map_nil,if_true]at h445
   simp(disch:=omega)only[go_sem,h448,e0,hw,Option.map_some,Option.bind_some,h3,h5,List.map_nil,h445]
   simp[AD,eE.c,h3,h5]
  .simp only[h3,h5,List.map_nil,if_true,List.map_eq_nil_iff,if_false]at h445
   simp(disch:=omega)only[go_sem,h448,e0,hw,Option.map_some,Option.bind_some,h3,List.map_nil,h445]
   simp[AD,eE.c,k2,h3]
  .simp only[h3,h5,List.map_nil,if_true,List.map_eq_nil_iff,if_false]at h445
   simp(disch:=omega)only[go_sem,h448,e0,hw,Option.map_some,Option.bind_some,h5,List.map_nil,h445]
   simp[AD,eE.c,k1,h5]
  .simp only[h3,h5,List.map_eq_nil_iff,if_false]at h445
   simp(disch:=omega)only[go_sem,h448,e0,hw,Option.map_some,Option.bind_some,h445]
   simp[AD,eE.c,k1,k2]
theorem r413 (t u x y:Nat) (v:ij) (nm:ByteArray) (hl:v.aG.length<=2^63 - 1):res A aA 413 [.agg (lB t u x y v),.str nm]=some (AD (jf (fun w=>decide (w.name=nm)) v.aG)):=by
 refine aw a413 rfl rfl ?_
 simp only[F413,aaz,lB]
 simp(disch:=omega)only[go_sem]
 refine W.fv v.aG.length (fun k=>⟨[(1,.pv (.str nm)),(2,.ptr 2 0),(4,.ptr 4 0),(6,.pv (.int .i64 k))],⟨[(2,[.pv (.str v.name),.pv (.aq t (v.types.map aH.c)),.pv (.aq u (ch v.calls)),.pv (.aq x (aG v.aG)),.pv (.aq y (df v.aT))]),(4,[.pv (.str ⟨#[]⟩),.tl [],.pv (.int .i64 0),.pv (.int .i64 0),.tl []])],[],[]⟩⟩) (fun k=>∀(i:Nat) (w:eE),i<k->v.aG[i]?=some w->decide (w.name=nm)=false) rfl (fun i w hi=>absurd hi (by omega)) fun k hk hi=>?_
 simp(disch:=omega)only[go_sem]
 refine Br.aJ (fun c1=>?_) (fun c1=>?_)
 .obtain⟨w,hw⟩:=get_some (l:=v.aG) (k:=k) (by omega)
  cases hd:decide (w.name=nm)with
  |true=>
   simp(disch:=omega)only[go_sem,hw,Option.map_some,hd]
   unfold jf
   rw[wv hw hd hi,abw,hw]
   rfl
  |false=>
   simp(disch:=omega)only[go_sem,hw,Option.map_some,hd]
   exact .of (by omega) rfl (sH hw hi hd)
 .simp(disch:=omega)only[go_sem]
  unfold jf
  rw[wx (pJ (k:=k) (by omega) hi)]
  rfl
theorem r451 (t:Nat) (w:Tpc) (nm:ByteArray):res A aA 451 [.agg w.c,.ro t [.str nm]]=some [.bool (decide (w.name=nm))]:=by
 refine aw a451 rfl rfl ?_
 simp only[F451,Lo]
 simp(disch:=omega)only[go_sem]
theorem r450 (t u:Nat) (l:List Tpc) (nm:ByteArray) (hl:l.length<=2^63 - 1):res A aA 450 [.aq t (df l),.func 451 [.ro u [.str nm]]]=some [.int .i64 (qO (fun w=>decide (w.name=nm)) l)]:=by
 refine aw a450 rfl rfl ?_
 simp only[F450,Ln]
 simp(disch:=omega)only[go_sem]
 refine W.fv l.length (fun k=>⟨[(0,.pv (.aq t (df l))),(1,.pv (.func 451 [.ro u [.str nm]])),(7,.pv (.int .i64 l.length)),(8,.pv (.int .i64 k))],⟨[],[],[]⟩⟩) (fun k=>∀(i:Nat) (w:Tpc),i<k->l[i]?=some w->decide (w.name=nm)=false) rfl (fun i w hi=>absurd hi (by omega)) fun k hk hi=>?_
 simp(disch:=omega)only[go_sem]
 refine Br.aJ (fun c1=>?_) (fun c1=>?_)
 .obtain⟨w,hw⟩:=get_some (l:=l) (k:=k) (by omega)
  have h451:=fun t=>r451 t w nm
  simp only[Tpc.c]at h451
  cases hd:decide (w.name=nm)with
  |true=>
   rw[hd]at h451
   simp(disch:=omega)only[go_sem,hw,Option.map_some,h451]
   unfold qO
   rw[wv hw hd hi]
  |false=>
   rw[hd]at h451
   simp(disch:=omega)only[go_sem,hw,Option.map_some,h451]
   exact .of (by omega) rfl (sH hw hi hd)
 .simp(disch:=omega)only[go_sem]
  unfold qO
  rw[wx (pJ (k:=k) (by omega) hi)]
def Mw (o:Option Tpc):List PV:=match o with
 |some w=>[.agg w.c,.bool true]
 |none=>[.agg [.str ⟨#[]⟩,.int .i64 0],.bool false]
theorem r414 (t u x y:Nat) (v:ij) (nm:ByteArray) (hl:v.aT.length<=2^63 - 1):res A aA 414 [.agg (lB t u x y v),.str nm]=some (Mw (jf (fun w=>decide (w.name=nm)) v.aT)):=by
 refine aw a414 rfl rfl ?_
 simp only[F414,Lb,lB]
 have h450:=fun t u=>r450 t u v.aT nm hl
 unfold qO at h450
 unfold jf
 cases hj:v.aT.findIdx? fun w=>decide (w.name=nm)with
 |none=>
  rw[hj]at h450
  have e0:decide ((0:Int)<= -1)=false:=rfl
  simp(disch:=omega)only[go_sem,h450]
  rfl
 |some j=>
  rw[hj]at h450
  have hjl:=(Ww.1 hj).1
  obtain⟨w,hw⟩:=get_some hjl
  have e0:decide ((0:Int)<=(j:Int))=true:=decide_eq_true (by omega)
  simp(disch:=omega)only[go_sem,h450,e0,hw,Option.map_some,Option.bind_some]
  rfl
theorem r415 (t u x y:Nat) (v:ij) (nm:ByteArray) (hl:v.aT.length<=2^63 - 1):res A aA 415 [.agg (lB t u x y v),.str nm]=some (Mw (jf (fun w=>decide (w.name=nm)) v.aT)):=by
 refine aw a415 rfl rfl ?_
 simp only[F415,aaA,lB]
 simp(disch:=omega)only[go_sem]
 refine W.fv v.aT.length (fun k=>⟨[(1,.pv (.str nm)),(2,.ptr 2 0),(4,.ptr 4 0),(6,.pv (.int .i64 k))],⟨[(2,[.pv (.str v.name),.pv (.aq t (v.types.map aH.c)),.pv (.aq u (ch v.calls)),.pv (.aq x (aG v.aG)),.pv (.aq y (df v.aT))]),(4,[.pv (.str ⟨#[]⟩),.pv (.int .i64 0)])],[],[]⟩⟩) (fun k=>∀(i:Nat) (w:Tpc),i<k->v.aT[i]?=some w->decide (w.name=nm)=false) rfl (fun i w hi=>absurd hi (by omega)) fun k hk hi=>?_
 simp(disch:=omega)only[go_sem]
 refine Br.aJ (fun c1=>?_) (fun c1=>?_)
 .obtain⟨w,hw⟩:=get_some (l:=v.aT) (k:=k) (by omega)
  cases hd:decide (w.name=nm)with
  |true=>
   simp(disch:=omega)only[go_sem,hw,Option.map_some,hd]
   unfold jf
   rw[wv hw hd hi,abw,hw]
   rfl
  |false=>
   simp(disch:=omega)only[go_sem,hw,Option.map_some,hd]
   exact .of (by omega) rfl (sH hw hi hd)
 .simp(disch:=omega)only[go_sem]
  unfold jf
  rw[wx (pJ (k:=k) (by omega) hi)]
  rfl
theorem jL (x:Int):IntKind.wrap .u64 x=x%18446744073709551616:=by
 show (if (false&&decide (x%(2^64:Int)≥(2^63:Int)))=true then x%(2^64:Int) - (2^64:Int) else x%(2^64:Int))=_
 simp only[Bool.false_and,Bool.false_eq_true,if_false,Int.reducePow]
theorem gE {x:Int} (h1:0<=x) (h2:x<18446744073709551616):IntKind.wrap .u64 x=x:=by
 rw[jL]
 omega
def zz (n:Int):Int:=if 0<=n then 2*n else -2*n - 1
theorem RX {a b:Int}:zz a=zz b↔a=b:=by
 unfold zz
 split<;>split<;>omega
theorem r515 (n:Int) (h:eH n):res A aA 515 [.int .i64 n]=some [.int .u64 (zz n)]:=by
 refine aw a515 rfl rfl ?_
 simp only[F515,L6]
 obtain⟨h1,h2⟩:=h
 unfold zz
 simp(disch:=omega)only[go_sem]
 refine Br.aJ (fun c=>?_) (fun c=>?_)
 .have e1:=gE (x:=n) (by omega) (by omega)
  have e2:=gE (x:=2*n) (by omega) (by omega)
  simp(disch:=omega)only[go_sem,e1,e2]
  rw[if_pos c]
 .have e1:=gE (x:=0 - (n+1)) (by omega) (by omega)
  have e2:=gE (x:=2*(0 - (n+1))) (by omega) (by omega)
  have e3:=gE (x:=2*(0 - (n+1))+1) (by omega) (by omega)
  simp(disch:=omega)only[go_sem,e1,e2,e3]
  rw[if_neg c]
  congr 3
  omega
theorem HD (a b:Int):cB .xor (.pv (.int .u64 a)) (.pv (.int .u64 b))=some (.pv (.int .u64 (IntKind.wrap .u64 (BitVec.ofInt 64 a^^^BitVec.ofInt 64 b).toNat))):=rfl
theorem HE (a:Int):cB .shl (.pv (.int .u64 a)) (.pv (.int .u64 1))=some (.pv (.int .u64 (IntKind.wrap .u64 (a*2)))):=rfl
theorem HF (a:Int):cB .shr (.pv (.int .i64 a)) (.pv (.int .u64 63))=some (.pv (.int .i64 (a.fdiv 9223372036854775808))):=rfl
theorem r520 (n:Int) (h:eH n):res A aA 520 [.int .i64 n]=some [.int .u64 (zz n)]:=by
 refine aw a520 rfl rfl ?_
 simp only[F520,Mb]
 obtain⟨h1,h2⟩:=h
 simp(disch:=omega)only[go_sem,HD,HE,HF]
 congr 3
 rw[jL,jL,jL,jL]
 unfold zz
 by_cases c:0<=n
 .have f1:n.fdiv 9223372036854775808=0:=by
   rw[Int.fdiv_eq_ediv_of_nonneg _ (by decide)]
   omega
  have f2:(n%18446744073709551616*2)%18446744073709551616=2*n:=by omega
  rw[if_pos c,f1,f2]
  have f3:BitVec.ofInt 64 (0%18446744073709551616)=0#64:=by decide
  rw[f3,BitVec.xor_zero]
  simp only[BitVec.toNat_ofInt]
  omega
 .have f1:n.fdiv 9223372036854775808= -1:=by
   rw[Int.fdiv_eq_ediv_of_nonneg _ (by decide)]
   omega
  have f2:(n%18446744073709551616*2)%18446744073709551616=2*n+18446744073709551616:=by omega
  rw[if_neg c,f1,f2]
  have f3:BitVec.ofInt 64 (-1%18446744073709551616)=BitVec.allOnes 64:=by decide
  rw[f3,BitVec.xor_allOnes,BitVec.toNat_not]
  simp only[BitVec.toNat_ofInt]
  omega
theorem r523 (n:Int):res A aA 523 [.int .u64 n]=some [.bool false]:=by
 refine aw a523 rfl rfl ?_
 simp only[F523,Me]
 simp(disch:=omega)only[go_sem]
theorem r524 (s:ByteArray):res A aA 524 [.str s]=some [.bool false]:=by
 refine aw a524 rfl rfl ?_
 simp only[F524,Mf]
 simp(disch:=omega)only[go_sem]
def strLt (a b:ByteArray):Bool:=Go.Op.bytesLess a.toList b.toList
@[go_sem] theorem Pe (a b:ByteArray):cB .lss (.pv (.str a)) (.pv (.str b))=some (.pv (.bool (strLt a b))):=rfl
@[go_sem] theorem Pf (a b:ByteArray):cB .gtr (.pv (.str a)) (.pv (.str b))=some (.pv (.bool (!(strLt a b||decide (a=b))))):=by simp only[cB,kI,Option.map_some,nY]; rfl
theorem yO:∀l:List UInt8,Go.Op.bytesLess l l=false
 |[]=>rfl
 |a::l=>by simp[Go.Op.bytesLess,yO l]
theorem C0 (a:ByteArray):strLt a a=false:=yO _
def yP (a b:ByteArray):Int:=if strLt a b=true then -1 else if a=b then 0 else 1
theorem r519 (a b:Int):res A aA 519 [.int .u64 a,.int .u64 b]=some [.int .i64 (abU a b)]:=by
 refine aw a519 rfl rfl ?_
 simp only[F519,Ma]
 have h1:=r523 a
 have h2:=r523 b
 unfold abU
 simp(disch:=omega)only[go_sem,h1,h2]
 refine Br.aJ (fun c=>?_) (fun c=>?_)
 .simp(disch:=omega)only[go_sem]
  rw[if_pos c]
 .simp(disch:=omega)only[go_sem]
  refine Br.aJ (fun d=>?_) (fun d=>?_)
  .simp(disch:=omega)only[go_sem]
   rw[if_neg c,if_pos d]
  .simp(disch:=omega)only[go_sem]
   rw[if_neg c,if_neg d]
theorem r521 (a b:ByteArray):res A aA 521 [.str a,.str b]=some [.int .i64 (yP a b)]:=by
 refine aw a521 rfl rfl ?_
 simp only[F521,Mc]
 have h1:=r524 a
 have h2:=r524 b
 unfold yP
 cases hs:strLt a b with
 |true=>simp(disch:=omega)only[go_sem,h1,h2,hs,if_true]
 |false=>
  by_cases he:a=b
  .have e:decide (a=b)=true:=decide_eq_true he
   simp(disch:=omega)only[go_sem,h1,h2,hs,e,Bool.or_true,Bool.not_true]
   rw[if_pos he]
  .have e:decide (a=b)=false:=decide_eq_false he
   simp(disch:=omega)only[go_sem,h1,h2,hs,e,Bool.or_false,Bool.not_false]
   rw[if_neg he]
def AE (l e:Bool):Int:=if e=true then 0 else if l=true then -1 else 1
theorem r514 (l e:Bool):res A aA 514 [.bool l,.bool e]=some [.int .i64 (AE l e)]:=by
 refine aw a514 rfl rfl ?_
 simp only[F514,L5]
 cases e<;>cases l<;>simp(disch:=omega)only[go_sem]<;>rfl
def lC (a b:dz):Int:=if a.kind≠b.kind then 0 else
 if a.kind=1 then (if a.bool=b.bool then 0 else if b.bool=true then -1 else 1)
 else if a.kind=2 then abU (zz a.int) (zz b.int)
 else if a.kind=3 then E7 [abU a.str.size b.str.size,yP a.str b.str]
 else if a.kind=4 then abU a.id b.id else 0
set_option maxHeartbeats 2000000 in
theorem r513 (a b:dz) (ha:eH a.int) (hb:eH b.int) (has:bC a.str) (hbs:bC b.str):res A aA 513 [.agg a.c,.agg b.c]=some [.int .i64 (lC a b)]:=by
 refine aw a513 rfl rfl ?_
 simp only[F513,L4,dz.c]
 unfold bC at has hbs
 have h1:=r520 a.int ha
 have h2:=r520 b.int hb
 have h3:=r519 (zz a.int) (zz b.int)
 have h4:=r60 (Pr:=aA) (by kernel_rfl) (a.str.size:Int) (b.str.size:Int)
 have h5:=r521 a.str b.str
 have h6:=fun t=>r59 (Pr:=aA) t [abU a.str.size b.str.size,yP a.str b.str] (by simp)
 have h7:=r60 (Pr:=aA) (by kernel_rfl) a.id b.id
 unfold lC
 by_cases c0:a.kind=b.kind
 .have e0:decide (a.kind=b.kind)=true:=decide_eq_true c0
  rw[if_neg (by simpa using c0)]
  by_cases c1:a.kind=1
  .have e1:decide (a.kind=1)=true:=decide_eq_true c1
   rw[if_pos c1]
   have b1:decide (true=false)=false:=rfl
   have b2:decide (false=true)=false:=rfl
   cases hab:a.bool<;>cases hbb:b.bool<;>simp(disch:=omega)only[go_sem,e0,e1,hab,hbb,b1,b2]<;>rfl
  .have e1:decide (a.kind=1)=false:=decide_eq_false c1
   rw[if_neg c1]
   by_cases c2:a.kind=2
   .have e2:decide (a.kind=2)=true:=decide_eq_true c2
    rw[if_pos c2]
    simp(disch:=omega)only[go_sem,e0,e1,e2,h1,h2,h3]
   .have e2:decide (a.kind=2)=false:=decide_eq_false c2
    rw[if_neg c2]
    by_cases c3:a.kind=3
    .have e3:decide (a.kind=3)=true:=decide_eq_true c3
     rw[if_pos c3]
     have hi:ints [abU a.str.size b.str.size,yP a.str b.str]=[[.int .i64 (abU a.str.size b.str.size)],[.int .i64 (yP a.str b.str)]]:=rfl
     rw[hi]at h6
     simp(disch:=omega)only[go_sem,e0,e1,e2,e3,h4,h5,h6]
    .have e3:decide (a.kind=3)=false:=decide_eq_false c3
     rw[if_neg c3]
     by_cases c4:a.kind=4
     .have e4:decide (a.kind=4)=true:=decide_eq_true c4
      rw[if_pos c4]
      simp(disch:=omega)only[go_sem,e0,e1,e2,e3,e4,h7]
     .have e4:decide (a.kind=4)=false:=decide_eq_false c4
      rw[if_neg c4]
      simp(disch:=omega)only[go_sem,e0,e1,e2,e3,e4]
 .have e0:decide (a.kind=b.kind)=false:=decide_eq_false c0
  rw[if_pos c0]
  simp(disch:=omega)only[go_sem,e0]
theorem BU (x y:Int):E7 [x,y]=if x=0 then y else x:=by
 by_cases h:x=0
 .rw[if_pos h]
  subst h
  by_cases g:y=0
  .subst g
   rfl
  .simp[E7,g]
 .rw[if_neg h]
  simp[E7,h]
theorem UQ (a b:ByteArray):AE (strLt a b) (decide (a=b))=yP a b:=by
 unfold AE yP
 by_cases h:a=b
 .subst h
  rw[C0]
  simp
 .simp[h]
theorem RY (a b:Int):AE (decide (a<b)) (decide (a=b))=abU a b:=by
 unfold AE abU
 simp only[decide_eq_true_eq]
 by_cases h:a=b
 .rw[if_pos h,if_neg (by omega),if_neg (by omega)]
 .rw[if_neg h]
  by_cases g:a<b
  .rw[if_pos g,if_pos g]
  .rw[if_neg g,if_neg g,if_pos (by omega)]
set_option maxHeartbeats 2000000 in
theorem r509 (a b:dz) (ha:eH a.int) (hb:eH b.int) (has:bC a.str) (hbs:bC b.str):res A aA 509 [.agg a.c,.agg b.c]=some [.int .i64 (lC a b)]:=by
 refine aw a509 rfl rfl ?_
 simp only[F509,LY,dz.c]
 unfold bC at has hbs
 have h1:=r515 a.int ha
 have h2:=r515 b.int hb
 unfold lC
 by_cases c0:a.kind=b.kind
 .have e0:decide (a.kind=b.kind)=true:=decide_eq_true c0
  rw[if_neg (by simpa using c0)]
  by_cases c1:a.kind=1
  .have e1:decide (a.kind=1)=true:=decide_eq_true c1
   rw[if_pos c1]
   have h3:=r514 b.bool (decide (a.bool=b.bool))
   simp(disch:=omega)only[go_sem,e0,e1,h3]
   unfold AE
   cases a.bool<;>cases b.bool<;>rfl
  .have e1:decide (a.kind=1)=false:=decide_eq_false c1
   rw[if_neg c1]
   by_cases c2:a.kind=2
   .have e2:decide (a.kind=2)=true:=decide_eq_true c2
    rw[if_pos c2]
    have h3:=r514 (decide (zz a.int<zz b.int)) (decide (a.int=b.int))
    simp(disch:=omega)only[go_sem,e0,e1,e2,h1,h2,h3]
    unfold AE abU
    simp only[decide_eq_true_eq]
    have:=RX (a:=a.int) (b:=b.int)
    congr 3
    by_cases d:a.int=b.int
    .rw[if_pos d,d,if_neg (by omega),if_neg (by omega)]
    .rw[if_neg d]
     have d2:zz a.int≠zz b.int:=fun e=>d (this.1 e)
     split
     .rfl
     .rw[if_pos (by omega)]
   .have e2:decide (a.kind=2)=false:=decide_eq_false c2
    rw[if_neg c2]
    by_cases c3:a.kind=3
    .have e3:decide (a.kind=3)=true:=decide_eq_true c3
     rw[if_pos c3]
     by_cases d:(a.str.size:Int)=(b.str.size:Int)
     .have d1:decide ((a.str.size:Int)=(b.str.size:Int))=true:=decide_eq_true d
      have h3:=r514 (strLt a.str b.str) (decide (a.str=b.str))
      simp(disch:=omega)only[go_sem,e0,e1,e2,e3,d1,h3]
      have d2:abU a.str.size b.str.size=0:=by
       unfold abU
       rw[if_neg (by omega),if_neg (by omega)]
      rw[BU,if_pos d2,UQ]
     .have d1:decide ((a.str.size:Int)=(b.str.size:Int))=false:=decide_eq_false d
      have h3:=r514 (decide ((a.str.size:Int)<(b.str.size:Int))) false
      simp(disch:=omega)only[go_sem,e0,e1,e2,e3,d1,h3]
      have d2:abU a.str.size b.str.size≠0:=by
       unfold abU
       split
       .decide
       .rw[if_pos (by omega)]
        decide
      rw[BU,if_neg d2,<- RY,d1]
    .have e3:decide (a.kind=3)=false:=decide_eq_false c3
     rw[if_neg c3]
     by_cases c4:a.kind=4
     .have e4:decide (a.kind=4)=true:=decide_eq_true c4
      rw[if_pos c4]
      have h3:=r514 (decide (a.id<b.id)) (decide (a.id=b.id))
      simp(disch:=omega)only[go_sem,e0,e1,e2,e3,e4,h3]
      rw[RY]
     .have e4:decide (a.kind=4)=false:=decide_eq_false c4
      rw[if_neg c4]
      simp(disch:=omega)only[go_sem,e0,e1,e2,e3,e4]
 .have e0:decide (a.kind=b.kind)=false:=decide_eq_false c0
  rw[if_pos c0]
  simp(disch:=omega)only[go_sem,e0]
end Go.Pv
