/-
 What the functions of the law give.
-/
import Derived.Test.YtpchfogcccagjaaGreatC2
set_option linter.unusedSimpArgs false
set_option linter.unusedVariables false
open List renaming getElem?_eq_some_iff → Vy, mem_of_getElem? → Vz, getElem?_eq_getElem → VA, length_map → VB, getElem?_append_left → VC, length_append → VE, getElem?_map → VF, eq_nil_of_length_eq_zero → VJ, getD_eq_getElem?_getD → VK, getElem?_append_right → VM, append_assoc → VO, mem_map → VP, take_add_one → VT, take_length → VW, getElem?_set_ne → VX, getElem?_set_self → VY, length_range → V7, getElem?_eq_none → V8, getElem?_drop → Wg, mem_append_left → Wh, ext_getElem? → Wi, append_nil → Wj, map_append → Wk, mem_filterMap → Wz, mem_range → WA, range_succ → WR, mem_singleton → WU, findIdx?_eq_none_iff → WX, map_map → W6, find?_some → Xd, filterMap_append → Xl
open Nat renaming lt_or_ge → VG, le_refl → VI, zero_le → V4, mod_lt → Wa, lt_of_lt_of_le → Wq, le_trans → Wr, min_eq_left → Xe, add_zero → Xi
open Int renaming toNat_natCast → Ws
open Option renaming map_some → Xb
namespace Go.Pv
variable {P:Program}
theorem TS {n:Nat} {t:TypeId} {cs:List PV} (hu:P.underlying t=some .string) (h:typed P n t cs):∃s,cs=[.str s]/\bw s:=by
 cases n with
 |zero=>exact h.elim
 |succ n=>
  simp only[typed,hu]at h
  exact h
theorem ke {α:Type} {c:α->List PV} {ok:α->Prop} {n:Nat} {t el:TypeId} {cs:List PV} (hu:P.underlying t=some (.slice el)) (he:∀m cs,m+1=n->typed P m el cs->∃x,cs=c x/\ok x) (h:typed P n t cs):∃l:List α,cs=[.aa 0 (l.map c)]/\bV l/\∀x∈l,ok x:=by
 cases n with
 |zero=>exact h.elim
 |succ n=>
  obtain⟨rows,rfl,hl,hr⟩:=yJ hu h
  obtain⟨l,rfl⟩:=yK (c:=fun x:{x:α//ok x}=>c x.1) (rows:=rows) (fun r hr'=>by
   obtain⟨x,rfl,hx⟩:=he n r rfl (hr r hr')
   exact⟨⟨x,hx⟩,rfl⟩)
  refine⟨l.map (·.1),by simp,by simpa [bV,maxLen]using hl,fun x hx=>?_⟩
  obtain⟨y,_,rfl⟩:=VP.1 hx
  exact y.2
structure U4 (P:Program) (sch typ sym mem val raw ls lsym lmem lval lraw tx ti t64 tb:TypeId):Prop where
 i:P.underlying ti=some (.int .i64)
 i64:P.underlying t64=some (.int .i64)
 b:P.underlying tb=some .bool
 x:P.underlying tx=some .string
 l:P.underlying ls=some (.slice typ)
 ly:P.underlying lsym=some (.slice sym)
 lm:P.underlying lmem=some (.slice mem)
 lv:P.underlying lval=some (.slice val)
 lr:P.underlying lraw=some (.slice raw)
 s:∃fs,P.underlying sch=some (.struct fs)/\fs.toList.map (·.type)=[ls]
 t:∃fs,P.underlying typ=some (.struct fs)/\fs.toList.map (·.type)=[ti,tx,t64,t64,ti,lsym,lmem,ti,ti,tb]
 y:∃fs,P.underlying sym=some (.struct fs)/\fs.toList.map (·.type)=[ti,tx]
 m:∃fs,P.underlying mem=some (.struct fs)/\fs.toList.map (·.type)=[ti,tx,ti,tb,tb,val]
 v:∃fs,P.underlying val=some (.struct fs)/\fs.toList.map (·.type)=[ti,tb,t64,tx,ti,lval,lval,lraw]
 r:∃fs,P.underlying raw=some (.struct fs)/\fs.toList.map (·.type)=[ti,tx]
section
variable {sch typ sym mem val raw ls lsym lmem lval lraw tx ti t64 tb:TypeId}
end
end Go.Pv
namespace Go.Pv
theorem yZ {k:Nat} {rows:List (List PV)} (h:∀r∈rows,r.length=k):aP k (.inl rows)=true:=by
 simp only[aP,List.all_eq_true,beq_iff_eq]
 exact h
def Home (ar:List aL) (o k:Nat) (v:V) (rows:List (List PV)):Prop:=v=.pv (.aa 0 rows)\/(∃id aq,v=.own id aq 0 rows.length/\id≠o/\ar[id]?=some ⟨aq,k,.inl rows⟩)\/v=.tl rows
theorem Home.push {ar:List aL} {o k:Nat} {v:V} {rows:List (List PV)} (h:Home ar o k v rows) (x:List aL):Home (ar++x) o k v rows:=by
 rcases h with h|⟨id,aq,h1,h2,h3⟩|h
 .exact .inl h
 .exact .inr (.inl ⟨id,aq,h1,h2,by rw[VC (Vy.1 h3).1]; exact h3⟩)
 .exact .inr (.inr h)
theorem Home.set {ar:List aL} {o k:Nat} {v:V} {rows:List (List PV)} (h:Home ar o k v rows) (a:aL):Home (ar.set o a) o k v rows:=by
 rcases h with h|⟨id,aq,h1,h2,h3⟩|h
 .exact .inl h
 .exact .inr (.inl ⟨id,aq,h1,h2,by rw[VX (fun e=>h2 e.symm)]; exact h3⟩)
 .exact .inr (.inr h)
theorem Home.bO {ar:List aL} {o k:Nat} {v:V} {rows:List (List PV)} (h:Home ar o k v rows) (bx:List (Nat×List V)) (mp:List (List (PV×PV))) (d:Nat):aV ⟨bx,ar,mp⟩ (d+1) v=some (.aa 0 rows):=by
 rcases h with rfl|⟨id,aq,rfl,h2,h3⟩|rfl
 .rfl
 .rw[fC,gp,h3]
  simp only[Option.bind_some,if_true,aI,dD,List.drop_zero,List.take_length]
 .rfl
def mg (ar:List aL) (o:Nat) (row:List V) (t:aC):Prop:=∃sv mv,row=[.pv (.int .i64 t.kind),.pv (.str t.name),.pv (.int .i64 t.low),.pv (.int .i64 t.high),.pv (.int .i64 t.max),sv,mv,.pv (.int .i64 t.key),.pv (.int .i64 t.elem),.pv (.bool t.ku)]/\
 Home ar o 2 sv (t.syms.map Sym.c)/\Home ar o 13 mv (t.aN.map Mem.c)
theorem mg.push {ar:List aL} {o:Nat} {row:List V} {t:aC} (h:mg ar o row t) (x:List aL):mg (ar++x) o row t:=by
 obtain⟨sv,mv,h1,h2,h3⟩:=h
 exact⟨sv,mv,h1,h2.push x,h3.push x⟩
theorem mg.set {ar:List aL} {o:Nat} {row:List V} {t:aC} (h:mg ar o row t) (a:aL):mg (ar.set o a) o row t:=by
 obtain⟨sv,mv,h1,h2,h3⟩:=h
 exact⟨sv,mv,h1,h2.set a,h3.set a⟩
theorem mg.len {ar:List aL} {o:Nat} {row:List V} {t:aC} (h:mg ar o row t):row.length=10:=by
 obtain⟨sv,mv,rfl,_⟩:=h
 rfl
theorem mg.bO {ar:List aL} {o:Nat} {row:List V} {t:aC} (h:mg ar o row t) (bx:List (Nat×List V)) (mp:List (List (PV×PV))) (d:Nat):aA (aV ⟨bx,ar,mp⟩ (d+1)) row=some t.c:=by
 obtain⟨sv,mv,rfl,h2,h3⟩:=h
 simp only[aA,h2.bO bx mp d,h3.bO bx mp d,sW,PV.perm,if_true]
 rfl
def bh:Sum (List (List PV)) (List (List V))->List (List V)
 |.inl x=>x.map (·.map .pv)
 |.inr x=>x
theorem fF (b:Sum (List (List PV)) (List (List V))):(bh b).length=aB b:=by cases b<;>simp[bh,aB]
theorem iR (a b:Sum (List (List PV)) (List (List V))):bh (aR a b)=bh a++bh b:=by
 cases a<;>cases b<;>simp[bh,aR]
structure mh (ar:List aL) (o:Nat) (rows:List (List V)) (ts:List aC):Prop where
 len:rows.length=ts.length
 row:∀(i:Nat) row t,rows[i]?=some row->ts[i]?=some t->mg ar o row t
theorem mh.push {ar:List aL} {o:Nat} {rows:List (List V)} {ts:List aC} (h:mh ar o rows ts) (x:List aL):mh (ar++x) o rows ts:=⟨h.len,fun i row t h1 h2=>(h.row i row t h1 h2).push x⟩
theorem mh.set {ar:List aL} {o:Nat} {rows:List (List V)} {ts:List aC} (h:mh ar o rows ts) (a:aL):mh (ar.set o a) o rows ts:=⟨h.len,fun i row t h1 h2=>(h.row i row t h1 h2).set a⟩
theorem mh.snoc {ar:List aL} {o:Nat} {rows:List (List V)} {ts:List aC} {row:List V} {t:aC} (h:mh ar o rows ts) (hr:mg ar o row t):mh ar o (rows++[row]) (ts++[t]):=by
 refine⟨by simp[h.len],fun i r u h1 h2=>?_⟩
 rcases VG i rows.length with hi|hi
 .rw[VC hi]at h1
  rw[VC (by rw[<- h.len]; exact hi)]at h2
  exact h.row i r u h1 h2
 .rw[VM hi]at h1
  rw[VM (by rw[<- h.len]; exact hi)]at h2
  rw[h.len]at h1
  cases hj:i - ts.length with
  |zero=>
   rw[hj]at h1 h2
   cases h1
   cases h2
   exact hr
  |succ j=>
   rw[hj]at h1
   simp at h1
theorem mN {α β γ:Type} {f:α->Option β}:∀{rows:List (List α)} {ts:List γ} {c:γ->List β},rows.length=ts.length->(∀(i:Nat) row t,rows[i]?=some row->ts[i]?=some t->aA f row=some (c t))->aA (aA f) rows=some (ts.map c)
 |[],[],_,_,_=>rfl
 |r::rows,t::ts,c,hl,h=>by
  have h1:=h 0 r t rfl rfl
  have h2:=mN (f:=f) (rows:=rows) (ts:=ts) (c:=c) (by simpa using hl) (fun i row u hi hu=>h (i+1) row u (by simpa using hi) (by simpa using hu))
  simp only[aA,h1,h2,List.map_cons]
theorem pn {h:af} {d:Nat}:∀{l r:List PV},aA (aV h d) (l.map V.pv)=some r->r=l
 |[],r,he=>by
  cases he
  rfl
 |x::l,r,he=>by
  simp only[List.map_cons,nV,sW]at he
  split at he
  .cases hm:aA (aV h d) (l.map V.pv)with
   |none=>simp[hm]at he
   |some y=>
    simp[hm]at he
    rw[<- he,pn hm]
  .simp at he
structure AQ (ar:List aL) (o aq:Nat) (ts:List aC):Prop where
 pos:ts≠[]
 it:∃body,ar[o]?=some ⟨aq,10,body⟩/\mh ar o (bh body) ts
theorem AQ.bO {ar:List aL} {o aq:Nat} {ts:List aC} (h:AQ ar o aq ts) (bx:List (Nat×List V)) (mp:List (List (PV×PV))):aV ⟨bx,ar,mp⟩ 4 (.own o aq 0 ts.length)=some (.aa 0 (ts.map aC.c)):=by
 obtain⟨body,h1,h2⟩:=h.it
 rw[fC,gp,h1]
 simp only[Option.bind_some,if_true]
 have hk:=mN (f:=aV ⟨bx,ar,mp⟩ 3) (c:=aC.c) h2.len (fun i row t hi ht=>(h2.row i row t hi ht).bO bx mp 2)
 cases body with
 |inl R=>
  have hl:R.length=ts.length:=by have:=h2.len; simpa [bh]using this
  simp only[aI,dD,List.drop_zero]
  rw[<- hl,VW]
  congr 1
  congr 1
  apply Wi
  intro i
  rcases VG i R.length with hi|hi
  .have e1:=VA hi
   have e2:=VA (l:=ts) (i:=i) (by omega)
   rw[VF,e1,e2]
   have:=(h2.row i (R[i].map V.pv) (ts[i]'(by omega)) (by simp[bh,e1]) e2).bO bx mp 2
   have:=pn this
   rw[Xb,this]
  .rw[V8 hi,VF,V8 (by omega)]
   rfl
 |inr R=>
  have hl:R.length=ts.length:=by have:=h2.len; simpa [bh]using this
  simp only[aI,dD,List.drop_zero]
  rw[<- hl,VW]
  have hk':aA (aA (aV ⟨bx,ar,mp⟩ 3)) R=some (ts.map aC.c):=hk
  rw[hk']
  rfl
def di (L:List Int) (j:Int):Int:=bd (fun y=>decide (y=j)) L
def js (L:List Int) (m:Mem):Mem:={ m with type:=di L m.type }
def dp (L:List Int) (t:aC):aC:={ t with aN:=t.aN.map (js L),key:=if t.kind=8 then di L t.key else t.key,elem:=if 7<=t.kind then di L t.elem else t.elem }
theorem y3 {α:Type} {l:List α} {k:Nat} {x:α} (h:l[k]?=some x):l.drop k=x::l.drop (k+1):=by
 obtain⟨hk,rfl⟩:=Vy.1 h
 exact List.drop_eq_getElem_cons hk
theorem mm {k:Nat} {b:Sum (List (List PV)) (List (List V))} (h:∀r∈bh b,r.length=k):aP k b=true:=by
 cases b with
 |inl x=>
  simp only[aP,List.all_eq_true,beq_iff_eq]
  intro r hr
  have:=h (r.map .pv) (List.mem_map_of_mem hr)
  simpa using this
 |inr x=>
  simp only[aP,List.all_eq_true,beq_iff_eq]
  exact h
def ng (L:List Int) (l:List Mem) (j:Nat):List Mem:=(l.take j).map (js L)++l.drop j
theorem vC (L:List Int) (l:List Mem):ng L l 0=l:=by simp[ng]
theorem y4 (L:List Int) (l:List Mem):ng L l l.length=l.map (js L):=by simp[ng]
theorem tD (L:List Int) (l:List Mem) (j:Nat):(ng L l j).length=l.length:=by
 simp only[ng,List.length_append,List.length_map,List.length_take,List.length_drop]
 omega
theorem tE {L:List Int} {l:List Mem} {j:Nat} {m:Mem} (h:l[j]?=some m):(ng L l j)[j]?=some m:=by
 have hj:=(Vy.1 h).1
 have hl:((l.take j).map (js L)).length=j:=by simp; omega
 unfold ng
 rw[VM (by omega),hl,Nat.sub_self,Wg,Xi]
 exact h
theorem EH {L:List Int} {l:List Mem} {j:Nat} {m:Mem} (h:l[j]?=some m):(ng L l j).set j (js L m)=ng L l (j+1):=by
 have hj:=(Vy.1 h).1
 have hl:((l.take j).map (js L)).length=j:=by simp; omega
 unfold ng
 rw[List.set_append_right _ _ (by omega),hl,Nat.sub_self,y3 h,List.set_cons_zero,VT,h]
 simp
theorem CS {bx:List (Nat×List V)} {ar:List aL} {mp:List (List (PV×PV))} {y:V} {new:Sum (List (List PV)) (List (List V))} {rd:Option Nat} {row:List V} (hs:bg ⟨bx,ar,mp⟩ y=some (new,rd)) (hn:bh new=[row]) (hr:row.length=10):
  aJ ⟨bx,ar,mp⟩ 10 (.tl []) y=some (.own ar.length 0 0 1,{ push:=[⟨0,10,aR (.inl []) new⟩],ra:=rd,base:=ar.length }):=by
 have h1:aB new=1:=by rw[<- fF,hn]; rfl
 have h2:aP 10 new=true:=mm (by rw[hn]; intro r hr'; rw[WU]at hr'; rw[hr']; exact hr)
 simp only[aJ,hs,h2,h1,if_true]
 simp[aP,aT]
theorem EI {bx:List (Nat×List V)} {ar:List aL} {mp:List (List (PV×PV))} {y:V} {new:Sum (List (List PV)) (List (List V))} {rd:Option Nat} {row:List V} {o aq n:Nat} {body:Sum (List (List PV)) (List (List V))} (hs:bg ⟨bx,ar,mp⟩ y=some (new,rd)) (hn:bh new=[row]) (hr:row.length=10)
  (ho:ar[o]?=some ⟨aq,10,body⟩) (hb:aB body=n) (hrd:rd≠some o) (hm:n+1<=2147483648):
  aJ ⟨bx,ar,mp⟩ 10 (.own o aq 0 n) y=some (.own o (aq+1) 0 (n+1),{ ar:=some (o,⟨aq+1,10,aR (aI 0 n body) new⟩),ra:=rd }):=by
 have h1:aB new=1:=by rw[<- fF,hn]; rfl
 have h2:aP 10 new=true:=mm (by rw[hn]; intro r hr'; rw[WU]at hr'; rw[hr']; exact hr)
 have h3:aF ⟨bx,ar,mp⟩ o aq=some ⟨aq,10,body⟩:=by rw[gp,ho]; simp
 have h4:(⟨aq,10,body⟩:aL).size=n:=by rw[<- hb]; cases body<;>rfl
 simp only[aJ,hs,h2,h1,h3,if_true,h4]
 simp[aT,hm,hrd]
theorem BR {aq n:Nat} {b:Sum (List (List PV)) (List (List V))} (_h:aB b=n) (_hv:aq=aq):aI 0 n b=b:=by
 subst _h
 cases b<;>simp[aI,aB]
theorem EJ {t:aC} {m:Mem} (h:m∈t.aN):m.type∈bT t:=by
 unfold bT
 exact Wh _ (Wh _ (List.mem_map_of_mem h))
theorem CT {t:aC} (h:7<=t.kind):t.elem∈bT t:=by simp[bT,kU,h]
theorem tF {L:List Int} {l:List Mem} {j:Nat} {m:Mem} (h:l[j]?=some m) (id:Nat):dC id j 2 [.pv (.int .i64 (di L m.type))] ⟨0,13,.inl ((ng L l j).map Mem.c)⟩=some { ar:=some (id,⟨0,13,.inl ((ng L l (j+1)).map Mem.c)⟩) }:=by
 have hj:=(Vy.1 h).1
 rw[iD (l:=[.int .i64 (di L m.type)]) (by rw[List.length_map,tD]; exact hj) rfl (by simp) rfl,<- EH h,List.map_set]
 unfold over
 have hd:((ng L l j).map Mem.c).getD j []=m.c:=by rw[VK,VF,tE h]; rfl
 rw[hd]
 rfl
def xj (row:List V) (cs:List PV):Prop:=∀h d,aA (aV h (d+1)) row=some cs
theorem Fe {w:Nat} {bx:List (Nat×List V)} {ar:List aL} {mp:List (List (PV×PV))} {y:V} {new:Sum (List (List PV)) (List (List V))} {rd:Option Nat} {row:List V} (hs:bg ⟨bx,ar,mp⟩ y=some (new,rd)) (hn:bh new=[row]) (hr:row.length=w):
  aJ ⟨bx,ar,mp⟩ w (.tl []) y=some (.own ar.length 0 0 1,{ push:=[⟨0,w,aR (.inl []) new⟩],ra:=rd,base:=ar.length }):=by
 have h1:aB new=1:=by rw[<- fF,hn]; rfl
 have h2:aP w new=true:=mm (by rw[hn]; intro r hr'; rw[WU]at hr'; rw[hr']; exact hr)
 simp only[aJ,hs,h2,h1,if_true]
 simp[aP,aT]
theorem G3 {w:Nat} {bx:List (Nat×List V)} {ar:List aL} {mp:List (List (PV×PV))} {y:V} {new:Sum (List (List PV)) (List (List V))} {rd:Option Nat} {row:List V} {o aq n:Nat} {body:Sum (List (List PV)) (List (List V))} (hs:bg ⟨bx,ar,mp⟩ y=some (new,rd)) (hn:bh new=[row]) (hr:row.length=w)
  (ho:ar[o]?=some ⟨aq,w,body⟩) (hb:aB body=n) (hrd:rd≠some o) (hm:n+1<=2147483648):
  aJ ⟨bx,ar,mp⟩ w (.own o aq 0 n) y=some (.own o (aq+1) 0 (n+1),{ ar:=some (o,⟨aq+1,w,aR (aI 0 n body) new⟩),ra:=rd }):=by
 have h1:aB new=1:=by rw[<- fF,hn]; rfl
 have h2:aP w new=true:=mm (by rw[hn]; intro r hr'; rw[WU]at hr'; rw[hr']; exact hr)
 have h3:aF ⟨bx,ar,mp⟩ o aq=some ⟨aq,w,body⟩:=by rw[gp,ho]; simp
 have h4:(⟨aq,w,body⟩:aL).size=n:=by rw[<- hb]; cases body<;>rfl
 simp only[aJ,hs,h2,h1,h3,if_true,h4]
 simp[aT,hm,hrd]
structure G4 (w:Nat) (ar:List aL) (o aq:Nat) (cs:List (List PV)):Prop where
 it:∃body,ar[o]?=some ⟨aq,w,body⟩/\(bh body).length=cs.length/\∀(i:Nat) row c,(bh body)[i]?=some row->cs[i]?=some c->xj row c
def kh (w:Nat) (ar:List aL) (V0:V) (cs:List (List PV)):Prop:=(V0=.tl []/\cs=[])\/∃o aq,V0=.own o aq 0 cs.length/\G4 w ar o aq cs
theorem vX {rows:List (List V)} {cs:List (List PV)} {row:List V} {c:List PV} (h:rows.length=cs.length) (hr:∀(i:Nat) row c,rows[i]?=some row->cs[i]?=some c->xj row c) (hn:xj row c):
  (rows++[row]).length=(cs++[c]).length/\∀(i:Nat) r x,(rows++[row])[i]?=some r->(cs++[c])[i]?=some x->xj r x:=by
 refine⟨by simp[h],fun i r x h1 h2=>?_⟩
 rcases VG i rows.length with hi|hi
 .rw[VC hi]at h1
  rw[VC (by rw[<- h]; exact hi)]at h2
  exact hr i r x h1 h2
 .rw[VM hi]at h1
  rw[VM (by rw[<- h]; exact hi)]at h2
  rw[h]at h1
  cases hj:i - cs.length with
  |zero=>
   rw[hj]at h1 h2
   cases h1
   cases h2
   exact hn
  |succ j=>
   rw[hj]at h1
   simp at h1
theorem B4 {w:Nat} {ar X:List aL} {V0 y:V} {cs:List (List PV)} {c:List PV} {new:Sum (List (List PV)) (List (List V))} {rd:Option Nat} {row:List V} (hO:kh w ar V0 cs) (hm:cs.length+1<=2147483648)
  (hs:∀bx,bg ⟨bx,ar++X,[]⟩ y=some (new,rd)) (hn:bh new=[row]) (hrd:∀o,rd=some o->ar.length<=o) (hw:row.length=w) (hr:xj row c):
  ∃V1 T ar',(∀bx,aJ ⟨bx,ar++X,[]⟩ w V0 y=some (V1,T))/\(∀bx,T.apply ⟨bx,ar++X,[]⟩=⟨bx,ar',[]⟩)/\V1.cells=[V1]/\V1.calm=true/\kh w ar' V1 (cs++[c]):=by
 rcases hO with⟨rfl,rfl⟩|⟨o,aq,rfl,hrep⟩
 .refine⟨_,_,(ar++X)++[⟨0,w,aR (.inl []) new⟩],fun bx=>Fe (hs bx) hn hw,fun bx=>?_,rfl,rfl,.inr ⟨(ar++X).length,0,rfl,aR (.inl []) new,by simp,?_⟩⟩
  .simp[Tn.apply]
  .rw[iR,hn]
   exact vX (rows:=[]) (cs:=[]) rfl (fun i r x h1=>by simp at h1) hr
 .obtain⟨body,hb1,hb2,hb3⟩:=hrep.it
  have hol:=(Vy.1 hb1).1
  have hb1':(ar++X)[o]?=some ⟨aq,w,body⟩:=by rw[VC hol]; exact hb1
  have hbl:aB body=cs.length:=by rw[<- fF]; exact hb2
  have happ:=fun bx=>G3 (bx:=bx) (mp:=[]) (hs bx) hn hw hb1' hbl (fun e=>by have:=hrd o e; omega) hm
  rw[BR (aq:=aq) hbl rfl]at happ
  refine⟨_,_,(ar++X).set o ⟨aq+1,w,aR body new⟩,happ,fun bx=>?_,rfl,rfl,.inr ⟨o,aq+1,by simp,aR body new,?_,?_⟩⟩
  .simp[Tn.apply]
  .rw[VY (by rw[VE]; omega)]
  .rw[iR,hn]
   exact vX hb2 hb3 hr
theorem addLit {w:Nat} {ar:List aL} {V0:V} {cs:List (List PV)} {c:List PV} {row:List V} (hO:kh w ar V0 cs) (hm:cs.length+1<=2147483648) (hw:row.length=w) (hr:xj row c):
  ∃V1 T ar',(∀bx,aJ ⟨bx,ar++[⟨0,w,.inr [row]⟩],[]⟩ w V0 (.own ar.length 0 0 1)=some (V1,T))/\(∀bx,T.apply ⟨bx,ar++[⟨0,w,.inr [row]⟩],[]⟩=⟨bx,ar',[]⟩)/\V1.cells=[V1]/\V1.calm=true/\kh w ar' V1 (cs++[c]):=by
 refine B4 (X:=[⟨0,w,.inr [row]⟩]) (new:=.inr [row]) (rd:=some ar.length) hO hm (fun bx=>?_) rfl (fun o ho=>?_) hw hr
 .simp[bg,aF,aI]
 .injection ho with ho
  rw[<- ho]
  exact VI _
theorem Ff {w:Nat} {ar:List aL} {V0:V} {cs:List (List PV)} {c:List PV} (hO:kh w ar V0 cs) (hm:cs.length+1<=2147483648) (hw:c.length=w) (hr:xj (c.map .pv) c):
  ∃V1 T ar',(∀bx,aJ ⟨bx,ar,[]⟩ w V0 (.tl [c])=some (V1,T))/\(∀bx,T.apply ⟨bx,ar,[]⟩=⟨bx,ar',[]⟩)/\V1.cells=[V1]/\V1.calm=true/\kh w ar' V1 (cs++[c]):=by
 have:=B4 (X:=[]) (y:=.tl [c]) (new:=.inl [c]) (rd:=none) (c:=c) (row:=c.map .pv) hO hm (fun bx=>rfl) rfl (fun o h=>by cases h) (by simp[hw]) hr
 simpa only[List.append_nil]using this
theorem kh.bO {w:Nat} {ar:List aL} {V0:V} {cs:List (List PV)} (h:kh w ar V0 cs) (bx:List (Nat×List V)) (mp:List (List (PV×PV))):aV ⟨bx,ar,mp⟩ 4 V0=some (.aa 0 cs):=by
 rcases h with⟨rfl,rfl⟩|⟨o,aq,rfl,hrep⟩
 .rfl
 obtain⟨body,h1,h2,h3⟩:=hrep.it
 rw[fC,gp,h1]
 simp only[Option.bind_some,if_true]
 have hk:=mN (f:=aV ⟨bx,ar,mp⟩ 3) (c:=id) h2 (fun i row t hi ht=>h3 i row t hi ht _ 2)
 rw[List.map_id]at hk
 cases body with
 |inl R=>
  have hl:R.length=cs.length:=by simpa [bh]using h2
  simp only[aI,dD,List.drop_zero]
  rw[<- hl,VW]
  congr 1
  congr 1
  apply Wi
  intro i
  rcases VG i R.length with hi|hi
  .have e1:=VA hi
   have e2:=VA (l:=cs) (i:=i) (by omega)
   rw[e1,e2]
   have:=h3 i (R[i].map V.pv) (cs[i]'(by omega)) (by simp[bh,e1]) e2 ⟨bx,ar,mp⟩ 2
   rw[pn this]
  .rw[V8 hi,V8 (by omega)]
 |inr R=>
  have hl:R.length=cs.length:=by simpa [bh]using h2
  simp only[aI,dD,List.drop_zero]
  rw[<- hl,VW]
  have hk':aA (aA (aV ⟨bx,ar,mp⟩ 3)) R=some cs:=hk
  rw[hk']
  rfl
theorem kh.same {w:Nat} {ar:List aL} {V0:V} {cs:List (List PV)} (h:kh w ar V0 cs) (kb:List Nat):dO kb V0=V0:=by
 rcases h with⟨rfl,rfl⟩|⟨o,aq,rfl,_⟩<;>rfl
theorem kh.kept {w:Nat} {ar:List aL} {V0:V} {cs:List (List PV)} (h:kh w ar V0 cs) (bx:List (Nat×List V)) (mp:List (List (PV×PV))):Go.Pv.bO ⟨bx,ar,mp⟩ false V0=some (.aa 0 cs):=by
 have:=h.bO bx mp
 rcases h with⟨rfl,rfl⟩|⟨o,aq,rfl,_⟩<;>exact this
@[go_sem] theorem Og (p:Part):p.c.length=3:=rfl
@[go_sem] theorem Oh (x:Node):x.cs.length=5:=rfl
theorem Rb (a n:Nat):Int.tmod (a:Int) (n:Int)=((a%n:Nat):Int):=(Int.ofNat_tmod a n).symm
theorem ie {k:IntKind} {a n:Nat} (h:n≠0):cN .rem (.pv (.int k (a:Int))) (.pv (.int k (n:Int)))=some (.pv (.int k ((a%n:Nat):Int))):=by
 rw[yC (by omega),Rb]
theorem TW (a:Nat):cN .rem (.pv (.int .u8 (a:Int))) (.pv (.int .u8 9))=some (.pv (.int .u8 ((a%9:Nat):Int))):=ie (n:=9) (by decide)
theorem TX (a:Nat):cN .rem (.pv (.int .u8 (a:Int))) (.pv (.int .u8 7))=some (.pv (.int .u8 ((a%7:Nat):Int))):=ie (n:=7) (by decide)
theorem TY (a:Nat):cN .rem (.pv (.int .u8 (a:Int))) (.pv (.int .u8 6))=some (.pv (.int .u8 ((a%6:Nat):Int))):=ie (n:=6) (by decide)
theorem G5 (a:Nat):cN .rem (.pv (.int .u8 (a:Int))) (.pv (.int .u8 4))=some (.pv (.int .u8 ((a%4:Nat):Int))):=ie (n:=4) (by decide)
theorem G6 (a:Nat):cN .rem (.pv (.int .u8 (a:Int))) (.pv (.int .u8 2))=some (.pv (.int .u8 ((a%2:Nat):Int))):=ie (n:=2) (by decide)
theorem Rc (a:Nat):cN .rem (.pv (.int .u8 (a:Int))) (.pv (.int .u8 12))=some (.pv (.int .u8 ((a%12:Nat):Int))):=ie (n:=12) (by decide)
theorem LW {a i:Nat} (h:i<=8):cN .shr (.pv (.int .u8 (a:Int))) (.pv (.int .i64 (i:Int)))=some (.pv (.int .u8 ((a/2^i:Nat):Int))):=by
 have h0:¬(i:Int)<0:=by omega
 have hm:min ((i:Int).toNat) (IntKind.bits .u8)=i:=by
  rw[Ws]
  exact Xe h
 simp only[cN,or_true,if_true,rZ,h0,if_false,hm,Option.map_some]
 congr 3
 rw[Int.fdiv_eq_ediv_of_nonneg _ (by exact Int.pow_nonneg (by decide))]
 norm_cast
theorem pL {t:Nat} {d:List Node} {i:Nat} {x:Node} (h:d[i]?=some x):jz 5 t (d.map Node.cs) (some (i:Int))=some (V.pv (.ro t x.cs)):=by
 rw[oZ,VF,h]
 rfl
theorem r298 (t:Nat) (d:List Node) (i:Nat) (hi:i<d.length):res A az 298 [.agg [.aa t (d.map Node.cs)],.int .i64 i]=some [.int .i64 (aZ d i)]:=by
 refine ai a298 rfl rfl ?_
 simp only[F298,JL]
 have hx:=VA hi
 generalize d[i]=x at hx
 have hk:aZ d i=1+x.kind%9:=by rw[aZ,hx]; rfl
 have hidx:=pL (t:=t) hx
 unfold Node.cs at hidx
 unfold Node.cs
 have hb:x.kind%9<9:=Wa _ (by decide)
 simp(disch:=omega)only[go_sem,hidx,TW]
 rw[hk]
 push_cast
 rfl
theorem r299 (x:Node):res A az 299 [.agg x.cs]=some [.int .i64 (lA x)]:=by
 refine ai a299 rfl rfl ?_
 simp only[F299,JM]
 unfold Node.cs
 have hb:x.a%7<7:=Wa _ (by decide)
 simp(disch:=omega)only[go_sem,TX]
 rfl
theorem r300 (x:Node):res A az 300 [.agg x.cs]=some [.int .i64 (td x)]:=by
 refine ai a300 rfl rfl ?_
 simp only[F300,JN]
 have h:=r299 x
 have e:lA x=((x.a%7:Nat):Int) - 3:=rfl
 unfold Node.cs at *
 have hb:x.a%7<7:=Wa _ (by decide)
 have hc:x.b%6<6:=Wa _ (by decide)
 simp(disch:=omega)only[go_sem,h,TY]
 rfl
theorem r335 (k:Int):res A az 335 [.int .i64 k]=some [.bool (decide (7<=k))]:=by
 refine ai a335 rfl rfl ?_
 simp only[F335,Kh]
 simp(disch:=omega)only[go_sem]
theorem A7 (a n:Nat):jI a (n+1)=if a/2^n%2=1 then jI a n++[n] else jI a n:=by
 unfold jI
 rw[WR,List.filter_append]
 by_cases h:a/2^n%2=1
 .simp[h]
 .simp[h]
theorem vY (a n:Nat):(jI a n).length<=n:=by
 unfold jI
 exact Nat.le_trans (List.length_filter_le _ _) (by simp)
def nA (l:List Nat):List Int:=l.map fun(n:Nat)=>((n+1:Nat):Int)
def uL (l:List Nat):List Int:=l.map fun(n:Nat)=>(n:Int)
theorem A8 (l:List Nat) (n:Nat):nA (l++[n])=nA l++[((n+1:Nat):Int)]:=by simp[nA]
theorem B5 (n:Nat):cY n []=.tl []:=rfl
theorem B6 (k:Nat):cm k []=[]:=rfl
theorem r301 (x:Node):res A az 301 [.agg x.cs]=some [.aa 0 (ints (uL (j9 x.a)))]:=by
 refine ai a301 rfl rfl ?_
 simp only[F301,JO]
 obtain⟨k,a,b,c,ps⟩:=x
 unfold Node.cs
 dsimp only
 simp(disch:=omega)only[go_sem]
 refine W.cD 6 (fun j=>⟨[(1,.ptr 1 0),(3,cY 0 (ints (nA (jI a j)))),(4,.pv (.int .i64 j))],⟨[(1,[.pv (.int .u8 k),.pv (.int .u8 a),.pv (.int .u8 b),.pv (.int .u8 c),.pv (.aa 0 (ps.map Part.c))])],cm 1 (ints (nA (jI a j))),[]⟩⟩) (fun _=>True) rfl trivial (fun j hj _=>?_)
 have hl:(nA (jI a j)).length<=j:=by unfold nA; rw[VB]; exact vY a j
 simp(disch:=omega)only[go_sem]
 refine Br.aD (fun c1=>?_) (fun c1=>?_)
 .have hs:=LW (a:=a) (i:=j) (by omega)
  have hsucc:=A7 a j
  simp(disch:=omega)only[go_sem,hs,G6]
  refine Br.aD (fun c2=>?_) (fun c2=>?_)<;>simp(disch:=omega)only[go_sem]
  .refine .of (by omega) ?_ trivial
   rw[hsucc,if_pos (by omega),A8]
   rfl
  .refine .of (by omega) ?_ trivial
   rw[hsucc,if_neg (by omega)]
   rfl
 .obtain rfl:j=6:=by omega
  simp(disch:=omega)only[go_sem]
  unfold j9
  refine Br.aD (fun c2=>?_) (fun c2=>?_)
  .have h0:jI a 6=[]:=by
    unfold nA at c2
    rw[VB]at c2
    exact VJ (by omega)
   rw[if_pos h0,h0]
   simp(disch:=omega)only[go_sem,nA,List.map_nil,B5,B6]
   rfl
  .have h0:¬jI a 6=[]:=fun e=>c2 (by rw[e]; rfl)
   rw[if_neg h0]
   simp(disch:=omega)only[go_sem]
   congr 3
   unfold nA uL
   rw[W6]
   rfl
theorem r321 (t:Nat) (d:List Node) (i code:Nat) (h0:0<d.length) (hl:d.length<=5) (_hi:i<d.length) (hcode:code<=255):res A az 321 [.agg [.aa t (d.map Node.cs)],.int .i64 i,.int .u8 code]=some [.int .i64 (iI (fS d i code))]:=by
 refine ai a321 rfl rfl ?_
 simp only[F321,J5]
 have hc:code%d.length<d.length:=Wa _ h0
 have hr:=ie (k:=.i64) (a:=code) (n:=d.length) (by omega)
 unfold fS
 generalize hm:code%d.length=m at hc hr
 have h298:=fun t=>r298 t d m hc
 simp(disch:=omega)only[go_sem,hr,h298,r335]
 refine Br.aD (fun c=>?_) (fun c=>?_)
 .have d1:decide ((7:Int)<=aZ d m)=true:=by simpa using c
  have h7:7<=aZ d m:=by omega
  simp(disch:=omega)only[go_sem,d1]
  rw[if_pos (.inl h7)]
  rfl
 have d1:decide ((7:Int)<=aZ d m)=false:=by simpa using c
 have h7:¬7<=aZ d m:=by omega
 simp(disch:=omega)only[go_sem,d1]
 refine Br.aD (fun c2=>?_) (fun c2=>?_)<;>simp(disch:=omega)only[go_sem]
 .rw[if_pos (.inr (by omega))]
  rfl
 rw[if_neg (fun h=>h.elim h7 (fun h=>c2 (by omega)))]
 refine Br.aD (fun c3=>?_) (fun c3=>?_)
 .have hr2:=ie (k:=.i64) (a:=m) (n:=i) (by omega)
  simp(disch:=omega)only[go_sem,hr2]
  rw[if_pos (by omega)]
  rfl
 rw[if_neg (by omega)]
 obtain⟨G,hG⟩:∃G,iI ((List.range d.length).find? fun k=>decide (7<=aZ d k))=G:=⟨_,rfl⟩
 rw[hG]
 simp(disch:=omega)only[go_sem]
 refine W.find (List.range d.length) (fun k=>decide (7<=aZ d k)) (fun k=>⟨[(3,.ptr 3 0),(7,.pv (.int .i64 d.length)),(9,.pv (.int .i64 k))],⟨[(3,[.pv (.aa t (d.map Node.cs))])],[],[]⟩⟩) rfl (fun k y hy hk hfd=>?_) (fun hn=>?_)
 .obtain⟨rfl,hk⟩:=cL hy
  have h298:=fun t=>r298 t d y hk
  simp(disch:=omega)only[go_sem]
  refine Br.aD (fun c=>?_) (fun c=>(c (by omega)).elim)
  simp(disch:=omega)only[go_sem,h298,r335]
  refine Br.aD (fun g=>?_) (fun g=>?_)<;>simp(disch:=omega)only[go_sem]
  .rw[<- hG,(hfd (by simp; omega)).find]
   rfl
  .exact aX.of (by simp; omega) rfl
 .rw[hn.find]at hG
  rw[V7]
  simp(disch:=omega)only[go_sem]
  rw[<- hG]
  rfl
theorem r303 (t:Nat) (d:List Node) (code:Nat) (h0:0<d.length) (hl:d.length<=5) (hcode:code<=255):res A az 303 [.agg [.aa t (d.map Node.cs)],.int .u8 code]=some [.int .i64 (iI (nf d code))]:=by
 refine ai a303 rfl rfl ?_
 simp only[F303,JQ]
 unfold nf
 obtain⟨G,hG⟩:∃G,iI (((List.range d.length).find? fun k=>decide (aZ d ((code+k)%d.length)<=4)).map fun k=>(code+k)%d.length)=G:=⟨_,rfl⟩
 rw[hG]
 simp(disch:=omega)only[go_sem]
 refine W.find (List.range d.length) (fun k=>decide (aZ d ((code+k)%d.length)<=4)) (fun k=>⟨[(1,.pv (.int .u8 code)),(2,.ptr 2 0),(5,.pv (.int .i64 d.length)),(6,.pv (.int .i64 k))],⟨[(2,[.pv (.aa t (d.map Node.cs))])],[],[]⟩⟩) rfl (fun k y hy hk hfd=>?_) (fun hn=>?_)
 .obtain⟨rfl,hk⟩:=cL hy
  have hm:(code+y)%d.length<d.length:=Wa _ h0
  have hr:cN .rem (.pv (.int .i64 ((code:Int)+(y:Int)))) (.pv (.int .i64 (d.length:Int)))=some (.pv (.int .i64 (((code+y)%d.length:Nat):Int))):=ie (k:=.i64) (a:=code+y) (n:=d.length) (by omega)
  have h298:=fun t=>r298 t d _ hm
  have h1:1<=aZ d ((code+y)%d.length):=by
   unfold aZ
   rw[VA hm]
   simp[yM]
  generalize hmm:(code+y)%d.length=m at *
  simp(disch:=omega)only[go_sem]
  refine Br.aD (fun c=>?_) (fun c=>(c (by omega)).elim)
  simp(disch:=omega)only[go_sem,hr,h298,r288]
  refine Br.of (fun g=>?_) (fun g=>?_)<;>simp(disch:=omega)only[go_sem]
  .simp only[Bool.and_eq_true,decide_eq_true_eq]at g
   rw[<- hG,(hfd (by simp; omega)).find]
   show _=some [PV.int .i64 (((code+y)%d.length:Nat):Int)]
   rw[hmm]
  .refine aX.of ?_ rfl
   simp only[Bool.and_eq_false_iff,decide_eq_false_iff_not]at g
   simp
   omega
 .rw[hn.find]at hG
  rw[V7]
  simp(disch:=omega)only[go_sem]
  rw[<- hG]
  rfl
def initK (d:List Node) (i:Nat):Nat:=if aZ d i=8/\nf d 0=none then 7 else aZ d i
def G7 (a code:Nat):Nat:=((j9 a)[code%(j9 a).length]?).getD 0
def nB (k:Nat) (x:Node) (code:Nat):dM×Bool:=
 if k=1 then ({ bX with kind:=1,bool:=decide (code%2=1) },true)
 else if k=2 then ({ bX with kind:=2,int:=lA x+((code%(x.b%6+1):Nat):Int) },true)
 else if k=3 then ({ bX with kind:=3,str:=if 0<x.a%4/\code%2=1 then ⟨#[97]⟩ else ⟨#[]⟩ },true)
 else if k=4 then ({ bX with kind:=4,id:=G7 x.a code },true)
 else if k=5\/k=6 then (bX,false)
 else ({ bX with kind:=k },true)
theorem jL (d:List Node) (i:Nat):1<=aZ d i/\aZ d i<=9:=by
 unfold aZ
 cases d[i]? with
 |none=>decide
 |some x=>
  have:x.kind%9<9:=Wa _ (by decide)
  show 1<=yM x/\yM x<=9
  unfold yM
  omega
theorem tU (a:Nat):0<(j9 a).length/\(j9 a).length<=6:=by
 unfold j9
 split
 .decide
 .rename_i h
  rw[VB]
  exact⟨List.length_pos_iff.2 h,vY a 6⟩
theorem Re (n:Nat):decide ((n:Int)=1)=decide (n=1):=by
 rw[decide_eq_decide]
 omega
theorem zx (o:Option Nat):decide (iI o<0)=decide (o=none):=by
 cases o with
 |none=>rfl
 |some n=>
  have:¬(n:Int)<0:=by omega
  simp[iI,this]
theorem B7 {l:List Nat} {i:Nat} (h:i<l.length):(uL l)[i]?=some (((l[i]?).getD 0:Nat):Int):=by
 unfold uL
 rw[VF,VA h]
 rfl
set_option maxHeartbeats 1000000 in
theorem r322 (t:Nat) (d:List Node) (i code:Nat) (x:Node) (hx:d[i]?=some x) (h0:i<d.length) (hl:d.length<=5) (hcode:code<=255) (hxo:x.ok):res A az 322 [.agg [.aa t (d.map Node.cs)],.int .i64 i,.int .u8 code]=some [.agg (nB (initK d i) x code).1.c,.bool (nB (initK d i) x code).2]:=by
 refine ai a322 rfl rfl ?_
 simp only[F322,J6]
 have h298:=fun t=>r298 t d i h0
 have h303:∀t,res A az 303 [.agg [.aa t (d.map Node.cs)],.int .u8 0]=some [.int .i64 (iI (nf d 0))]:=fun t=>r303 t d 0 (by omega) hl (by omega)
 obtain⟨k1,k9⟩:=jL d i
 have hidx:=pL (t:=t) hx
 have h299:=r299 x
 have h300:=r300 x
 have h301:=r301 x
 obtain⟨⟨_,xa,xb,_⟩,_⟩:=hxo
 have hxa:x.a%4<4:=Wa _ (by decide)
 have hlo: -3<=lA x/\lA x<=3:=by
  have:x.a%7<7:=Wa _ (by decide)
  unfold lA
  omega
 have hb6:x.b%6<6:=Wa _ (by decide)
 have hhi:td x=lA x+((x.b%6:Nat):Int):=rfl
 have hr:=ie (k:=.i64) (a:=code) (n:=x.b%6+1) (by omega)
 have e1:lA x+((x.b%6:Nat):Int) - lA x+1=((x.b%6+1:Nat):Int):=by omega
 rw[<- e1]at hr
 have hm:code%(x.b%6+1)<x.b%6+1:=Wa _ (by omega)
 rw[hhi]at h300
 obtain⟨n0,n6⟩:=tU x.a
 have hn:(uL (j9 x.a)).length=(j9 x.a).length:=VB _
 have hr2:=ie (k:=.i64) (a:=code) (n:=(j9 x.a).length) (by omega)
 have hat:(uL (j9 x.a))[code%(uL (j9 x.a)).length]?=some ((G7 x.a code:Nat):Int):=by
  rw[hn]
  exact B7 (Wa code n0)
 rw[<- hn]at hr2
 unfold Node.cs at *
 have hk0:(aZ d i:Int)=1\/(aZ d i:Int)=2\/(aZ d i:Int)=3\/(aZ d i:Int)=4\/(aZ d i:Int)=5\/(aZ d i:Int)=6\/(aZ d i:Int)=7\/(aZ d i:Int)=8\/(aZ d i:Int)=9:=by omega
 unfold initK
 simp(disch:=omega)only[go_sem,hidx,h298]
 rcases hk0 with hk|hk|hk|hk|hk|hk|hk|hk|hk
 all_goals simp(disch:=omega)only[go_sem,hk,G6,G5,h299,h300,h301,h303,Re,zx]
 .have e:aZ d i=1:=by omega
  rw[e,if_neg (by omega)]
  rfl
 .simp(disch:=omega)only[go_sem,hr]
  have e:aZ d i=2:=by omega
  rw[e,if_neg (by omega)]
  rfl
 .have e:aZ d i=3:=by omega
  rw[e,if_neg (by omega)]
  refine Br.aD (fun c=>?_) (fun c=>?_)<;>simp(disch:=omega)only[go_sem,c,G6]
  .refine Br.aD (fun c2=>?_) (fun c2=>?_)<;>simp(disch:=omega)only[go_sem,c2]
   .have e2:0<x.a%4/\code%2=1:=by omega
    simp[nB,e2,dM.c,bX]
   .have e2:¬(0<x.a%4/\code%2=1):=by omega
    simp[nB,e2,dM.c,bX]
  .have e2:¬(0<x.a%4/\code%2=1):=by omega
   simp[nB,e2,dM.c,bX]
 .simp(disch:=omega)only[go_sem,hr2,hat]
  have e:aZ d i=4:=by omega
  rw[e,if_neg (by omega)]
  rfl
 .have e:aZ d i=5:=by omega
  rw[e,if_neg (by omega)]
  rfl
 .have e:aZ d i=6:=by omega
  rw[e,if_neg (by omega)]
  rfl
 .have e:aZ d i=7:=by omega
  rw[e,if_neg (by omega)]
  rfl
 .have e:aZ d i=8:=by omega
  rw[e]
  refine Br.aD (fun c=>?_) (fun c=>?_)<;>simp(disch:=omega)only[go_sem]
  .simp only[c,if_true]
   rfl
  .simp only[c,if_false]
   rfl
 .have e:aZ d i=9:=by omega
  rw[e,if_neg (by omega)]
  rfl
def nC (id:Nat):ByteArray:=⟨#[109]⟩++Utf8.encode (97+(id:Int))
def qA (d:List Node) (i id:Nat) (p:Part):Bool:=decide (1+p.id%12=id)&&(fS d i p.type).isSome
def LX:Node:=⟨0,0,0,0,[]⟩
def nodeAt (d:List Node) (u:Nat):Node:=(d[u]?).getD LX
def tW (d:List Node) (u:Nat) (p:Part):dM×Bool:=nB (initK d u) (nodeAt d u) (p.flag/4)
def fV (d:List Node) (i:Nat) (fl:Bool) (id:Nat) (p:Part):Mem:=
 ⟨id,nC id,iI (fS d i p.type),fl&&decide (p.flag%4=1),fl&&(decide (2<=p.flag%4)&&(tW d ((fS d i p.type).getD 0) p).2),
  if (fl&&decide (2<=p.flag%4))=true then (tW d ((fS d i p.type).getD 0) p).1 else bX⟩
def rh (d:List Node) (i:Nat) (fl:Bool) (ps:List Part) (id:Nat):Option Mem:=(ps.find? (qA d i id)).map (fV d i fl id)
def dq (d:List Node) (i:Nat) (fl:Bool) (ps:List Part) (k:Nat):List Mem:=(List.range k).filterMap fun j=>rh d i fl ps (j+1)
theorem ri (d:List Node) (i:Nat) (fl:Bool) (ps:List Part) (k:Nat):dq d i fl ps (k+1)=dq d i fl ps k++(rh d i fl ps (k+1)).toList:=by
 unfold dq
 rw[WR,Xl]
 congr 1
theorem tX (d:List Node) (i:Nat) (fl:Bool) (ps:List Part) (k:Nat):(dq d i fl ps k).length<=k:=by
 unfold dq
 exact Nat.le_trans (List.length_filterMap_le _ _) (by simp)
theorem Fg {t:Nat} {ps:List Part} {i:Nat} {p:Part} (h:ps[i]?=some p):jz 3 t (ps.map Part.c) (some (i:Int))=some (V.pv (.ro t p.c)):=by
 rw[oZ,VF,h]
 rfl
theorem tY {d:List Node} {i code u:Nat} (h0:0<d.length) (hi:i<d.length) (h:fS d i code=some u):u<d.length:=by
 have hm:code%d.length<d.length:=Wa _ h0
 unfold fS at h
 split at h
 .cases h
  exact hm
 .split at h
  .cases h
   rename_i h1
   exact Nat.lt_trans (Wa _ h1) hi
  .have:=List.mem_of_find?_eq_some h
   simpa using this
theorem wrap_i32 {x:Int} (h1: -2147483648<=x) (h2:x<=2147483647):IntKind.wrap .i32 x=x:=by
 show (if (true&&decide (x%(2^32:Int)≥(2^31:Int)))=true then x%(2^32:Int) - (2^32:Int) else x%(2^32:Int))=x
 simp only[Bool.true_and,decide_eq_true_eq,Int.reducePow]
 by_cases h:x%4294967296≥2147483648
 .rw[if_pos h]; omega
 .rw[if_neg h]; omega
theorem TZ {a:Nat} (h:a<=255):cN .quo (.pv (.int .u8 (a:Int))) (.pv (.int .u8 4))=some (.pv (.int .u8 ((a/4:Nat):Int))):=by
 have e:(a:Int).tdiv 4=((a/4:Nat):Int):=(Int.ofNat_tdiv a 4).symm
 rw[yB (by decide),e,wrap_u8 (by omega) (by omega)]
theorem Fh {k:Nat} (h:k<12):(Utf8.encode (97+((k+1:Nat):Int))).size=1:=by
 have:∀k:Fin 12,(Utf8.encode (97+((k.val+1:Nat):Int))).size=1:=by decide
 exact this ⟨k,h⟩
theorem Dc {k:Nat} (h:k<12):cN .add (.pv (.str ⟨#[109]⟩)) (.pv (.str (Utf8.encode (IntKind.wrap .i32 (97+((k+1:Nat):Int))))))=some (.pv (.str (nC (k+1)))):=by
 rw[wrap_i32 (by omega) (by omega)]
 have h1:(⟨#[109]⟩:ByteArray).size=1:=rfl
 have h2:(1:Nat)+1<=1099511627776:=by omega
 simp only[cN,lE,h1,Fh h,h2,if_true,Option.map_some]
 rfl
set_option maxHeartbeats 4000000 in
theorem r302 (t:Nat) (d:List Node) (i:Nat) (fl:Bool) (x:Node) (hx:d[i]?=some x) (h0:i<d.length) (hl:d.length<=5) (hok:∀y∈d,y.ok):
  res A az 302 [.agg [.aa t (d.map Node.cs)],.int .i64 i,.bool fl]=some [.aa 0 ((dq d i fl x.parts 12).map Mem.c)]:=by
 refine ai a302 rfl rfl ?_
 simp only[F302,JP]
 have hidx:jz 5 t (d.map Node.cs) (some (i:Int))=some (V.pv (.ro t [.int .u8 x.kind,.int .u8 x.a,.int .u8 x.b,.int .u8 x.c,.aa 0 (x.parts.map Part.c)])):=pL (t:=t) hx
 have hxo:=hok x (Vz hx)
 obtain⟨_,hpl,hpo⟩:=hxo
 unfold bV at hpl
 simp(disch:=omega)only[go_sem,hidx]
 refine W.loop (α:=Nat×List aL×V) (fun y=>⟨[(1,.pv (.int .i64 i)),(2,.pv (.bool fl)),(3,.ptr 3 0),(7,.ptr 7 0),(8,y.2.2),(9,.pv (.int .i64 ((y.1+1:Nat):Int)))],⟨[(3,[.pv (.aa t (d.map Node.cs))]),(7,[.pv (.int .u8 x.kind),.pv (.int .u8 x.a),.pv (.int .u8 x.b),.pv (.int .u8 x.c),.pv (.aa 0 (x.parts.map Part.c))])],y.2.1,[]⟩⟩)
  (fun y=>y.1<=12/\kh 13 y.2.1 y.2.2 ((dq d i fl x.parts y.1).map Mem.c)) (fun y=>12 - y.1) (0,[],.tl []) rfl ⟨V4 _,.inl ⟨rfl,rfl⟩⟩ fun y hy=>?_
 obtain⟨k,ar,V0⟩:=y
 obtain⟨hk,hO⟩:=hy
 dsimp only at hk hO
 have hsc:=fun kb=>hO.same kb
 simp(disch:=omega)only[go_sem,hsc]
 refine Br.aD (fun c=>?_) (fun c=>?_)
 rotate_left
 .obtain rfl:k=12:=by omega
  have hkeep:=fun bx=>hO.kept bx []
  simp(disch:=omega)only[go_sem,hsc,hkeep]
 simp(disch:=omega)only[go_sem,hsc]
 refine W.find x.parts (qA d i (k+1)) (fun j=>⟨[(1,.pv (.int .i64 i)),(2,.pv (.bool fl)),(3,.ptr 3 0),(7,.ptr 7 0),(8,V0),(9,.pv (.int .i64 ((k+1:Nat):Int))),(10,.pv (.int .i64 j))],⟨[(3,[.pv (.aa t (d.map Node.cs))]),(7,[.pv (.int .u8 x.kind),.pv (.int .u8 x.a),.pv (.int .u8 x.b),.pv (.int .u8 x.c),.pv (.aa 0 (x.parts.map Part.c))])],ar,[]⟩⟩) rfl (fun j p hp hj hfd=>?_) (fun hn=>?_)
 rotate_left
 .have e:rh d i fl x.parts (k+1)=none:=by
   unfold rh
   rw[hn.find]
   rfl
  simp(disch:=omega)only[go_sem,hsc]
  refine⟨(k+1,ar,V0),⟨by dsimp only; omega,?_⟩,by dsimp only; omega,rfl⟩
  dsimp only
  rw[ri,e]
  simpa using hO
 have hidp:jz 3 0 (x.parts.map Part.c) (some (j:Int))=some (V.pv (.ro 0 [.int .u8 p.id,.int .u8 p.type,.int .u8 p.flag])):=Fg (t:=0) hp
 obtain⟨pi,pt,pf⟩:=hpo p (Vz hp)
 have h321:=fun t=>r321 t d i p.type (by omega) hl h0 pt
 simp(disch:=omega)only[go_sem,hsc]
 refine Br.aD (fun _=>?_) (fun c=>absurd (by omega) c)
 simp(disch:=omega)only[go_sem,hsc,hidp,h321,Rc]
 refine Br.aD (fun c1=>?_) (fun c1=>?_)<;>simp(disch:=omega)only[go_sem,hsc,c1]
 rotate_left
 .have e:qA d i (k+1) p=false:=by
   have:¬1+p.id%12=k+1:=by omega
   simp[qA,this]
  exact aX.of e rfl
 cases htg:fS d i p.type with
 |none=>
  have e:qA d i (k+1) p=false:=by simp[qA,htg]
  have en:decide (iI none<0)=true:=rfl
  simp(disch:=omega)only[go_sem,hsc,en]
  exact aX.of e rfl
 |some u=>
  have hu:=tY (by omega) h0 htg
  have en:decide ((u:Int)<0)=false:=by simp
  have eu:iI (some u)=u:=rfl
  have e:qA d i (k+1) p=true:=by
   have:1+p.id%12=k+1:=by omega
   simp[qA,htg,this]
  have em:rh d i fl x.parts (k+1)=some (fV d i fl (k+1) p):=by
   unfold rh
   rw[(hfd e).find]
   rfl
  have hx2:d[u]?=some (nodeAt d u):=by
   unfold nodeAt
   rw[VA hu]
   rfl
  have h322:=fun t=>r322 t d u (p.flag/4) (nodeAt d u) hx2 hu hl (by omega) (hok _ (Vz hx2))
  have hnm:=Dc (k:=k) (by omega)
  have hlen:=tX d i fl x.parts k
  simp(disch:=omega)only[go_sem,hsc,en,eu,hnm]
  have hnext:(dq d i fl x.parts (k+1)).map Mem.c=(dq d i fl x.parts k).map Mem.c++[(fV d i fl (k+1) p).c]:=by
   rw[ri,em,Wk]
   rfl
  have hml:((dq d i fl x.parts k).map Mem.c).length+1<=2147483648:=by
   rw[VB]
   omega
  have hbare:∀cr:Bool,fV d i fl (k+1) p=⟨(k+1:Nat),nC (k+1),u,cr,false,bX⟩->xj [.pv (.int .i64 ((k+1:Nat):Int)),.pv (.str (nC (k+1))),.pv (.int .i64 u),.pv (.bool cr),.pv (.bool false),.pv (.int .i64 0),.pv (.bool false),.pv (.int .i64 0),.pv (.str ⟨#[]⟩),.pv (.int .i64 0),.tl [],.tl [],.tl []] (fV d i fl (k+1) p).c:=fun cr he h d=>by
   rw[he]
   rfl
  cases fl with
  |false=>
   have hm:fV d i false (k+1) p=⟨(k+1:Nat),nC (k+1),u,false,false,bX⟩:=by simp[fV,htg,iI]
   obtain⟨V1,T,ar',happ,hT,_,_,hO'⟩:=addLit hO hml rfl (hbare _ hm)
   have hsc1:=fun kb=>hO'.same kb
   simp(disch:=omega)only[go_sem,hsc,happ,hT,hsc1]
   refine⟨(k+1,ar',V1),⟨by dsimp only; omega,by dsimp only; rw[hnext]; exact hO'⟩,by dsimp only; omega,rfl⟩
  |true=>
   simp(disch:=omega)only[go_sem,hsc,G5]
   refine Br.aD (fun c2=>?_) (fun c2=>?_)<;>simp(disch:=omega)only[go_sem,hsc,c2,G5]
   .have hm:fV d i true (k+1) p=⟨(k+1:Nat),nC (k+1),u,true,false,bX⟩:=by
     have e1:p.flag%4=1:=by omega
     simp[fV,htg,iI,e1]
    obtain⟨V1,T,ar',happ,hT,_,_,hO'⟩:=addLit hO hml rfl (hbare _ hm)
    have hsc1:=fun kb=>hO'.same kb
    simp(disch:=omega)only[go_sem,happ,hT,hsc1]
    refine⟨(k+1,ar',V1),⟨by dsimp only; omega,by dsimp only; rw[hnext]; exact hO'⟩,by dsimp only; omega,rfl⟩
   .refine Br.aD (fun c3=>?_) (fun c3=>?_)
    .have hq:=TZ pf
     have e1:¬p.flag%4=1:=by omega
     have e2:2<=p.flag%4:=by omega
     have hm:fV d i true (k+1) p=⟨(k+1:Nat),nC (k+1),u,false,(tW d u p).2,(tW d u p).1⟩:=by
      simp[fV,htg,iI,e1,e2]
     have ed:tW d u p=nB (initK d u) (nodeAt d u) (p.flag/4):=rfl
     rw[<- ed]at h322
     generalize tW d u p=iv at hm h322
     unfold dM.c at h322
     have hthin:xj ((fV d i true (k+1) p).c.map .pv) (fV d i true (k+1) p).c:=fun h d=>by
      rw[hm]
      rfl
     have hadd:=Ff hO hml rfl hthin
     rw[hm]at hadd
     unfold Mem.c at hadd
     dsimp only at hadd
     obtain⟨V1,T,ar',happ,hT,_,_,hO'⟩:=hadd
     have hsc1:=fun kb=>hO'.same kb
     simp(disch:=omega)only[go_sem,hsc,hq,h322,happ,hT,hsc1]
     refine⟨(k+1,ar',V1),⟨by dsimp only; omega,by dsimp only; rw[hnext,hm]; exact hO'⟩,by dsimp only; omega,rfl⟩
    .have hm:fV d i true (k+1) p=⟨(k+1:Nat),nC (k+1),u,false,false,bX⟩:=by
      have e1:¬p.flag%4=1:=by omega
      have e2:¬2<=p.flag%4:=by omega
      simp[fV,htg,iI,e1,e2]
     obtain⟨V1,T,ar',happ,hT,_,_,hO'⟩:=addLit hO hml rfl (hbare _ hm)
     have hsc1:=fun kb=>hO'.same kb
     simp(disch:=omega)only[go_sem,happ,hT,hsc1]
     refine⟨(k+1,ar',V1),⟨by dsimp only; omega,by dsimp only; rw[hnext]; exact hO'⟩,by dsimp only; omega,rfl⟩
def tZ (ar:List aL) (V0:V) (ts:List aC):Prop:=(V0=.tl []/\ts=[])\/∃o aq,V0=.own o aq 0 ts.length/\AQ ar o aq ts
theorem LY {ar X:List aL} {V0 y:V} {ts:List aC} {t:aC} {new:Sum (List (List PV)) (List (List V))} {rd:Option Nat} {row:List V} (hO:tZ ar V0 ts) (hm:ts.length+1<=2147483648)
  (hs:∀bx,bg ⟨bx,ar++X,[]⟩ y=some (new,rd)) (hn:bh new=[row]) (hrd:∀o,rd=some o->ar.length<=o) (hr:∀o,o<ar.length\/(ar++X).length<=o->mg (ar++X) o row t):
  ∃V1 T ar',(∀bx,aJ ⟨bx,ar++X,[]⟩ 10 V0 y=some (V1,T))/\(∀bx,T.apply ⟨bx,ar++X,[]⟩=⟨bx,ar',[]⟩)/\V1.cells=[V1]/\V1.calm=true/\tZ ar' V1 (ts++[t]):=by
 have hrow:row.length=10:=(hr _ (.inr (VI _))).len
 rcases hO with⟨rfl,rfl⟩|⟨o,aq,rfl,hrep⟩
 .refine⟨_,_,(ar++X)++[⟨0,10,aR (.inl []) new⟩],fun bx=>CS (hs bx) hn hrow,fun bx=>?_,rfl,rfl,.inr ⟨(ar++X).length,0,rfl,?_⟩⟩
  .simp[Tn.apply]
  .refine⟨by simp,aR (.inl []) new,by simp,?_⟩
   rw[iR,hn]
   have h1:mh ((ar++X)++[⟨0,10,aR (.inl []) new⟩]) (ar++X).length (bh (.inl [])) []:=⟨rfl,fun i r u h1 _=>by simp[bh]at h1⟩
   exact h1.snoc ((hr _ (.inr (VI _))).push _)
 .obtain⟨body,hb1,hb2⟩:=hrep.it
  have hol:=(Vy.1 hb1).1
  have hb1':(ar++X)[o]?=some ⟨aq,10,body⟩:=by rw[VC hol]; exact hb1
  have hbl:aB body=ts.length:=by rw[<- fF]; exact hb2.len
  have happ:=fun bx=>EI (bx:=bx) (mp:=[]) (hs bx) hn hrow hb1' hbl (fun e=>by have:=hrd o e; omega) hm
  rw[BR (aq:=aq) hbl rfl]at happ
  refine⟨_,_,(ar++X).set o ⟨aq+1,10,aR body new⟩,happ,fun bx=>?_,rfl,rfl,.inr ⟨o,aq+1,by simp,?_⟩⟩
  .simp[Tn.apply]
  .refine⟨by simp,aR body new,?_,?_⟩
   .rw[VY (by rw[VE]; omega)]
   .rw[iR,hn]
    exact(((hb2.push X).set _).snoc ((hr o (.inl hol)).set _))
theorem vZ {ar X0:List aL} {V0:V} {ts:List aC} {t:aC} {row:List V} {n:Nat} (hO:tZ ar V0 ts) (hm:ts.length+1<=2147483648) (hl:(ar++X0).length=n)
  (hr:∀o,o<ar.length\/n+1<=o->mg (ar++X0++[⟨0,10,.inr [row]⟩]) o row t):
  ∃V1 T ar',(∀bx,aJ ⟨bx,ar++X0++[⟨0,10,.inr [row]⟩],[]⟩ 10 V0 (.own n 0 0 1)=some (V1,T))/\(∀bx,T.apply ⟨bx,ar++X0++[⟨0,10,.inr [row]⟩],[]⟩=⟨bx,ar',[]⟩)/\V1.cells=[V1]/\V1.calm=true/\tZ ar' V1 (ts++[t]):=by
 rw[VO]at hr |-
 refine LY (X:=X0++[⟨0,10,.inr [row]⟩]) (new:=.inr [row]) (rd:=some n) hO hm (fun bx=>?_) rfl (fun o ho=>?_) (fun o ho=>hr o ?_)
 .have hg:(ar++(X0++[⟨0,10,.inr [row]⟩]))[n]?=some ⟨0,10,.inr [row]⟩:=by
   rw[<- VO,<- hl]
   simp
  simp[bg,aF,hg,aI]
 .injection ho with ho
  rw[<- ho,<- hl,VE]
  omega
 .rcases ho with ho|ho
  .exact .inl ho
  .rw[<- VO,VE,hl]at ho
   exact .inr ho
theorem tZ.bO {ar:List aL} {V0:V} {ts:List aC} (h:tZ ar V0 ts) (bx:List (Nat×List V)) (mp:List (List (PV×PV))):aV ⟨bx,ar,mp⟩ 4 V0=some (.aa 0 (ts.map aC.c)):=by
 rcases h with⟨rfl,rfl⟩|⟨o,aq,rfl,hrep⟩
 .rfl
 .exact hrep.bO bx mp
theorem gY {ar:List aL} {o:Nat} {t:aC} (hs:t.syms=[]) (hm:t.aN=[]):mg ar o [.pv (.int .i64 t.kind),.pv (.str t.name),.pv (.int .i64 t.low),.pv (.int .i64 t.high),.pv (.int .i64 t.max),.tl [],.tl [],.pv (.int .i64 t.key),.pv (.int .i64 t.elem),.pv (.bool t.ku)] t:=
 ⟨.tl [],.tl [],rfl,.inr (.inr (by rw[hs]; rfl)),.inr (.inr (by rw[hm]; rfl))⟩
theorem mem_row {ar:List aL} {o:Nat} {t:aC} (hs:t.syms=[]):mg ar o [.pv (.int .i64 t.kind),.pv (.str t.name),.pv (.int .i64 t.low),.pv (.int .i64 t.high),.pv (.int .i64 t.max),.tl [],.pv (.aa 0 (t.aN.map Mem.c)),.pv (.int .i64 t.key),.pv (.int .i64 t.elem),.pv (.bool t.ku)] t:=
 ⟨.tl [],_,rfl,.inr (.inr (by rw[hs]; rfl)),.inl rfl⟩
theorem tZ.quiet {ar:List aL} {V0:V} {ts:List aC} (h:tZ ar V0 ts):V0.calm=true/\V0.cells=[V0]:=by
 rcases h with⟨rfl,rfl⟩|⟨o,aq,rfl,_⟩<;>exact⟨rfl,rfl⟩
theorem jX {ar:List aL} {V0:V} {ts:List aC} {t:aC} {row:List V} (hO:tZ ar V0 ts) (hm:ts.length+1<=2147483648) (hr:∀ar o,mg ar o row t):
  ∃V1 T ar',(∀bx,aJ ⟨bx,ar++[⟨0,10,.inr [row]⟩],[]⟩ 10 V0 (.own ar.length 0 0 1)=some (V1,T))/\(∀bx,T.apply ⟨bx,ar++[⟨0,10,.inr [row]⟩],[]⟩=⟨bx,ar',[]⟩)/\V1.cells=[V1]/\V1.calm=true/\tZ ar' V1 (ts++[t]):=by
 have:=vZ (X0:=[]) (row:=row) (n:=ar.length) hO hm (by simp) (fun o _=>hr _ o)
 simpa only[List.append_nil]using this
def cS (k:Int) (nm:ByteArray):aC:=⟨k,nm,0,0,0,[],[],0,0,false⟩
def dJ (i:Nat):ByteArray:=Utf8.encode (65+(i:Int))
def zy (n:Nat):Sym:=⟨n,⟨#[115]⟩++Utf8.encode (97+(n:Int))⟩
def uc (a:Nat):List Sym:=(j9 a).map zy
theorem Dd {n:Nat} (h:n<=12):(Utf8.encode (97+(n:Int))).size=1:=by
 have:∀k:Fin 13,(Utf8.encode (97+((k.val:Nat):Int))).size=1:=by decide
 exact this ⟨n,by omega⟩
theorem Fi {n:Nat} (h:n<=12):cN .add (.pv (.str ⟨#[115]⟩)) (.pv (.str (Utf8.encode (97+(n:Int)))))=some (.pv (.str (zy n).name)):=by
 have h1:(⟨#[115]⟩:ByteArray).size=1:=rfl
 have h2:(1:Nat)+1<=1099511627776:=by omega
 simp only[cN,lE,h1,Dd h,h2,if_true,Option.map_some]
 rfl
theorem oe {a n:Nat} (h:n∈j9 a):1<=n/\n<=6:=by
 unfold j9 at h
 split at h
 .simp at h
  omega
 .obtain⟨m,hm,rfl⟩:=VP.1 h
  unfold jI at hm
  have:=WA.1 (List.mem_filter.1 hm).1
  omega
def Fj (n:Nat):List PV:=[.int .i64 n,.str (zy n).name]
def gj (l:List Nat) (j:Nat):List (List PV):=(l.take j).map Fj
theorem A9 {l:List Nat} {j n:Nat} (h:l[j]?=some n):gj l (j+1)=gj l j++[Fj n]:=by
 unfold gj
 rw[VT,h,Wk]
 rfl
theorem Fk {ar X:List aL} {o:Nat} {l:List Nat} (hl:l≠[]) (ho:o<ar.length\/ar.length+2<=o):Home (ar++cm 2 (gj l l.length)++X) o 2 (cY ar.length (gj l l.length)) ((l.map zy).map Sym.c):=by
 have e:gj l l.length=(l.map zy).map Sym.c:=by
  unfold gj
  rw[VW,W6]
  rfl
 rw[e]
 cases l with
 |nil=>exact absurd rfl hl
 |cons n l=>
  refine .inr (.inl ⟨ar.length,((l.map zy).map Sym.c).length,rfl,by omega,?_⟩)
  rw[VO,VM (VI _),Nat.sub_self]
  rfl
def eh (d:List Node) (i:Nat):aC:=
 if aZ d i=2 then { cS 2 ⟨#[]⟩ with low:=lA (nodeAt d i),high:=td (nodeAt d i) }
 else if aZ d i=3 then { cS 3 ⟨#[]⟩ with max:=((nodeAt d i).a%4:Nat) }
 else if aZ d i=4 then { cS 4 (dJ i)with syms:=uc (nodeAt d i).a,ku:=decide ((nodeAt d i).b%2=1) }
 else if aZ d i=5 then { cS 5 (dJ i)with aN:=dq d i true (nodeAt d i).parts 12 }
 else if aZ d i=6 then (if (dq d i false (nodeAt d i).parts 12).length=0 then cS 5 (dJ i) else { cS 6 (dJ i)with aN:=dq d i false (nodeAt d i).parts 12,ku:=decide ((nodeAt d i).b%2=1) })
 else if aZ d i=7 then { cS 7 ⟨#[]⟩ with max:=((nodeAt d i).a%4:Nat),elem:=((nodeAt d i).c%d.length:Nat) }
 else if aZ d i=8 then (if nf d (nodeAt d i).b=none then { cS 7 ⟨#[]⟩ with max:=((nodeAt d i).a%4:Nat),elem:=((nodeAt d i).c%d.length:Nat) } else { cS 8 ⟨#[]⟩ with max:=((nodeAt d i).a%4:Nat),key:=iI (nf d (nodeAt d i).b),elem:=((nodeAt d i).c%d.length:Nat) })
 else if aZ d i=9 then { cS 9 ⟨#[]⟩ with elem:=((nodeAt d i).c%d.length:Nat) }
 else cS 1 ⟨#[]⟩
def ux (d:List Node):List aC×Bool:=if d.length<1\/5<d.length then ([],false) else ((List.range d.length).map (eh d),true)
set_option maxHeartbeats 4000000 in
theorem r279 (t:Nat) (d:List Node) (hok:∀y∈d,y.ok) (hll:bV d):res A az 279 [.agg [.aa t (d.map Node.cs)]]=some [.agg [.aa 0 ((ux d).1.map aC.c)],.bool (ux d).2]:=by
 refine ai a279 rfl rfl ?_
 simp only[F279,Jy]
 unfold bV at hll
 simp(disch:=omega)only[go_sem]
 unfold ux
 refine Br.aD (fun c=>?_) (fun c=>?_)<;>simp(disch:=omega)only[go_sem,c]
 .rw[if_pos (.inl (by omega))]
  rfl
 refine Br.aD (fun c2=>?_) (fun c2=>?_)<;>simp(disch:=omega)only[go_sem,c2]
 .rw[if_pos (.inr (by omega))]
  rfl
 rw[if_neg (by omega)]
 refine W.loop (α:=Nat×List aL×V) (fun y=>⟨[(1,.ptr 1 0),(2,.ptr 2 0),(4,.pv (.int .i64 d.length)),(5,.ptr 5 0),(6,.pv (.int .i64 y.1))],⟨[(1,[.pv (.aa t (d.map Node.cs))]),(2,[.tl []]),(5,[y.2.2])],y.2.1,[]⟩⟩)
  (fun y=>y.1<=d.length/\tZ y.2.1 y.2.2 ((List.range y.1).map (eh d))) (fun y=>d.length - y.1) (0,[],.tl []) rfl ⟨V4 _,.inl ⟨rfl,rfl⟩⟩ fun y hy=>?_
 obtain⟨i,ar,V0⟩:=y
 obtain⟨hi,hO⟩:=hy
 dsimp only at hi hO
 simp(disch:=omega)only[go_sem]
 refine Br.aD (fun c3=>?_) (fun c3=>?_)
 rotate_left
 .obtain rfl:i=d.length:=by omega
  have hkeep:=fun bx=>hO.bO bx []
  obtain⟨hq1,hq2⟩:=hO.quiet
  simp(disch:=omega)only[go_sem,hkeep,hq1]
 have hx:d[i]?=some (nodeAt d i):=by
  unfold nodeAt
  rw[VA (by omega)]
  rfl
 have hidx:jz 5 t (d.map Node.cs) (some (i:Int))=some (V.pv (.ro t [.int .u8 (nodeAt d i).kind,.int .u8 (nodeAt d i).a,.int .u8 (nodeAt d i).b,.int .u8 (nodeAt d i).c,.aa 0 ((nodeAt d i).parts.map Part.c)])):=pL (t:=t) hx
 have h298:=fun t=>r298 t d i (by omega)
 have h286:=r286 (aZ d i:Int)
 obtain⟨k1,k9⟩:=jL d i
 have hk0:(aZ d i:Int)=1\/(aZ d i:Int)=2\/(aZ d i:Int)=3\/(aZ d i:Int)=4\/(aZ d i:Int)=5\/(aZ d i:Int)=6\/(aZ d i:Int)=7\/(aZ d i:Int)=8\/(aZ d i:Int)=9:=by omega
 have hnext:(List.range (i+1)).map (eh d)=(List.range i).map (eh d)++[eh d i]:=by
  rw[WR,Wk]
  rfl
 have hml:((List.range i).map (eh d)).length+1<=2147483648:=by simp; omega
 have hxo:=hok _ (Vz hx)
 obtain⟨⟨_,xa,xb,xc⟩,_⟩:=hxo
 have hcn:(nodeAt d i).c%d.length<d.length:=Wa _ (by omega)
 have hrn:=ie (k:=.i64) (a:=(nodeAt d i).c) (n:=d.length) (by omega)
 have h4:(nodeAt d i).a%4<4:=Wa _ (by decide)
 have h299:=r299 (nodeAt d i)
 have h300:=r300 (nodeAt d i)
 have h301:=r301 (nodeAt d i)
 have h302:=fun t fl=>r302 t d i fl _ hx (by omega) (by omega) hok
 have h303:=fun t=>r303 t d (nodeAt d i).b (by omega) (by omega) xb
 unfold Node.cs at h299 h300 h301
 simp(disch:=omega)only[go_sem,hidx,h298,h286]
 rcases hk0 with hk|hk|hk|hk|hk|hk|hk|hk|hk
 all_goals simp(disch:=omega)only[go_sem,hk,G6,G5,hrn,h299,h300,h301,h302,h303,zx,wrap_i32,Re]
 .have e:aZ d i=1:=by omega
  have hty:eh d i=cS 1 ⟨#[]⟩:=by simp only[eh,e]; rfl
  have hb:=jX (t:=cS 1 ⟨#[]⟩) hO hml (fun ar o=>gY rfl rfl)
  obtain⟨V1,T,ar',happ,hT,hc1,hc2,hO'⟩:=hb
  dsimp only[cS,dJ]at happ hT
  simp(disch:=omega)only[go_sem,happ,hT,hc1,hc2]
  refine⟨(i+1,ar',V1),⟨by dsimp only; omega,by dsimp only; rw[hnext,hty]; exact hO'⟩,by dsimp only; omega,rfl⟩
 .have e:aZ d i=2:=by omega
  have hty:eh d i={ cS 2 ⟨#[]⟩ with low:=lA (nodeAt d i),high:=td (nodeAt d i) }:=by simp only[eh,e]; rfl
  have hb:=jX (t:={ cS 2 ⟨#[]⟩ with low:=lA (nodeAt d i),high:=td (nodeAt d i) }) hO hml (fun ar o=>gY rfl rfl)
  obtain⟨V1,T,ar',happ,hT,hc1,hc2,hO'⟩:=hb
  dsimp only[cS,dJ]at happ hT
  simp(disch:=omega)only[go_sem,happ,hT,hc1,hc2]
  refine⟨(i+1,ar',V1),⟨by dsimp only; omega,by dsimp only; rw[hnext,hty]; exact hO'⟩,by dsimp only; omega,rfl⟩
 .have e:aZ d i=3:=by omega
  have hty:eh d i={ cS 3 ⟨#[]⟩ with max:=((nodeAt d i).a%4:Nat) }:=by simp only[eh,e]; rfl
  have hb:=jX (t:={ cS 3 ⟨#[]⟩ with max:=((nodeAt d i).a%4:Nat) }) hO hml (fun ar o=>gY rfl rfl)
  obtain⟨V1,T,ar',happ,hT,hc1,hc2,hO'⟩:=hb
  dsimp only[cS,dJ]at happ hT
  simp(disch:=omega)only[go_sem,happ,hT,hc1,hc2]
  refine⟨(i+1,ar',V1),⟨by dsimp only; omega,by dsimp only; rw[hnext,hty]; exact hO'⟩,by dsimp only; omega,rfl⟩
 .have e:aZ d i=4:=by omega
  have hty:eh d i={ cS 4 (dJ i)with syms:=uc (nodeAt d i).a,ku:=decide ((nodeAt d i).b%2=1) }:=by simp only[eh,e]; rfl
  obtain⟨n0,n6⟩:=tU (nodeAt d i).a
  have hir:=fun n (h:n∈j9 (nodeAt d i).a)=>oe h
  have hne:j9 (nodeAt d i).a≠[]:=List.length_pos_iff.1 n0
  unfold uc at hty
  generalize j9 (nodeAt d i).a=l at *
  have hnl:(uL l).length=l.length:=VB _
  refine W.cD l.length (fun j=>⟨[(1,.ptr 1 0),(2,.ptr 2 0),(4,.pv (.int .i64 d.length)),(5,.ptr 5 0),(6,.pv (.int .i64 i)),(8,.ptr 8 0),(9,.pv (.aa 0 (ints (uL l)))),(10,.pv (.int .i64 (j:Nat)))],⟨[(1,[.pv (.aa t (d.map Node.cs))]),(2,[.tl []]),(5,[V0]),(8,[.pv (.int .i64 4),.pv (.str (Utf8.encode (65+(i:Int)))),.pv (.int .i64 0),.pv (.int .i64 0),.pv (.int .i64 0),cY ar.length (gj l j),.tl [],.pv (.int .i64 0),.pv (.int .i64 0),.pv (.bool (decide ((nodeAt d i).b%2=1)))])],ar++cm 2 (gj l j),[]⟩⟩) (fun _=>True) ?_ trivial (fun j hj _=>?_)
  .have e0:gj l 0=[]:=rfl
   rw[e0,B5,B6,Wj]
   rfl
  simp(disch:=omega)only[go_sem]
  refine Br.aD (fun cj=>?_) (fun cj=>?_)
  .have hgj:=VA (l:=l) (i:=j) (by omega)
   generalize l[j]'(by omega)=n at hgj
   obtain⟨g1,g6⟩:=hir n (Vz hgj)
   have hat:(uL l)[j]?=some ((n:Nat):Int):=by
    rw[B7 (by omega),hgj]
    rfl
   have hadd:=Fi (n:=n) (by omega)
   have hrl:(gj l j).length<=6:=by unfold gj; simp; omega
   have hgrow:=fun bx=>grow bx [] ar 2 (gj l j) (Fj n) rfl (by omega)
   have hgt:=fun bx=>ek bx [] ar 2 (gj l j) (Fj n)
   rw[<- A9 hgj]at hgrow hgt
   unfold Fj at hgrow hgt
   simp(disch:=omega)only[go_sem,hat,wrap_i32,hadd,hgrow,hgt]
   exact .of (by omega) rfl trivial
  .obtain rfl:j=l.length:=by omega
   have hga:(cm 2 (gj l l.length)).length=1:=by
    cases l with
    |nil=>exact absurd rfl hne
    |cons x l=>rfl
   have hb:=vZ (t:={ cS 4 (dJ i)with syms:=l.map zy,ku:=decide ((nodeAt d i).b%2=1) }) (X0:=cm 2 (gj l l.length)) (n:=ar.length+(cm 2 (gj l l.length)).length) hO hml (by rw[VE]) (fun o ho=>⟨cY ar.length (gj l l.length),.tl [],rfl,Fk hne (by omega),.inr (.inr rfl)⟩)
   obtain⟨V1,T,ar',happ,hT,hc1,hc2,hO'⟩:=hb
   dsimp only[cS,dJ]at happ hT
   simp(disch:=omega)only[go_sem,happ,hT,hc1,hc2]
   refine⟨(i+1,ar',V1),⟨by dsimp only; omega,by dsimp only; rw[hnext,hty]; exact hO'⟩,by dsimp only; omega,rfl⟩
 .have e:aZ d i=5:=by omega
  have hty:eh d i={ cS 5 (dJ i)with aN:=dq d i true (nodeAt d i).parts 12 }:=by simp only[eh,e]; rfl
  have hb:=jX (t:={ cS 5 (dJ i)with aN:=dq d i true (nodeAt d i).parts 12 }) hO hml (fun ar o=>mem_row rfl)
  obtain⟨V1,T,ar',happ,hT,hc1,hc2,hO'⟩:=hb
  dsimp only[cS,dJ]at happ hT
  simp(disch:=omega)only[go_sem,happ,hT,hc1,hc2]
  refine⟨(i+1,ar',V1),⟨by dsimp only; omega,by dsimp only; rw[hnext,hty]; exact hO'⟩,by dsimp only; omega,rfl⟩
 .have e:aZ d i=6:=by omega
  have hty0:eh d i=if (dq d i false (nodeAt d i).parts 12).length=0 then cS 5 (dJ i) else { cS 6 (dJ i)with aN:=dq d i false (nodeAt d i).parts 12,ku:=decide ((nodeAt d i).b%2=1) }:=by simp only[eh,e]; rfl
  refine Br.aD (fun c6=>?_) (fun c6=>?_)<;>simp(disch:=omega)only[go_sem]
  .have hty:eh d i=cS 5 (dJ i):=by rw[hty0,if_pos (by omega)]
   have hb:=jX (t:=cS 5 (dJ i)) hO hml (fun ar o=>gY rfl rfl)
   obtain⟨V1,T,ar',happ,hT,hc1,hc2,hO'⟩:=hb
   dsimp only[cS,dJ]at happ hT
   simp(disch:=omega)only[go_sem,happ,hT,hc1,hc2]
   refine⟨(i+1,ar',V1),⟨by dsimp only; omega,by dsimp only; rw[hnext,hty]; exact hO'⟩,by dsimp only; omega,rfl⟩
  .have hty:eh d i={ cS 6 (dJ i)with aN:=dq d i false (nodeAt d i).parts 12,ku:=decide ((nodeAt d i).b%2=1) }:=by rw[hty0,if_neg (by omega)]
   have hb:=jX (t:={ cS 6 (dJ i)with aN:=dq d i false (nodeAt d i).parts 12,ku:=decide ((nodeAt d i).b%2=1) }) hO hml (fun ar o=>mem_row rfl)
   obtain⟨V1,T,ar',happ,hT,hc1,hc2,hO'⟩:=hb
   dsimp only[cS,dJ]at happ hT
   simp(disch:=omega)only[go_sem,happ,hT,hc1,hc2]
   refine⟨(i+1,ar',V1),⟨by dsimp only; omega,by dsimp only; rw[hnext,hty]; exact hO'⟩,by dsimp only; omega,rfl⟩
 .have e:aZ d i=7:=by omega
  have hty:eh d i={ cS 7 ⟨#[]⟩ with max:=((nodeAt d i).a%4:Nat),elem:=((nodeAt d i).c%d.length:Nat) }:=by simp only[eh,e]; rfl
  have hb:=jX (t:={ cS 7 ⟨#[]⟩ with max:=((nodeAt d i).a%4:Nat),elem:=((nodeAt d i).c%d.length:Nat) }) hO hml (fun ar o=>gY rfl rfl)
  obtain⟨V1,T,ar',happ,hT,hc1,hc2,hO'⟩:=hb
  dsimp only[cS,dJ]at happ hT
  simp(disch:=omega)only[go_sem,happ,hT,hc1,hc2]
  refine⟨(i+1,ar',V1),⟨by dsimp only; omega,by dsimp only; rw[hnext,hty]; exact hO'⟩,by dsimp only; omega,rfl⟩
 .have e:aZ d i=8:=by omega
  have hty0:eh d i=if nf d (nodeAt d i).b=none then { cS 7 ⟨#[]⟩ with max:=((nodeAt d i).a%4:Nat),elem:=((nodeAt d i).c%d.length:Nat) } else { cS 8 ⟨#[]⟩ with max:=((nodeAt d i).a%4:Nat),key:=iI (nf d (nodeAt d i).b),elem:=((nodeAt d i).c%d.length:Nat) }:=by simp only[eh,e]; rfl
  refine Br.aD (fun c8=>?_) (fun c8=>?_)<;>simp(disch:=omega)only[go_sem]
  .have hty:eh d i={ cS 7 ⟨#[]⟩ with max:=((nodeAt d i).a%4:Nat),elem:=((nodeAt d i).c%d.length:Nat) }:=by rw[hty0,if_pos c8]
   have hb:=jX (t:={ cS 7 ⟨#[]⟩ with max:=((nodeAt d i).a%4:Nat),elem:=((nodeAt d i).c%d.length:Nat) }) hO hml (fun ar o=>gY rfl rfl)
   obtain⟨V1,T,ar',happ,hT,hc1,hc2,hO'⟩:=hb
   dsimp only[cS,dJ]at happ hT
   simp(disch:=omega)only[go_sem,happ,hT,hc1,hc2]
   refine⟨(i+1,ar',V1),⟨by dsimp only; omega,by dsimp only; rw[hnext,hty]; exact hO'⟩,by dsimp only; omega,rfl⟩
  .have hty:eh d i={ cS 8 ⟨#[]⟩ with max:=((nodeAt d i).a%4:Nat),key:=iI (nf d (nodeAt d i).b),elem:=((nodeAt d i).c%d.length:Nat) }:=by rw[hty0,if_neg c8]
   have hb:=jX (t:={ cS 8 ⟨#[]⟩ with max:=((nodeAt d i).a%4:Nat),key:=iI (nf d (nodeAt d i).b),elem:=((nodeAt d i).c%d.length:Nat) }) hO hml (fun ar o=>gY rfl rfl)
   obtain⟨V1,T,ar',happ,hT,hc1,hc2,hO'⟩:=hb
   dsimp only[cS,dJ]at happ hT
   simp(disch:=omega)only[go_sem,happ,hT,hc1,hc2]
   refine⟨(i+1,ar',V1),⟨by dsimp only; omega,by dsimp only; rw[hnext,hty]; exact hO'⟩,by dsimp only; omega,rfl⟩
 .have e:aZ d i=9:=by omega
  have hty:eh d i={ cS 9 ⟨#[]⟩ with elem:=((nodeAt d i).c%d.length:Nat) }:=by simp only[eh,e]; rfl
  have hb:=jX (t:={ cS 9 ⟨#[]⟩ with elem:=((nodeAt d i).c%d.length:Nat) }) hO hml (fun ar o=>gY rfl rfl)
  obtain⟨V1,T,ar',happ,hT,hc1,hc2,hO'⟩:=hb
  dsimp only[cS,dJ]at happ hT
  simp(disch:=omega)only[go_sem,happ,hT,hc1,hc2]
  refine⟨(i+1,ar',V1),⟨by dsimp only; omega,by dsimp only; rw[hnext,hty]; exact hO'⟩,by dsimp only; omega,rfl⟩
theorem Fl {d:List Node} {i:Nat} {fl:Bool} {ps:List Part} {id:Nat} {m:Mem} (h:rh d i fl ps id=some m):∃p,fV d i fl id p=m/\qA d i id p=true/\p∈ps:=by
 unfold rh at h
 cases hf:ps.find? (qA d i id)with
 |none=>simp[hf]at h
 |some p=>
  rw[hf]at h
  exact⟨p,by simpa using h,List.find?_some hf,List.mem_of_find?_eq_some hf⟩
theorem Ba {d:List Node} {i:Nat} {fl:Bool} {ps:List Part} {k:Nat} {m:Mem} (h:m∈dq d i fl ps k):∃id p,fV d i fl id p=m/\qA d i id p=true/\p∈ps/\1<=id/\id<=k:=by
 unfold dq at h
 obtain⟨j,hj,hm⟩:=Wz.1 h
 obtain⟨p,h1,h2,h3⟩:=Fl hm
 exact⟨j+1,p,h1,h2,h3,by omega,by have:=WA.1 hj; omega⟩
theorem De {d:List Node} {code q:Nat} (h0:0<d.length) (h:nf d code=some q):q<d.length/\aZ d q<=4:=by
 unfold nf at h
 cases hf:(List.range d.length).find? (fun k=>decide (aZ d ((code+k)%d.length)<=4))with
 |none=>simp[hf]at h
 |some k=>
  rw[hf]at h
  have hq:(code+k)%d.length=q:=by simpa using h
  have:=Xd hf
  rw[hq]at this
  exact⟨by rw[<- hq]; exact Nat.mod_lt _ h0,by simpa using this⟩
theorem LZ {d:List Node} {i:Nat} (hk:aZ d i=6):eh d i=if (dq d i false (nodeAt d i).parts 12).length=0 then cS 5 (dJ i) else { cS 6 (dJ i)with aN:=dq d i false (nodeAt d i).parts 12,ku:=decide ((nodeAt d i).b%2=1) }:=by simp only[eh,hk]; rfl
theorem L3 {d:List Node} {i:Nat} (hk:aZ d i=8):eh d i=if nf d (nodeAt d i).b=none then { cS 7 ⟨#[]⟩ with max:=((nodeAt d i).a%4:Nat),elem:=((nodeAt d i).c%d.length:Nat) } else { cS 8 ⟨#[]⟩ with max:=((nodeAt d i).a%4:Nat),key:=iI (nf d (nodeAt d i).b),elem:=((nodeAt d i).c%d.length:Nat) }:=by simp only[eh,hk]; rfl
theorem zA (d:List Node) (i:Nat):aZ d i=1\/aZ d i=2\/aZ d i=3\/aZ d i=4\/aZ d i=5\/aZ d i=6\/aZ d i=7\/aZ d i=8\/aZ d i=9:=by
 have:=jL d i
 omega
theorem Bb:∀k:Fin 13,(nC k.val).size<=8:=by decide
theorem Df:∀k:Fin 13,(zy k.val).name.size<=8:=by decide
theorem Bc:∀k:Fin 5,(dJ k.val).size<=8:=by decide
theorem G8 (a code:Nat):G7 a code<=6:=by
 unfold G7
 cases h:(j9 a)[code%(j9 a).length]? with
 |none=>simp
 |some n=>exact(oe (Vz h)).2
theorem B8 (x:Node): -3<=lA x/\lA x<=3:=by
 have:x.a%7<7:=Wa _ (by decide)
 unfold lA
 omega
theorem Fm (k:Nat) (hk:k<=9) (x:Node) (code:Nat):mH 1 (nB k x code).1.c:=by
 have hlo:=B8 x
 have hm:code%(x.b%6+1)<6+1:=Wq (Wa _ (by omega)) (by have:x.b%6<6:=Wa _ (by decide); omega)
 have hid:=G8 x.a code
 refine⟨(nB k x code).1,rfl,?_,?_,?_,?_,?_⟩
 all_goals unfold nB
 all_goals generalize code%(x.b%6+1)=r at hm |-
 all_goals repeat' split
 all_goals simp[bX,dY,bw,bV,ByteArray.size]
 all_goals first
  |omega
  |(split<;>simp; done)
  |skip
theorem Bd:mH 1 bX.c:=by
 refine⟨bX,rfl,?_,?_,?_,?_,?_⟩<;>simp[bX,dY,bw,bV,ByteArray.size]
theorem Fo (d:List Node) (u:Nat) (p:Part):mH 1 (tW d u p).1.c:=by
 refine Fm _ ?_ _ _
 have:=jL d u
 unfold initK
 split<;>omega
theorem Fp {d:List Node} {i:Nat} {fl:Bool} {id:Nat} {p:Part} (h0:0<d.length) (h5:d.length<=5) (hi:i<d.length) (h1:id<=12) (hh:qA d i id p=true):(fV d i fl id p).ok:=by
 have hs:=Bb ⟨id,by omega⟩
 dsimp only at hs
 refine⟨?_,?_,?_,1,?_⟩
 .show dY (id:Int)
  unfold dY
  omega
 .show bw (nC id)
  unfold bw
  omega
 .show dY (iI (fS d i p.type))
  unfold qA at hh
  cases ht:fS d i p.type with
  |none=>simp[ht]at hh
  |some u=>
   have:=tY h0 hi ht
   unfold dY iI
   dsimp only
   omega
 .unfold fV
  dsimp only
  split
  .exact Fo _ _ _
  .exact Bd
theorem eG {k:Int} {nm:ByteArray} {lo hi mx key el:Int} {sy:List Sym} {ms:List Mem} {op:Bool} (h1:dY k) (h2:bw nm) (h3:dY lo) (h4:dY hi) (h5:dY mx) (h6:dY key) (h7:dY el) (h8:bV sy) (h9:bV ms) (h10:∀s∈sy,s.ok) (h11:∀m∈ms,m.ok):(⟨k,nm,lo,hi,mx,sy,ms,key,el,op⟩:aC).ok:=⟨⟨h1,h2,h3,h4,h5,h6,h7⟩,⟨h8,h9⟩,h10,h11⟩
theorem B9 {d:List Node} {i:Nat} (h0:0<d.length) (h5:d.length<=5) (hi:i<d.length):(eh d i).ok/\(eh d i).short:=by
 have hlo:=B8 (nodeAt d i)
 have hb6:(nodeAt d i).b%6<6:=Wa _ (by decide)
 have hhi:td (nodeAt d i)=lA (nodeAt d i)+(((nodeAt d i).b%6:Nat):Int):=rfl
 have hc:(nodeAt d i).c%d.length<d.length:=Wa _ h0
 have h4:(nodeAt d i).a%4<4:=Wa _ (by decide)
 have hnm:=Bc ⟨i,by omega⟩
 dsimp only at hnm
 have hT:bw (dJ i):=by unfold bw; omega
 have hE:bw ⟨#[]⟩:=by unfold bw; exact V4 _
 have z:dY 0:=by unfold dY; omega
 have kk:∀k:Int,0<=k->k<=9->dY k:=fun k _ _=>by unfold dY; omega
 have iL:dY (lA (nodeAt d i)):=by unfold dY; omega
 have iH:dY (td (nodeAt d i)):=by unfold dY; omega
 have iC:dY (((nodeAt d i).c%d.length:Nat):Int):=by unfold dY; omega
 have iA:dY (((nodeAt d i).a%4:Nat):Int):=by unfold dY; omega
 have iK:dY (iI (nf d (nodeAt d i).b)):=by
  cases hk:nf d (nodeAt d i).b with
  |none=>unfold dY iI; dsimp only; omega
  |some q=>
   have:=De h0 hk
   unfold dY iI
   dsimp only
   omega
 have n1:bV ([]:List Sym):=by unfold bV; simp
 have n2:bV ([]:List Mem):=by unfold bV; simp
 have n3:∀s∈([]:List Sym),s.ok:=fun s hs=>by simp at hs
 have n4:∀s∈([]:List Mem),s.ok:=fun s hs=>by simp at hs
 have hsl:(uc (nodeAt d i).a).length<=6:=by
  unfold uc
  rw[VB]
  exact(tU _).2
 have sl:bV (uc (nodeAt d i).a):=by unfold bV; omega
 have so:∀s∈uc (nodeAt d i).a,s.ok:=fun s hs=>by
  obtain⟨n,hn,rfl⟩:=VP.1 hs
  have h6:=oe hn
  have hz:=Df ⟨n,by omega⟩
  dsimp only at hz
  refine⟨?_,?_⟩
  .show dY (n:Int)
   unfold dY
   omega
  .unfold bw
   omega
 have hml:=fun fl=>tX d i fl (nodeAt d i).parts 12
 have ml:∀fl,bV (dq d i fl (nodeAt d i).parts 12):=fun fl=>by have:=hml fl; unfold bV; omega
 have mo:∀fl,∀m∈dq d i fl (nodeAt d i).parts 12,m.ok:=fun fl m hm=>by
  obtain⟨id,p,rfl,hh,_,_,h12⟩:=Ba hm
  exact Fp h0 h5 hi h12 hh
 have hs0:∀t:aC,t.syms.length<=12->t.aN.length<=12->t.short:=fun t a b=>⟨by omega,by omega⟩
 rcases zA d i with hk|hk|hk|hk|hk|hk|hk|hk|hk
 case inr.inr.inr.inr.inr.inl=>
  rw[LZ hk]
  split<;>dsimp only[cS]
  .exact⟨eG (kk 5 (by decide) (by decide)) hT z z z z z n1 n2 n3 n4,hs0 _ (V4 _) (V4 _)⟩
  .exact⟨eG (kk 6 (by decide) (by decide)) hT z z z z z n1 (ml false) n3 (mo false),hs0 _ (V4 _) (hml false)⟩
 case inr.inr.inr.inr.inr.inr.inr.inl=>
  rw[L3 hk]
  split<;>dsimp only[cS]
  .exact⟨eG (kk 7 (by decide) (by decide)) hE z z iA z iC n1 n2 n3 n4,hs0 _ (V4 _) (V4 _)⟩
  .exact⟨eG (kk 8 (by decide) (by decide)) hE z z iA iK iC n1 n2 n3 n4,hs0 _ (V4 _) (V4 _)⟩
 all_goals simp only[eh,hk]
 all_goals dsimp -failIfUnchanged [cS]
 .exact⟨eG (kk 1 (by decide) (by decide)) hE z z z z z n1 n2 n3 n4,hs0 _ (V4 _) (V4 _)⟩
 .exact⟨eG (kk 2 (by decide) (by decide)) hE iL iH z z z n1 n2 n3 n4,hs0 _ (V4 _) (V4 _)⟩
 .exact⟨eG (kk 3 (by decide) (by decide)) hE z z iA z z n1 n2 n3 n4,hs0 _ (V4 _) (V4 _)⟩
 .exact⟨eG (kk 4 (by decide) (by decide)) hT z z z z z sl n2 so n4,hs0 _ (Wr hsl (by decide)) (V4 _)⟩
 .exact⟨eG (kk 5 (by decide) (by decide)) hT z z z z z n1 (ml true) n3 (mo true),hs0 _ (V4 _) (hml true)⟩
 .exact⟨eG (kk 7 (by decide) (by decide)) hE z z iA z iC n1 n2 n3 n4,hs0 _ (V4 _) (V4 _)⟩
 .exact⟨eG (kk 9 (by decide) (by decide)) hE z z z z iC n1 n2 n3 n4,hs0 _ (V4 _) (V4 _)⟩
theorem L4 {d:List Node} (h0:0<d.length) (h5:d.length<=5):(∀t∈(List.range d.length).map (eh d),t.ok)/\∀t∈(List.range d.length).map (eh d),t.short:=by
 constructor<;>intro t ht<;>obtain⟨i,hi,rfl⟩:=VP.1 ht
 .exact(B9 h0 h5 (WA.1 hi)).1
 .exact(B9 h0 h5 (WA.1 hi)).2
theorem w5 {L:List Int} {u j:Int} (h:u≠j):di (L++[u]) j=di L j:=by
 unfold di bd
 rw[List.findIdx?_append]
 have:List.findIdx? (fun y=>decide (y=j)) [u]=none:=by simp[List.findIdx?_cons,h]
 rw[this]
 cases L.findIdx? (fun y=>decide (y=j))<;>rfl
theorem CU {L:List Int} {u:Int} (h:¬u∈L):di (L++[u]) u=L.length:=by
 unfold di bd
 rw[List.findIdx?_append]
 have h1:L.findIdx? (fun y=>decide (y=u))=none:=by
  rw[WX]
  intro x hx
  simp only[decide_eq_false_iff_not]
  exact fun e=>h (e ▸ hx)
 have h2:List.findIdx? (fun y=>decide (y=u)) [u]=some 0:=by simp[List.findIdx?_cons]
 rw[h1,h2]
 simp
end Go.Pv
