/-
 What the functions of the law give.
-/
import Derived.Test.YtpchfogcccagjaaGreatC4
set_option linter.unusedSimpArgs false
set_option linter.unusedVariables false
open List renaming getElem?_eq_some_iff → Pg, mem_of_getElem? → Ph, getElem?_eq_getElem → Pj, mem_iff_getElem? → Pk, getElem?_append_left → Pl, length_map → Pm, getElem?_map → Pn, length_append → Pp, getD_eq_getElem?_getD → Pq, length_take → Pt, getElem?_take → Pw, take_of_length_le → Py, getElem?_append_right → PA, mem_map → PB, getElem?_set_ne → PD, take_add_one → PF, length_range → PL, getElem?_drop → PM, mem_append_left → PR, findIdx?_eq_some_iff_getElem → PT, any_eq_false → P0, getElem_mem → P4, map_append → P6, any_map → Qe, map_take → Qf, take_append_drop → Qj, findIdx?_eq_none_iff → Qm, any_eq_true → Qs, find?_eq_none → QB, find?_some → QN
open Bool renaming eq_iff_iff → PY
open Nat renaming add_zero → QH
namespace Go.Pv
def Home (ar:List aK) (o k:Nat) (v:V) (rows:List (List PV)):Prop:=v=.pv (.ae 0 rows)∨(∃id aj,v=.own id aj 0 rows.length∧id≠o∧ar[id]?=some ⟨aj,k,.inl rows⟩)∨v=.tl rows
theorem Home.push {ar:List aK} {o k:Nat} {v:V} {rows:List (List PV)} (h:Home ar o k v rows) (x:List aK):Home (ar++x) o k v rows:=by
 rcases h with h|⟨id,aj,h1,h2,h3⟩|h
 ·exact .inl h
 ·exact .inr (.inl ⟨id,aj,h1,h2,by rw[Pl (Pg.1 h3).1]; exact h3⟩)
 ·exact .inr (.inr h)
theorem Home.set {ar:List aK} {o k:Nat} {v:V} {rows:List (List PV)} (h:Home ar o k v rows) (a:aK):Home (ar.set o a) o k v rows:=by
 rcases h with h|⟨id,aj,h1,h2,h3⟩|h
 ·exact .inl h
 ·exact .inr (.inl ⟨id,aj,h1,h2,by rw[PD (fun e=>h2 e.symm)]; exact h3⟩)
 ·exact .inr (.inr h)
theorem Home.bW {ar:List aK} {o k:Nat} {v:V} {rows:List (List PV)} (h:Home ar o k v rows) (bx:List (Nat×List V)) (mp:List (List (PV×PV))) (d:Nat):aX ⟨bx,ar,mp⟩ (d+1) v=some (.ae 0 rows):=by
 rcases h with rfl|⟨id,aj,rfl,h2,h3⟩|rfl
 ·rfl
 ·rw[hD,oD,h3]
  simp only[Option.bind_some,if_true,aI,ej,List.drop_zero,List.take_length]
 ·rfl
def bw:Sum (List (List PV)) (List (List V))→List (List V)
 |.inl x=>x.map (·.map .pv)
 |.inr x=>x
theorem tN (b:Sum (List (List PV)) (List (List V))):(bw b).length=aD b:=by cases b<;>simp[bw,aD]
theorem tO (a b:Sum (List (List PV)) (List (List V))):bw (bd a b)=bw a++bw b:=by
 cases a<;>cases b<;>simp[bw,bd]
theorem tP {α β γ:Type} {f:α→Option β}:∀{rows:List (List α)} {ts:List γ} {c:γ→List β},rows.length=ts.length→(∀(i:Nat) row t,rows[i]?=some row→ts[i]?=some t→ax f row=some (c t))→ax (ax f) rows=some (ts.map c)
 |[],[],_,_,_=>rfl
 |r::rows,t::ts,c,hl,h=>by
  have h1:=h 0 r t rfl rfl
  have h2:=tP (f:=f) (rows:=rows) (ts:=ts) (c:=c) (by simpa using hl) (fun i row u hi hu=>h (i+1) row u (by simpa using hi) (by simpa using hu))
  simp only[ax,h1,h2,List.map_cons]
theorem wS {h:af} {d:Nat}:∀{l r:List PV},ax (aX h d) (l.map V.pv)=some r→r=l
 |[],r,he=>by
  cases he
  rfl
 |x::l,r,he=>by
  simp only[List.map_cons,mf,v8]at he
  split at he
  ·cases hm:ax (aX h d) (l.map V.pv)with
   |none=>simp[hm]at he
   |some y=>
    simp[hm]at he
    rw[← he,wS hm]
  ·simp at he
end Go.Pv
namespace Go.Pv
def dI (L:List Int) (j:Int):Int:=aV (fun y=>decide (y=j)) L
def j6 (L:List Int) (m:Mem):Mem:={ m with type:=dI L m.type }
def jd (L:List Int) (t:aF):aF:={ t with aM:=t.aM.map (j6 L),key:=if t.kind=8 then dI L t.key else t.key,elem:=if 7≤t.kind then dI L t.elem else t.elem }
theorem wT {α:Type} {l:List α} {k:Nat} {x:α} (h:l[k]?=some x):l.drop k=x::l.drop (k+1):=by
 obtain⟨hk,rfl⟩:=Pg.1 h
 exact List.drop_eq_getElem_cons hk
theorem CV {k:Nat} {b:Sum (List (List PV)) (List (List V))} (h:∀r∈bw b,r.length=k):aW k b=true:=by
 cases b with
 |inl x=>
  simp only[aW,List.all_eq_true,beq_iff_eq]
  intro r hr
  have:=h (r.map .pv) (List.mem_map_of_mem hr)
  simpa using this
 |inr x=>
  simp only[aW,List.all_eq_true,beq_iff_eq]
  exact h
def my (L:List Int) (l:List Mem) (j:Nat):List Mem:=(l.take j).map (j6 L)++l.drop j
theorem AK (L:List Int) (l:List Mem):my L l 0=l:=by simp[my]
theorem CX (L:List Int) (l:List Mem):my L l l.length=l.map (j6 L):=by simp[my]
theorem wU (L:List Int) (l:List Mem) (j:Nat):(my L l j).length=l.length:=by
 simp only[my,List.length_append,List.length_map,List.length_take,List.length_drop]
 omega
theorem wV {L:List Int} {l:List Mem} {j:Nat} {m:Mem} (h:l[j]?=some m):(my L l j)[j]?=some m:=by
 have hj:=(Pg.1 h).1
 have hl:((l.take j).map (j6 L)).length=j:=by simp; omega
 unfold my
 rw[PA (by omega),hl,Nat.sub_self,PM,QH]
 exact h
theorem CY {L:List Int} {l:List Mem} {j:Nat} {m:Mem} (h:l[j]?=some m):(my L l j).set j (j6 L m)=my L l (j+1):=by
 have hj:=(Pg.1 h).1
 have hl:((l.take j).map (j6 L)).length=j:=by simp; omega
 unfold my
 rw[List.set_append_right _ _ (by omega),hl,Nat.sub_self,wT h,List.set_cons_zero,PF,h]
 simp
end Go.Pv
namespace Go.Pv
theorem CZ {t:aF} {m:Mem} (h:m∈t.aM):m.type∈bV t:=by
 unfold bV
 exact PR _ (PR _ (List.mem_map_of_mem h))
theorem AL {t:aF} (h:7≤t.kind):t.elem∈bV t:=by simp[bV,kW,h]
theorem yE {L:List Int} {l:List Mem} {j:Nat} {m:Mem} (h:l[j]?=some m) (id:Nat):dq id j 2 [.pv (.int .i64 (dI L m.type))] ⟨0,13,.inl ((my L l j).map Mem.c)⟩=some { ar:=some (id,⟨0,13,.inl ((my L l (j+1)).map Mem.c)⟩) }:=by
 have hj:=(Pg.1 h).1
 rw[gK (l:=[.int .i64 (dI L m.type)]) (by rw[List.length_map,wU]; exact hj) rfl (by simp) rfl,← CY h,List.map_set]
 unfold uk
 have hd:((my L l j).map Mem.c).getD j []=m.c:=by rw[Pq,Pn,wV h]; rfl
 rw[hd]
 rfl
end Go.Pv
namespace Go.Pv
end Go.Pv
namespace Go.Pv
@[go_sem] theorem Jp (p:Part):p.c.length=3:=rfl
@[go_sem] theorem Jq (x:Node):x.cs.length=5:=rfl
end Go.Pv
namespace Go.Pv
end Go.Pv
namespace Go.Pv
end Go.Pv
namespace Go.Pv
end Go.Pv
namespace Go.Pv
end Go.Pv
namespace Go.Pv
end Go.Pv
namespace Go.Pv
end Go.Pv
namespace Go.Pv
end Go.Pv
namespace Go.Pv
theorem uR {L:List Int} {u j:Int} (h:u≠j):dI (L++[u]) j=dI L j:=by
 unfold dI aV
 rw[List.findIdx?_append]
 have:List.findIdx? (fun y=>decide (y=j)) [u]=none:=by simp[List.findIdx?_cons,h]
 rw[this]
 cases L.findIdx? (fun y=>decide (y=j))<;>rfl
theorem AM {L:List Int} {u:Int} (h:¬u∈L):dI (L++[u]) u=L.length:=by
 unfold dI aV
 rw[List.findIdx?_append]
 have h1:L.findIdx? (fun y=>decide (y=u))=none:=by
  rw[Qm]
  intro x hx
  simp only[decide_eq_false_iff_not]
  exact fun e=>h (e ▸ hx)
 have h2:List.findIdx? (fun y=>decide (y=u)) [u]=some 0:=by simp[List.findIdx?_cons]
 rw[h1,h2]
 simp
end Go.Pv
namespace Go.Pv
set_option maxHeartbeats 4000000 in
theorem r277 (t u:Nat) (l m:List aF) (hl:l.length≤2^63 - 1) (_hm:m.length≤2^63 - 1) (vl:∀r∈l,r.ok) (vm:∀r∈m,r.ok):res A az 277 [.agg [.ae t (l.map aF.c)],.agg [.ae u (m.map aF.c)]]=some [.bool (eqv l m)]:=by
 refine aq a277 rfl rfl ?_
 simp only[F277]; try delta sS tT zZ nN gG bB pZ
 simp(disch:=omega)only[go_sem]
 refine Br.aG (fun h=>?_) (fun h=>?_)<;>simp(disch:=omega)only[go_sem]
 ·refine W.find (l.zip m) (fun q=>!eqv q.1 q.2) (fun k=>⟨[(2,.ptr 2 0),(3,.ptr 3 0),(5,.pv (.int .i64 k))],⟨[(2,[.pv (.ae t (l.map aF.c))]),(3,[.pv (.ae u (m.map aF.c))])],[],[]⟩⟩) rfl (fun k q hq hk hfd=>?_) (fun hn=>?_)
  ·obtain⟨h1,h2⟩:=gU hq
   rw[dt (by omega)]at hk
   have hc:=r295 q.1 q.2 (vl q.1 (Ph h1)) (vm q.2 (Ph h2))
   unfold aF.c at hc
   simp(disch:=omega)only[go_sem]
   refine Br.aG (fun c=>?_) (fun c=>(c (by omega)).elim)
   simp(disch:=omega)only[go_sem,h1,h2,aF.c,hc]
   refine Br.of (fun g=>?_) (fun g=>?_)<;>simp(disch:=omega)only[go_sem]
   ·exact aR.of (by rw[g]; rfl) rfl
   ·rw[(hfd (by rw[g]; rfl)).ne]
  ·have hz:(l.zip m).length=l.length:=dt (by omega)
   rw[hz]
   simp(disch:=omega)only[go_sem]
   rw[hn.eq (by omega),eF]
 ·rw[gx (fun e=>h (by rw[e]))]
end Go.Pv
namespace Go.Pv
end Go.Pv
namespace Go.Pv
theorem yF {l:List aF} (h:bN l=0):∀k,k<l.length→eC l k=0:=by
 unfold bN at h
 split at h
 ·cases h
 ·cases hf:(List.range l.length).find? (fun k=>decide (eC l k≠0))with
  |none=>
   intro k hk
   have:=QB.1 hf k (List.mem_range.2 hk)
   simpa using this
  |some k=>
   rw[hf]at h
   have:=QN hf
   simp only[ru]at h
   simp[h]at this
end Go.Pv
namespace Go.Pv
theorem AN {l:List aF} {k:Nat} {t:aF} (h:bN l=0) (hk:l[k]?=some t):dT l t=false:=by
 have:=yF h k (Pg.1 hk).1
 simp only[eC,hk,eo]at this
 split at this
 ·cases this
 ·split at this
  ·cases this
  ·split at this
   ·cases this
   ·rename_i h3
    simpa using h3
end Go.Pv
namespace Go.Pv
theorem C0 {T:List aF} {n:List Int} (h:zu true T n) {k:Nat} {x:aF} (hx:T[k]?=some x) (hc:(swp true T n k).getD k 0≠lx true x (swp true T n k)):swp true T n (k+1)≠n:=fun e=>by
 obtain⟨h1,h2⟩:=h.swp k
 have h3:=h1.2.2 k x hx
 have h4:=h2.2 k
 have hk:k<(swp true T n k).length:=by rw[h1.1]; exact(Pg.1 hx).1
 have h5:=hY (n:=swp true T n k) (x:=lx true x (swp true T n k)) k hk
 rw[← nR hx,e,if_pos rfl]at h5
 omega
theorem C1 {T:List aF} {n:List Int} (h:zu true T n) {k:Nat} {x:aF} (hx:T[k]?=some x) (hc:(swp true T n k).getD k 0=lx true x (swp true T n k)):swp true T n (k+1)=swp true T n k:=by
 have hk:k<(swp true T n k).length:=by rw[(h.swp k).1.1]; exact(Pg.1 hx).1
 rw[nR hx,← hc,Pq,Pj hk]
 simp
theorem AO {T:List aF} (hv:bN T=0) {n:List Int} (h:Fix true T n):∀x∈T,x.kind=8→lP n x.key≠0:=by
 intro x hx h8
 obtain⟨k,hk⟩:=Pk.1 hx
 have hb:=AN hv hk
 have hu:=(bU hv).EM x hx x.key (jt h8)
 unfold dT j3 at hb
 rw[h8]at hb
 have hg:=Pj (l:=T) (i:=x.key.toNat) (by omega)
 generalize T[x.key.toNat]'(by omega)=q at hg
 rw[hg]at hb
 have hq:1≤q.kind∧q.kind≤4:=by simpa using hb
 have ho:=(bU hv).own q (Ph hg)
 unfold lP
 rw[h.2.2 _ q hg]
 unfold lx
 have h4:q.kind=4→0<q.syms.length:=fun e=>by
  unfold fM kindOk j0 at ho
  simp[e]at ho
  omega
 split
 ·split<;>decide
 ·split
  ·split<;>decide
  ·split
   ·rename_i e
    have:=h4 e
    omega
   ·rw[if_neg (by omega),if_neg (by omega),if_neg (by omega),if_neg (by omega),if_neg (by omega)]
    decide
def rQ (T:List aF):List Int:=gy false T (2*T.length+1)
set_option maxHeartbeats 2000000 in
theorem r474 (u:Nat) (T:List aF) (ho:∀t∈T,t.ok) (hs:∀t∈T,t.short) (hv:bN T=0):res A az 474 [.agg [.ae u (T.map aF.c)]]=some [.ae 0 (ints (rQ T))]:=by
 have hS:=bU hv
 have hT:=rA ho hv
 have h32:=hS.len
 refine aq a474 rfl rfl ?_
 simp only[F474]; try delta sS tT zZ nN gG bB pZ
 simp(disch:=omega)only[go_sem]
 refine W.LF (α:=Bool×List Int) (fun x=>⟨[(1,.ptr 1 0),(3,.own 0 0 0 T.length),(4,.pv (.bool x.1))],⟨[(1,[.pv (.ae u (T.map aF.c))])],[⟨0,1,.inl (ints x.2)⟩],[]⟩⟩)
  (fun x=>zu true T x.2∧(∀m,Fix true T m→kj x.2 m)∧(x.1=false→Fix true T x.2)) (fun x=>(2*(2*T.length - oR x.2)).toNat+(if x.1=true then 1 else 0)) (true,gy true T 0) (by simp(disch:=omega)only[go_sem]; rfl) ⟨fz true T 0,fun m hm=>mr hm 0,fun h=>by cases h⟩ fun x hx=>?_
 obtain⟨b,n⟩:=x
 obtain⟨hl,hun,hfix⟩:=hx
 dsimp only at hl hun hfix
 have hll:=hl.1
 cases b with
 |false=>
  have e:n=rQ T:=pH.uniq (Au ⟨hfix rfl,hun⟩ (AO hv (hfix rfl))) (rE false T)
  rw[← e]
  have hmt:n.take T.length=n:=Py (by omega)
  simp(disch:=omega)only[go_sem,hmt]
 |true=>
  simp(disch:=omega)only[go_sem]
  refine W.dD T.length (fun k=>⟨[(1,.ptr 1 0),(3,.own 0 0 0 T.length),(4,.pv (.bool (decide (swp true T n k≠n)))),(14,.pv (.ae u (T.map aF.c))),(15,.pv (.int .i64 T.length)),(16,.pv (.int .i64 k))],⟨[(1,[.pv (.ae u (T.map aF.c))])],[⟨0,1,.inl (ints (swp true T n k))⟩],[]⟩⟩) (fun _=>True) (by simp[swp]) trivial fun k hk _=>?_
  have hw:=(hl.swp k).1
  have hwl:=hw.1
  simp(disch:=omega)only[go_sem]
  refine Br.aG (fun c=>?_) (fun c=>?_)
  ·obtain⟨x,hx⟩:=get_some (l:=T) (k:=k) (by omega)
   have hxm:=Ph hx
   have hsx:=nR (b:=true) (n:=n) hx
   have hfl:=C0 hl hx
   have hsm:=C1 hl hx
   have h485:=fun t=>r485 x (swp true T n k) t (hT.2.2 x hxm) (hs x hxm) hw.2.1 (tJ hS hxm hwl)
   have hmn:=CB x hw.2.1
   have hfk:∀b:Bool,(b=true↔swp true T n k≠n)→b=decide (swp true T n k≠n):=fun b h=>by rw[Bool.eq_iff_iff,h]; simp
   obtain⟨fl,hfl2⟩:∃fl,decide (swp true T n k≠n)=fl:=⟨_,rfl⟩
   have hup:fl=true→swp true T n (k+1)≠n:=fun h e=>by
    have h1:=(hl.swp k).2
    have h2:kj (swp true T n k) (swp true T n (k+1)):=by rw[hsx]; exact(hw.step hx).2
    rw[e]at h2
    rw[← hfl2]at h
    exact of_decide_eq_true h (h2.G3 h1)
   have hga:(swp true T n k)[k]?=some ((swp true T n k).getD k 0):=by
    rw[Pq,Pj (show k<(swp true T n k).length by omega)]
    rfl
   rw[hfl2]
   have hlo:fl=false→swp true T n k=n:=fun h=>by
    rw[← hfl2]at h
    simpa using h
   generalize hm:swp true T n k=m at *
   have hmt:m.take T.length=m:=Py (by omega)
   generalize m.getD k 0=g at *
   generalize hq:lx true x m=q at *
   generalize CA x m=q2 at *
   simp only[aF.c]at h485
   simp(disch:=omega)only[go_sem,hx,Option.map_some,aF.c,h485,hmt,hmn,hga]
   refine Br.aG (fun d=>?_) (fun d=>?_)<;>simp(disch:=omega)only[go_sem]
   ·refine .of (by omega) ?_ trivial
    have h1:=hsm d.symm
    have h2:decide (swp true T n (k+1)≠n)=fl:=by rw[h1,hfl2]
    rw[h2,h1]
    rfl
   ·refine .of (by omega) ?_ trivial
    have h1:=hfl (fun e=>d e.symm)
    have h2:decide (swp true T n (k+1)≠n)=true:=decide_eq_true h1
    rw[h2,hsx]
    rfl
  ·obtain rfl:k=T.length:=by omega
   simp(disch:=omega)only[go_sem]
   have hup:=(hl.swp T.length).2
   have hf:=Cz hl
   have hlw:=(hl.swp T.length).1
   refine⟨(decide (swp true T n T.length≠n),swp true T n T.length),⟨hlw,fun m hm=>lz hl hm (hun m hm) _,fun h=>?_⟩,?_,by simp(disch:=omega)only[go_sem]⟩
   ·have e:swp true T n T.length=n:=by simpa using h
    dsimp only
    rw[e]at hf ⊢
    exact hf (kj.refl n)
   ·have h1:=uQ hup
    have h2:=nM hl.2.1
    have h3:=nM hlw.2.1
    rw[hll]at h2
    rw[hlw.1]at h3
    by_cases e:swp true T n T.length=n
    ·simp[e]
    ·have:=h1.2 (fun h=>e h.symm)
     simp[e]
     omega
theorem rR (l:List Bool) (x:Bool):cJ l++[[.bool x]]=cJ (l++[x]):=by simp[cJ]
def iJ (x:Int):Bool:=decide (0<x)
def sC (T:List aF):List Bool:=(rQ T).map iJ
theorem tQ {N:List Int} {k:Nat} {x:Int} (h:N[k]?=some x):(N.map iJ).take (k+1)=(N.map iJ).take k++[iJ x]:=by
 rw[PF,Pn,h]
 rfl
noncomputable def AP (T:List aF):List Bool:=if fU T≠0 then [] else sC T
theorem lC (T:List aF):(rQ T).length=T.length:=(fz false T _).1
set_option maxHeartbeats 2000000 in
theorem r464 (u:Nat) (T:List aF) (hl:T.length≤2147483648) (ho:∀t∈T,t.ok) (hs:∀t∈T,t.short):res A az 464 [.agg [.ae u (T.map aF.c)]]=some [.ae 0 (cJ (AP T)),.int .i64 (fU T)]:=by
 have h473:=r473 u T hl ho hs
 refine aq a464 rfl rfl ?_
 simp only[F464]; try delta sS tT zZ nN gG bB pZ
 simp(disch:=omega)only[go_sem,h473]
 unfold AP
 refine Br.aG (fun c=>?_) (fun c=>?_)<;>simp(disch:=omega)only[go_sem,c]
 rotate_left
 ·rw[if_pos c]
  rfl
 rw[if_neg (by simp[c])]
 have hc0:=c
 have hv:=(gp c).1
 have h474:=r474 u T ho hs hv
 have hcl:=lC T
 have h32:=(bU hv).len
 unfold sC
 generalize rQ T=N at *
 simp(disch:=omega)only[go_sem,h474]
 refine W.dD N.length (fun k=>⟨[(5,eu 0 (cJ ((N.map iJ).take k))),(14,.pv (.ae 0 (ints N))),(15,.pv (.int .i64 N.length)),(16,.pv (.int .i64 k))],⟨[],dY 1 (cJ ((N.map iJ).take k)),[]⟩⟩) (fun _=>True) rfl trivial fun k hk _=>?_
 simp(disch:=omega)only[go_sem]
 refine Br.aG (fun c=>?_) (fun c=>?_)
 ·obtain⟨x,hx⟩:=get_some (l:=N) (k:=k) (by omega)
  have ht:=tQ hx
  have hql:(cJ ((N.map iJ).take k)).length=k:=by simp[cJ]; omega
  have hg:=fun bx mp=>wk bx mp 1 (cJ ((N.map iJ).take k)) [.bool (iJ x)] rfl (by omega)
  have hp:decide (0<x)=iJ x:=rfl
  generalize (N.map iJ).take k=q at *
  simp(disch:=omega)only[go_sem,hx,hp,hg]
  refine .of (by omega) ?_ trivial
  rw[rR,← ht]
  rfl
 ·obtain rfl:k=N.length:=by omega
  have e:(N.map iJ).take N.length=N.map iJ:=List.take_of_length_le (by simp)
  rw[e]
  simp(disch:=omega)only[go_sem,hc0]
set_option maxHeartbeats 2000000 in
theorem r461 (u:Nat) (T:List aF) (hl:T.length≤2147483648) (ho:∀t∈T,t.ok) (hs:∀t∈T,t.short):res A az 461 [.agg [.ae u (T.map aF.c)]]=some [.ae 0 (cJ (AP T)),.int .i64 (fU T)]:=by
 have h470:=r470 u T hl ho hs
 refine aq a461 rfl rfl ?_
 simp only[F461]; try delta sS tT zZ nN gG bB pZ
 simp(disch:=omega)only[go_sem,h470]
 unfold AP
 refine Br.aG (fun c=>?_) (fun c=>?_)<;>simp(disch:=omega)only[go_sem,c]
 rotate_left
 ·rw[if_pos c]
  rfl
 rw[if_neg (by simp[c])]
 have hc0:=c
 have hv:=(gp c).1
 have h471:=r471 u T ho hs hv
 have hcl:=lC T
 have h32:=(bU hv).len
 unfold sC
 change _=some [PV.ae 0 (ints (rQ T))]at h471
 generalize rQ T=N at *
 simp(disch:=omega)only[go_sem,h471]
 refine W.dD N.length (fun k=>⟨[(5,.pv (.ae 0 (ints N))),(6,eu 0 (cJ ((N.map iJ).take k))),(7,.pv (.int .i64 k))],⟨[],dY 1 (cJ ((N.map iJ).take k)),[]⟩⟩) (fun _=>True) rfl trivial fun k hk _=>?_
 simp(disch:=omega)only[go_sem]
 refine Br.aG (fun c=>?_) (fun c=>?_)
 ·obtain⟨x,hx⟩:=get_some (l:=N) (k:=k) (by omega)
  have ht:=tQ hx
  have hql:(cJ ((N.map iJ).take k)).length=k:=by simp[cJ]; omega
  have hg:=fun bx mp=>wk bx mp 1 (cJ ((N.map iJ).take k)) [.bool (iJ x)] rfl (by omega)
  have hp:decide (0<x)=iJ x:=rfl
  generalize (N.map iJ).take k=q at *
  simp(disch:=omega)only[go_sem,hx,hp,hg]
  refine .of (by omega) ?_ trivial
  rw[rR,← ht]
  rfl
 ·obtain rfl:k=N.length:=by omega
  have e:(N.map iJ).take N.length=N.map iJ:=List.take_of_length_le (by simp)
  rw[e]
  simp(disch:=omega)only[go_sem,hc0]
noncomputable def iG (T:List aF):Int:=if fU T≠0 then fU T else if (sC T).all id=true then 0 else 10
theorem qg (l:List Bool):(l.all fun x=>!!x)=l.all id:=by
 congr 1
 funext x
 simp
theorem r439 (u:Nat) (T:List aF) (hl:T.length≤2147483648) (ho:∀t∈T,t.ok) (hs:∀t∈T,t.short):res A az 439 [.agg [.ae u (T.map aF.c)]]=some [.int .i64 (iG T)]:=by
 have h464:=r464 u T hl ho hs
 refine aq a439 rfl rfl ?_
 simp only[F439]; try delta sS tT zZ nN gG bB pZ
 simp(disch:=omega)only[go_sem,h464]
 unfold iG AP
 refine Br.aG (fun c=>?_) (fun c=>?_)<;>simp(disch:=omega)only[go_sem,c]
 rotate_left
 ·rw[if_pos c]
 rw[if_neg (by simp[c]),if_neg (by simp[c])]
 have hfl:(sC T).length=T.length:=by unfold sC; rw[Pm,lC]
 have h32:=(bU (gp c).1).len
 generalize sC T=N at *
 refine W.find N (fun x=>!x) (fun k=>⟨[(15,.pv (.ae 0 (cJ N))),(16,.pv (.int .i64 N.length)),(17,.pv (.int .i64 k))],⟨[],[],[]⟩⟩) rfl (fun k x hx hk hfd=>?_) (fun hn=>?_)
 ·simp(disch:=omega)only[go_sem]
  refine Br.aG (fun c=>?_) (fun c=>(c (by omega)).elim)
  simp(disch:=omega)only[go_sem,hx]
  cases x
  ·have:=(hfd rfl).all
   rw[qg]at this
   simp(disch:=omega)only[go_sem]
   rw[this,if_neg (by decide)]
  ·simp(disch:=omega)only[go_sem]
   exact aR.of rfl rfl
 ·have:=hn.all
  rw[qg]at this
  simp(disch:=omega)only[go_sem]
  rw[this,if_pos rfl]
theorem r435 (u:Nat) (T:List aF) (hl:T.length≤2147483648) (ho:∀t∈T,t.ok) (hs:∀t∈T,t.short):res A az 435 [.agg [.ae u (T.map aF.c)]]=some [.int .i64 (iG T)]:=by
 have h461:=r461 u T hl ho hs
 refine aq a435 rfl rfl ?_
 simp only[F435]; try delta sS tT zZ nN gG bB pZ
 simp(disch:=omega)only[go_sem,h461]
 unfold iG AP
 refine Br.aG (fun c=>?_) (fun c=>?_)<;>simp(disch:=omega)only[go_sem,c]
 rotate_left
 ·rw[if_pos c]
 rw[if_neg (by simp[c]),if_neg (by simp[c])]
 have hfl:(sC T).length=T.length:=by unfold sC; rw[Pm,lC]
 have h32:=(bU (gp c).1).len
 generalize sC T=N at *
 refine W.find N (fun x=>!x) (fun k=>⟨[(3,.pv (.ae 0 (cJ N))),(5,.pv (.int .i64 k))],⟨[],[],[]⟩⟩) rfl (fun k x hx hk hfd=>?_) (fun hn=>?_)
 ·simp(disch:=omega)only[go_sem]
  refine Br.aG (fun c=>?_) (fun c=>(c (by omega)).elim)
  simp(disch:=omega)only[go_sem,hx]
  cases x
  ·have:=(hfd rfl).all
   rw[qg]at this
   simp(disch:=omega)only[go_sem]
   rw[this,if_neg (by decide)]
  ·simp(disch:=omega)only[go_sem]
   exact aR.of rfl rfl
 ·have:=hn.all
  rw[qg]at this
  simp(disch:=omega)only[go_sem]
  rw[this,if_pos rfl]
end Go.Pv
namespace Go.Pv
def gA (i:Int) (m:et):Bool:=decide (m.id=i)
theorem r487 (m:et) (u:Nat) (i:Int):res A az 487 [.agg m.c,.ro u [.int .i64 i]]=some [.bool (gA i m)]:=by
 refine aq a487 rfl rfl ?_
 simp only[F487]; try delta sS tT zZ nN gG bB pZ
 simp(disch:=omega)only[go_sem,et.c]
 rfl
theorem r486 (t u:Nat) (i:Int) (l:List et) (hl:l.length≤2^63 - 1):res A az 486 [.ae t (msgs l),.func 487 [.ro u [.int .i64 i]]]=some [.int .i64 (aV (gA i) l)]:=by
 refine aq a486 rfl rfl ?_
 simp only[F486]; try delta sS tT zZ nN gG bB pZ
 simp(disch:=omega)only[go_sem]
 refine W.find l (gA i) (fun k=>⟨[(0,.pv (.ae t (msgs l))),(1,.pv (.func 487 [.ro u [.int .i64 i]])),(7,.pv (.int .i64 l.length)),(8,.pv (.int .i64 k))],⟨[],[],[]⟩⟩) rfl (fun k x hx hk hfd=>?_) (fun hn=>?_)
 ·have hfx:=r487 x u i
  simp(disch:=omega)only[go_sem]
  refine Br.aG (fun h=>?_) (fun h=>(h (by omega)).elim)
  unfold et.c at hfx
  simp(disch:=omega)only[go_sem,hx,et.c,hfx]
  refine Br.of (fun h2=>?_) (fun h2=>?_)<;>simp(disch:=omega)only[go_sem]
  ·rw[(hfd h2).aV]
  ·exact aR.of h2 rfl
 ·simp(disch:=omega)only[go_sem]
  rw[hn.aV]
def LG (o:Option et):et:=o.getD ⟨0,⟨#[]⟩,0⟩
theorem r476 (x:dE) (i:Int) (hl:x.msgs.length≤2^63 - 1):res A az 476 [.agg x.c,.int .i64 i]=some [.agg (LG (x.msgs.find? (gA i))).c,.bool (x.msgs.any (gA i))]:=by
 refine aq a476 rfl rfl ?_
 simp only[F476]; try delta sS tT zZ nN gG bB pZ
 have h486:=fun u=>r486 0 u i x.msgs hl
 have e:x.msgs.map et.c=msgs x.msgs:=rfl
 simp only[dE.c,e]
 simp(disch:=omega)only[go_sem,h486]
 rcases jZ (gA i) x.msgs with⟨f1,f2⟩|⟨k,m,f1,f2,f3⟩
 ·have ha:x.msgs.any (gA i)=false:=by
   rw[P0]
   exact QB.1 f1
  rw[f1,f2,ha]
  refine Br.aG (fun c=>?_) (fun c=>absurd (by decide) c)
  simp(disch:=omega)only[go_sem]
  rfl
 ·have ha:x.msgs.any (gA i)=true:=by
   rw[Qs]
   exact⟨m,List.mem_of_find?_eq_some f1,QN f1⟩
  rw[f1,f3,ha]
  refine Br.aG (fun c=>absurd c (by omega)) (fun c=>?_)
  simp(disch:=omega)only[go_sem,f2,et.c]
  rfl
theorem r483 (x:dE) (i:Int) (hl:x.msgs.length≤2^63 - 1):res A az 483 [.agg x.c,.int .i64 i]=some [.agg (LG (x.msgs.find? (gA i))).c,.bool (x.msgs.any (gA i))]:=by
 refine aq a483 rfl rfl ?_
 simp only[F483]; try delta sS tT zZ nN gG bB pZ
 have e:x.msgs.map et.c=msgs x.msgs:=rfl
 simp only[dE.c,e]
 simp(disch:=omega)only[go_sem]
 refine W.find x.msgs (gA i) (fun k=>⟨[(1,.pv (.int .i64 i)),(2,.ptr 2 0),(4,.ptr 4 0),(6,.pv (.int .i64 k))],⟨[(2,[.pv (.str x.name),.pv (.ae 0 (msgs x.msgs)),.pv (.int .i64 x.auto.aw),.pv (.int .i64 x.auto.start),.pv (.ae 0 (x.auto.aA.map Edge.c))]),(4,[.pv (.int .i64 0),.pv (.str ⟨#[]⟩),.pv (.int .i64 0)])],[],[]⟩⟩) rfl (fun k m hx hk hfd=>?_) (fun hn=>?_)
 ·simp(disch:=omega)only[go_sem]
  refine Br.aG (fun c=>?_) (fun c=>(c (by omega)).elim)
  simp(disch:=omega)only[go_sem,hx,et.c]
  have hp:decide (m.id=i)=gA i m:=rfl
  rw[hp]
  refine Br.of (fun g=>?_) (fun g=>?_)<;>simp(disch:=omega)only[go_sem,hx,et.c]
  ·rw[(hfd g).find,(hfd g).any]
   rfl
  ·exact aR.of g rfl
 ·simp(disch:=omega)only[go_sem]
  rw[hn.find,hn.any]
  rfl
def rS (l:List et) (k:Nat):Int:=if k=0 then 0 else ((l[k - 1]?).map (·.id)).getD 0
def wW (l:List et) (k:Nat) (m:et):Bool:=decide (m.id≤rS l k)||(decide (1000<m.id)||(!isName m.name||cp ((l.take k).map (·.name)) m.name))
def nU (l:List et) (k:Nat):Bool:=match l[k]? with
 |some m=>wW l k m
 |none=>false
def gB (x:dE):Bool:=!((List.range x.msgs.length).any (nU x.msgs))&&isName x.name
theorem rT {l:List et} {k:Nat} {m:et} (h:l[k]?=some m):rS l (k+1)=m.id:=by
 unfold rS
 rw[if_neg (by omega),Nat.add_sub_cancel,h]
 rfl
set_option maxHeartbeats 2000000 in
theorem r482 (x:dE) (hl:x.msgs.length≤2^63 - 1) (hn:bh x.name) (hs:∀m∈x.msgs,bh m.name):res A az 482 [.agg x.c]=some [.bool (gB x)]:=by
 have h310n:=r310 x.name hn
 refine aq a482 rfl rfl ?_
 simp only[F482]; try delta sS tT zZ nN gG bB pZ
 have e:x.msgs.map et.c=msgs x.msgs:=rfl
 simp only[dE.c,e]
 simp(disch:=omega)only[go_sem]
 refine W.find (List.range x.msgs.length) (nU x.msgs) (fun k=>⟨[(1,.ptr 1 0),(3,.pv (.int .i64 (rS x.msgs k))),(4,.pv (.int .i64 k))],⟨[(1,[.pv (.str x.name),.pv (.ae 0 (msgs x.msgs)),.pv (.int .i64 x.auto.aw),.pv (.int .i64 x.auto.start),.pv (.ae 0 (x.auto.aA.map Edge.c))])],[],[]⟩⟩) rfl (fun k k' hx hk hfd=>?_) (fun hnw=>?_)
 ·obtain⟨rfl,hk⟩:=cV hx
  obtain⟨m,hm⟩:=get_some hk
  have hb:nU x.msgs k'=wW x.msgs k' m:=by unfold nU; rw[hm]
  have h310:=r310 m.name (hs m (Ph hm))
  have done:nU x.msgs k'=true→(some [PV.bool false]:Option (List PV))=some [.bool (gB x)]:=fun h=>by
   unfold gB
   rw[(hfd h).any]
   rfl
  have hln:=rT hm
  rw[hb]at done ⊢
  unfold wW at done ⊢
  generalize rS x.msgs k'=la at *
  simp(disch:=omega)only[go_sem]
  refine Br.aG (fun c=>?_) (fun c=>(c (by omega)).elim)
  simp(disch:=omega)only[go_sem,hm,et.c,h310]
  refine Br.aG (fun c1=>?_) (fun c1=>?_)<;>simp(disch:=omega)only[go_sem,c1,h310]
  ·exact done (by simp[c1])
  refine Br.aG (fun c2=>?_) (fun c2=>?_)<;>simp(disch:=omega)only[go_sem,c2,h310]
  ·exact done (by simp[c2])
  cases hi:isName m.name with
  |false=>
   simp(disch:=omega)only[go_sem]
   exact done (by simp[hi])
  |true=>
   simp(disch:=omega)only[go_sem]
   rw[hi]at done
   refine W.find (x.msgs.take k') (fun q=>decide (q.name=m.name)) (fun j=>⟨[(1,.ptr 1 0),(4,.pv (.int .i64 k')),(5,.ptr 5 0),(6,.pv (.int .i64 j))],⟨[(1,[.pv (.str x.name),.pv (.ae 0 (msgs x.msgs)),.pv (.int .i64 x.auto.aw),.pv (.int .i64 x.auto.start),.pv (.ae 0 (x.auto.aA.map Edge.c))]),(5,[.pv (.int .i64 m.id),.pv (.str m.name),.pv (.int .i64 m.ty)])],[],[]⟩⟩) rfl (fun j q hj hjl hfd2=>?_) (fun hn2=>?_)
   ·have hjl':j<k'∧j<x.msgs.length:=by rw[Pt]at hjl; omega
    have hj':x.msgs[j]?=some q:=by
     rw[Pw,if_pos hjl'.1]at hj
     exact hj
    simp(disch:=omega)only[go_sem]
    refine Br.aG (fun c=>?_) (fun c=>(c (by omega)).elim)
    simp(disch:=omega)only[go_sem,hj',et.c]
    refine Br.aG (fun c3=>?_) (fun c3=>?_)<;>simp(disch:=omega)only[go_sem,c3]
    ·refine done ?_
     have:cp ((x.msgs.take k').map (·.name)) m.name=true:=by
      unfold cp
      rw[Qe]
      exact(hfd2 (by simp[c3])).any
     rw[this]
     simp
    ·exact aR.of (by simp[c3]) rfl
   ·have hlx:(x.msgs.take k').length=k':=by rw[Pt]; omega
    rw[hlx]
    have hh:cp ((x.msgs.take k').map (·.name)) m.name=false:=by
     unfold cp
     rw[Qe]
     exact hn2.any
    simp(disch:=omega)only[go_sem]
    exact aR.of (by rw[hh]; simp[c1,c2]) (by rw[hln]; rfl)
 ·rw[PL]
  have hv:gB x=isName x.name:=by
   unfold gB
   rw[hnw.any]
   simp
  rw[hv]
  simp(disch:=omega)only[go_sem,h310n]
def pK (l:List et) (k:Nat):List ByteArray:=((l.take k).map (·.name)).foldl oJ []
theorem AQ (l:List et) (k:Nat) (x:ByteArray):cp (pK l k) x=cp ((l.take k).map (·.name)) x:=by
 rw[PY,iB,iB,pK,oN]
 simp
theorem yG {l:List et} {k:Nat} {t:et} (h:l[k]?=some t):oJ (pK l k) t.name=pK l (k+1):=by
 unfold pK
 rw[PF,h,P6,List.foldl_append]
 rfl
def rU (n:Nat) (x:dE):Int:=
 if 16<x.msgs.length then 3
 else if gB x=false then 1
 else if x.msgs.any (fun m=>cZ n m.ty)=true then 4
 else if x.auto.err≠0 then x.auto.err
 else if x.auto.aA.any (fun e=>!x.msgs.any (gA e.label))=true then 4
 else if (x.auto.order.length:Int)≠x.auto.aw then 1 else 0
theorem C2 {a:bF} (h:a.err=0):(a.order.length:Int)≤a.aw:=by
 have hg:=bF.rM.1 h
 have:=hg.rN hg.st
 have h2:=hg.st
 unfold bF.order
 omega
set_option maxHeartbeats 4000000 in
theorem r472 (u:Nat) (T:List (List PV)) (x:dE) (hT:T.length≤2^63 - 1) (hl:x.msgs.length≤2^63 - 1) (hn:bh x.name) (hs:∀m∈x.msgs,bh m.name) (he:x.auto.aA.length≤2000000000):res A az 472 [.agg [.ae u T],.agg x.c]=some [.int .i64 (rU T.length x)]:=by
 have h482:=r482 x hl hn hs
 have h483:=fun i=>r483 x i hl
 have h33:=r33 0 x.auto he
 refine aq a472 rfl rfl ?_
 simp only[F472]; try delta sS tT zZ nN gG bB pZ
 have e:x.msgs.map et.c=msgs x.msgs:=rfl
 simp only[dE.c,e]at h482 h483 ⊢
 unfold rU
 simp(disch:=omega)only[go_sem]
 refine Br.aG (fun c1=>?_) (fun c1=>?_)<;>simp(disch:=omega)only[go_sem,c1,h482]
 ·rw[if_pos (by omega)]
 rw[if_neg (by omega)]
 cases hnm:gB x with
 |false=>simp(disch:=omega)only[go_sem,if_true]
 |true=>
  simp(disch:=omega)only[go_sem]
  rw[if_neg (by decide)]
  refine W.find x.msgs (fun m=>cZ T.length m.ty) (fun k=>⟨[(2,.ptr 2 0),(3,.ptr 3 0),(5,.pv (.int .i64 k))],⟨[(2,[.pv (.ae u T)]),(3,[.pv (.str x.name),.pv (.ae 0 (msgs x.msgs)),.pv (.int .i64 x.auto.aw),.pv (.int .i64 x.auto.start),.pv (.ae 0 (x.auto.aA.map Edge.c))])],[],[]⟩⟩) rfl (fun k m hx hk hfd=>?_) (fun hnw=>?_)
  ·have done:cZ T.length m.ty=true→x.msgs.any (fun m=>cZ T.length m.ty)=true:=fun g=>(hfd g).any
   unfold cZ at done ⊢
   simp(disch:=omega)only[go_sem]
   refine Br.aG (fun c=>?_) (fun c=>(c (by omega)).elim)
   simp(disch:=omega)only[go_sem,hx,et.c]
   refine Br.aG (fun c4=>?_) (fun c4=>?_)<;>simp(disch:=omega)only[go_sem,c4,hx,et.c]
   ·rw[if_pos (done (by simp[c4]))]
   refine Br.aG (fun c5=>?_) (fun c5=>?_)<;>simp(disch:=omega)only[go_sem,c5]
   ·rw[if_pos (done (by simp[c5]))]
   ·exact aR.of (by simp[c4,c5]) rfl
  ·rw[hnw.any,if_neg (by decide)]
   by_cases h0:x.auto.err=0
   ·rw[if_pos h0]at h33
    rw[if_neg (by simp[h0])]
    simp(disch:=omega)only[go_sem,h33]
    refine W.find x.auto.aA (fun e=>!x.msgs.any (gA e.label)) (fun k=>⟨[(3,.ptr 3 0),(6,.ptr 6 0),(8,.pv (.int .i64 k))],⟨[(3,[.pv (.str x.name),.pv (.ae 0 (msgs x.msgs)),.pv (.int .i64 x.auto.aw),.pv (.int .i64 x.auto.start),.pv (.ae 0 (x.auto.aA.map Edge.c))]),(6,[.pv (.int .i64 x.auto.order.length),.pv (.int .i64 0),.pv (.ae 0 (cM (wJ Edge.lt (kept x.auto.order x.auto.aA))))])],[],[]⟩⟩) rfl (fun k d hx hk hfd=>?_) (fun hnw=>?_)
    ·have h483:=h483 d.label
     have done:(!x.msgs.any (gA d.label))=true→x.auto.aA.any (fun e=>!x.msgs.any (gA e.label))=true:=fun g=>(hfd g).any
     generalize x.msgs.any (gA d.label)=b at h483 done ⊢
     generalize x.msgs.find? (gA d.label)=o at h483
     simp only[et.c]at h483
     simp(disch:=omega)only[go_sem]
     refine Br.aG (fun c=>?_) (fun c=>(c (by omega)).elim)
     simp(disch:=omega)only[go_sem,hx,h483,et.c]
     cases b
     ·simp(disch:=omega)only[go_sem]
      rw[if_pos (done rfl)]
     ·simp(disch:=omega)only[go_sem]
      exact aR.of rfl rfl
    ·rw[hnw.any,if_neg (by decide)]
     simp(disch:=omega)only[go_sem]
     refine Br.aG (fun c=>?_) (fun c=>?_)<;>simp(disch:=omega)only[go_sem]
     ·rw[if_neg (by simp[c])]
     ·rw[if_pos c]
   ·rw[if_neg h0]at h33
    rw[if_pos h0]
    simp(disch:=omega)only[go_sem,h33]
    refine Br.aG (fun c=>absurd c h0) (fun c=>?_)
    simp(disch:=omega)only[go_sem]
set_option maxHeartbeats 4000000 in
theorem r466 (u:Nat) (T:List (List PV)) (x:dE) (hT:T.length≤2^63 - 1) (hl:x.msgs.length≤2^63 - 1) (hn:bh x.name) (hs:∀m∈x.msgs,bh m.name) (he:x.auto.aA.length≤2000000000):res A az 466 [.agg [.ae u T],.agg x.c]=some [.int .i64 (rU T.length x)]:=by
 have h306n:=r306 x.name hn
 have h476:=fun i=>r476 x i hl
 have h32:=r32 0 x.auto he
 refine aq a466 rfl rfl ?_
 simp only[F466]; try delta sS tT zZ nN gG bB pZ
 have e:x.msgs.map et.c=msgs x.msgs:=rfl
 simp only[dE.c,e]at h476 ⊢
 unfold rU
 simp(disch:=omega)only[go_sem]
 refine Br.aG (fun c1=>?_) (fun c1=>?_)<;>simp(disch:=omega)only[go_sem,c1]
 ·rw[if_pos (by omega)]
 rw[if_neg (by omega)]
 refine W.find (List.range x.msgs.length) (nU x.msgs) (fun k=>⟨[(2,.ptr 2 0),(3,.ptr 3 0),(5,.map 0),(6,.pv (.int .i64 (rS x.msgs k))),(23,.pv (.ae 0 (msgs x.msgs))),(24,.pv (.int .i64 x.msgs.length)),(25,.pv (.int .i64 k))],⟨[(2,[.pv (.ae u T)]),(3,[.pv (.str x.name),.pv (.ae 0 (msgs x.msgs)),.pv (.int .i64 x.auto.aw),.pv (.int .i64 x.auto.start),.pv (.ae 0 (x.auto.aA.map Edge.c))])],[],[iA (pK x.msgs k)]⟩⟩) rfl (fun k k' hx hk hfd=>?_) (fun hnw=>?_)
 ·obtain⟨rfl,hk⟩:=cV hx
  obtain⟨m,hm⟩:=get_some hk
  have hb:nU x.msgs k'=wW x.msgs k' m:=by unfold nU; rw[hm]
  have h306:=r306 m.name (hs m (Ph hm))
  have done:nU x.msgs k'=true→gB x=false:=fun h=>by
   unfold gB
   rw[(hfd h).any]
   rfl
  have hln:=rT hm
  have hsn:=yG hm
  rw[hb]at done ⊢
  unfold wW at done ⊢
  rw[← AQ]at done ⊢
  generalize rS x.msgs k'=la at *
  generalize pK x.msgs k'=sn at *
  simp(disch:=omega)only[go_sem]
  refine Br.aG (fun c=>?_) (fun c=>(c (by omega)).elim)
  simp(disch:=omega)only[go_sem,hm,et.c,h306]
  refine Br.aG (fun c1=>?_) (fun c1=>?_)<;>simp(disch:=omega)only[go_sem,c1,h306]
  ·rw[if_pos (done (by simp[c1]))]
  refine Br.aG (fun c2=>?_) (fun c2=>?_)<;>simp(disch:=omega)only[go_sem,c2,h306]
  ·rw[if_pos (done (by simp[c2]))]
  cases hi:isName m.name with
  |false=>
   simp(disch:=omega)only[go_sem]
   rw[if_pos (done (by simp[hi]))]
  |true=>
   rw[hi]at done
   simp(disch:=omega)only[go_sem]
   cases hh:cp sn m.name with
   |true=>
    rw[hh]at done
    simp(disch:=omega)only[go_sem]
    rw[if_pos (done (by simp))]
   |false=>
    simp(disch:=omega)only[go_sem]
    exact aR.of (by simp[c1,c2]) (by rw[hln,← hsn]; rfl)
 ·rw[PL]
  have hv:gB x=isName x.name:=by
   unfold gB
   rw[hnw.any]
   simp
  rw[hv]
  simp(disch:=omega)only[go_sem,h306n]
  generalize pK x.msgs x.msgs.length=sn
  cases hnm:isName x.name with
  |false=>simp(disch:=omega)only[go_sem,if_true]
  |true=>
  simp(disch:=omega)only[go_sem]
  rw[if_neg (by decide)]
  refine W.find x.msgs (fun m=>cZ T.length m.ty) (fun k=>⟨[(2,.ptr 2 0),(3,.ptr 3 0),(61,.pv (.ae 0 (msgs x.msgs))),(62,.pv (.int .i64 x.msgs.length)),(63,.pv (.int .i64 k))],⟨[(2,[.pv (.ae u T)]),(3,[.pv (.str x.name),.pv (.ae 0 (msgs x.msgs)),.pv (.int .i64 x.auto.aw),.pv (.int .i64 x.auto.start),.pv (.ae 0 (x.auto.aA.map Edge.c))])],[],[iA sn]⟩⟩) rfl (fun k m hx hk hfd=>?_) (fun hnw=>?_)
  ·have done:cZ T.length m.ty=true→x.msgs.any (fun m=>cZ T.length m.ty)=true:=fun g=>(hfd g).any
   unfold cZ at done ⊢
   simp(disch:=omega)only[go_sem]
   refine Br.aG (fun c=>?_) (fun c=>(c (by omega)).elim)
   simp(disch:=omega)only[go_sem,hx,et.c]
   refine Br.aG (fun c4=>?_) (fun c4=>?_)<;>simp(disch:=omega)only[go_sem,c4,hx,et.c]
   ·rw[if_pos (done (by simp[c4]))]
   refine Br.aG (fun c5=>?_) (fun c5=>?_)<;>simp(disch:=omega)only[go_sem,c5]
   ·rw[if_pos (done (by simp[c5]))]
   ·exact aR.of (by simp[c4,c5]) rfl
  ·rw[hnw.any,if_neg (by decide)]
   by_cases h0:x.auto.err=0
   ·have hle:=C2 h0
    have ho:x.auto.trim.aw=x.auto.order.length:=rfl
    rw[if_pos h0,ho]at h32
    rw[if_neg (by simp[h0])]
    simp(disch:=omega)only[go_sem,h32,if_pos h0,ho]
    refine W.find x.auto.aA (fun e=>!x.msgs.any (gA e.label)) (fun k=>⟨[(3,.ptr 3 0),(11,.ptr 11 0),(90,.pv (.ae 0 (x.auto.aA.map Edge.c))),(91,.pv (.int .i64 x.auto.aA.length)),(92,.pv (.int .i64 k))],⟨[(3,[.pv (.str x.name),.pv (.ae 0 (msgs x.msgs)),.pv (.int .i64 x.auto.aw),.pv (.int .i64 x.auto.start),.pv (.ae 0 (x.auto.aA.map Edge.c))]),(11,[.pv (.int .i64 x.auto.order.length),.pv (.int .i64 0),.pv (.ae 0 (cM x.auto.trim.aA))])],[],[iA sn]⟩⟩) rfl (fun k d hx hk hfd=>?_) (fun hnw=>?_)
    ·have h476:=h476 d.label
     have done:(!x.msgs.any (gA d.label))=true→x.auto.aA.any (fun e=>!x.msgs.any (gA e.label))=true:=fun g=>(hfd g).any
     generalize x.msgs.any (gA d.label)=b at h476 done ⊢
     generalize x.msgs.find? (gA d.label)=o at h476
     simp only[et.c]at h476
     simp(disch:=omega)only[go_sem]
     refine Br.aG (fun c=>?_) (fun c=>(c (by omega)).elim)
     simp(disch:=omega)only[go_sem,hx,h476,et.c]
     cases b
     ·simp(disch:=omega)only[go_sem]
      rw[if_pos (done rfl)]
     ·simp(disch:=omega)only[go_sem]
      exact aR.of rfl rfl
    ·rw[hnw.any,if_neg (by decide)]
     simp(disch:=omega)only[go_sem]
     refine Br.aG (fun c=>?_) (fun c=>?_)<;>simp(disch:=omega)only[go_sem]
     ·rw[if_pos (by omega)]
     ·rw[if_neg (by omega)]
   ·rw[if_neg h0]at h32
    rw[if_pos h0]
    simp(disch:=omega)only[go_sem,h32,if_neg h0]
    refine Br.aG (fun c=>absurd c h0) (fun c=>?_)
    simp(disch:=omega)only[go_sem]
theorem r463 (u:Nat) (T:List aF) (x:dE) (hT:T.length≤2147483648) (ho:∀t∈T,t.ok) (hsh:∀t∈T,t.short) (hl:x.msgs.length≤2^63 - 1) (hn:bh x.name) (hs:∀m∈x.msgs,bh m.name) (he:x.auto.aA.length≤2000000000):res A az 463 [.agg [.ae u (T.map aF.c)],.agg x.c]=some [.int .i64 (if bN T≠0 then bN T else rU T.length x)]:=by
 have h268:=r268 u T hT ho hsh
 have h472:=r472 u (T.map aF.c) x (by rw[Pm]; omega) hl hn hs he
 rw[Pm]at h472
 refine aq a463 rfl rfl ?_
 simp only[F463]; try delta sS tT zZ nN gG bB pZ
 have e:x.msgs.map et.c=msgs x.msgs:=rfl
 simp only[dE.c,e]at h472 ⊢
 simp(disch:=omega)only[go_sem,h268]
 refine Br.aG (fun c=>?_) (fun c=>?_)<;>simp(disch:=omega)only[go_sem,h472]
 ·rw[if_neg (by simp[c])]
 ·rw[if_pos c]
theorem r444 (u:Nat) (T:List aF) (x:dE) (hT:T.length≤2147483648) (ho:∀t∈T,t.ok) (hsh:∀t∈T,t.short) (hl:x.msgs.length≤2^63 - 1) (hn:bh x.name) (hs:∀m∈x.msgs,bh m.name) (he:x.auto.aA.length≤2000000000):res A az 444 [.agg [.ae u (T.map aF.c)],.agg x.c]=some [.int .i64 (if bN T≠0 then bN T else rU T.length x)]:=by
 have h267:=r267 u T hT ho hsh
 have h466:=r466 u (T.map aF.c) x (by rw[Pm]; omega) hl hn hs he
 rw[Pm]at h466
 refine aq a444 rfl rfl ?_
 simp only[F444]; try delta sS tT zZ nN gG bB pZ
 have e:x.msgs.map et.c=msgs x.msgs:=rfl
 simp only[dE.c,e]at h466 ⊢
 simp(disch:=omega)only[go_sem,h267]
 refine Br.aG (fun c=>?_) (fun c=>?_)<;>simp(disch:=omega)only[go_sem,h466]
 ·rw[if_neg (by simp[c])]
 ·rw[if_pos c]
end Go.Pv
namespace Go.Pv
theorem r475 (t:Nat) (l:List ByteArray) (x:ByteArray) (hl:l.length≤2^63 - 1):res A az 475 [.ae t (strs l),.str x]=some [.int .i64 (aV (fun s=>decide (s=x)) l)]:=by
 refine aq a475 rfl rfl ?_
 simp only[F475]; try delta sS tT zZ nN gG bB pZ
 simp(disch:=omega)only[go_sem]
 refine W.find l (fun s=>decide (s=x)) (fun k=>⟨[(0,.pv (.ae t (strs l))),(1,.pv (.str x)),(7,.pv (.int .i64 l.length)),(8,.pv (.int .i64 k))],⟨[],[],[]⟩⟩) rfl (fun k s hx hk hfd=>?_) (fun hn=>?_)
 ·simp(disch:=omega)only[go_sem]
  refine Br.aG (fun h=>?_) (fun h=>(h (by omega)).elim)
  simp(disch:=omega)only[go_sem,hx]
  have e:decide (x=s)=decide (s=x):=decide_eq_decide.2 ⟨fun h=>h.symm,fun h=>h.symm⟩
  rw[e]
  refine Br.of (fun h2=>?_) (fun h2=>?_)<;>simp(disch:=omega)only[go_sem]
  ·rw[(hfd h2).aV]
  ·exact aR.of h2 rfl
 ·simp(disch:=omega)only[go_sem]
  rw[hn.aV]
theorem r465 (t:Nat) (l:List ByteArray) (x:ByteArray) (hl:l.length≤2^63 - 1):res A az 465 [.ae t (strs l),.str x]=some [.bool (cp l x)]:=by
 refine aq a465 rfl rfl ?_
 simp only[F465]; try delta sS tT zZ nN gG bB pZ
 have h475:=r475 t l x hl
 simp(disch:=omega)only[go_sem,h475]
 have e:decide (0≤aV (fun s=>decide (s=x)) l)=cp l x:=by
  unfold aV cp
  cases h:l.findIdx? (fun s=>decide (s=x))with
  |none=>
   rw[List.any_eq_false.2 fun y hy=>by simpa using List.findIdx?_eq_none_iff.1 h y hy]
   rfl
  |some k=>
   obtain⟨hk,h2,_⟩:=PT.1 h
   rw[Qs.2 ⟨_,P4 hk,h2⟩]
   simp
 rw[e]
theorem zE (nm:ByteArray) (l:List ByteArray) (hn:bh nm) (hl:l.length≤1000) (Q:Ex→St→Prop)
  (hQ:∀env,if isName nm=false then Q .ret ⟨(4,.pv (.int .i64 1))::env,⟨[(200000,[eu 0 (strs l)])],dY 1 (strs l),[]⟩⟩ else if cp l nm=true then Q .ret ⟨(4,.pv (.int .i64 5))::env,⟨[(200000,[eu 0 (strs l)])],dY 1 (strs l),[]⟩⟩ else Q .ret ⟨(4,.pv (.int .i64 0))::env,⟨[(200000,[eu 0 (strs (l++[nm]))])],dY 1 (strs (l++[nm])),[]⟩⟩):
  W A az F441.body ⟨[(0,.ptr 200000 0),(1,.pv (.str nm))],⟨[(200000,[eu 0 (strs l)])],dY 1 (strs l),[]⟩⟩ Q:=by
 have h306:=r306 nm hn
 have h465:=fun t=>r465 t l nm (by omega)
 have hsl:(strs l).length≤1000:=by rw[ff]; exact hl
 have hg:=fun bx mp=>wk bx mp 1 (strs l) [.str nm] rfl (by omega)
 simp only[F441]; try delta sS tT zZ nN gG bB pZ
 simp(disch:=omega)only[go_sem,h306]
 cases hi:isName nm with
 |false=>
  rw[hi]at hQ
  simp only[if_true]at hQ
  simp(disch:=omega)only[go_sem]
  exact hQ _
 |true=>
  rw[hi]at hQ
  rw[← oK]at hQ
  simp only[Bool.true_eq_false,if_false]at hQ
  simp(disch:=omega)only[go_sem,h465]
  cases hh:cp l nm with
  |true=>
   rw[hh]at hQ
   simp only[if_true]at hQ
   simp(disch:=omega)only[go_sem]
   exact hQ []
  |false=>
   rw[hh]at hQ
   simp only[Bool.false_eq_true,if_false]at hQ
   simp(disch:=omega)only[go_sem,hg]
   exact hQ []
theorem C3 (a:aK) (nm:ByteArray) (l:List ByteArray) (hn:bh nm) (hl:l.length≤1000) (Q:Ex→St→Prop)
  (hQ:∀env,if isName nm=false then Q .ret ⟨(4,.pv (.int .i64 1))::env,⟨[(200000,[eu 1 (strs l)])],a::dY 1 (strs l),[]⟩⟩ else if cp l nm=true then Q .ret ⟨(4,.pv (.int .i64 5))::env,⟨[(200000,[eu 1 (strs l)])],a::dY 1 (strs l),[]⟩⟩ else Q .ret ⟨(4,.pv (.int .i64 0))::env,⟨[(200000,[eu 1 (strs (l++[nm]))])],a::dY 1 (strs (l++[nm])),[]⟩⟩):
  W A az F441.body ⟨[(0,.ptr 200000 0),(1,.pv (.str nm))],⟨[(200000,[eu 1 (strs l)])],a::dY 1 (strs l),[]⟩⟩ Q:=by
 have h306:=r306 nm hn
 have h465:=fun t=>r465 t l nm (by omega)
 have hsl:(strs l).length≤1000:=by rw[ff]; exact hl
 have hg:=fun bx mp=>Lh bx mp a 1 (strs l) [.str nm] rfl (by omega)
 simp only[F441]; try delta sS tT zZ nN gG bB pZ
 simp(disch:=omega)only[go_sem,h306]
 cases hi:isName nm with
 |false=>
  rw[hi]at hQ
  simp only[if_true]at hQ
  simp(disch:=omega)only[go_sem]
  exact hQ _
 |true=>
  rw[hi]at hQ
  rw[← oK]at hQ
  simp only[Bool.true_eq_false,if_false]at hQ
  simp(disch:=omega)only[go_sem,h465]
  cases hh:cp l nm with
  |true=>
   rw[hh]at hQ
   simp only[if_true]at hQ
   simp(disch:=omega)only[go_sem]
   exact hQ []
  |false=>
   rw[hh]at hQ
   simp only[Bool.false_eq_true,if_false]at hQ
   simp(disch:=omega)only[go_sem,hg]
   exact hQ []
def zF (v:V):Prop:=v=.tl []∨∃a b c d,v=.own a b c d
theorem eI (n:Nat) (rows:List (List PV)):zF (eu n rows):=by
 cases rows with
 |nil=>exact .inl rfl
 |cons x r=>exact .inr ⟨_,_,_,_,rfl⟩
theorem gW {s:Nat} {v:V} {ar:List aK} {mp:List (List (PV×PV))} {env:List (Nat×V)} {p:PV} {K:V→Tn→Prop} (hv:zF v) (hp:∃n,p=.int .i64 n) (h:K (.pv p) { all:=some ([(s,[v])],ar,mp) }):Ah [.tmp 4] [s] K .mk .ret ⟨(4,.pv p)::env,⟨[(200000,[v])],ar,mp⟩⟩:=by
 obtain⟨n,rfl⟩:=hp
 rcases hv with rfl|⟨_,_,_,_,rfl⟩<;>exact⟨_,rfl,_,rfl,_,rfl,h⟩
theorem call5 {v:V} {ar:List aK} {nm:ByteArray} {a1 a2 a3 a4 a5 b1 b2 b3:PV} {K:V→Tn→Prop} (hv:zF v) (h:W A az F441.body ⟨[(0,.ptr 200000 0),(1,.pv (.str nm))],⟨[(200000,[v])],ar,[]⟩⟩ (Ah [.tmp 4] [5] K)):
  IW A az 441 [.ptr 5 0,.pv (.str nm)] ⟨[(1,[.pv a1,.pv a2,.pv a3,.pv a4,.pv a5]),(5,[v]),(6,[.tl []]),(8,[.pv b1,.pv b2,.pv b3])],ar,[]⟩ K:=by
 rw[EW a441]
 rcases hv with rfl|⟨_,_,_,_,rfl⟩<;>exact⟨rfl,_,rfl,_,rfl,h⟩
theorem call6 {v:V} {ar:List aK} {nm:ByteArray} {a1 a2 a3 a4 a5 b1 b2:PV} {K:V→Tn→Prop} (hv:zF v) (h:W A az F441.body ⟨[(0,.ptr 200000 0),(1,.pv (.str nm))],⟨[(200000,[v])],ar,[]⟩⟩ (Ah [.tmp 4] [6] K)):
  IW A az 441 [.ptr 6 0,.pv (.str nm)] ⟨[(1,[.pv a1,.pv a2,.pv a3,.pv a4,.pv a5]),(6,[v]),(14,[.pv b1,.pv b2])],ar,[]⟩ K:=by
 rw[EW a441]
 rcases hv with rfl|⟨_,_,_,_,rfl⟩<;>exact⟨rfl,_,rfl,_,rfl,h⟩
end Go.Pv
namespace Go.Pv
def mz {α:Type} (f:Nat→α→Int) (l:List α) (k:Nat):Int:=match l[k]? with
 |some x=>f k x
 |none=>0
def c8 {α:Type} (f:Nat→α→Int) (l:List α):Int:=match (List.range l.length).find? (fun k=>decide (mz f l k≠0))with
 |some k=>mz f l k
 |none=>0
theorem eT {α:Type} {f:Nat→α→Int} {l:List α} {i k:Nat} {x:α} (hx:l[k]?=some x) (h:Found (List.range l.length) (fun k=>decide (mz f l k≠0)) i k):c8 f l=f k x:=by
 unfold c8
 rw[h.find]
 simp only[mz,hx]
theorem eU {α:Type} {f:Nat→α→Int} {l:List α} (h:jX (List.range l.length) (fun k=>decide (mz f l k≠0))):c8 f l=0:=by
 unfold c8
 rw[h.find]
theorem dO {α:Type} {f:Nat→α→Int} {l:List α} {k:Nat} {x:α} (hx:l[k]?=some x):mz f l k=f k x:=by
 simp only[mz,hx]
def lH (n:Nat) (l:List mG) (k:Nat) (c:mG):Int:=if isName c.name=false then 1 else if cp ((l.map (·.name)).take k) c.name=true then 5 else if (cZ n c.qj||cZ n c.rep)=true then 4 else 0
def kY (n:Nat) (l:List nA) (k:Nat) (c:nA):Int:=if isName c.name=false then 1 else if cp ((l.map (·.name)).take k) c.name=true then 5 else if cZ n c.ty=true then 4 else 0
def lI (n:Nat) (l:List dE) (k:Nat) (w:dE):Int:=if cp ((l.map (·.name)).take k) w.name=true then 5 else rU n w
theorem r462 (u:Nat) (T:List (List PV)) (t:Int) (hl:T.length≤2^63 - 1):res A az 462 [.agg [.ae u T],.int .i64 t]=some [.bool (!cZ T.length t)]:=by
 refine aq a462 rfl rfl ?_
 simp only[F462]; try delta sS tT zZ nN gG bB pZ
 unfold cZ
 simp(disch:=omega)only[go_sem]
 by_cases c:0≤t
 ·have e:decide (t<0)=false:=decide_eq_false (by omega)
  have e3:decide (0≤t)=true:=decide_eq_true c
  have e2:(!decide ((T.length:Int)≤t))=decide (t<(T.length:Int)):=by
   rw[PY]
   simp
  simp(disch:=omega)only[go_sem,e,e3]
  rw[e2]
 ·have e:decide (t<0)=true:=decide_eq_true (by omega)
  have e3:decide (0≤t)=false:=decide_eq_false c
  simp(disch:=omega)only[go_sem,e,e3]
structure kZ (v:je):Prop where
 nm:bh v.name
 tl:v.types.length≤2147483648
 to:∀t∈v.types,t.ok
 ts:∀t∈v.types,t.short
 cl:v.calls.length≤2^63 - 1
 cs:∀c∈v.calls,bh c.name
 sl:v.aE.length≤2^63 - 1
 ss:∀w∈v.aE,bh w.name∧w.msgs.length≤2^63 - 1∧(∀m∈w.msgs,bh m.name)∧w.auto.aA.length≤2000000000
 pl:v.aN.length≤2^63 - 1
 ps:∀c∈v.aN,bh c.name
set_option maxHeartbeats 2000000 in
theorem r436 (t1 t2 t3 t4:Nat) (v:je) (hv:kZ v):res A az 436 [.agg (gN t1 t2 t3 t4 v)]=some [.int .i64 (c8 (lH v.types.length v.calls) v.calls)]:=by
 have hcl:=hv.cl
 have htl:=hv.tl
 refine aq a436 rfl rfl ?_
 simp only[F436,gN]
 try delta sS tT zZ nN gG bB pZ
 simp(disch:=omega)only[go_sem]
 obtain⟨G,hG⟩:∃G,c8 (lH v.types.length v.calls) v.calls=G:=⟨_,rfl⟩
 rw[hG]
 refine W.find (List.range v.calls.length) (fun k=>decide (mz (lH v.types.length v.calls) v.calls k≠0)) (fun k=>⟨[(1,.ptr 1 0),(3,.pv (.int .i64 k))],⟨[(1,[.pv (.str v.name),.pv (.ae t1 (v.types.map aF.c)),.pv (.ae t2 (bQ v.calls)),.pv (.ae t3 (aE v.aE)),.pv (.ae t4 (ct v.aN))])],[],[]⟩⟩) rfl (fun i k hx hk hfd=>?_) (fun hn=>?_)
 ·obtain⟨rfl,hk⟩:=cV hx
  obtain⟨x,hx⟩:=get_some hk
  have done:∀e:Int,lH v.types.length v.calls k x=e→e≠0→(some [PV.int .i64 e]:Option (List PV))=some [.int .i64 G]:=fun e h1 h2=>by
   rw[← hG,eT hx (hfd (by rw[dO hx,h1]; exact decide_eq_true h2)),h1]
  rw[dO hx]
  have h310:=r310 x.name (hv.cs x (Ph hx))
  have h462:=fun u t=>r462 u (v.types.map aF.c) t (by rw[Pm]; omega)
  rw[Pm]at h462
  simp(disch:=omega)only[go_sem]
  refine Br.aG (fun c=>?_) (fun c=>(c (by omega)).elim)
  simp(disch:=omega)only[go_sem,hx,mG.c,h310]
  unfold lH at done ⊢
  cases hi:isName x.name with
  |false=>
   simp(disch:=omega)only[go_sem]
   exact done 1 (by rw[if_pos hi]) (by decide)
  |true=>
   simp(disch:=omega)only[go_sem]
   rw[if_neg (by simp[hi])]at done ⊢
   refine W.find (v.calls.take k) (fun q=>decide (q.name=x.name)) (fun j=>⟨[(1,.ptr 1 0),(3,.pv (.int .i64 k)),(4,.ptr 4 0),(5,.pv (.int .i64 j))],⟨[(1,[.pv (.str v.name),.pv (.ae t1 (v.types.map aF.c)),.pv (.ae t2 (bQ v.calls)),.pv (.ae t3 (aE v.aE)),.pv (.ae t4 (ct v.aN))]),(4,[.pv (.str x.name),.pv (.int .i64 x.qj),.pv (.int .i64 x.rep)])],[],[]⟩⟩) rfl (fun j q hj hjl hfd2=>?_) (fun hn2=>?_)
   ·have hjl':j<k∧j<v.calls.length:=by rw[Pt]at hjl; omega
    have hj':v.calls[j]?=some q:=by
     rw[Pw,if_pos hjl'.1]at hj
     exact hj
    simp(disch:=omega)only[go_sem]
    refine Br.aG (fun c=>?_) (fun c=>(c (by omega)).elim)
    simp(disch:=omega)only[go_sem,hj',mG.c]
    refine Br.aG (fun c3=>?_) (fun c3=>?_)<;>simp(disch:=omega)only[go_sem,c3]
    ·refine done 5 ?_ (by decide)
     have:cp ((v.calls.map (·.name)).take k) x.name=true:=by
      unfold cp
      rw[← Qf,Qe]
      exact(hfd2 (by simp[c3])).any
     rw[if_pos this]
    ·exact aR.of (by simp[c3]) rfl
   ·have hlx:(v.calls.take k).length=k:=by rw[Pt]; omega
    rw[hlx]
    have hh:cp ((v.calls.map (·.name)).take k) x.name=false:=by
     unfold cp
     rw[← Qf,Qe]
     exact hn2.any
    rw[if_neg (by simp[hh])]at done ⊢
    simp(disch:=omega)only[go_sem,h462]
    cases h1:cZ v.types.length x.qj with
    |true=>
     simp(disch:=omega)only[go_sem]
     exact done 4 (by rw[h1]; rfl) (by decide)
    |false=>
     simp(disch:=omega)only[go_sem,h462]
     cases h2:cZ v.types.length x.rep with
     |true=>
      simp(disch:=omega)only[go_sem]
      exact done 4 (by rw[h1,h2]; rfl) (by decide)
     |false=>
      simp(disch:=omega)only[go_sem]
      exact aR.of (by simp) rfl
 ·rw[PL,← hG,eU hn]
  simp(disch:=omega)only[go_sem]
set_option maxHeartbeats 2000000 in
theorem r438 (t1 t2 t3 t4:Nat) (v:je) (hv:kZ v):res A az 438 [.agg (gN t1 t2 t3 t4 v)]=some [.int .i64 (c8 (kY v.types.length v.aN) v.aN)]:=by
 have hcl:=hv.pl
 have htl:=hv.tl
 refine aq a438 rfl rfl ?_
 simp only[F438,gN]
 try delta sS tT zZ nN gG bB pZ
 simp(disch:=omega)only[go_sem]
 obtain⟨G,hG⟩:∃G,c8 (kY v.types.length v.aN) v.aN=G:=⟨_,rfl⟩
 rw[hG]
 refine W.find (List.range v.aN.length) (fun k=>decide (mz (kY v.types.length v.aN) v.aN k≠0)) (fun k=>⟨[(1,.ptr 1 0),(3,.pv (.int .i64 k))],⟨[(1,[.pv (.str v.name),.pv (.ae t1 (v.types.map aF.c)),.pv (.ae t2 (bQ v.calls)),.pv (.ae t3 (aE v.aE)),.pv (.ae t4 (ct v.aN))])],[],[]⟩⟩) rfl (fun i k hx hk hfd=>?_) (fun hn=>?_)
 ·obtain⟨rfl,hk⟩:=cV hx
  obtain⟨x,hx⟩:=get_some hk
  have done:∀e:Int,kY v.types.length v.aN k x=e→e≠0→(some [PV.int .i64 e]:Option (List PV))=some [.int .i64 G]:=fun e h1 h2=>by
   rw[← hG,eT hx (hfd (by rw[dO hx,h1]; exact decide_eq_true h2)),h1]
  rw[dO hx]
  have h310:=r310 x.name (hv.ps x (Ph hx))
  have h462:=fun u t=>r462 u (v.types.map aF.c) t (by rw[Pm]; omega)
  rw[Pm]at h462
  simp(disch:=omega)only[go_sem]
  refine Br.aG (fun c=>?_) (fun c=>(c (by omega)).elim)
  simp(disch:=omega)only[go_sem,hx,nA.c,h310]
  unfold kY at done ⊢
  cases hi:isName x.name with
  |false=>
   simp(disch:=omega)only[go_sem]
   exact done 1 (by rw[if_pos hi]) (by decide)
  |true=>
   simp(disch:=omega)only[go_sem]
   rw[if_neg (by simp[hi])]at done ⊢
   refine W.find (v.aN.take k) (fun q=>decide (q.name=x.name)) (fun j=>⟨[(1,.ptr 1 0),(3,.pv (.int .i64 k)),(4,.ptr 4 0),(5,.pv (.int .i64 j))],⟨[(1,[.pv (.str v.name),.pv (.ae t1 (v.types.map aF.c)),.pv (.ae t2 (bQ v.calls)),.pv (.ae t3 (aE v.aE)),.pv (.ae t4 (ct v.aN))]),(4,[.pv (.str x.name),.pv (.int .i64 x.ty)])],[],[]⟩⟩) rfl (fun j q hj hjl hfd2=>?_) (fun hn2=>?_)
   ·have hjl':j<k∧j<v.aN.length:=by rw[Pt]at hjl; omega
    have hj':v.aN[j]?=some q:=by
     rw[Pw,if_pos hjl'.1]at hj
     exact hj
    simp(disch:=omega)only[go_sem]
    refine Br.aG (fun c=>?_) (fun c=>(c (by omega)).elim)
    simp(disch:=omega)only[go_sem,hj',nA.c]
    refine Br.aG (fun c3=>?_) (fun c3=>?_)<;>simp(disch:=omega)only[go_sem,c3]
    ·refine done 5 ?_ (by decide)
     have:cp ((v.aN.map (·.name)).take k) x.name=true:=by
      unfold cp
      rw[← Qf,Qe]
      exact(hfd2 (by simp[c3])).any
     rw[if_pos this]
    ·exact aR.of (by simp[c3]) rfl
   ·have hlx:(v.aN.take k).length=k:=by rw[Pt]; omega
    rw[hlx]
    have hh:cp ((v.aN.map (·.name)).take k) x.name=false:=by
     unfold cp
     rw[← Qf,Qe]
     exact hn2.any
    rw[if_neg (by simp[hh])]at done ⊢
    simp(disch:=omega)only[go_sem,h462]
    cases h1:cZ v.types.length x.ty with
    |true=>
     simp(disch:=omega)only[go_sem]
     exact done 4 (by rw[h1]; rfl) (by decide)
    |false=>
     simp(disch:=omega)only[go_sem]
     exact aR.of (by simp) rfl
 ·rw[PL,← hG,eU hn]
  simp(disch:=omega)only[go_sem]
end Go.Pv
namespace Go.Pv
set_option maxHeartbeats 2000000 in
theorem r437 (t1 t2 t3 t4:Nat) (v:je) (hv:kZ v) (h0:bN v.types=0):res A az 437 [.agg (gN t1 t2 t3 t4 v)]=some [.int .i64 (c8 (lI v.types.length v.aE) v.aE)]:=by
 have hcl:=hv.sl
 refine aq a437 rfl rfl ?_
 simp only[F437,gN]
 try delta sS tT zZ nN gG bB pZ
 simp(disch:=omega)only[go_sem]
 obtain⟨G,hG⟩:∃G,c8 (lI v.types.length v.aE) v.aE=G:=⟨_,rfl⟩
 rw[hG]
 refine W.find (List.range v.aE.length) (fun k=>decide (mz (lI v.types.length v.aE) v.aE k≠0)) (fun k=>⟨[(1,.ptr 1 0),(3,.pv (.int .i64 k))],⟨[(1,[.pv (.str v.name),.pv (.ae t1 (v.types.map aF.c)),.pv (.ae t2 (bQ v.calls)),.pv (.ae t3 (aE v.aE)),.pv (.ae t4 (ct v.aN))])],[],[]⟩⟩) rfl (fun i k hx hk hfd=>?_) (fun hn=>?_)
 ·obtain⟨rfl,hk⟩:=cV hx
  obtain⟨x,hx⟩:=get_some hk
  have done:∀e:Int,lI v.types.length v.aE k x=e→e≠0→(some [PV.int .i64 e]:Option (List PV))=some [.int .i64 G]:=fun e h1 h2=>by
   rw[← hG,eT hx (hfd (by rw[dO hx,h1]; exact decide_eq_true h2)),h1]
  rw[dO hx]
  obtain⟨s1,s2,s3,s4⟩:=hv.ss x (Ph hx)
  have h463:=fun u=>r463 u v.types x hv.tl hv.to hv.ts s2 s1 s3 s4
  rw[if_neg (by simp[h0])]at h463
  unfold lI at done ⊢
  simp only[dE.c]at h463
  simp(disch:=omega)only[go_sem]
  refine Br.aG (fun c=>?_) (fun c=>(c (by omega)).elim)
  simp(disch:=omega)only[go_sem]
  refine W.find (v.aE.take k) (fun q=>decide (q.name=x.name)) (fun j=>⟨[(1,.ptr 1 0),(3,.pv (.int .i64 k)),(4,.pv (.int .i64 j))],⟨[(1,[.pv (.str v.name),.pv (.ae t1 (v.types.map aF.c)),.pv (.ae t2 (bQ v.calls)),.pv (.ae t3 (aE v.aE)),.pv (.ae t4 (ct v.aN))])],[],[]⟩⟩) rfl (fun j q hj hjl hfd2=>?_) (fun hn2=>?_)
  ·have hjl':j<k∧j<v.aE.length:=by rw[Pt]at hjl; omega
   have hj':v.aE[j]?=some q:=by
    rw[Pw,if_pos hjl'.1]at hj
    exact hj
   simp(disch:=omega)only[go_sem]
   refine Br.aG (fun c=>?_) (fun c=>(c (by omega)).elim)
   simp(disch:=omega)only[go_sem,hj',hx,Option.map_some,dE.c]
   refine Br.aG (fun c3=>?_) (fun c3=>?_)<;>simp(disch:=omega)only[go_sem,c3]
   ·refine done 5 ?_ (by decide)
    have:cp ((v.aE.map (·.name)).take k) x.name=true:=by
     unfold cp
     rw[← Qf,Qe]
     exact(hfd2 (by simp[c3])).any
    rw[if_pos this]
   ·exact aR.of (by simp[c3]) rfl
  ·have hlx:(v.aE.take k).length=k:=by rw[Pt]; omega
   rw[hlx]
   have hh:cp ((v.aE.map (·.name)).take k) x.name=false:=by
    unfold cp
    rw[← Qf,Qe]
    exact hn2.any
   rw[if_neg (by simp[hh])]at done ⊢
   generalize rU v.types.length x=e at *
   simp(disch:=omega)only[go_sem,hx,Option.map_some,dE.c,h463]
   refine Br.aG (fun c=>?_) (fun c=>?_)<;>simp(disch:=omega)only[go_sem]
   ·exact aR.of (by simp[c]) rfl
   ·exact done e rfl c
 ·rw[PL,← hG,eU hn]
  simp(disch:=omega)only[go_sem]
noncomputable def uS (v:je):Int:=
 if 8<v.calls.length∨8<v.aE.length∨8<v.aN.length then 3
 else if isName v.name=false then 1
 else if iG v.types≠0 then iG v.types
 else if c8 (lH v.types.length v.calls) v.calls≠0 then c8 (lH v.types.length v.calls) v.calls
 else if c8 (lI v.types.length v.aE) v.aE≠0 then c8 (lI v.types.length v.aE) v.aE
 else c8 (kY v.types.length v.aN) v.aN
theorem lb {T:List aF} (h:iG T=0):bN T=0:=by
 unfold iG at h
 split at h
 ·rename_i h1
  exact absurd h h1
 ·rename_i h1
  exact(gp (by simpa using h1)).1
set_option maxHeartbeats 2000000 in
theorem r406 (t1 t2 t3 t4:Nat) (v:je) (hv:kZ v):res A az 406 [.agg (gN t1 t2 t3 t4 v)]=some [.int .i64 (uS v)]:=by
 have h1:=hv.cl
 have h2:=hv.sl
 have h3:=hv.pl
 have h310:=r310 v.name hv.nm
 have h435:=fun u=>r435 u v.types hv.tl hv.to hv.ts
 have h436:=r436 t1 t2 t3 t4 v hv
 have h437:=fun h=>r437 t1 t2 t3 t4 v hv (lb h)
 have h438:=r438 t1 t2 t3 t4 v hv
 refine aq a406 rfl rfl ?_
 unfold uS
 simp only[F406,gN]at h436 h437 h438 ⊢
 try delta sS tT zZ nN gG bB pZ at h436 h437 h438 ⊢
 generalize c8 (lH v.types.length v.calls) v.calls=e1 at *
 generalize c8 (lI v.types.length v.aE) v.aE=e2 at *
 generalize c8 (kY v.types.length v.aN) v.aN=e3 at *
 generalize iG v.types=e0 at *
 simp(disch:=omega)only[go_sem]
 refine Br.aG (fun c1=>?_) (fun c1=>?_)<;>simp(disch:=omega)only[go_sem,c1]
 ·rw[if_pos (by omega)]
 refine Br.aG (fun c2=>?_) (fun c2=>?_)<;>simp(disch:=omega)only[go_sem,c2]
 ·rw[if_pos (by omega)]
 refine Br.aG (fun c3=>?_) (fun c3=>?_)<;>simp(disch:=omega)only[go_sem,c3,h310]
 ·rw[if_pos (by omega)]
 rw[if_neg (by omega)]
 cases hi:isName v.name with
 |false=>simp(disch:=omega)only[go_sem,if_true]
 |true=>
  simp(disch:=omega)only[go_sem,h435]
  rw[if_neg (by decide)]
  refine Br.aG (fun c=>?_) (fun c=>?_)<;>simp(disch:=omega)only[go_sem,h436]
  rotate_left
  ·rw[if_pos c]
  have h437:=h437 c
  rw[if_neg (by simp[c])]
  refine Br.aG (fun c=>?_) (fun c=>?_)<;>simp(disch:=omega)only[go_sem,h437]
  rotate_left
  ·rw[if_pos c]
  rw[if_neg (by simp[c])]
  refine Br.aG (fun c=>?_) (fun c=>?_)<;>simp(disch:=omega)only[go_sem,h438]
  ·rw[if_neg (by simp[c])]
  ·rw[if_pos c]
theorem r440 (t:Int) (u:Nat) (nm:PV) (tt:Nat) (T:List (List PV)) (c1 c2 c3:PV) (hl:T.length≤2^63 - 1):res A az 440 [.int .i64 t,.ro u [nm,.ae tt T,c1,c2,c3]]=some [.bool (cZ T.length t)]:=by
 refine aq a440 rfl rfl ?_
 simp only[F440]; try delta sS tT zZ nN gG bB pZ
 unfold cZ
 simp(disch:=omega)only[go_sem]
 refine Br.aG (fun c=>?_) (fun c=>?_)<;>simp(disch:=omega)only[go_sem,c,decide_true,decide_false,Bool.true_or,Bool.false_or]
theorem r443 (x y:dE) (u:Nat):res A az 443 [.agg x.c,.ro u y.c]=some [.bool (decide (x.name=y.name))]:=by
 refine aq a443 rfl rfl ?_
 simp only[F443,dE.c]
 try delta sS tT zZ nN gG bB pZ
 simp(disch:=omega)only[go_sem]
theorem r448b (t u:Nat) (l:List dE) (y:dE) (hl:l.length≤2^63 - 1):res A az 448 [.ae t (aE l),.func 443 [.ro u y.c]]=some [.int .i64 (aV (fun w=>decide (w.name=y.name)) l)]:=by
 refine aq a448 rfl rfl ?_
 simp only[F448]; try delta sS tT zZ nN gG bB pZ
 simp(disch:=omega)only[go_sem]
 refine W.find l (fun w=>decide (w.name=y.name)) (fun k=>⟨[(0,.pv (.ae t (aE l))),(1,.pv (.func 443 [.ro u y.c])),(7,.pv (.int .i64 l.length)),(8,.pv (.int .i64 k))],⟨[],[],[]⟩⟩) rfl (fun k x hx hk hfd=>?_) (fun hn=>?_)
 ·have h443:=r443 x y u
  simp only[dE.c]at h443 ⊢
  simp(disch:=omega)only[go_sem]
  refine Br.aG (fun h=>?_) (fun h=>(h (by omega)).elim)
  simp(disch:=omega)only[go_sem,hx,Option.map_some,dE.c,h443]
  refine Br.of (fun h2=>?_) (fun h2=>?_)<;>simp(disch:=omega)only[go_sem]
  ·rw[(hfd h2).aV]
  ·exact aR.of h2 rfl
 ·simp(disch:=omega)only[go_sem]
  rw[hn.aV]
theorem r442 (t u:Nat) (l:List dE) (y:dE) (hl:l.length≤2^63 - 1):res A az 442 [.ae t (aE l),.func 443 [.ro u y.c]]=some [.bool (cp (l.map (·.name)) y.name)]:=by
 refine aq a442 rfl rfl ?_
 simp only[F442]; try delta sS tT zZ nN gG bB pZ
 have h448:=r448b t u l y hl
 have e:decide (0≤aV (fun w=>decide (w.name=y.name)) l)=cp (l.map (·.name)) y.name:=by
  unfold cp
  rw[Qe]
  rcases jZ (fun w:dE=>decide (w.name=y.name)) l with⟨f1,f2⟩|⟨k,x,f1,f2,f3⟩
  ·rw[f2]
   symm
   rw[show decide ((0:Int)≤ -1)=false from rfl,P0]
   exact QB.1 f1
  ·rw[f3]
   symm
   rw[show decide ((0:Int)≤(k:Int))=true by simp,List.any_eq_true]
   exact⟨x,List.mem_of_find?_eq_some f1,QN f1⟩
 simp only[dE.c]at h448 ⊢
 simp(disch:=omega)only[go_sem,h448]
 rw[e]
end Go.Pv
namespace Go.Pv
theorem uT (l:List dE):aW 5 (.inl (aE l))=true:=wR fun r hr=>by
 obtain⟨w,_,rfl⟩:=PB.1 hr
 rfl
set_option maxHeartbeats 4000000 in
theorem r407 (t1 t2 t3 t4:Nat) (v:je) (hv:kZ v):res A az 407 [.agg (gN t1 t2 t3 t4 v)]=some [.int .i64 (uS v)]:=by
 have h1:=hv.cl
 have h2:=hv.sl
 have h3:=hv.pl
 have htl:=hv.tl
 have hrf:=uT v.aE
 have h306:=r306 v.name hv.nm
 have h439:=fun u=>r439 u v.types hv.tl hv.to hv.ts
 refine aq a407 rfl rfl ?_
 unfold uS
 simp only[F407,gN]
 try delta sS tT zZ nN gG bB pZ
 have hs0:=lb (T:=v.types)
 generalize iG v.types=e0 at *
 simp(disch:=omega)only[go_sem]
 refine Br.aG (fun c1=>?_) (fun c1=>?_)<;>simp(disch:=omega)only[go_sem,c1]
 ·rw[if_pos (by omega)]
 refine Br.aG (fun c2=>?_) (fun c2=>?_)<;>simp(disch:=omega)only[go_sem,c2]
 ·rw[if_pos (by omega)]
 refine Br.aG (fun c3=>?_) (fun c3=>?_)<;>simp(disch:=omega)only[go_sem,c3,h306]
 ·rw[if_pos (by omega)]
 rw[if_neg (by omega)]
 cases hi:isName v.name with
 |false=>simp(disch:=omega)only[go_sem,if_true]
 |true=>
  simp(disch:=omega)only[go_sem,h439]
  rw[if_neg (by decide)]
  refine Br.aG (fun c=>?_) (fun c=>?_)<;>simp(disch:=omega)only[go_sem]
  rotate_left
  ·rw[if_pos c]
  have hvalid:=hs0 c
  rw[if_neg (by simp[c])]
  obtain⟨G,hG⟩:∃G,(if c8 (lH v.types.length v.calls) v.calls≠0 then c8 (lH v.types.length v.calls) v.calls
   else if c8 (lI v.types.length v.aE) v.aE≠0 then c8 (lI v.types.length v.aE) v.aE
   else c8 (kY v.types.length v.aN) v.aN)=G:=⟨_,rfl⟩
  rw[hG]
  refine W.find (List.range v.calls.length) (fun k=>decide (mz (lH v.types.length v.calls) v.calls k≠0)) (fun k=>⟨[(1,.ptr 1 0),(4,.func 440 [.ptr 1 0]),(5,.ptr 5 0),(6,.ptr 6 0),(46,.pv (.ae t2 (bQ v.calls))),(47,.pv (.int .i64 v.calls.length)),(48,.pv (.int .i64 k))],⟨[(1,[.pv (.str v.name),.pv (.ae t1 (v.types.map aF.c)),.pv (.ae t2 (bQ v.calls)),.pv (.ae t3 (aE v.aE)),.pv (.ae t4 (ct v.aN))]),(5,[eu 0 (strs ((v.calls.map (·.name)).take k))]),(6,[.tl []])],dY 1 (strs ((v.calls.map (·.name)).take k)),[]⟩⟩) rfl (fun i k hx hk hfd=>?_) (fun hn=>?_)
  ·obtain⟨rfl,hk⟩:=cV hx
   obtain⟨x,hx⟩:=get_some hk
   have done:∀e:Int,lH v.types.length v.calls k x=e→e≠0→(some [PV.int .i64 e]:Option (List PV))=some [.int .i64 G]:=fun e h1 h2=>by
    have h3:=eT hx (hfd (by rw[dO hx,h1]; exact decide_eq_true h2))
    rw[← hG,h3,h1,if_pos h2]
   rw[dO hx]
   have hnx:(v.calls.map (·.name)).take (k+1)=(v.calls.map (·.name)).take k++[x.name]:=by
    rw[PF,Pn,hx]
    rfl
   have hsl:((v.calls.map (·.name)).take k).length≤8:=by rw[Pt,Pm]; omega
   unfold lH at done ⊢
   generalize (v.calls.map (·.name)).take k=sn at *
   simp(disch:=omega)only[go_sem]
   refine Br.aG (fun c=>?_) (fun c=>(c (by omega)).elim)
   simp(disch:=omega)only[go_sem,hx,mG.c]
   refine call5 (eI _ _) (zE x.name sn (hv.cs x (Ph hx)) (by omega) _ fun env=>?_)
   cases hi:isName x.name with
   |false=>
    rw[if_pos rfl]
    refine gW (eI _ _) ⟨_,rfl⟩ ?_
    simp(disch:=omega)only[go_sem]
    exact done 1 (by rw[if_pos hi]) (by decide)
   |true=>
    rw[if_neg (by decide)]
    cases hh:cp sn x.name with
    |true=>
     rw[if_pos rfl]
     refine gW (eI _ _) ⟨_,rfl⟩ ?_
     simp(disch:=omega)only[go_sem]
     exact done 5 (by rw[if_neg (by simp[hi]),if_pos hh]) (by decide)
    |false=>
     rw[if_neg (by decide)]
     refine gW (eI _ _) ⟨_,rfl⟩ ?_
     rw[if_neg (by simp[hi]),if_neg (by simp[hh])]at done ⊢
     have h440:=fun t u=>r440 t u (.str v.name) t1 (v.types.map aF.c) (.ae t2 (bQ v.calls)) (.ae t3 (aE v.aE)) (.ae t4 (ct v.aN)) (by rw[Pm]; omega)
     rw[Pm]at h440
     simp(disch:=omega)only[go_sem,h440]
     cases h1:cZ v.types.length x.qj with
     |true=>
      simp(disch:=omega)only[go_sem]
      exact done 4 (by rw[h1]; rfl) (by decide)
     |false=>
      simp(disch:=omega)only[go_sem,h440]
      cases h2:cZ v.types.length x.rep with
      |true=>
       simp(disch:=omega)only[go_sem]
       exact done 4 (by rw[h1,h2]; rfl) (by decide)
      |false=>
       simp(disch:=omega)only[go_sem]
       exact aR.of (by simp) (by rw[hnx]; rfl)
  ·rw[PL]
   have hz:=eU hn
   rw[if_neg (by simp[hz])]at hG
   clear hn hz
   obtain⟨X,hXd⟩:∃X,dY 1 (strs ((v.calls.map (·.name)).take v.calls.length))=X:=⟨_,rfl⟩
   have hX:X=[]∨∃a,X=[a]:=by
    rw[← hXd]
    cases strs ((v.calls.map (·.name)).take v.calls.length)with
    |nil=>exact .inl rfl
    |cons y r=>exact .inr ⟨_,rfl⟩
   rw[hXd]
   clear hXd
   simp(disch:=omega)only[go_sem]
   refine W.find (List.range v.aE.length) (fun k=>decide (mz (lI v.types.length v.aE) v.aE k≠0)) (fun k=>⟨[(1,.ptr 1 0),(4,.func 440 [.ptr 1 0]),(6,.ptr 6 0),(70,.pv (.ae t3 (aE v.aE))),(71,.pv (.int .i64 v.aE.length)),(72,.pv (.int .i64 k))],⟨[(1,[.pv (.str v.name),.pv (.ae t1 (v.types.map aF.c)),.pv (.ae t2 (bQ v.calls)),.pv (.ae t3 (aE v.aE)),.pv (.ae t4 (ct v.aN))]),(6,[.tl []])],X,[]⟩⟩) rfl (fun i k hx hk hfd=>?_) (fun hn=>?_)
   ·obtain⟨rfl,hk⟩:=cV hx
    obtain⟨x,hx⟩:=get_some hk
    have done:∀e:Int,lI v.types.length v.aE k x=e→e≠0→(some [PV.int .i64 e]:Option (List PV))=some [.int .i64 G]:=fun e h1 h2=>by
     have h3:=eT hx (hfd (by rw[dO hx,h1]; exact decide_eq_true h2))
     rw[← hG,h3,h1,if_pos h2]
    rw[dO hx]
    obtain⟨s1,s2,s3,s4⟩:=hv.ss x (Ph hx)
    have h444:=fun u=>r444 u v.types x hv.tl hv.to hv.ts s2 s1 s3 s4
    rw[if_neg (by simp[hvalid])]at h444
    have h442:=fun t u=>r442 t u (v.aE.take k) x (by rw[Pt]; omega)
    have hst:(aE v.aE).take k=aE (v.aE.take k):=(Qf ..).symm
    rw[Qf]at h442
    unfold lI at done ⊢
    simp only[dE.c]at h444 h442
    simp(disch:=omega)only[go_sem]
    refine Br.aG (fun c=>?_) (fun c=>(c (by omega)).elim)
    simp(disch:=omega)only[go_sem,hx,Option.map_some,dE.c,hrf,hst,h442]
    cases hh:cp ((v.aE.map (·.name)).take k) x.name with
    |true=>
     simp(disch:=omega)only[go_sem]
     exact done 5 (by rw[if_pos hh]) (by decide)
    |false=>
     rw[if_neg (by simp[hh])]at done ⊢
     generalize rU v.types.length x=e at *
     simp(disch:=omega)only[go_sem,h444]
     refine Br.aG (fun c=>?_) (fun c=>?_)<;>simp(disch:=omega)only[go_sem]
     ·exact aR.of (by simp[c]) rfl
     ·exact done e rfl c
   ·rw[PL]
    have hz:=eU hn
    rw[if_neg (by simp[hz])]at hG
    clear hn hz
    simp(disch:=omega)only[go_sem]
    rcases hX with rfl|⟨a,rfl⟩
    ·refine W.find (List.range v.aN.length) (fun k=>decide (mz (kY v.types.length v.aN) v.aN k≠0)) (fun k=>⟨[(4,.func 440 [.ptr 1 0]),(6,.ptr 6 0),(92,.pv (.ae t4 (ct v.aN))),(93,.pv (.int .i64 v.aN.length)),(94,.pv (.int .i64 k))],⟨[(1,[.pv (.str v.name),.pv (.ae t1 (v.types.map aF.c)),.pv (.ae t2 (bQ v.calls)),.pv (.ae t3 (aE v.aE)),.pv (.ae t4 (ct v.aN))]),(6,[eu 0 (strs ((v.aN.map (·.name)).take k))])],dY 1 (strs ((v.aN.map (·.name)).take k)),[]⟩⟩) rfl (fun i k hx hk hfd=>?_) (fun hn=>?_)
     ·obtain⟨rfl,hk⟩:=cV hx
      obtain⟨x,hx⟩:=get_some hk
      have done:∀e:Int,kY v.types.length v.aN k x=e→e≠0→(some [PV.int .i64 e]:Option (List PV))=some [.int .i64 G]:=fun e h1 h2=>by
       have h3:=eT hx (hfd (by rw[dO hx,h1]; exact decide_eq_true h2))
       rw[← hG,h3,h1]
      rw[dO hx]
      have hnx:(v.aN.map (·.name)).take (k+1)=(v.aN.map (·.name)).take k++[x.name]:=by
       rw[PF,Pn,hx]
       rfl
      have hsl:((v.aN.map (·.name)).take k).length≤8:=by rw[Pt,Pm]; omega
      unfold kY at done ⊢
      generalize (v.aN.map (·.name)).take k=sn at *
      simp(disch:=omega)only[go_sem]
      refine Br.aG (fun c=>?_) (fun c=>(c (by omega)).elim)
      simp(disch:=omega)only[go_sem,hx,nA.c]
      refine call6 (eI _ _) (zE x.name sn (hv.ps x (Ph hx)) (by omega) _ fun env=>?_)
      cases hi:isName x.name with
      |false=>
       rw[if_pos rfl]
       refine gW (eI _ _) ⟨_,rfl⟩ ?_
       simp(disch:=omega)only[go_sem]
       exact done 1 (by rw[if_pos hi]) (by decide)
      |true=>
       rw[if_neg (by decide)]
       cases hh:cp sn x.name with
       |true=>
        rw[if_pos rfl]
        refine gW (eI _ _) ⟨_,rfl⟩ ?_
        simp(disch:=omega)only[go_sem]
        exact done 5 (by rw[if_neg (by simp[hi]),if_pos hh]) (by decide)
       |false=>
        rw[if_neg (by decide)]
        refine gW (eI _ _) ⟨_,rfl⟩ ?_
        rw[if_neg (by simp[hi]),if_neg (by simp[hh])]at done ⊢
        have h440:=fun t u=>r440 t u (.str v.name) t1 (v.types.map aF.c) (.ae t2 (bQ v.calls)) (.ae t3 (aE v.aE)) (.ae t4 (ct v.aN)) (by rw[Pm]; omega)
        rw[Pm]at h440
        simp(disch:=omega)only[go_sem,h440]
        cases h1:cZ v.types.length x.ty with
        |true=>
         simp(disch:=omega)only[go_sem]
         exact done 4 (by rw[h1]; rfl) (by decide)
        |false=>
         simp(disch:=omega)only[go_sem]
         exact aR.of (by simp) (by rw[hnx]; rfl)
     ·rw[PL]
      have hz:=eU hn
      rw[hz]at hG
      rw[← hG]
      simp(disch:=omega)only[go_sem]
    ·refine W.find (List.range v.aN.length) (fun k=>decide (mz (kY v.types.length v.aN) v.aN k≠0)) (fun k=>⟨[(4,.func 440 [.ptr 1 0]),(6,.ptr 6 0),(92,.pv (.ae t4 (ct v.aN))),(93,.pv (.int .i64 v.aN.length)),(94,.pv (.int .i64 k))],⟨[(1,[.pv (.str v.name),.pv (.ae t1 (v.types.map aF.c)),.pv (.ae t2 (bQ v.calls)),.pv (.ae t3 (aE v.aE)),.pv (.ae t4 (ct v.aN))]),(6,[eu 1 (strs ((v.aN.map (·.name)).take k))])],a::dY 1 (strs ((v.aN.map (·.name)).take k)),[]⟩⟩) rfl (fun i k hx hk hfd=>?_) (fun hn=>?_)
     ·obtain⟨rfl,hk⟩:=cV hx
      obtain⟨x,hx⟩:=get_some hk
      have done:∀e:Int,kY v.types.length v.aN k x=e→e≠0→(some [PV.int .i64 e]:Option (List PV))=some [.int .i64 G]:=fun e h1 h2=>by
       have h3:=eT hx (hfd (by rw[dO hx,h1]; exact decide_eq_true h2))
       rw[← hG,h3,h1]
      rw[dO hx]
      have hnx:(v.aN.map (·.name)).take (k+1)=(v.aN.map (·.name)).take k++[x.name]:=by
       rw[PF,Pn,hx]
       rfl
      have hsl:((v.aN.map (·.name)).take k).length≤8:=by rw[Pt,Pm]; omega
      unfold kY at done ⊢
      generalize (v.aN.map (·.name)).take k=sn at *
      simp(disch:=omega)only[go_sem]
      refine Br.aG (fun c=>?_) (fun c=>(c (by omega)).elim)
      simp(disch:=omega)only[go_sem,hx,nA.c]
      refine call6 (eI _ _) (C3 a x.name sn (hv.ps x (Ph hx)) (by omega) _ fun env=>?_)
      cases hi:isName x.name with
      |false=>
       rw[if_pos rfl]
       refine gW (eI _ _) ⟨_,rfl⟩ ?_
       simp(disch:=omega)only[go_sem]
       exact done 1 (by rw[if_pos hi]) (by decide)
      |true=>
       rw[if_neg (by decide)]
       cases hh:cp sn x.name with
       |true=>
        rw[if_pos rfl]
        refine gW (eI _ _) ⟨_,rfl⟩ ?_
        simp(disch:=omega)only[go_sem]
        exact done 5 (by rw[if_neg (by simp[hi]),if_pos hh]) (by decide)
       |false=>
        rw[if_neg (by decide)]
        refine gW (eI _ _) ⟨_,rfl⟩ ?_
        rw[if_neg (by simp[hi]),if_neg (by simp[hh])]at done ⊢
        have h440:=fun t u=>r440 t u (.str v.name) t1 (v.types.map aF.c) (.ae t2 (bQ v.calls)) (.ae t3 (aE v.aE)) (.ae t4 (ct v.aN)) (by rw[Pm]; omega)
        rw[Pm]at h440
        simp(disch:=omega)only[go_sem,h440]
        cases h1:cZ v.types.length x.ty with
        |true=>
         simp(disch:=omega)only[go_sem]
         exact done 4 (by rw[h1]; rfl) (by decide)
        |false=>
         simp(disch:=omega)only[go_sem]
         exact aR.of (by simp) (by rw[hnx]; rfl)
     ·rw[PL]
      have hz:=eU hn
      rw[hz]at hG
      rw[← hG]
      simp(disch:=omega)only[go_sem]
end Go.Pv
namespace Go.Pv
def fB (l:List mG):List Int:=l.flatMap fun c=>[c.qj,c.rep]
def nV (l:List et):List Int:=l.map (·.ty)
def fC (l:List dE):List Int:=l.flatMap fun w=>nV w.msgs
def rV (l:List nA):List Int:=l.map (·.ty)
def fg (v:je):List Int:=fB v.calls++fC v.aE++rV v.aN
theorem lQ {α:Type} (f:α→List Int) (l:List α) (k:Nat):((l.take k).flatMap f).length≤(l.flatMap f).length:=by
 have:=congrArg List.length (congrArg (List.flatMap f) (Qj k l))
 rw[List.flatMap_append,Pp]at this
 omega
theorem oX {α:Type} (f:α→List Int) {l:List α} {k:Nat} {x:α} (h:l[k]?=some x):(l.take (k+1)).flatMap f=(l.take k).flatMap f++f x:=by
 rw[PF,h,List.flatMap_append]
 simp
end Go.Pv
