/-
 What the functions of the law give.
-/
import Derived.Test.YtpchfogcccagjaaGreatC5
set_option linter.unusedSimpArgs false
set_option linter.unusedVariables false
open List renaming getElem?_eq_some_iff → Pg, mem_of_getElem? → Ph, getElem?_eq_getElem → Pj, mem_iff_getElem? → Pk, getElem?_append_left → Pl, length_map → Pm, getElem?_map → Pn, length_append → Pp, getD_eq_getElem?_getD → Pq, length_take → Pt, take_of_length_le → Py, getElem?_append_right → PA, mem_map → PB, eq_nil_of_length_eq_zero → PC, getElem?_set_ne → PD, take_add_one → PF, append_assoc → PG, all_eq_true → PI, getElem?_set_self → PJ, length_range → PL, mem_cons_self → PN, mem_cons → PO, getElem?_eq_none → PS, take_length → PU, ext_getElem? → PW, mem_append → PX, mem_cons_of_mem → P2, append_nil → P7, length_set → Qa, length_replicate → Qc, getElem?_replicate → Qh, foldl_cons → Qw, find?_eq_none → QB, take_append_of_le_length → QC, map_eq_nil_iff → QL, find?_some → QN
open Nat renaming lt_or_ge → Po, le_refl → Pu, le_trans → PZ, add_assoc → P8, not_lt_zero → Qu
open Int renaming toNat_natCast → P9
open Bool renaming eq_false_iff → QE
open Option renaming map_some → QM
namespace Go.Pv
theorem ld {α:Type} {f:Nat→α→Int} {l:List α} (h:c8 f l=0):∀(k:Nat) (x:α),l[k]?=some x→f k x=0:=by
 intro k x hx
 unfold c8 at h
 cases hf:(List.range l.length).find? (fun k=>decide (mz f l k≠0))with
 |none=>
  have:=QB.1 hf k (List.mem_range.2 (Pg.1 hx).1)
  rw[dO hx]at this
  simpa using this
 |some j=>
  rw[hf]at h
  have:=QN hf
  simp[h]at this
theorem qh {n:Nat} {u:Int} (h:cZ n u=false):0≤u∧u<n:=by
 simp[cZ]at h
 omega
structure C4 (n:Nat) (w:dE):Prop where
 Bq:w.msgs.length≤16
 Pe:gB w=true
 ty:∀m∈w.msgs,0≤m.ty∧m.ty<n
 au:w.auto.err=0
 Pf:∀e∈w.auto.aA,w.msgs.any (gA e.label)=true
 all:(w.auto.order.length:Int)=w.auto.aw
theorem AR {n:Nat} {w:dE} (h:rU n w=0):C4 n w:=by
 unfold rU at h
 split at h
 ·cases h
 rename_i h1
 split at h
 ·cases h
 rename_i h2
 split at h
 ·cases h
 rename_i h3
 split at h
 ·rename_i h4
  exact absurd h h4
 rename_i h4
 split at h
 ·cases h
 rename_i h5
 split at h
 ·cases h
 rename_i h6
 refine⟨by omega,by simpa using h2,fun m hm=>?_,by simpa using h4,fun e he=>?_,by simpa using h6⟩
 ·have:=List.any_eq_false.1 (by simpa using h3) m hm
  exact qh (by simpa using this)
 ·have:=List.any_eq_false.1 (by simpa using h5:w.auto.aA.any (fun e=>!w.msgs.any (gA e.label))=false) e he
  simpa using this
structure jw (v:je):Prop where
 Bq:v.calls.length≤8∧v.aE.length≤8∧v.aN.length≤8
 nm:isName v.name=true
 sound:iG v.types=0
 Pa:∀(k:Nat) c,v.calls[k]?=some c→lH v.types.length v.calls k c=0
 Pb:∀(k:Nat) w,v.aE[k]?=some w→lI v.types.length v.aE k w=0
 top:∀(k:Nat) c,v.aN[k]?=some c→kY v.types.length v.aN k c=0
theorem AS {v:je} (h:uS v=0):jw v:=by
 unfold uS at h
 split at h
 ·cases h
 rename_i h1
 split at h
 ·cases h
 rename_i h2
 split at h
 ·rename_i h3
  exact absurd h h3
 rename_i h3
 split at h
 ·rename_i h4
  exact absurd h h4
 rename_i h4
 split at h
 ·rename_i h5
  exact absurd h h5
 rename_i h5
 exact⟨by omega,by simpa using h2,by simpa using h3,ld (by simpa using h4),ld (by simpa using h5),ld h⟩
theorem AT {n:Nat} {l:List mG} {k:Nat} {c:mG} (h:lH n l k c=0):isName c.name=true∧cp ((l.map (·.name)).take k) c.name=false∧(0≤c.qj∧c.qj<n)∧0≤c.rep∧c.rep<n:=by
 unfold lH at h
 split at h
 ·cases h
 rename_i h1
 split at h
 ·cases h
 rename_i h2
 split at h
 ·cases h
 rename_i h3
 simp only[Bool.or_eq_true,not_or,Bool.not_eq_true]at h3
 exact⟨by simpa using h1,by simpa using h2,qh h3.1,qh h3.2⟩
theorem AU {n:Nat} {l:List nA} {k:Nat} {c:nA} (h:kY n l k c=0):isName c.name=true∧cp ((l.map (·.name)).take k) c.name=false∧0≤c.ty∧c.ty<n:=by
 unfold kY at h
 split at h
 ·cases h
 rename_i h1
 split at h
 ·cases h
 rename_i h2
 split at h
 ·cases h
 rename_i h3
 exact⟨by simpa using h1,by simpa using h2,qh (by simpa using h3)⟩
theorem AV {n:Nat} {l:List dE} {k:Nat} {w:dE} (h:lI n l k w=0):cp ((l.map (·.name)).take k) w.name=false∧C4 n w:=by
 unfold lI at h
 split at h
 ·cases h
 rename_i h1
 exact⟨by simpa using h1,AR h⟩
theorem jw.call {v:je} (h:jw v):∀c∈v.calls,(0≤c.qj∧c.qj<v.types.length)∧0≤c.rep∧c.rep<v.types.length:=fun c hc=>by
 obtain⟨k,hk⟩:=Pk.1 hc
 exact(AT (h.Pa k c hk)).2.2
theorem jw.LH {v:je} (h:jw v):∀c∈v.aN,0≤c.ty∧c.ty<v.types.length:=fun c hc=>by
 obtain⟨k,hk⟩:=Pk.1 hc
 exact(AU (h.top k c hk)).2.2
theorem jw.uU {v:je} (h:jw v):∀w∈v.aE,C4 v.types.length w:=fun c hc=>by
 obtain⟨k,hk⟩:=Pk.1 hc
 exact(AV (h.Pb k c hk)).2
theorem jw.valid {v:je} (h:jw v):bN v.types=0:=lb h.sound
theorem jw.root {v:je} (h:jw v):∀r∈fg v,0≤r∧r<v.types.length:=by
 intro r hr
 unfold fg at hr
 rcases PX.1 hr with hr|hr
 ·rcases PX.1 hr with hr|hr
  ·obtain⟨c,hc,hr⟩:=List.mem_flatMap.1 hr
   have:=h.call c hc
   simp at hr
   rcases hr with rfl|rfl
   ·exact this.1
   ·exact this.2
  ·obtain⟨w,hw,hr⟩:=List.mem_flatMap.1 hr
   obtain⟨m,hm,rfl⟩:=PB.1 hr
   exact(h.uU w hw).ty m hm
 ·obtain⟨c,hc,rfl⟩:=PB.1 hr
  exact h.LH c hc
end Go.Pv
namespace Go.Pv
def fD (ar:List aK) (o:Nat) (v:V) (c:PV):Prop:=(v=.pv c∧c.perm=true)∨∃k rows,c=.ae 0 rows∧Home ar o k v rows
theorem fD.push {ar:List aK} {o:Nat} {v:V} {c:PV} (h:fD ar o v c) (x:List aK):fD (ar++x) o v c:=by
 rcases h with h|⟨k,rows,h1,h2⟩
 ·exact .inl h
 ·exact .inr ⟨k,rows,h1,h2.push x⟩
theorem fD.set {ar:List aK} {o:Nat} {v:V} {c:PV} (h:fD ar o v c) (a:aK):fD (ar.set o a) o v c:=by
 rcases h with h|⟨k,rows,h1,h2⟩
 ·exact .inl h
 ·exact .inr ⟨k,rows,h1,h2.set a⟩
theorem fD.bW {ar:List aK} {o:Nat} {v:V} {c:PV} (h:fD ar o v c) (bx:List (Nat×List V)) (mp:List (List (PV×PV))) (d:Nat):aX ⟨bx,ar,mp⟩ (d+1) v=some c:=by
 rcases h with⟨rfl,h⟩|⟨k,rows,rfl,h2⟩
 ·rw[v8,if_pos h]
 ·exact h2.bW bx mp d
def dy (ar:List aK) (o:Nat) (row:List V) (cs:List PV):Prop:=row.length=cs.length∧∀(i:Nat) v c,row[i]?=some v→cs[i]?=some c→fD ar o v c
theorem dy.nil (ar:List aK) (o:Nat):dy ar o [] []:=⟨rfl,fun i v c h=>by simp at h⟩
theorem dy.cons {ar:List aK} {o:Nat} {v:V} {c:PV} {row:List V} {cs:List PV} (h:fD ar o v c) (g:dy ar o row cs):dy ar o (v::row) (c::cs):=by
 refine⟨by simp[g.1],fun i w d h1 h2=>?_⟩
 cases i with
 |zero=>
  simp at h1 h2
  rw[← h1,← h2]
  exact h
 |succ i=>exact g.2 i w d (by simpa using h1) (by simpa using h2)
theorem dy.pure {ar:List aK} {o:Nat} {v:V} {c:PV} {row:List V} {cs:List PV} (h:v=.pv c) (hp:c.perm=true) (g:dy ar o row cs):dy ar o (v::row) (c::cs):=.cons (.inl ⟨h,hp⟩) g
theorem dy.push {ar:List aK} {o:Nat} {row:List V} {cs:List PV} (h:dy ar o row cs) (x:List aK):dy (ar++x) o row cs:=⟨h.1,fun i v c h1 h2=>(h.2 i v c h1 h2).push x⟩
theorem dy.set {ar:List aK} {o:Nat} {row:List V} {cs:List PV} (h:dy ar o row cs) (a:aK):dy (ar.set o a) o row cs:=⟨h.1,fun i v c h1 h2=>(h.2 i v c h1 h2).set a⟩
theorem dy.bW {ar:List aK} {o:Nat} (bx:List (Nat×List V)) (mp:List (List (PV×PV))) (d:Nat):∀{row:List V} {cs:List PV},dy ar o row cs→ax (aX ⟨bx,ar,mp⟩ (d+1)) row=some cs
 |[],[],_=>rfl
 |[],_::_,h=>absurd h.1 (by simp)
 |_::_,[],h=>absurd h.1 (by simp)
 |v::row,c::cs,h=>by
  have h1:=(h.2 0 v c rfl rfl).bW bx mp d
  have h2:=dy.bW bx mp d (row:=row) (cs:=cs) ⟨by simpa using h.1,fun i w e hi he=>h.2 (i+1) w e (by simpa using hi) (by simpa using he)⟩
  simp only[ax,h1,h2]
structure iH (ar:List aK) (o:Nat) (rows:List (List V)) (css:List (List PV)):Prop where
 len:rows.length=css.length
 row:∀(i:Nat) row cs,rows[i]?=some row→css[i]?=some cs→dy ar o row cs
theorem iH.push {ar:List aK} {o:Nat} {rows:List (List V)} {css:List (List PV)} (h:iH ar o rows css) (x:List aK):iH (ar++x) o rows css:=⟨h.len,fun i row cs h1 h2=>(h.row i row cs h1 h2).push x⟩
theorem iH.set {ar:List aK} {o:Nat} {rows:List (List V)} {css:List (List PV)} (h:iH ar o rows css) (a:aK):iH (ar.set o a) o rows css:=⟨h.len,fun i row cs h1 h2=>(h.row i row cs h1 h2).set a⟩
theorem iH.snoc {ar:List aK} {o:Nat} {rows:List (List V)} {css:List (List PV)} {row:List V} {cs:List PV} (h:iH ar o rows css) (hr:dy ar o row cs):iH ar o (rows++[row]) (css++[cs]):=by
 refine⟨by simp[h.len],fun i r u h1 h2=>?_⟩
 rcases Po i rows.length with hi|hi
 ·rw[Pl hi]at h1
  rw[Pl (by rw[← h.len]; exact hi)]at h2
  exact h.row i r u h1 h2
 ·rw[PA hi]at h1
  rw[PA (by rw[← h.len]; exact hi)]at h2
  rw[h.len]at h1
  cases hj:i - css.length with
  |zero=>
   rw[hj]at h1 h2
   cases h1
   cases h2
   exact hr
  |succ j=>
   rw[hj]at h1
   simp at h1
def tR (ar:List aK) (o aj k:Nat) (css:List (List PV)):Prop:=∃body,ar[o]?=some ⟨aj,k,body⟩∧iH ar o (bw body) css
theorem tR.push {ar:List aK} {o aj k:Nat} {css:List (List PV)} (h:tR ar o aj k css) (x:List aK):tR (ar++x) o aj k css:=by
 obtain⟨body,h1,h2⟩:=h
 exact⟨body,by rw[Pl (Pg.1 h1).1]; exact h1,h2.push x⟩
theorem tR.bW {ar:List aK} {o aj k:Nat} {css:List (List PV)} (h:tR ar o aj k css) (bx:List (Nat×List V)) (mp:List (List (PV×PV))):aX ⟨bx,ar,mp⟩ 4 (.own o aj 0 css.length)=some (.ae 0 css):=by
 obtain⟨body,h1,h2⟩:=h
 rw[hD,oD,h1]
 simp only[Option.bind_some,if_true]
 have hk:=tP (f:=aX ⟨bx,ar,mp⟩ 3) (c:=id) h2.len (fun i row t hi ht=>(h2.row i row t hi ht).bW bx mp 2)
 rw[List.map_id]at hk
 cases body with
 |inl R=>
  have hl:R.length=css.length:=by have:=h2.len; simpa [bw]using this
  simp only[aI,ej,List.drop_zero]
  rw[← hl,PU]
  congr 2
  apply PW
  intro i
  rcases Po i R.length with hi|hi
  ·have e1:=Pj hi
   have e2:=Pj (l:=css) (i:=i) (by omega)
   have:=(h2.row i (R[i].map V.pv) (css[i]'(by omega)) (by simp[bw,e1]) e2).bW bx mp 2
   have:=wS this
   rw[e1,e2,this]
  ·rw[PS hi,PS (by omega)]
 |inr R=>
  have hl:R.length=css.length:=by have:=h2.len; simpa [bw]using this
  simp only[aI,ej,List.drop_zero]
  rw[← hl,PU]
  have hk':ax (ax (aX ⟨bx,ar,mp⟩ 3)) R=some css:=hk
  rw[hk']
  rfl
def df (b:Nat) (ar:List aK) (V0:V) (k:Nat) (css:List (List PV)):Prop:=(V0=.tl []∧css=[])∨∃o aj,V0=.own o aj 0 css.length∧b≤o∧tR ar o aj k css
theorem df.push {b:Nat} {ar:List aK} {V0:V} {k:Nat} {css:List (List PV)} (h:df b ar V0 k css) (x:List aK):df b (ar++x) V0 k css:=by
 rcases h with h|⟨o,aj,h1,h2,h3⟩
 ·exact .inl h
 ·exact .inr ⟨o,aj,h1,h2,h3.push x⟩
theorem df.bW {b:Nat} {ar:List aK} {V0:V} {k:Nat} {css:List (List PV)} (h:df b ar V0 k css) (bx:List (Nat×List V)) (mp:List (List (PV×PV))):aX ⟨bx,ar,mp⟩ 4 V0=some (.ae 0 css):=by
 rcases h with⟨rfl,rfl⟩|⟨o,aj,rfl,_,h⟩
 ·rfl
 ·exact h.bW bx mp
theorem df.quiet {b:Nat} {ar:List aK} {V0:V} {k:Nat} {css:List (List PV)} (h:df b ar V0 k css):V0.calm=true∧V0.cells=[V0]:=by
 rcases h with⟨rfl,rfl⟩|⟨o,aj,rfl,_⟩<;>exact⟨rfl,rfl⟩
theorem Hg {n:Nat} {b:Sum (List (List PV)) (List (List V))} (h:aD b=n):aI 0 n b=b:=by
 subst h
 cases b<;>simp[aI,aD]
theorem LI {b:Nat} {ar X:List aK} {V0 y:V} {k:Nat} {css:List (List PV)} {cs:List PV} {new:Sum (List (List PV)) (List (List V))} {rd:Option Nat} {row:List V} (hO:df b ar V0 k css) (hb:b≤ar.length) (hm:css.length+1≤2147483648) (hk:cs.length=k)
  (hs:∀bx,bE ⟨bx,ar++X,[]⟩ y=some (new,rd)) (hn:bw new=[row]) (hrd:∀o,rd=some o→ar.length≤o) (hr:∀o,o<ar.length∨(ar++X).length≤o→dy (ar++X) o row cs):
  ∃V1 T ar',(∀bx,aU ⟨bx,ar++X,[]⟩ k V0 y=some (V1,T))∧(∀bx,T.apply ⟨bx,ar++X,[]⟩=⟨bx,ar',[]⟩)∧V1.cells=[V1]∧V1.calm=true∧ar'.take b=ar.take b∧b≤ar'.length∧df b ar' V1 k (css++[cs]):=by
 have hrow:row.length=k:=by rw[(hr _ (.inr (Pu _))).1,hk]
 have h1:aD new=1:=by rw[← tN,hn]; rfl
 have h2:aW k new=true:=CV (by rw[hn]; intro r hr'; rw[List.mem_singleton]at hr'; rw[hr']; exact hrow)
 rcases hO with⟨rfl,rfl⟩|⟨o,aj,rfl,ho,body,hb1,hb2⟩
 ·have happ:∀bx,aU ⟨bx,ar++X,[]⟩ k (.tl []) y=some (.own (ar++X).length 0 0 1,{ push:=[⟨0,k,bd (.inl []) new⟩],ra:=rd,base:=(ar++X).length }):=fun bx=>by
   simp only[aU,hs,h2,h1,if_true]
   simp[aW,aQ]
  refine⟨_,_,(ar++X)++[⟨0,k,bd (.inl []) new⟩],happ,fun bx=>by simp[Tn.apply],rfl,rfl,?_,by simp; omega,.inr ⟨(ar++X).length,0,rfl,?_,bd (.inl []) new,by simp,?_⟩⟩
  ·rw[PG,QC hb]
  ·rw[Pp]
   omega
  ·rw[tO,hn]
   have h3:iH ((ar++X)++[⟨0,k,bd (.inl []) new⟩]) (ar++X).length (bw (.inl [])) []:=⟨rfl,fun i r u h1 _=>by simp[bw]at h1⟩
   exact h3.snoc ((hr _ (.inr (Pu _))).push _)
 ·have hol:=(Pg.1 hb1).1
  have hb1':(ar++X)[o]?=some ⟨aj,k,body⟩:=by rw[Pl hol]; exact hb1
  have hbl:aD body=css.length:=by rw[← tN]; exact hb2.len
  have hrd':rd≠some o:=fun e=>by have:=hrd o e; omega
  have happ:∀bx,aU ⟨bx,ar++X,[]⟩ k (.own o aj 0 css.length) y=some (.own o (aj+1) 0 (css.length+1),{ ar:=some (o,⟨aj+1,k,bd body new⟩),ra:=rd }):=fun bx=>by
   have h3:aB ⟨bx,ar++X,[]⟩ o aj=some ⟨aj,k,body⟩:=by rw[oD,hb1']; simp
   have h4:(⟨aj,k,body⟩:aK).size=css.length:=by rw[← hbl]; cases body<;>rfl
   simp only[aU,hs,h2,h1,h3,if_true,h4]
   rw[Hg hbl]
   simp[aQ,hm,hrd']
  refine⟨_,_,(ar++X).set o ⟨aj+1,k,bd body new⟩,happ,fun bx=>by simp[Tn.apply],rfl,rfl,?_,by simp; omega,.inr ⟨o,aj+1,by simp,ho,bd body new,?_,?_⟩⟩
  ·rw[List.take_set_of_le ho,QC hb]
  ·rw[PJ (by rw[Pp]; omega)]
  ·rw[tO,hn]
   exact(((hb2.push X).set _).snoc ((hr o (.inl hol)).set _))
theorem Ez {b:Nat} {ar X0:List aK} {V0:V} {k:Nat} {css:List (List PV)} {cs:List PV} {row:List V} {n:Nat} (hO:df b ar V0 k css) (hb:b≤ar.length) (hm:css.length+1≤2147483648) (hk:cs.length=k) (hl:(ar++X0).length=n)
  (hr:∀o,o<ar.length∨n+1≤o→dy (ar++X0++[⟨0,k,.inr [row]⟩]) o row cs):
  ∃V1 T ar',(∀bx,aU ⟨bx,ar++X0++[⟨0,k,.inr [row]⟩],[]⟩ k V0 (.own n 0 0 1)=some (V1,T))∧(∀bx,T.apply ⟨bx,ar++X0++[⟨0,k,.inr [row]⟩],[]⟩=⟨bx,ar',[]⟩)∧V1.cells=[V1]∧V1.calm=true∧ar'.take b=ar.take b∧b≤ar'.length∧df b ar' V1 k (css++[cs]):=by
 rw[PG]at hr ⊢
 refine LI (X:=X0++[⟨0,k,.inr [row]⟩]) (new:=.inr [row]) (rd:=some n) hO hb hm hk (fun bx=>?_) rfl (fun o ho=>?_) (fun o ho=>hr o ?_)
 ·have hg:(ar++(X0++[⟨0,k,.inr [row]⟩]))[n]?=some ⟨0,k,.inr [row]⟩:=by
   rw[← PG,← hl]
   simp
  simp[bE,aB,hg,aI]
 ·injection ho with ho
  rw[← ho,← hl,Pp]
  omega
 ·rcases ho with ho|ho
  ·exact .inl ho
  ·rw[← PG,Pp,hl]at ho
   exact .inr ho
def EA (row:List V) (c:Nat) (news:List V):List V:=row.take c++news++row.drop (c+news.length)
def lf:V→Bool
 |.func _ _=>false
 |_=>true
theorem wX {v:V} {p:PV} (h:v.bG=some p) (hp:lf v=true):v=.pv p:=by
 cases v<;>simp[V.bG,lf]at h hp
 rw[h.2]
theorem nW:∀{news:List V} {l:List PV},ax V.bG news=some l→(∀v∈news,lf v=true)→news=l.map .pv
 |[],l,h,_=>by cases h; rfl
 |v::news,l,h,hp=>by
  rw[mf]at h
  cases hv:v.bG with
  |none=>simp[hv]at h
  |some p=>
   cases hm:ax V.bG news with
   |none=>simp[hv,hm]at h
   |some r=>
    simp[hv,hm]at h
    rw[← h,wX hv (hp v PN),nW hm fun w hw=>hp w (P2 _ hw)]
    rfl
theorem AW {r c:Nat} {news:List V} {body:Sum (List (List PV)) (List (List V))} (hr:r<(bw body).length) (hp:∀v∈news,lf v=true):bw (setBody r c news body)=(bw body).set r (EA ((bw body).getD r []) c news):=by
 cases body with
 |inl x=>
  have hx:r<x.length:=by simpa [bw]using hr
  have hg:((x.map (·.map V.pv)).getD r [])=(x.getD r []).map .pv:=by
   simp[List.getD_eq_getElem?_getD,List.getElem?_eq_getElem hx]
  simp only[setBody,bw]
  cases hm:ax V.bG news with
  |none=>
   dsimp only
   rw[hg]
   rfl
  |some l=>
   dsimp only
   have:=nW hm hp
   subst this
   rw[hg,List.map_set]
   congr 1
   simp[EA,List.map_take,List.map_drop]
 |inr x=>rfl
theorem jx (r:Nat) (body:Sum (List (List PV)) (List (List V))):jV r body=(bw body)[r]?:=by
 cases body with
 |inl x=>simp[jV,bw]
 |inr x=>rfl
theorem Hh (a:aK):a.size=(bw a.body).length:=by
 obtain⟨v,k,b⟩:=a
 cases b<;>simp[aK.size,bw]
theorem uV {id r c aj k:Nat} {news:List V} {body:Sum (List (List PV)) (List (List V))} (hr:r<(bw body).length) (hc:c+news.length≤k) (h4:news.all V.calm=true) (hp:∀v∈news,lf v=true):
  ∃body',dq id r c news ⟨aj,k,body⟩=some { ar:=some (id,⟨aj,k,body'⟩) }∧bw body'=(bw body).set r (EA ((bw body).getD r []) c news):=by
 refine⟨_,?_,AW hr hp⟩
 have hs:r<(⟨aj,k,body⟩:aK).size:=by rw[Hh]; exact hr
 unfold dq
 rw[if_pos ⟨hs,hc,h4⟩]
end Go.Pv
namespace Go.Pv
def lR (u:List Bool) (l:List Int):List Bool:=l.foldl (fun u x=>u.set x.toNat true) u
noncomputable def pL (T:List aF) (R:List Int):List Bool:=R.foldl (fun u r=>lR u (dc T r).1) (List.replicate T.length false)
def iQ (U:List Bool) (k:Nat):List Nat:=(List.range k).filter fun i=>U.getD i false
def jy (U:List Bool) (k:Nat):List Int:=(iQ U k).map fun(i:Nat)=>(i:Int)
def lJ (U:List Bool) (n k:Nat):List Int:=(List.range n).map fun j=>if j<k then ((iQ U j).length:Int) else 0
theorem tS (l:List Int):∀u:List Bool,(lR u l).length=u.length:=by
 induction l with
 |nil=>intro u; rfl
 |cons x l ih=>
  intro u
  show (lR (u.set x.toNat true) l).length=_
  rw[ih,Qa]
theorem AX (l:List Int):∀(u:List Bool) (i:Nat),(∀x∈l,0≤x∧x<u.length)→((lR u l).getD i false=true↔u.getD i false=true∨(i:Int)∈l):=by
 induction l with
 |nil=>intro u i _; simp[lR]
 |cons x l ih=>
  intro u i h
  have h0:=h x PN
  show ((lR (u.set x.toNat true) l).getD i false=true↔_)
  rw[ih _ _ fun y hy=>by rw[Qa]; exact h y (P2 _ hy),PO,Pq,List.getElem?_set,Pq]
  by_cases e:x.toNat=i
  ·rw[if_pos e,if_pos (by omega)]
   have:(i:Int)=x:=by omega
   simp[this]
  ·rw[if_neg e]
   have:¬(i:Int)=x:=by omega
   simp[this]
theorem AY (T:List aF) (R:List Int):∀u:List Bool,(R.foldl (fun u r=>lR u (dc T r).1) u).length=u.length:=by
 induction R with
 |nil=>intro u; rfl
 |cons r R ih=>
  intro u
  rw[Qw,ih,tS]
theorem tU (T:List aF) (R:List Int):(pL T R).length=T.length:=by
 unfold pL
 rw[AY,Qc]
theorem AZ (T:List aF) (R:List Int):∀(u:List Bool) (i:Nat),u.length=T.length→(∀r∈R,∀x∈(dc T r).1,AB T x)→((R.foldl (fun u r=>lR u (dc T r).1) u).getD i false=true↔u.getD i false=true∨∃r∈R,(i:Int)∈(dc T r).1):=by
 induction R with
 |nil=>intro u i _ _; simp
 |cons r R ih=>
  intro u i hl h
  have h1:=AX (dc T r).1 u i fun x hx=>by rw[hl]; exact h r PN x hx
  rw[Qw,ih _ _ (by rw[tS,hl]) fun s hs=>h s (P2 _ hs),h1]
  simp only[List.mem_cons,exists_eq_or_imp]
  exact or_assoc
theorem A1 {T:List aF} {R:List Int} (h:∀r∈R,∀x∈(dc T r).1,AB T x) (i:Nat):(pL T R).getD i false=true↔∃r∈R,(i:Int)∈(dc T r).1:=by
 unfold pL
 rw[AZ T R _ i Qc h]
 have:(List.replicate T.length false).getD i false=false:=by
  rw[Pq,Qh]
  split<;>rfl
 rw[this]
 simp
theorem rW (U:List Bool) (k:Nat):iQ U (k+1)=if U.getD k false=true then iQ U k++[k] else iQ U k:=by
 unfold iQ
 rw[List.range_succ,List.filter_append]
 by_cases h:U.getD k false=true
 ·rw[if_pos h]
  simp only[List.filter_cons,h,if_true,List.filter_nil]
 ·rw[if_neg h]
  simp only[List.filter_cons,h,if_false,List.filter_nil,List.append_nil,Bool.false_eq_true]
theorem tV {U:List Bool} {k i:Nat}:i∈iQ U k↔i<k∧U.getD i false=true:=by
 simp[iQ,List.mem_filter]
theorem tW {U:List Bool} {k:Nat} {u:Int}:u∈jy U k↔0≤u∧u<k∧U.getD u.toNat false=true:=by
 unfold jy
 rw[PB]
 constructor
 ·rintro ⟨i,hi,rfl⟩
  have:=tV.1 hi
  rw[P9]
  exact⟨by omega,by omega,this.2⟩
 ·rintro ⟨h1,h2,h3⟩
  exact⟨u.toNat,tV.2 ⟨by omega,h3⟩,by omega⟩
theorem tX (U:List Bool) (k:Nat):(iQ U k).length≤k:=by
 unfold iQ
 have:=List.length_filter_le (fun i=>U.getD i false) (List.range k)
 rw[PL]at this
 exact this
theorem wY (U:List Bool):∀(k i:Nat),i<k→U.getD i false=true→dI (jy U k) (i:Int)=(iQ U i).length
 |0,i,h,_=>absurd h (Qu _)
 |k+1,i,h,hu=>by
  have hs:jy U (k+1)=if U.getD k false=true then jy U k++[(k:Int)] else jy U k:=by
   unfold jy
   rw[rW]
   split<;>simp
  rw[hs]
  by_cases e:i=k
  ·subst e
   rw[if_pos hu,AM]
   ·simp[jy]
   ·intro hm
    have:=(tW.1 hm).2.1
    omega
  ·have ih:=wY U k i (by omega) hu
   split
   ·rw[uR (by omega)]
    exact ih
   ·exact ih
theorem wZ (U:List Bool) (n k:Nat):(lJ U n k).length=n:=by simp[lJ]
theorem A2 (U:List Bool) (n:Nat):lJ U n 0=List.replicate n 0:=by
 apply List.ext_getElem
 ·simp[lJ]
 ·intro i h1 h2
  simp[lJ]
theorem C5 (U:List Bool) (n k:Nat):(lJ U n k).set k ((iQ U k).length:Int)=lJ U n (k+1):=by
 apply List.ext_getElem
 ·simp[lJ]
 ·intro i h1 h2
  rw[List.getElem_set]
  by_cases h:k=i
  ·subst h
   simp[lJ]
  ·have:(i<k+1)=(i<k):=by rw[eq_iff_iff]; omega
   simp[lJ,h,this]
theorem C6 {U:List Bool} {n:Nat} {u:Int} (h0:0≤u) (h1:u<n) (hu:U.getD u.toNat false=true):(lJ U n n)[u.toNat]?=some (dI (jy U n) u):=by
 have hk:=wY U n u.toNat (by omega) hu
 rw[Int.toNat_of_nonneg h0]at hk
 have hl:u.toNat<n:=by omega
 unfold lJ
 rw[Pn,List.getElem?_range hl,QM,if_pos hl,hk]
noncomputable def kg (v:je):List Bool:=pL v.types (tF (fg v))
noncomputable def bO (v:je):List Int:=jy (kg v) v.types.length
def cj (L:List Int) (c:mG):mG:=⟨c.name,dI L c.qj,dI L c.rep⟩
def dh (L:List Int) (c:nA):nA:=⟨c.name,dI L c.ty⟩
def j7 (L:List Int) (m:et):et:=⟨m.id,m.name,dI L m.ty⟩
def c9 (L:List Int) (w:dE):dE:=⟨w.name,w.msgs.map (j7 L),w.auto⟩
noncomputable def uW (v:je):je:=⟨v.name,(bO v).map fun u=>jd (bO v) (cW v.types u),v.calls.map (cj (bO v)),v.aE.map (c9 (bO v)),v.aN.map (dh (bO v))⟩
theorem w4 {T:List aF} {r:Int} (hv:bN T=0) (h0:0≤r) (h1:r<T.length):r∈(dc T r).1:=by
 have hk:iF T r=0:=by
  unfold iF
  rw[hv]
  have:cZ T.length r=false:=by
   simp[cZ]
   omega
  simp[this]
 unfold dc
 rw[if_neg (by simp[hk])]
 refine(ch oH _).mem_iff.2 ?_
 unfold mw
 rw[zs (P:=AB T) (bU hv).next jv ⟨h0,h1⟩]
 exact .refl
theorem w5 {T:List aF} {r u x:Int} (hu:u∈(dc T r).1) (hx:x∈bV (cW T u)):x∈(dc T r).1:=by
 unfold dc at hu ⊢
 split at hu
 ·simp at hu
 ·rename_i h1
  have hk:iF T r=0:=by simpa using h1
  rw[if_neg h1]
  obtain⟨hv,h0,h2⟩:=mo hk
  have hP:=(bU hv).next
  refine(ch oH _).mem_iff.2 ?_
  have hu:=(ch oH _).mem_iff.1 hu
  unfold mw at *
  rw[zs (P:=AB T) hP jv ⟨h0,h2⟩]at *
  exact .step hu hx
theorem mA {T:List aF} {r:Int}:∀x∈(dc T r).1,AB T x:=by
 intro x hx
 unfold dc at hx
 split at hx
 ·simp at hx
 ·rename_i h1
  have hk:iF T r=0:=by simpa using h1
  exact(tM hk).2 x ((ch oH _).mem_iff.1 hx)
def Used (v:je) (u:Int):Prop:=0≤u∧u<v.types.length∧(kg v).getD u.toNat false=true
theorem A3 (v:je):(kg v).length=v.types.length:=tU _ _
theorem tY {v:je} {u:Int}:u∈bO v↔Used v u:=by
 unfold bO Used
 rw[tW]
theorem rX {v:je} {u:Int} (h0:0≤u):(kg v).getD u.toNat false=true↔∃r∈fg v,u∈(dc v.types r).1:=by
 unfold kg
 rw[A1 fun r _ x hx=>mA x hx,Int.toNat_of_nonneg h0]
 simp only[tG]
theorem A4 {v:je} (hv:bN v.types=0) (hr:∀r∈fg v,0≤r∧r<v.types.length):∀r∈fg v,Used v r:=fun r h=>⟨(hr r h).1,(hr r h).2,(rX (hr r h).1).2 ⟨r,h,w4 hv (hr r h).1 (hr r h).2⟩⟩
theorem A5 {v:je} {u x:Int} (hu:Used v u) (hx:x∈bV (cW v.types u)):Used v x:=by
 obtain⟨h0,h1,h2⟩:=hu
 obtain⟨r,hr,hm⟩:=(rX h0).1 h2
 have:=w5 hm hx
 obtain⟨g0,g1⟩:=mA x this
 exact⟨g0,g1,(rX g0).2 ⟨r,hr,this⟩⟩
end Go.Pv
namespace Go.Pv
theorem w6 (l:List Int):aW 1 (.inl (ints l))=true:=by simp[aW,ints]
theorem C7 (l m:List Int):ints l++ints m=ints (l++m):=by simp[ints]
theorem A6 {src:V} (bx:List (Nat×List V)) (mp:List (List (PV×PV))) (l:List Int) (hs:∀h,bE h src=some (.inl (ints l),none)) (h0:l≠[]) (hm:l.length≤2147483648):aU ⟨bx,[],mp⟩ 1 (.tl []) src=some (.own 0 0 0 l.length,{ push:=[⟨0,1,.inl (ints l)⟩],base:=0 }):=by
 have h1:¬(ints l).length=0:=by rw[aJ]; exact fun e=>h0 (PC e)
 unfold aU
 rw[hs]
 dsimp only
 rw[if_pos (w6 l)]
 simp only[aD,bd,List.nil_append,List.length_nil,Nat.zero_add]
 rw[if_neg h1,if_pos ⟨by rw[aJ]; exact hm,by rfl⟩,aJ]
theorem EB {src:V} (bx:List (Nat×List V)) (mp:List (List (PV×PV))) (v n:Nat) (l m:List Int) (hn:n=l.length) (hs:∀h,bE h src=some (.inl (ints m),none)) (h0:m≠[]) (hm:l.length+m.length≤2147483648):aU ⟨bx,[⟨v,1,.inl (ints l)⟩],mp⟩ 1 (.own 0 v 0 n) src=some (.own 0 (v+1) 0 (l++m).length,{ ar:=some (0,⟨v+1,1,.inl (ints (l++m))⟩) }):=by
 subst hn
 have h1:¬(ints m).length=0:=by rw[aJ]; exact fun e=>h0 (PC e)
 have h2:aB ⟨bx,[⟨v,1,.inl (ints l)⟩],mp⟩ 0 v=some ⟨v,1,.inl (ints l)⟩:=by simp[aB]
 have h3:((ints l).drop 0).take l.length=ints l:=by rw[List.drop_zero]; exact List.take_of_length_le (by simp[ints])
 unfold aU
 rw[hs]
 dsimp only
 rw[if_pos (w6 m),h2]
 simp only[aD]
 rw[if_neg h1,if_pos ⟨by simp[aK.size,ints],by trivial,by unfold aQ; rw[aJ]; exact hm,by simp⟩]
 simp only[aI,h3,bd,C7,aJ,List.length_append]
def Du:Nat→List Int→V
 |0,_=>.tl []
 |v+1,l=>.own 0 v 0 l.length
def Dv:Nat→List Int→List aK
 |0,_=>[]
 |v+1,l=>[⟨v,1,.inl (ints l)⟩]
def NY:Nat→List Int→Tn
 |0,l=>{ push:=[⟨0,1,.inl (ints l)⟩],base:=0 }
 |v+1,l=>{ ar:=some (0,⟨v+1,1,.inl (ints l)⟩) }
theorem yH (bx:List (Nat×List V)) (mp:List (List (PV×PV))) (n:Nat) (l m:List Int) (h0:n=0→l=[]) (h1:m≠[]) (hm:l.length+m.length≤2147483648):aU ⟨bx,Dv n l,mp⟩ 1 (Du n l) (.tl (ints m))=some (Du (n+1) (l++m),NY n (l++m)):=by
 cases n with
 |zero=>
  obtain rfl:=h0 rfl
  exact A6 bx mp m (fun _=>rfl) h1 (by omega)
 |succ v=>exact EB bx mp v l.length l m rfl (fun _=>rfl) h1 hm
theorem rY (bx:List (Nat×List V)) (mp:List (List (PV×PV))) (n:Nat) (l m:List Int):(NY n m).apply ⟨bx,Dv n l,mp⟩=⟨bx,Dv (n+1) m,mp⟩:=by cases n<;>simp[NY,Dv,Tn.apply]
@[go_sem] theorem LJ (kb:List Nat) (n:Nat) (l:List Int):dU kb (Du n l)=Du n l:=by cases n<;>rfl
theorem oY:∀l:List mG,(fB l).length=2*l.length
 |[]=>rfl
 |c::l=>by
  have:=oY l
  simp only[fB,List.flatMap_cons,List.length_append,List.length_cons,List.length_nil]at this ⊢
  omega
theorem w7 {α β:Type} (f:α→β) {l:List α} {k:Nat} {x:α} (h:l[k]?=some x):(l.map f).take (k+1)=(l.map f).take k++[f x]:=by
 rw[PF,Pn,h]
 rfl
set_option maxHeartbeats 4000000 in
theorem r417 (t u x y:Nat) (v:je) (hn:(fg v).length≤1000000) (h1:v.calls.length≤2^63 - 1) (h2:v.aE.length≤2^63 - 1) (h3:v.aN.length≤2^63 - 1) (h4:∀w∈v.aE,w.msgs.length≤2^63 - 1):res A az 417 [.agg (gN t u x y v)]=some [.ae 0 (ints (tF (fg v)))]:=by
 refine aq a417 rfl rfl ?_
 simp only[F417,gN]
 try delta sS tT zZ nN gG bB pZ
 have hl:(fB v.calls).length+(fC v.aE).length+(rV v.aN).length≤1000000:=by
  unfold fg at hn
  rw[Pp,Pp]at hn
  exact hn
 simp(disch:=omega)only[go_sem]
 refine W.dD v.calls.length (fun k=>⟨[(1,.ptr 1 0),(3,Du k (fB (v.calls.take k))),(13,.pv (.ae u (bQ v.calls))),(14,.pv (.int .i64 v.calls.length)),(15,.pv (.int .i64 k))],⟨[(1,[.pv (.str v.name),.pv (.ae t (v.types.map aF.c)),.pv (.ae u (bQ v.calls)),.pv (.ae x (aE v.aE)),.pv (.ae y (ct v.aN))])],Dv k (fB (v.calls.take k)),[]⟩⟩) (fun _=>True) rfl trivial fun k hk _=>?_
 simp(disch:=omega)only[go_sem]
 refine Br.aG (fun c1=>?_) (fun c1=>?_)
 ·obtain⟨c,hc⟩:=get_some (l:=v.calls) (k:=k) (by omega)
  have hkl:=lQ (fun c:mG=>[c.qj,c.rep]) v.calls k
  have hap:=fun bx mp=>yH bx mp k (fB (v.calls.take k)) [c.qj,c.rep] (fun h=>by subst h; rfl) (by simp) (by simp only[fB,List.length_cons,List.length_nil]at hl hkl ⊢; omega)
  have hin:ints [c.qj,c.rep]=[[.int .i64 c.qj],[.int .i64 c.rep]]:=rfl
  rw[hin]at hap
  have hsn:fB (v.calls.take (k+1))=fB (v.calls.take k)++[c.qj,c.rep]:=oX _ hc
  simp(disch:=omega)only[go_sem,hc,Option.map_some,hap,rY]
  exact .of (by omega) (by rw[hsn]; rfl) trivial
 obtain rfl:k=v.calls.length:=by omega
 clear hk c1
 rw[PU]
 have hcl:=oY v.calls
 simp(disch:=omega)only[go_sem]
 refine W.dD v.aE.length (fun k=>⟨[(1,.ptr 1 0),(3,Du (v.calls.length+(fC (v.aE.take k)).length) (fB v.calls++fC (v.aE.take k))),(28,.pv (.ae x (aE v.aE))),(29,.pv (.int .i64 v.aE.length)),(30,.pv (.int .i64 k))],⟨[(1,[.pv (.str v.name),.pv (.ae t (v.types.map aF.c)),.pv (.ae u (bQ v.calls)),.pv (.ae x (aE v.aE)),.pv (.ae y (ct v.aN))])],Dv (v.calls.length+(fC (v.aE.take k)).length) (fB v.calls++fC (v.aE.take k)),[]⟩⟩) (fun _=>True) (by simp[fC]) trivial fun k hk _=>?_
 simp(disch:=omega)only[go_sem]
 refine Br.aG (fun c1=>?_) (fun c1=>?_)
 ·obtain⟨w,hw⟩:=get_some (l:=v.aE) (k:=k) (by omega)
  have hkl:(fC (v.aE.take k)).length+(nV w.msgs).length≤(fC v.aE).length:=by
   have h5:=lQ (fun w:dE=>nV w.msgs) v.aE (k+1)
   rw[oX _ hw,Pp]at h5
   exact h5
  have hsn:fC (v.aE.take (k+1))=fC (v.aE.take k)++nV w.msgs:=oX _ hw
  have hml:=h4 w (Ph hw)
  have hmn:(nV w.msgs).length=w.msgs.length:=Pm _
  have hmm:w.msgs.map et.c=msgs w.msgs:=rfl
  simp(disch:=omega)only[go_sem,hw,Option.map_some,hmm]
  refine W.dD w.msgs.length (fun j=>⟨[(1,.ptr 1 0),(3,Du (v.calls.length+(fC (v.aE.take k)).length+j) (fB v.calls++fC (v.aE.take k)++(nV w.msgs).take j)),(28,.pv (.ae x (aE v.aE))),(29,.pv (.int .i64 v.aE.length)),(30,.pv (.int .i64 k)),(35,.pv (.ae 0 (msgs w.msgs))),(36,.pv (.int .i64 w.msgs.length)),(37,.pv (.int .i64 j))],⟨[(1,[.pv (.str v.name),.pv (.ae t (v.types.map aF.c)),.pv (.ae u (bQ v.calls)),.pv (.ae x (aE v.aE)),.pv (.ae y (ct v.aN))])],Dv (v.calls.length+(fC (v.aE.take k)).length+j) (fB v.calls++fC (v.aE.take k)++(nV w.msgs).take j),[]⟩⟩) (fun _=>True) (by simp) trivial fun j hj _=>?_
  simp(disch:=omega)only[go_sem]
  refine Br.aG (fun c2=>?_) (fun c2=>?_)
  ·obtain⟨m,hm⟩:=get_some (l:=w.msgs) (k:=j) (by omega)
   have htl:((nV w.msgs).take j).length=j:=by rw[Pt]; omega
   have hap:=fun bx mp=>yH bx mp (v.calls.length+(fC (v.aE.take k)).length+j) (fB v.calls++fC (v.aE.take k)++(nV w.msgs).take j) [m.ty] (fun h=>List.eq_nil_of_length_eq_zero (by rw[List.length_append,List.length_append]; omega)) (by simp) (by rw[List.length_append,List.length_append,List.length_singleton]; omega)
   have hin:ints [m.ty]=[[.int .i64 m.ty]]:=rfl
   rw[hin]at hap
   have hms:(nV w.msgs).take (j+1)=(nV w.msgs).take j++[m.ty]:=w7 _ hm
   simp(disch:=omega)only[go_sem,hm,Option.map_some,hap,rY]
   refine .of (by omega) ?_ trivial
   rw[hms,← PG]
   rfl
  ·obtain rfl:j=w.msgs.length:=by omega
   have ht:(nV w.msgs).take w.msgs.length=nV w.msgs:=Py (by omega)
   rw[ht]
   simp(disch:=omega)only[go_sem]
   refine .of (by omega) ?_ trivial
   rw[hsn,Pp,hmn,← P8,← PG]
   rfl
 obtain rfl:k=v.aE.length:=by omega
 clear hk c1
 rw[PU]
 simp(disch:=omega)only[go_sem]
 have htn:(rV v.aN).length=v.aN.length:=Pm _
 refine W.dD v.aN.length (fun k=>⟨[(3,Du (v.calls.length+(fC v.aE).length+k) (fB v.calls++fC v.aE++(rV v.aN).take k)),(49,.pv (.ae y (ct v.aN))),(50,.pv (.int .i64 v.aN.length)),(51,.pv (.int .i64 k))],⟨[],Dv (v.calls.length+(fC v.aE).length+k) (fB v.calls++fC v.aE++(rV v.aN).take k),[]⟩⟩) (fun _=>True) (by simp) trivial fun k hk _=>?_
 simp(disch:=omega)only[go_sem]
 refine Br.aG (fun c1=>?_) (fun c1=>?_)
 ·obtain⟨m,hm⟩:=get_some (l:=v.aN) (k:=k) (by omega)
  have htl:((rV v.aN).take k).length=k:=by rw[Pt]; omega
  have hap:=fun bx mp=>yH bx mp (v.calls.length+(fC v.aE).length+k) (fB v.calls++fC v.aE++(rV v.aN).take k) [m.ty] (fun h=>List.eq_nil_of_length_eq_zero (by rw[List.length_append,List.length_append]; omega)) (by simp) (by rw[List.length_append,List.length_append,List.length_singleton]; omega)
  have hin:ints [m.ty]=[[.int .i64 m.ty]]:=rfl
  rw[hin]at hap
  have hms:(rV v.aN).take (k+1)=(rV v.aN).take k++[m.ty]:=w7 _ hm
  simp(disch:=omega)only[go_sem,hm,Option.map_some,hap,rY]
  refine .of (by omega) ?_ trivial
  rw[hms,← PG]
  rfl
 obtain rfl:k=v.aN.length:=by omega
 rw[Py (by omega)]
 have hroot:fB v.calls++fC v.aE++rV v.aN=fg v:=rfl
 rw[hroot]
 have hrl:(fg v).length=2*v.calls.length+(fC v.aE).length+v.aN.length:=by rw[← hroot,Pp,Pp]; omega
 generalize hnn:v.calls.length+(fC v.aE).length+v.aN.length=nn
 generalize fg v=R at *
 cases nn with
 |zero=>
  have hR:R=[]:=PC (by omega)
  subst hR
  simp only[Du,Dv]
  simp(disch:=omega)only[go_sem]
  rfl
 |succ q=>
  have hR:R.length≠0:=by omega
  simp only[Du,Dv]
  simp(disch:=(first|omega|(simp only[oU]; done)|(simp only[oU]; omega)))only[go_sem]
  rw[PU]
  rfl
end Go.Pv
namespace Go.Pv
end Go.Pv
namespace Go.Pv
def LK (d:Int) (s:List Int×List Int) (x:Int):List Int×List Int:=if s.1.getD x.toNat (-1)<0 then (s.1.set x.toNat d,s.2++[x]) else s
def Fq (nx:Int→List Int):Nat→Nat→List Int×List Int→List Int×List Int
 |0,_,s=>s
 |n+1,i,s=>match s.2[i]? with
  |none=>s
  |some v=>Fq nx n (i+1) ((nx v).foldl (LK (s.1.getD v.toNat (-1)+1)) s)
def levels (nx:Int→List Int) (n:Nat) (fr:List Int):List Int:=(Fq nx n 0 (fr.foldl (LK 0) (List.replicate n (-1),[]))).1
end Go.Pv
namespace Go.Pv
end Go.Pv
namespace Go.Pv
end Go.Pv
namespace Go.Pv
end Go.Pv
namespace Go.Pv
end Go.Pv
namespace Go.Pv
def pI.from (d:pI) (s:Int):bF:=⟨1+d.n%4,s%(1+d.n%4),d.auto.aA⟩
end Go.Pv
namespace Go.Pv
end Go.Pv
namespace Go.Pv
end Go.Pv
namespace Go.Pv
structure Mv where
 send:Bool
 label:Int
 cls:Int
 deriving DecidableEq,Inhabited
def Mv.c (m:Mv):List PV:=[.bool m.send,.int .i64 m.label,.int .i64 m.cls]
def OS (l:List Mv):List (List PV):=l.map Mv.c
@[go_sem] theorem M1:OS []=[]:=rfl
@[go_sem] theorem Mv.Ce (m:Mv):m.c=[.bool m.send,.int .i64 m.label,.int .i64 m.cls]:=rfl
def C8 (es:List Edge) (s:Int) (c:List Int):List Mv:=(es.filter fun e=>e.fr==s).map fun e=>⟨e.send,e.label,c.getD e.to.toNat 0⟩
def NZ (es:List Edge) (c:List Int) (k i:Nat):Bool:=decide (c.getD k 0=c.getD i 0)&&decide (C8 es (k:Int) c=C8 es (i:Int) c)
def Hi (es:List Edge) (c:List Int) (i:Nat):Nat:=((List.range i).find? fun k=>NZ es c k i).getD i
def LM (n:Nat) (es:List Edge) (c:List Int):List Int:=(List.range n).map fun i=>(Hi es c i:Int)
def cls (n:Nat) (es:List Edge):Nat→List Int
 |0=>List.replicate n 0
 |j+1=>LM n es (cls n es j)
end Go.Pv
namespace Go.Pv
def A7 (w:dE):Bool:=decide ((w.msgs.length:Int)≤20)&&(decide ((w.auto.aA.length:Int)≤110)&&decide ((w.name.size:Int)≤100))
theorem r434 (t u:Nat) (w:dE):res A az 434 [.agg [.str w.name,.ae t (w.msgs.map et.c),.int .i64 w.auto.aw,.int .i64 w.auto.start,.ae u (w.auto.aA.map Edge.c)]]=some [.bool (A7 w)]:=by
 refine aq a434 rfl rfl ?_
 simp only[F434]; try delta sS tT zZ nN gG bB pZ
 have hm:w.msgs.map et.c=msgs w.msgs:=rfl
 rw[hm]
 unfold A7
 cases h1:decide ((w.msgs.length:Int)≤20)with
 |false=>simp(disch:=omega)only[go_sem,h1,Bool.false_and]
 |true=>
  cases h2:decide ((w.auto.aA.length:Int)≤110)with
  |false=>simp(disch:=omega)only[go_sem,h1,h2,Bool.false_and,Bool.true_and]
  |true=>simp(disch:=omega)only[go_sem,h1,h2,Bool.true_and]
noncomputable def A8 (v:je):Bool:=!decide ((10:Int)<v.calls.length)&&(!decide ((10:Int)<v.aE.length)&&(!decide ((10:Int)<v.aN.length)&&(!decide ((100:Int)<v.name.size)&&(Bq v.types&&v.aE.all A7))))
theorem C9 {α:Type} {f:α→Bool} {l:List α} (h:∀(i:Nat) (w:α),l[i]?=some w→f w=true):l.all f=true:=by
 rw[PI]
 intro w hw
 obtain⟨i,hi⟩:=List.getElem?_of_mem hw
 exact h i w hi
theorem EC {α:Type} {f:α→Bool} {l:List α} {k:Nat} {w:α} (hw:l[k]?=some w) (h:f w=false):l.all f=false:=by
 rw[QE]
 intro e
 rw[PI.1 e w (Ph hw)]at h
 cases h
set_option maxHeartbeats 1000000 in
theorem r405 (t u x y:Nat) (v:je) (ho:∀t∈v.types,t.ok) (h2:v.aE.length≤2^63 - 1):res A az 405 [.agg (gN t u x y v)]=some [.bool (A8 v)]:=by
 refine aq a405 rfl rfl ?_
 simp only[F405,gN]
 try delta sS tT zZ nN gG bB pZ
 have h266:=r266 t v.types ho
 unfold A8
 cases c1:decide ((10:Int)<v.calls.length)with
 |true=>simp(disch:=omega)only[go_sem,c1,Bool.not_true,Bool.false_and]
 |false=>
 cases c2:decide ((10:Int)<v.aE.length)with
 |true=>simp(disch:=omega)only[go_sem,c1,c2,Bool.not_true,Bool.not_false,Bool.false_and,Bool.true_and]
 |false=>
 cases c3:decide ((10:Int)<v.aN.length)with
 |true=>simp(disch:=omega)only[go_sem,c1,c2,c3,Bool.not_true,Bool.not_false,Bool.false_and,Bool.true_and]
 |false=>
 cases c4:decide ((100:Int)<v.name.size)with
 |true=>simp(disch:=omega)only[go_sem,c1,c2,c3,c4,Bool.not_true,Bool.not_false,Bool.false_and,Bool.true_and]
 |false=>
 cases c5:Bq v.types with
 |false=>
  rw[c5]at h266
  simp(disch:=omega)only[go_sem,c1,c2,c3,c4,h266,Bool.not_false,Bool.false_and,Bool.true_and]
 |true=>
  rw[c5]at h266
  simp(disch:=omega)only[go_sem,c1,c2,c3,c4,h266,Bool.not_false,Bool.true_and]
  refine W.dD v.aE.length (fun k=>⟨[(1,.ptr 1 0),(3,.pv (.int .i64 k))],⟨[(1,[.pv (.str v.name),.pv (.ae t (v.types.map aF.c)),.pv (.ae u (bQ v.calls)),.pv (.ae x (aE v.aE)),.pv (.ae y (ct v.aN))])],[],[]⟩⟩) (fun k=>∀(i:Nat) (w:dE),i<k→v.aE[i]?=some w→A7 w=true) rfl (fun i w hi=>absurd hi (by omega)) fun k hk hi=>?_
  simp(disch:=omega)only[go_sem]
  refine Br.aG (fun c6=>?_) (fun c6=>?_)
  ·obtain⟨w,hw⟩:=get_some (l:=v.aE) (k:=k) (by omega)
   have h434:=r434 0 0 w
   cases hf:A7 w with
   |false=>
    rw[hf]at h434
    simp(disch:=omega)only[go_sem,hw,Option.map_some,h434]
    rw[EC hw hf]
   |true=>
    rw[hf]at h434
    simp(disch:=omega)only[go_sem,hw,Option.map_some,h434]
    exact .of (by omega) rfl (Cj hw hi hf)
  ·simp(disch:=omega)only[go_sem]
   rw[C9 (An (k:=k) (by omega) hi)]
set_option maxHeartbeats 1000000 in
theorem r416 (w:dE) (h1:w.msgs.length≤2^63 - 1) (h2:w.auto.aA.length≤2^63 - 1):res A az 416 [.agg w.c,.agg w.c]=some [.bool true]:=by
 refine aq a416 rfl rfl ?_
 simp only[F416,dE.c]
 try delta sS tT zZ nN gG bB pZ
 have hm:w.msgs.map et.c=msgs w.msgs:=rfl
 rw[hm]
 simp(disch:=omega)only[go_sem]
 refine W.dD w.msgs.length (fun k=>⟨[(2,.ptr 2 0),(3,.ptr 3 0),(5,.pv (.int .i64 k))],⟨[(2,[.pv (.str w.name),.pv (.ae 0 (msgs w.msgs)),.pv (.int .i64 w.auto.aw),.pv (.int .i64 w.auto.start),.pv (.ae 0 (w.auto.aA.map Edge.c))]),(3,[.pv (.str w.name),.pv (.ae 0 (msgs w.msgs)),.pv (.int .i64 w.auto.aw),.pv (.int .i64 w.auto.start),.pv (.ae 0 (w.auto.aA.map Edge.c))])],[],[]⟩⟩) (fun _=>True) rfl trivial fun k hk _=>?_
 simp(disch:=omega)only[go_sem]
 refine Br.aG (fun c6=>?_) (fun c6=>?_)
 ·obtain⟨m,hm⟩:=get_some (l:=w.msgs) (k:=k) (by omega)
  simp(disch:=omega)only[go_sem,hm,Option.map_some]
  exact .of (by omega) rfl trivial
 ·simp(disch:=omega)only[go_sem]
end Go.Pv
namespace Go.Pv
theorem A9 {v:je} (h:A8 v=true):v.calls.length≤10∧v.aE.length≤10∧v.aN.length≤10∧v.name.size≤100∧Bq v.types=true∧∀w∈v.aE,w.msgs.length≤20∧w.auto.aA.length≤110∧w.name.size≤100:=by
 simp only[A8,Bool.and_eq_true,Bool.not_eq_true',decide_eq_false_iff_not,List.all_eq_true,A7,decide_eq_true_eq]at h
 obtain⟨h1,h2,h3,h4,h5,h6⟩:=h
 refine⟨by omega,by omega,by omega,by omega,h5,fun w hw=>?_⟩
 obtain⟨g1,g2,g3⟩:=h6 w hw
 omega
theorem ED {l:List dE} (h:∀w∈l,w.msgs.length≤20):(fC l).length≤20*l.length:=by
 induction l with
 |nil=>simp[fC]
 |cons w l ih=>
  have h1:=ih fun x hx=>h x (P2 _ hx)
  have h2:=h w (PN ..)
  have h3:(nV w.msgs).length=w.msgs.length:=Pm _
  simp only[fC,List.flatMap_cons,List.length_append,List.length_cons]at h1 ⊢
  omega
end Go.Pv
namespace Go.Pv
def AC.one:AC→AC
 |.seq a _=>a
 |c=>c
def AC.two:AC→AC
 |.seq _ b=>b
 |c=>c
def AC.ca:AC→AC
 |.block _ a=>a
 |.loop a=>a
 |.mask _ _ a=>a
 |c=>c
set_option maxHeartbeats 2000000 in
theorem OT (t1 t2 t3 t4:Nat) (v:je) (hv:kZ v) (hvv:bN v.types=0) (R:List Int) (hR:∀r∈R,0≤r∧r<v.types.length) (hRl:R.length≤1000) (Q:Ex→St→Prop)
  (hQ:∀env,Q (.exit 0) ⟨(1,.ptr 1 0)::(2,.ptr 2 0)::(5,.own 0 0 0 v.types.length)::env,⟨[(1,[.pv (.str v.name),.pv (.ae t1 (v.types.map aF.c)),.pv (.ae t2 (bQ v.calls)),.pv (.ae t3 (aE v.aE)),.pv (.ae t4 (ct v.aN))]),(2,[.pv (.str ⟨#[]⟩),.tl [],.tl [],.tl [],.tl []])],[⟨0,1,.inl (cJ (pL v.types R))⟩],[]⟩⟩):
  W A az F408.body.two.two.two.one.two.ca ⟨[(1,.ptr 1 0),(2,.ptr 2 0),(5,.own 0 0 0 v.types.length),(38,.pv (.ae 0 (ints R))),(39,.pv (.int .i64 R.length)),(40,.pv (.int .i64 0))],⟨[(1,[.pv (.str v.name),.pv (.ae t1 (v.types.map aF.c)),.pv (.ae t2 (bQ v.calls)),.pv (.ae t3 (aE v.aE)),.pv (.ae t4 (ct v.aN))]),(2,[.pv (.str ⟨#[]⟩),.tl [],.tl [],.tl [],.tl []])],[⟨0,1,.inl (cJ (List.replicate v.types.length false))⟩],[]⟩⟩ Q:=by
 have h32:=(bU hvv).len
 have htl:=hv.tl
 simp only[F408,AC.one,AC.two,AC.ca]at hQ ⊢
 try delta sS tT zZ nN gG bB pZ at hQ ⊢
 unfold pL at hQ
 refine W.fold R (fun u r=>lR u (dc v.types r).1) (List.replicate v.types.length false) (fun k u=>⟨[(1,.ptr 1 0),(2,.ptr 2 0),(5,.own 0 0 0 v.types.length),(38,.pv (.ae 0 (ints R))),(39,.pv (.int .i64 R.length)),(40,.pv (.int .i64 k))],⟨[(1,[.pv (.str v.name),.pv (.ae t1 (v.types.map aF.c)),.pv (.ae t2 (bQ v.calls)),.pv (.ae t3 (aE v.aE)),.pv (.ae t4 (ct v.aN))]),(2,[.pv (.str ⟨#[]⟩),.tl [],.tl [],.tl [],.tl []])],[⟨0,1,.inl (cJ u)⟩],[]⟩⟩) (fun _ u=>u.length=v.types.length) rfl Qc (fun k r u hr hk _ hu=>?_) (fun u hu _=>?_)
 ·have h273:=fun t=>r273 t v.types r hv.tl hv.to hv.ts
  have hin:=mA (T:=v.types) (r:=r)
  have hlen:=yD (l:=v.types) (i:=r)
  generalize (dc v.types r).1=L at *
  generalize (dc v.types r).2=e at *
  simp(disch:=omega)only[go_sem]
  refine Br.aG (fun c=>?_) (fun c=>(c (by omega)).elim)
  simp(disch:=omega)only[go_sem,hr,h273]
  refine W.fold L (fun u x=>u.set x.toNat true) u (fun j w=>⟨[(1,.ptr 1 0),(2,.ptr 2 0),(5,.own 0 0 0 v.types.length),(38,.pv (.ae 0 (ints R))),(39,.pv (.int .i64 R.length)),(40,.pv (.int .i64 k)),(51,.pv (.ae 0 (ints L))),(52,.pv (.int .i64 L.length)),(53,.pv (.int .i64 j))],⟨[(1,[.pv (.str v.name),.pv (.ae t1 (v.types.map aF.c)),.pv (.ae t2 (bQ v.calls)),.pv (.ae t3 (aE v.aE)),.pv (.ae t4 (ct v.aN))]),(2,[.pv (.str ⟨#[]⟩),.tl [],.tl [],.tl [],.tl []])],[⟨0,1,.inl (cJ w)⟩],[]⟩⟩) (fun _ w=>w.length=v.types.length) rfl hu (fun j x w hx hj _ hw=>?_) (fun w hw hwl=>?_)
  ·obtain⟨x0,x1⟩:=hin x (Ph hx)
   simp(disch:=omega)only[go_sem]
   refine Br.aG (fun c=>?_) (fun c=>(c (by omega)).elim)
   simp(disch:=omega)only[go_sem,hx]
   exact cD.of rfl (by rw[Qa,hw])
  ·simp(disch:=omega)only[go_sem]
   exact cD.of (by rw[hw]; rfl) (by unfold lR; rw[← hw]; exact hwl)
 ·simp(disch:=omega)only[go_sem]
  rw[hu]
  exact hQ _
def jz (T:List aF) (U:List Bool) (k:Nat):List (List PV):=(iQ U k).map fun(i:Nat)=>(cW T (i:Int)).c
theorem Ba (T:List aF) (U:List Bool) (k:Nat):(jz T U k).length=(iQ U k).length:=Pm _
theorem yI (T:List aF) (U:List Bool) (k:Nat):jz T U (k+1)=if U.getD k false=true then jz T U k++[(cW T (k:Int)).c] else jz T U k:=by
 unfold jz
 rw[rW]
 split<;>simp
set_option maxHeartbeats 2000000 in
theorem OU (t1 t2 t3 t4:Nat) (v:je) (h32:v.types.length≤32) (U:List Bool) (hU:U.length=v.types.length) (Q:Ex→St→Prop)
  (hQ:∀env,Q (.exit 4) ⟨(1,.ptr 1 0)::(2,.ptr 2 0)::(5,.own 0 0 0 v.types.length)::(12,.own 1 0 0 v.types.length)::(13,.ptr 13 0)::env,⟨[(1,[.pv (.str v.name),.pv (.ae t1 (v.types.map aF.c)),.pv (.ae t2 (bQ v.calls)),.pv (.ae t3 (aE v.aE)),.pv (.ae t4 (ct v.aN))]),(2,[.pv (.str ⟨#[]⟩),.tl [],.tl [],.tl [],.tl []]),(13,[.pv (.str v.name),eu 2 (jz v.types U v.types.length),.tl [],.tl [],.tl []])],⟨0,1,.inl (cJ U)⟩::⟨0,1,.inl (ints (lJ U v.types.length v.types.length))⟩::dY 10 (jz v.types U v.types.length),[]⟩⟩):
  W A az F408.body.two.two.two.two.two.two.one.two.ca ⟨[(1,.ptr 1 0),(2,.ptr 2 0),(5,.own 0 0 0 v.types.length),(12,.own 1 0 0 v.types.length),(13,.ptr 13 0),(70,.pv (.ae t1 (v.types.map aF.c))),(71,.pv (.int .i64 v.types.length)),(72,.pv (.int .i64 0))],⟨[(1,[.pv (.str v.name),.pv (.ae t1 (v.types.map aF.c)),.pv (.ae t2 (bQ v.calls)),.pv (.ae t3 (aE v.aE)),.pv (.ae t4 (ct v.aN))]),(2,[.pv (.str ⟨#[]⟩),.tl [],.tl [],.tl [],.tl []]),(13,[.pv (.str v.name),.tl [],.tl [],.tl [],.tl []])],[⟨0,1,.inl (cJ U)⟩,⟨0,1,.inl (ints (List.replicate v.types.length 0))⟩],[]⟩⟩ Q:=by
 simp only[F408,AC.one,AC.two,AC.ca]at hQ ⊢
 try delta sS tT zZ nN gG bB pZ at hQ ⊢
 refine W.dD v.types.length (fun k=>⟨[(1,.ptr 1 0),(2,.ptr 2 0),(5,.own 0 0 0 v.types.length),(12,.own 1 0 0 v.types.length),(13,.ptr 13 0),(70,.pv (.ae t1 (v.types.map aF.c))),(71,.pv (.int .i64 v.types.length)),(72,.pv (.int .i64 k))],⟨[(1,[.pv (.str v.name),.pv (.ae t1 (v.types.map aF.c)),.pv (.ae t2 (bQ v.calls)),.pv (.ae t3 (aE v.aE)),.pv (.ae t4 (ct v.aN))]),(2,[.pv (.str ⟨#[]⟩),.tl [],.tl [],.tl [],.tl []]),(13,[.pv (.str v.name),eu 2 (jz v.types U k),.tl [],.tl [],.tl []])],⟨0,1,.inl (cJ U)⟩::⟨0,1,.inl (ints (lJ U v.types.length k))⟩::dY 10 (jz v.types U k),[]⟩⟩) (fun _=>True) (by rw[A2]; rfl) trivial fun k hk _=>?_
 have hnl:=wZ U v.types.length k
 simp(disch:=omega)only[go_sem]
 refine Br.aG (fun c=>?_) (fun c=>?_)
 ·obtain⟨x,hx⟩:=get_some (l:=v.types) (k:=k) (by omega)
  have hta:cW v.types (k:Int)=x:=by
   unfold cW
   rw[P9,hx]
   rfl
  have hul:U[k]?=some (U.getD k false):=by
   rw[Pq,Pj (show k<U.length by omega)]
   rfl
  have hset:=C5 U v.types.length k
  have hnx:=yI v.types U k
  have hkl:=Ba v.types U k
  have hkn:=tX U k
  rw[hta]at hnx
  rw[← hkl]at hset
  have hg:=fun bx mp a b=>Li bx mp a b 10 (jz v.types U k) x.c rfl (by omega)
  generalize jz v.types U k=rows at *
  generalize U.getD k false=ub at *
  unfold aF.c at hg hnx
  cases ub with
  |true=>
   rw[if_pos rfl]at hnx
   simp(disch:=omega)only[go_sem,hx,Option.map_some,aF.c,hul,hg]
   refine .of (by omega) ?_ trivial
   rw[← hset,hnx]
   rfl
  |false=>
   rw[if_neg (by decide)]at hnx
   simp(disch:=omega)only[go_sem,hx,Option.map_some,aF.c,hul]
   refine .of (by omega) ?_ trivial
   rw[← hset,hnx]
   rfl
 ·obtain rfl:k=v.types.length:=by omega
  simp(disch:=omega)only[go_sem]
  exact hQ _
end Go.Pv
namespace Go.Pv
structure mC (o:Nat) (a b:List aK):Prop where
 len:a.length≤b.length
 get:∀i,i<a.length→i≠o→b[i]?=a[i]?
theorem mC.trans {o:Nat} {a b c:List aK} (h:mC o a b) (g:mC o b c):mC o a c:=⟨PZ h.len g.len,fun i hi ho=>by rw[g.get i (by have:=h.len; omega) ho,h.get i hi ho]⟩
theorem mC.push (o:Nat) (a x:List aK):mC o a (a++x):=⟨by simp,fun i hi _=>List.getElem?_append_left hi⟩
theorem mC.set (o:Nat) (a:List aK) (x:aK):mC o a (a.set o x):=⟨by simp,fun i _ ho=>List.getElem?_set_ne (fun e=>ho e.symm)⟩
theorem Home.Hj {a b:List aK} {o k:Nat} {v:V} {rows:List (List PV)} (h:Home a o k v rows) (g:mC o a b):Home b o k v rows:=by
 rcases h with h|⟨id,aj,h1,h2,h3⟩|h
 ·exact .inl h
 ·exact .inr (.inl ⟨id,aj,h1,h2,by rw[g.get id (Pg.1 h3).1 h2]; exact h3⟩)
 ·exact .inr (.inr h)
theorem dy.Hj {a b:List aK} {o:Nat} {row:List V} {cs:List PV} (h:dy a o row cs) (g:mC o a b):dy b o row cs:=by
 refine⟨h.1,fun i v c h1 h2=>?_⟩
 rcases h.2 i v c h1 h2 with h|⟨k,rows,h3,h4⟩
 ·exact .inl h
 ·exact .inr ⟨k,rows,h3,h4.Hj g⟩
def rZ (x:aF) (sv mv:V):List V:=[.pv (.int .i64 x.kind),.pv (.str x.name),.pv (.int .i64 x.low),.pv (.int .i64 x.high),.pv (.int .i64 x.max),sv,mv,.pv (.int .i64 x.key),.pv (.int .i64 x.elem),.pv (.bool x.pc)]
def iI (ar:List aK) (b k:Nat) (v:V) (rows:List (List PV)):Prop:=(v=.tl []∧rows=[])∨∃m,v=.own m 0 0 rows.length∧b≤m∧rows≠[]∧ar[m]?=some ⟨0,k,.inl rows⟩
theorem iI.home {ar:List aK} {b k o:Nat} {v:V} {rows:List (List PV)} (h:iI ar b k v rows) (ho:o<b):Home ar o k v rows:=by
 rcases h with⟨rfl,rfl⟩|⟨m,rfl,h1,_,h2⟩
 ·exact .inr (.inr rfl)
 ·exact .inr (.inl ⟨m,0,rfl,by omega,h2⟩)
theorem oZ {α:Type} {l:List α} {i:Nat} {a:α} (h:l[i]?=some a):l.set i a=l:=by
 apply PW
 intro j
 rw[List.getElem?_set]
 split
 ·rename_i e
  subst e
  rw[h,if_pos (Pg.1 h).1]
 ·rfl
theorem lD {aj k:Nat} {body:Sum (List (List PV)) (List (List V))} {x:aF} {sv mv:V} (hk:k<(bw body).length) (hrow:(bw body)[k]?=some (x.c.map .pv)) (hs:sv.calm=true∧lf sv=true) (hm:mv.calm=true∧lf mv=true):
  ∃b5 b6,dq 2 k 5 [sv] ⟨aj,10,body⟩=some { ar:=some (2,⟨aj,10,b5⟩) }∧dq 2 k 6 [mv] ⟨aj,10,b5⟩=some { ar:=some (2,⟨aj,10,b6⟩) }∧bw b6=(bw body).set k (rZ x sv mv):=by
 obtain⟨b5,h5,g5⟩:=uV (id:=2) (r:=k) (c:=5) (aj:=aj) (k:=10) (news:=[sv]) (body:=body) hk (by simp) (by simp[hs.1]) (by simp[hs.2])
 obtain⟨b6,h6,g6⟩:=uV (id:=2) (r:=k) (c:=6) (aj:=aj) (k:=10) (news:=[mv]) (body:=b5) (by rw[g5,List.length_set]; exact hk) (by simp) (by simp[hm.1]) (by simp[hm.2])
 refine⟨b5,b6,h5,h6,?_⟩
 have hgd:(bw body).getD k []=x.c.map .pv:=by rw[Pq,hrow]; rfl
 rw[g6,g5,List.set_set,hgd]
 congr 1
 rw[Pq,PJ hk]
 rfl
set_option maxHeartbeats 2000000 in
theorem N0 (c1 c2 c13:List V) (n:Nat) (ar:List aK) (aj m k:Nat) (body:Sum (List (List PV)) (List (List V))) (x:aF) (hx:x.syms.length≤2147483648∧x.aM.length≤2147483648) (hk:k<m) (h2:ar[2]?=some ⟨aj,10,body⟩) (hbl:(bw body).length=m) (hrow:(bw body)[k]?=some (x.c.map .pv)) (Q:Ex→St→Prop)
  (hQ:∀env ar1 b1 sv mv,mC 2 ar ar1→ar1[2]?=some ⟨aj,10,b1⟩→bw b1=(bw body).set k (rZ x sv mv)→iI ar1 ar.length 2 sv (x.syms.map Sym.c)→iI ar1 ar.length 13 mv (x.aM.map Mem.c)→sv≠mv∨mv=.tl []→Q .normal ⟨(1,.ptr 1 0)::(2,.ptr 2 0)::(12,.own 1 0 0 n)::(13,.ptr 13 0)::(17,.cT 2 aj k 0)::(100,.pv (.int .i64 m))::(101,.pv (.int .i64 k))::env,⟨[(1,c1),(2,c2),(13,c13)],ar1,[]⟩⟩):
  W A az F408.body.two.two.two.two.two.two.two.one.two.ca.ca.ca.two.two.one.ca.two.two.one ⟨[(1,.ptr 1 0),(2,.ptr 2 0),(12,.own 1 0 0 n),(13,.ptr 13 0),(17,.cT 2 aj k 0),(100,.pv (.int .i64 m)),(101,.pv (.int .i64 k))],⟨[(1,c1),(2,c2),(13,c13)],ar,[]⟩⟩ Q:=by
 simp only[F408,AC.one,AC.two,AC.ca]
 try delta sS tT zZ nN gG bB pZ
 have hl2:2<ar.length:=(Pg.1 h2).1
 have gX:∀X:List aK,(ar++X)[2]?=some ⟨aj,10,body⟩:=fun X=>by rw[Pl hl2]; exact h2
 have hb:=jx k body
 rw[hrow]at hb
 unfold aF.c at hb
 simp only[List.map_cons,List.map_nil]at hb
 have gS:∀X a,((ar++X).set 2 a)[2]?=some a:=fun X a=>PJ (by rw[Pp]; omega)
 have gX2:∀X Y:List aK,(ar++X++Y)[2]?=some ⟨aj,10,body⟩:=fun X Y=>by rw[PG]; exact gX _
 have gS0:∀a,(ar.set 2 a)[2]?=some a:=fun a=>PJ hl2
 have gS2:∀X Y a,((ar++X++Y).set 2 a)[2]?=some a:=fun X Y a=>by rw[PG]; exact gS _ a
 have d2:decide (2<ar.length)=true:=decide_eq_true hl2
 have hkb:k<(bw body).length:=by omega
 have aS:∀X a,mC 2 ar ((ar++X).set 2 a):=fun X a=>(mC.push 2 ar X).trans (.set 2 _ a)
 rcases uG (c:=Sym.c) (k:=2) (fun _=>rfl) x.syms hx.1 with⟨s1,s2⟩|⟨s1,s2⟩<;>rcases uG (c:=Mem.c) (k:=13) (fun _=>rfl) x.aM hx.2 with⟨m1,m2⟩|⟨m1,m2⟩
 ·obtain⟨b5,b6,h5,h6,h7⟩:=lD (aj:=aj) (x:=x) (sv:=.tl []) (mv:=.tl []) hkb hrow ⟨rfl,rfl⟩ ⟨rfl,rfl⟩
  simp(disch:=omega)only[go_sem,h2,hb,s2,m2,h5,h6,gS0,List.set_set]
  refine hQ _ _ b6 (.tl []) (.tl []) (.set 2 _ _) (gS0 _) h7 (.inl ⟨rfl,by rw[s1]; rfl⟩) (.inl ⟨rfl,by rw[m1]; rfl⟩) (.inr rfl)
 ·obtain⟨b5,b6,h5,h6,h7⟩:=lD (aj:=aj) (x:=x) (sv:=.tl []) (mv:=.own ar.length 0 0 x.aM.length) hkb hrow ⟨rfl,rfl⟩ ⟨rfl,rfl⟩
  simp(disch:=omega)only[go_sem,h2,hb,s2,m2,gX,h5,h6,gS,List.set_set]
  refine hQ _ _ b6 (.tl []) (.own ar.length 0 0 x.aM.length) (aS _ _) (gS _ _) h7 (.inl ⟨rfl,by rw[s1]; rfl⟩) (.inr ⟨ar.length,by simp,Nat.le_refl _,by simpa using m1,?_⟩) (.inl (by simp))
  rw[PD (by omega)]
  simp
 ·obtain⟨b5,b6,h5,h6,h7⟩:=lD (aj:=aj) (x:=x) (sv:=.own ar.length 0 0 x.syms.length) (mv:=.tl []) hkb hrow ⟨rfl,rfl⟩ ⟨rfl,rfl⟩
  simp(disch:=omega)only[go_sem,h2,hb,s2,m2,gX,h5,h6,gS,d2,List.set_set]
  refine hQ _ _ b6 (.own ar.length 0 0 x.syms.length) (.tl []) (aS _ _) (gS _ _) h7 (.inr ⟨ar.length,by simp,Nat.le_refl _,by simpa using s1,?_⟩) (.inl ⟨rfl,by rw[m1]; rfl⟩) (.inr rfl)
  rw[PD (by omega)]
  simp
 ·obtain⟨b5,b6,h5,h6,h7⟩:=lD (aj:=aj) (x:=x) (sv:=.own ar.length 0 0 x.syms.length) (mv:=.own (ar.length+1) 0 0 x.aM.length) hkb hrow ⟨rfl,rfl⟩ ⟨rfl,rfl⟩
  simp(disch:=omega)only[go_sem,h2,hb,s2,m2,gX,gX2,h5,h6,gS2,d2,List.set_set]
  rw[PG]
  refine hQ _ _ b6 (.own ar.length 0 0 x.syms.length) (.own (ar.length+1) 0 0 x.aM.length) (aS _ _) (gS _ _) h7 (.inr ⟨ar.length,by simp,Nat.le_refl _,by simpa using s1,?_⟩) (.inr ⟨ar.length+1,by simp,by omega,by simpa using m1,?_⟩) (.inl (by simp))
  ·rw[PD (by omega)]
   simp
  ·rw[PD (by omega)]
   simp
set_option maxHeartbeats 2000000 in
theorem N1 (c1 c2 c13:List V) (n:Nat) (L at':List Int) (ar:List aK) (aj m k:Nat) (b1:Sum (List (List PV)) (List (List V))) (x:aF) (sv mv:V) (hml:x.aM.length≤1048576) (hk:k<m) (h2:ar[2]?=some ⟨aj,10,b1⟩) (hrow:(bw b1)[k]?=some (rZ x sv mv)) (h1:ar[1]?=some ⟨0,1,.inl (ints at')⟩) (hn:at'.length=n)
  (hat:∀q∈x.aM,0≤q.type∧q.type<n∧at'[q.type.toNat]?=some (dI L q.type)) (b:Nat) (hb:2<b) (hmv:iI ar b 13 mv (x.aM.map Mem.c)) (hbm:m≤100) (Q:Ex→St→Prop)
  (hQ:∀env ar2,(∀i,i<b→ar2[i]?=ar[i]?)→ar.length≤ar2.length→(∀i,(V.own i 0 0 x.aM.length≠mv→ar2[i]?=ar[i]?))→iI ar2 b 13 mv ((x.aM.map (j6 L)).map Mem.c)→Q (.exit 8) ⟨(1,.ptr 1 0)::(2,.ptr 2 0)::(12,.own 1 0 0 n)::(13,.ptr 13 0)::(17,.cT 2 aj k 0)::(100,.pv (.int .i64 m))::(101,.pv (.int .i64 k))::env,⟨[(1,c1),(2,c2),(13,c13)],ar2,[]⟩⟩):
  W A az F408.body.two.two.two.two.two.two.two.one.two.ca.ca.ca.two.two.one.ca.two.two.two.one.two.ca ⟨[(1,.ptr 1 0),(2,.ptr 2 0),(12,.own 1 0 0 n),(13,.ptr 13 0),(17,.cT 2 aj k 0),(100,.pv (.int .i64 m)),(101,.pv (.int .i64 k)),(129,.pv (.int .i64 x.aM.length)),(130,.pv (.int .i64 0))],⟨[(1,c1),(2,c2),(13,c13)],ar,[]⟩⟩ Q:=by
 simp only[F408,AC.one,AC.two,AC.ca]
 try delta sS tT zZ nN gG bB pZ
 have hbr:=jx k b1
 rw[hrow]at hbr
 unfold rZ at hbr
 rcases hmv with⟨rfl,hm0⟩|⟨mi,rfl,hmi,hm0,hma⟩
 ·have hm0:=QL.1 hm0
  rw[hm0]at hQ ⊢
  refine W.dD 0 (fun j=>⟨[(1,.ptr 1 0),(2,.ptr 2 0),(12,.own 1 0 0 n),(13,.ptr 13 0),(17,.cT 2 aj k 0),(100,.pv (.int .i64 m)),(101,.pv (.int .i64 k)),(129,.pv (.int .i64 (([]:List Mem).length:Nat))),(130,.pv (.int .i64 j))],⟨[(1,c1),(2,c2),(13,c13)],ar,[]⟩⟩) (fun _=>True) rfl trivial fun j hj _=>?_
  simp(disch:=omega)only[go_sem]
  refine Br.aG (fun c=>?_) (fun c=>?_)
  ·simp at c
   omega
  simp(disch:=omega)only[go_sem]
  exact hQ _ ar (fun _ _=>rfl) (Pu _) (fun _ _=>rfl) (.inl ⟨rfl,rfl⟩)
 ·have hml2:(x.aM.map Mem.c).length=x.aM.length:=Pm _
  rw[hml2]at hbr hQ
  have hmil:=(Pg.1 hma).1
  have gM:∀a,(ar.set mi a)[mi]?=some a:=fun a=>PJ hmil
  have g1:∀a,(ar.set mi a)[1]?=some ⟨0,1,.inl (ints at')⟩:=fun a=>by rw[PD (by omega)]; exact h1
  have g2:∀a,(ar.set mi a)[2]?=some ⟨aj,10,b1⟩:=fun a=>by rw[PD (by omega)]; exact h2
  refine W.dD x.aM.length (fun j=>⟨[(1,.ptr 1 0),(2,.ptr 2 0),(12,.own 1 0 0 n),(13,.ptr 13 0),(17,.cT 2 aj k 0),(100,.pv (.int .i64 m)),(101,.pv (.int .i64 k)),(129,.pv (.int .i64 x.aM.length)),(130,.pv (.int .i64 j))],⟨[(1,c1),(2,c2),(13,c13)],ar.set mi ⟨0,13,.inl ((my L x.aM j).map Mem.c)⟩,[]⟩⟩) (fun _=>True) ?_ trivial fun j hj _=>?_
  ·rw[AK,oZ hma]
   rfl
  have hmj:=wU L x.aM j
  simp(disch:=omega)only[go_sem]
  refine Br.aG (fun c=>?_) (fun c=>?_)
  ·obtain⟨q,hq⟩:=get_some (l:=x.aM) (k:=j) (by omega)
   obtain⟨q0,q1,q2⟩:=hat q (Ph hq)
   have hmg:=wV (L:=L) hq
   have hst:=fun id=>yE (L:=L) hq id
   simp(disch:=omega)only[go_sem,g1,g2,gM,hbr,hmg,Option.map_some,Mem.c,q2,hst,List.set_set]
   exact .of (by omega) rfl trivial
  ·obtain rfl:j=x.aM.length:=by omega
   rw[CX]
   simp(disch:=omega)only[go_sem]
   refine hQ _ _ (fun i hi=>by rw[List.getElem?_set_ne (by omega)]) (by rw[List.length_set]; exact Nat.le_refl _) (fun i hi=>?_) (.inr ⟨mi,by simp,hmi,by simpa using hm0,gM _⟩)
   rw[PD]
   rintro rfl
   exact hi rfl
theorem j8 {o aj kk k c:Nat} {body:Sum (List (List PV)) (List (List V))} {row:List V} {w:V} (hrow:(bw body)[k]?=some row) (hc:c+1≤kk) (hw:w.calm=true∧lf w=true):
  ∃b',dq o k c [w] ⟨aj,kk,body⟩=some { ar:=some (o,⟨aj,kk,b'⟩) }∧bw b'=(bw body).set k (EA row c [w]):=by
 obtain⟨b',h,g⟩:=uV (id:=o) (r:=k) (c:=c) (aj:=aj) (k:=kk) (news:=[w]) (body:=body) (List.getElem?_eq_some_iff.1 hrow).1 (by simpa using hc) (by simp[hw.1]) (by simp[hw.2])
 refine⟨b',h,?_⟩
 rw[g,Pq,hrow]
 rfl
def EE (L:List Int) (x:aF) (sv mv:V):List V:=rZ { x with key:=if x.kind=8 then dI L x.key else x.key,elem:=if 7≤x.kind then dI L x.elem else x.elem } sv mv
set_option maxHeartbeats 2000000 in
theorem N2 (c1 c2 c13:List V) (n:Nat) (L at':List Int) (ar:List aK) (aj m k:Nat) (b1:Sum (List (List PV)) (List (List V))) (x:aF) (sv mv:V) (hk:k<m) (h2:ar[2]?=some ⟨aj,10,b1⟩) (hrow:(bw b1)[k]?=some (rZ x sv mv)) (h1:ar[1]?=some ⟨0,1,.inl (ints at')⟩) (hn:at'.length=n) (hkd:1≤x.kind∧x.kind≤9)
  (hke:x.kind=8→0≤x.key∧x.key<n∧at'[x.key.toNat]?=some (dI L x.key)) (hel:7≤x.kind→0≤x.elem∧x.elem<n∧at'[x.elem.toNat]?=some (dI L x.elem)) (hbm:m≤100) (env0:List (Nat×V)) (Q:Ex→St→Prop)
  (hQ:∀e env ar2 b2,(e=[]∨e=[(17,V.cT 2 aj k 0)])→(∀i,i≠2→ar2[i]?=ar[i]?)→ar.length=ar2.length→ar2[2]?=some ⟨aj,10,b2⟩→bw b2=(bw b1).set k (EE L x sv mv)→Q .normal ⟨(1,.ptr 1 0)::(2,.ptr 2 0)::(12,.own 1 0 0 n)::(13,.ptr 13 0)::(e++(100,.pv (.int .i64 m))::(101,.pv (.int .i64 k))::env),⟨[(1,c1),(2,c2),(13,c13)],ar2,[]⟩⟩):
  W A az F408.body.two.two.two.two.two.two.two.one.two.ca.ca.ca.two.two.one.ca.two.two.two.two ⟨(1,.ptr 1 0)::(2,.ptr 2 0)::(12,.own 1 0 0 n)::(13,.ptr 13 0)::(17,.cT 2 aj k 0)::(100,.pv (.int .i64 m))::(101,.pv (.int .i64 k))::env0,⟨[(1,c1),(2,c2),(13,c13)],ar,[]⟩⟩ Q:=by
 simp only[F408,AC.one,AC.two,AC.ca]
 try delta sS tT zZ nN gG bB pZ
 have hl2:2<ar.length:=(Pg.1 h2).1
 have gS:∀a,(ar.set 2 a)[2]?=some a:=fun a=>PJ hl2
 have g1:∀a,(ar.set 2 a)[1]?=some ⟨0,1,.inl (ints at')⟩:=fun a=>by rw[PD (by omega)]; exact h1
 have gO:∀a i,i≠2→(ar.set 2 a)[i]?=ar[i]?:=fun a i hi=>PD (fun e=>hi e.symm)
 have hbr:=jx k b1
 rw[hrow]at hbr
 have hself:∀row,rZ x sv mv=row→bw b1=(bw b1).set k row:=fun row e=>by rw[oZ]; rw[hrow,e]
 unfold EE at hQ
 obtain⟨kind,name,low,high,max,syms,aM,key,elem,pc⟩:=x
 dsimp only at *
 unfold rZ at hbr hrow
 dsimp only at hbr hrow
 rcases nine hkd with rfl|rfl|rfl|rfl|rfl|rfl|rfl|rfl|rfl
 case inr.inr.inr.inr.inr.inr.inl=>
  obtain⟨e0,e1,e2⟩:=hel (by decide)
  obtain⟨b7,h7,g7⟩:=j8 (o:=2) (aj:=aj) (kk:=10) (c:=8) (w:=.pv (.int .i64 (dI L elem))) hrow (by decide) ⟨rfl,rfl⟩
  simp(disch:=omega)only[go_sem,h2,hbr,decide_true,decide_false,Int.reduceEq,h1,e2,h7]
  refine hQ [] _ _ b7 (.inl rfl) (gO _) (by simp) (gS _) ?_
  rw[g7]
  rfl
 case inr.inr.inr.inr.inr.inr.inr.inl=>
  obtain⟨e0,e1,e2⟩:=hel (by decide)
  obtain⟨k0,k1,k2⟩:=hke (by decide)
  obtain⟨b6,h6,g6⟩:=j8 (o:=2) (aj:=aj) (kk:=10) (c:=7) (w:=.pv (.int .i64 (dI L key))) hrow (by decide) ⟨rfl,rfl⟩
  have hrow6:(bw b6)[k]?=some [.pv (.int .i64 8),.pv (.str name),.pv (.int .i64 low),.pv (.int .i64 high),.pv (.int .i64 max),sv,mv,.pv (.int .i64 (dI L key)),.pv (.int .i64 elem),.pv (.bool pc)]:=by
   rw[g6,PJ (Pg.1 hrow).1]
   rfl
  have hbr6:=jx k b6
  rw[hrow6]at hbr6
  obtain⟨b7,h7,g7⟩:=j8 (o:=2) (aj:=aj) (kk:=10) (c:=8) (w:=.pv (.int .i64 (dI L elem))) hrow6 (by decide) ⟨rfl,rfl⟩
  simp(disch:=omega)only[go_sem,h2,hbr,decide_true,decide_false,Int.reduceEq,h1,g1,gS,k2,e2,h6,hbr6,h7,List.set_set]
  refine hQ [] _ _ b7 (.inl rfl) (gO _) (by simp) (gS _) ?_
  rw[g7,g6,List.set_set]
  rfl
 case inr.inr.inr.inr.inr.inr.inr.inr=>
  obtain⟨e0,e1,e2⟩:=hel (by decide)
  obtain⟨b7,h7,g7⟩:=j8 (o:=2) (aj:=aj) (kk:=10) (c:=8) (w:=.pv (.int .i64 (dI L elem))) hrow (by decide) ⟨rfl,rfl⟩
  simp(disch:=omega)only[go_sem,h2,hbr,decide_true,decide_false,Int.reduceEq,h1,e2,h7]
  refine hQ [] _ _ b7 (.inl rfl) (gO _) (by simp) (gS _) ?_
  rw[g7]
  rfl
 all_goals
  simp(disch:=omega)only[go_sem,h2,hbr,decide_true,decide_false,Int.reduceEq]
  exact hQ [(17,.cT 2 aj k 0)] _ ar b1 (.inr rfl) (fun _ _=>rfl) rfl h2 (hself _ rfl)
end Go.Pv
namespace Go.Pv
theorem EF {L:List Int} {x:aF} {ar:List aK} {o b:Nat} {sv mv:V} (ho:o<b) (hs:iI ar b 2 sv (x.syms.map Sym.c)) (hm:iI ar b 13 mv ((x.aM.map (j6 L)).map Mem.c)):dy ar o (EE L x sv mv) (jd L x).c:=by
 unfold EE rZ aF.c jd
 dsimp only
 refine .pure rfl rfl (.pure rfl rfl (.pure rfl rfl (.pure rfl rfl (.pure rfl rfl (.cons (.inr ⟨2,_,rfl,hs.home ho⟩) (.cons (.inr ⟨13,_,rfl,hm.home ho⟩) (.pure rfl rfl (.pure rfl rfl (.pure rfl rfl (.nil _ _))))))))))
structure M3 (T:List aF) (L at':List Int) (aj k:Nat) (ar:List aK):Prop where
 le:k≤L.length
 Pc:ar[1]?=some ⟨0,1,.inl (ints at')⟩
 it:∃body,ar[2]?=some ⟨aj,10,body⟩∧(bw body).length=L.length∧(∀i row u,i<k→(bw body)[i]?=some row→L[i]?=some u→dy ar 2 row (jd L (cW T u)).c)∧∀i,k≤i→(bw body)[i]?=L[i]?.map fun u=>(cW T u).c.map V.pv
set_option maxHeartbeats 4000000 in
theorem OV (c1 c2:List V) (nm:ByteArray) (n:Nat) (T:List aF) (L at':List Int) (ar:List aK) (hts:∀t∈T,t.short) (hn:at'.length=n) (hT:∀u∈L,0≤u∧u<T.length∧1≤(cW T u).kind∧(cW T u).kind≤9) (hL:L.length≤100)
  (hat:∀u∈L,∀w∈bV (cW T u),0≤w∧w<n∧at'[w.toNat]?=some (dI L w)) (aj:Nat) (hver:L.length=aj+1) (h0:M3 T L at' aj 0 ar) (Q:Ex→St→Prop)
  (hQ:∀env ar,M3 T L at' aj L.length ar→Q (.exit 6) ⟨(1,.ptr 1 0)::(2,.ptr 2 0)::(12,.own 1 0 0 n)::(13,.ptr 13 0)::env,⟨[(1,c1),(2,c2),(13,[.pv (.str nm),.own 2 aj 0 L.length,.tl [],.tl [],.tl []])],ar,[]⟩⟩):
  W A az F408.body.two.two.two.two.two.two.two.one.two.ca ⟨[(1,.ptr 1 0),(2,.ptr 2 0),(12,.own 1 0 0 n),(13,.ptr 13 0),(100,.pv (.int .i64 L.length)),(101,.pv (.int .i64 0))],⟨[(1,c1),(2,c2),(13,[.pv (.str nm),.own 2 aj 0 L.length,.tl [],.tl [],.tl []])],ar,[]⟩⟩ Q:=by
 have s7a:=N0 c1 c2 [.pv (.str nm),.own 2 aj 0 L.length,.tl [],.tl [],.tl []] n
 have s7b:=N1 c1 c2 [.pv (.str nm),.own 2 aj 0 L.length,.tl [],.tl [],.tl []] n L at'
 have s7c:=N2 c1 c2 [.pv (.str nm),.own 2 aj 0 L.length,.tl [],.tl [],.tl []] n L at'
 rw[show F408.body.two.two.two.two.two.two.two.one.two.ca=AC.loop (.mask [1,2,12,13,100,101] [1,2,13] (.seq F408.body.two.two.two.two.two.two.two.one.two.ca.ca.ca.one (.seq F408.body.two.two.two.two.two.two.two.one.two.ca.ca.ca.two.one (.seq (.block 7 (.seq F408.body.two.two.two.two.two.two.two.one.two.ca.ca.ca.two.two.one.ca.one (.seq F408.body.two.two.two.two.two.two.two.one.two.ca.ca.ca.two.two.one.ca.two.one (.seq F408.body.two.two.two.two.two.two.two.one.two.ca.ca.ca.two.two.one.ca.two.two.one (.seq (.seq F408.body.two.two.two.two.two.two.two.one.two.ca.ca.ca.two.two.one.ca.two.two.two.one.one (.block 8 F408.body.two.two.two.two.two.two.two.one.two.ca.ca.ca.two.two.one.ca.two.two.two.one.two.ca)) F408.body.two.two.two.two.two.two.two.one.two.ca.ca.ca.two.two.one.ca.two.two.two.two))))) F408.body.two.two.two.two.two.two.two.one.two.ca.ca.ca.two.two.two)))) from rfl]
 generalize F408.body.two.two.two.two.two.two.two.one.two.ca.ca.ca.two.two.one.ca.two.two.one=D at s7a ⊢
 generalize F408.body.two.two.two.two.two.two.two.one.two.ca.ca.ca.two.two.one.ca.two.two.two.one.two.ca=E at s7b ⊢
 generalize F408.body.two.two.two.two.two.two.two.one.two.ca.ca.ca.two.two.one.ca.two.two.two.two=F at s7c ⊢
 simp only[F408,AC.one,AC.two,AC.ca]
 try delta sS tT zZ nN gG bB pZ
 refine W.loop (α:=Nat×List aK) (fun x=>⟨[(1,.ptr 1 0),(2,.ptr 2 0),(12,.own 1 0 0 n),(13,.ptr 13 0),(100,.pv (.int .i64 L.length)),(101,.pv (.int .i64 x.1))],⟨[(1,c1),(2,c2),(13,[.pv (.str nm),.own 2 aj 0 L.length,.tl [],.tl [],.tl []])],x.2,[]⟩⟩) (fun x=>M3 T L at' aj x.1 x.2) (fun x=>L.length - x.1) (0,ar) rfl h0 fun x hx=>?_
 obtain⟨k,ar⟩:=x
 obtain⟨hk,h1,body,h2,hbl,hdone,hraw⟩:=hx
 dsimp only at hk h1 h2 hbl hdone hraw
 simp(disch:=omega)only[go_sem]
 refine Br.aG (fun c=>?_) (fun c=>?_)
 rotate_left
 ·obtain rfl:k=L.length:=by omega
  simp(disch:=omega)only[go_sem]
  exact hQ _ ar ⟨Pu _,h1,body,h2,hbl,hdone,hraw⟩
 obtain⟨u,hu⟩:=get_some (l:=L) (k:=k) (by omega)
 have hum:=Ph hu
 obtain⟨u0,u1,k1,k9⟩:=hT u hum
 have hxm:cW T u∈T:=Ph (ju u0 u1)
 have hsh:=hts _ hxm
 have hm:=hsh.aM
 have hs:=hsh.syms
 have hau:=hat u hum
 have hrow:=hraw k (Pu _)
 rw[hu,QM]at hrow
 have hdone':∀row w,L[k]?=some w→dy ar 2 row (jd L (cW T w)).c→dy ar 2 row (jd L (cW T u)).c:=fun row w hw h=>by rw[hu]at hw; cases hw; exact h
 have hl2:2<ar.length:=(Pg.1 h2).1
 generalize hxx:cW T u=x at *
 simp(disch:=omega)only[go_sem,h2]
 refine s7a ar aj L.length k body x ⟨by omega,by omega⟩ (by omega) h2 hbl hrow _ fun env ar1 b1 sv mv ha1 ha2 hb1 hsv hmv hne=>?_
 have hrow1:(bw b1)[k]?=some (rZ x sv mv):=by rw[hb1,PJ (by omega)]
 have h11:ar1[1]?=some ⟨0,1,.inl (ints at')⟩:=by rw[ha1.get 1 (by omega) (by decide),h1]
 have hbr:=jx k b1
 rw[hrow1]at hbr
 unfold rZ at hbr
 have hlen:gu ⟨[(1,c1),(2,c2),(13,[.pv (.str nm),.own 2 aj 0 L.length,.tl [],.tl [],.tl []])],ar1,[]⟩ 0 mv=some (x.aM.length,{}):=by
  rcases hmv with⟨rfl,h⟩|⟨mi,rfl,_⟩
  ·rw[QL.1 h]
   rfl
  ·rw[Pm]
   rfl
 simp(disch:=omega)only[go_sem,ha2,hbr,hlen]
 have hum':∀q∈x.aM,0≤q.type∧q.type<n∧at'[q.type.toNat]?=some (dI L q.type):=fun q hq=>hau _ (CZ hq)
 refine s7b ar1 aj L.length k b1 x sv mv hm (by omega) ha2 hrow1 h11 hn hum' ar.length hl2 hmv hL _ fun env ar2 ha ha3 ha4 hmv2=>?_
 have hkeep:mC 2 ar ar2:=⟨by have:=ha1.len; omega,fun i hi ho=>by rw[ha i hi,ha1.get i hi ho]⟩
 have ha22:ar2[2]?=some ⟨aj,10,b1⟩:=by rw[ha 2 hl2,ha2]
 have h21:ar2[1]?=some ⟨0,1,.inl (ints at')⟩:=by rw[ha 1 (by omega),h11]
 have hsv2:iI ar2 ar.length 2 sv (x.syms.map Sym.c):=by
  rcases hsv with h|⟨mi,rfl,g1,g2,g3⟩
  ·exact .inl h
  ·refine .inr ⟨mi,rfl,g1,g2,?_⟩
   by_cases e:V.own mi 0 0 x.aM.length=mv
   ·rcases hmv with⟨rfl,_⟩|⟨mj,rfl,_,_,g4⟩
    ·cases e
    ·injection e with e1
     subst e1
     rw[g3]at g4
     cases g4
   ·rw[ha4 mi e]
    exact g3
 simp(disch:=omega)only[go_sem]
 refine s7c ar2 aj L.length k b1 x sv mv (by omega) ha22 hrow1 h21 hn ⟨k1,k9⟩ (fun h=>hau _ (jt h)) (fun h=>hau _ (AL h)) hL _ _ fun e env ar3 b2 he hb2 hb3 hb4 hb5=>?_
 have hA:M3 T L at' aj (k+1) ar3:=by
  have hkeep3:mC 2 ar ar3:=⟨by have:=hkeep.len; omega,fun i hi ho=>by rw[hb2 i ho,hkeep.get i hi ho]⟩
  refine⟨by omega,by rw[hb2 1 (by decide),h21],b2,hb4,by rw[hb5,Qa,hb1,Qa,hbl],fun i row w hi hr hw=>?_,fun i hi=>?_⟩
  ·rw[hb5,hb1,List.set_set]at hr
   by_cases e:k=i
   ·subst e
    rw[hu]at hw
    cases hw
    rw[PJ (by omega)]at hr
    cases hr
    rw[hxx]
    have hs3:iI ar3 ar.length 2 sv (x.syms.map Sym.c):=by
     rcases hsv2 with h|⟨mi,h5,g1,g2,g3⟩
     ·exact .inl h
     ·exact .inr ⟨mi,h5,g1,g2,by rw[hb2 mi (by omega)]; exact g3⟩
    have hm3:iI ar3 ar.length 13 mv ((x.aM.map (j6 L)).map Mem.c):=by
     rcases hmv2 with h|⟨mi,h5,g1,g2,g3⟩
     ·exact .inl h
     ·exact .inr ⟨mi,h5,g1,g2,by rw[hb2 mi (by omega)]; exact g3⟩
    exact EF hl2 hs3 hm3
   ·rw[PD e]at hr
    exact(hdone i row w (by omega) hr hw).Hj hkeep3
  ·rw[hb5,hb1,List.set_set,PD (by omega),hraw i (by omega)]
 rcases he with rfl|rfl<;>simp(disch:=omega)only[go_sem,List.nil_append,List.cons_append]<;>exact⟨(k+1,ar3),hA,by dsimp only; omega,rfl⟩
end Go.Pv
namespace Go.Pv
set_option maxHeartbeats 4000000 in
theorem OW (a1 a2:V) (a4 a5:V) (c2:List V) (nm:ByteArray) (n t2:Nat) (C:List mG) (L at':List Int) (V0:V) (pre:List aK) (hn:at'.length=n) (h1:pre[1]?=some ⟨0,1,.inl (ints at')⟩) (hC:C.length≤8)
  (hat:∀c∈C,(0≤c.qj∧c.qj<n∧at'[c.qj.toNat]?=some (dI L c.qj))∧0≤c.rep∧c.rep<n∧at'[c.rep.toNat]?=some (dI L c.rep)) (Q:Ex→St→Prop)
  (hQ:∀env,Q (.exit 10) ⟨(1,.ptr 1 0)::(2,.ptr 2 0)::(12,.own 1 0 0 n)::(13,.ptr 13 0)::env,⟨[(1,[a1,a2,.pv (.ae t2 (bQ C)),a4,a5]),(2,c2),(13,[.pv (.str nm),V0,eu pre.length (bQ (C.map (cj L))),.tl [],.tl []])],pre++dY 3 (bQ (C.map (cj L))),[]⟩⟩):
  W A az F408.body.two.two.two.two.two.two.two.two.one.two.ca ⟨[(1,.ptr 1 0),(2,.ptr 2 0),(12,.own 1 0 0 n),(13,.ptr 13 0),(198,.pv (.ae t2 (bQ C))),(199,.pv (.int .i64 C.length)),(200,.pv (.int .i64 0))],⟨[(1,[a1,a2,.pv (.ae t2 (bQ C)),a4,a5]),(2,c2),(13,[.pv (.str nm),V0,.tl [],.tl [],.tl []])],pre,[]⟩⟩ Q:=by
 simp only[F408,AC.one,AC.two,AC.ca]
 try delta sS tT zZ nN gG bB pZ
 refine W.dD C.length (fun k=>⟨[(1,.ptr 1 0),(2,.ptr 2 0),(12,.own 1 0 0 n),(13,.ptr 13 0),(198,.pv (.ae t2 (bQ C))),(199,.pv (.int .i64 C.length)),(200,.pv (.int .i64 k))],⟨[(1,[a1,a2,.pv (.ae t2 (bQ C)),a4,a5]),(2,c2),(13,[.pv (.str nm),V0,eu pre.length (bQ ((C.map (cj L)).take k)),.tl [],.tl []])],pre++dY 3 (bQ ((C.map (cj L)).take k)),[]⟩⟩) (fun _=>True) (by show _=(⟨_,⟨_,pre++[],[]⟩⟩:St); rw[P7]; rfl) trivial fun k hk _=>?_
 simp(disch:=omega)only[go_sem]
 refine Br.aG (fun c=>?_) (fun c=>?_)
 ·obtain⟨x,hx⟩:=get_some (l:=C) (k:=k) (by omega)
  obtain⟨⟨_,_,q1⟩,_,_,q2⟩:=hat x (Ph hx)
  have hp1:=(Pg.1 h1).1
  have gP:∀X:List aK,(pre++X)[1]?=some ⟨0,1,.inl (ints at')⟩:=fun X=>by rw[Pl hp1]; exact h1
  have hnx:bQ ((C.map (cj L)).take (k+1))=bQ ((C.map (cj L)).take k)++[[.str x.name,.int .i64 (dI L x.qj),.int .i64 (dI L x.rep)]]:=by
   rw[PF,Pn,hx]
   simp[bQ,cj,mG.c]
  have hql:(bQ ((C.map (cj L)).take k)).length≤8:=by rw[Ch,Pt,Pm]; omega
  have hg:=fun bx mp=>grow bx mp pre 3 (bQ ((C.map (cj L)).take k)) (cj L x).c rfl (by omega)
  have hgt:=fun bx mp=>jr bx mp pre 3 (bQ ((C.map (cj L)).take k)) (cj L x).c
  generalize bQ ((C.map (cj L)).take k)=rows at *
  unfold cj mG.c at hg hgt
  dsimp only at hg hgt
  simp(disch:=omega)only[go_sem,hx,Option.map_some,mG.c,gP,q1,q2,hg,hgt]
  refine .of (by omega) ?_ trivial
  rw[hnx]
  rfl
 ·obtain rfl:k=C.length:=by omega
  have e:(C.map (cj L)).take C.length=C.map (cj L):=List.take_of_length_le (by simp)
  rw[e]
  simp(disch:=omega)only[go_sem]
  exact hQ _
set_option maxHeartbeats 4000000 in
theorem N3 (c2:List V) (nm:ByteArray) (n t4:Nat) (C:List nA) (L at':List Int) (V0 V1 V2:V) (pre:List aK) (hn:at'.length=n) (h1:pre[1]?=some ⟨0,1,.inl (ints at')⟩) (hC:C.length≤8)
  (hat:∀c∈C,0≤c.ty∧c.ty<n∧at'[c.ty.toNat]?=some (dI L c.ty)) (Q:Ex→St→Prop)
  (hQ:∀env,Q (.exit 16) ⟨(2,.ptr 2 0)::(12,.own 1 0 0 n)::(13,.ptr 13 0)::env,⟨[(2,c2),(13,[.pv (.str nm),V0,V1,V2,eu pre.length (ct (C.map (dh L)))])],pre++dY 2 (ct (C.map (dh L))),[]⟩⟩):
  W A az F408.body.two.two.two.two.two.two.two.two.two.two.one.two.ca ⟨[(2,.ptr 2 0),(12,.own 1 0 0 n),(13,.ptr 13 0),(261,.pv (.ae t4 (ct C))),(262,.pv (.int .i64 C.length)),(263,.pv (.int .i64 0))],⟨[(2,c2),(13,[.pv (.str nm),V0,V1,V2,.tl []])],pre,[]⟩⟩ Q:=by
 simp only[F408,AC.one,AC.two,AC.ca]
 try delta sS tT zZ nN gG bB pZ
 refine W.dD C.length (fun k=>⟨[(2,.ptr 2 0),(12,.own 1 0 0 n),(13,.ptr 13 0),(261,.pv (.ae t4 (ct C))),(262,.pv (.int .i64 C.length)),(263,.pv (.int .i64 k))],⟨[(2,c2),(13,[.pv (.str nm),V0,V1,V2,eu pre.length (ct ((C.map (dh L)).take k))])],pre++dY 2 (ct ((C.map (dh L)).take k)),[]⟩⟩) (fun _=>True) (by show _=(⟨_,⟨_,pre++[],[]⟩⟩:St); rw[P7]; rfl) trivial fun k hk _=>?_
 simp(disch:=omega)only[go_sem]
 refine Br.aG (fun c=>?_) (fun c=>?_)
 ·obtain⟨x,hx⟩:=get_some (l:=C) (k:=k) (by omega)
  obtain⟨_,_,q1⟩:=hat x (Ph hx)
  have hp1:=(Pg.1 h1).1
  have gP:∀X:List aK,(pre++X)[1]?=some ⟨0,1,.inl (ints at')⟩:=fun X=>by rw[Pl hp1]; exact h1
  have hnx:ct ((C.map (dh L)).take (k+1))=ct ((C.map (dh L)).take k)++[[.str x.name,.int .i64 (dI L x.ty)]]:=by
   rw[PF,Pn,hx]
   simp[ct,dh,nA.c]
  have hql:(ct ((C.map (dh L)).take k)).length≤8:=by rw[Ci,Pt,Pm]; omega
  have hg:=fun bx mp=>grow bx mp pre 2 (ct ((C.map (dh L)).take k)) (dh L x).c rfl (by omega)
  have hgt:=fun bx mp=>jr bx mp pre 2 (ct ((C.map (dh L)).take k)) (dh L x).c
  generalize ct ((C.map (dh L)).take k)=rows at *
  unfold dh nA.c at hg hgt
  dsimp only at hg hgt
  simp(disch:=omega)only[go_sem,hx,Option.map_some,nA.c,gP,q1,hg,hgt]
  refine .of (by omega) ?_ trivial
  rw[hnx]
  rfl
 ·obtain rfl:k=C.length:=by omega
  have e:(C.map (dh L)).take C.length=C.map (dh L):=List.take_of_length_le (by simp)
  rw[e]
  simp(disch:=omega)only[go_sem]
  exact hQ _
end Go.Pv
