/-
 The interpreter over plain values,and that it is sound.
-/
import Derived.Test.YtpchfogcccagjaaGreatA2
import Derived.ProofKit
import Derived.Carry
import Derived.JoinedCond
import Derived.Attr
import Derived.Sort.Grow
import Derived.Shelf.GgSortFunc.InsertionK
import Derived.Shelf.SlSortCmp.InsertionK
import Derived.Shelf.SlicesE.Clone
open List renaming getElem?_eq_some_iff → Pg, mem_of_getElem? → Ph, getElem?_eq_getElem → Pj, mem_iff_getElem? → Pk, getElem?_append_left → Pl, length_map → Pm, getElem?_map → Pn, length_append → Pp, length_take → Pt, getElem?_take → Pw, getElem?_append_right → PA, mem_map → PB, eq_nil_of_length_eq_zero → PC, append_assoc → PG, pairwise_cons → PH, all_eq_true → PI, length_range → PL, getElem?_drop → PM, mem_cons_self → PN, mem_cons → PO, mem_append_left → PR, getElem?_eq_none → PS, findIdx?_eq_some_iff_getElem → PT, ext_getElem? → PW, mem_append → PX, mem_cons_of_mem → P2, append_nil → P7, map_take → Qf, mem_of_mem_take → Qg, take_append_drop → Qj, isEmpty_iff → Qr, contains_iff_mem → Qv, mem_of_mem_drop → Qx, mem_filterMap → QA
open Nat renaming lt_or_ge → Po, mul_le_mul_right → Ps, le_refl → Pu, add_mul → PE, le_trans → PZ, lt_of_lt_of_le → P1, one_mul → P3, add_assoc → P8, le_max_right → Qi, zero_le → Qn, not_lt_zero → Qu, zero_add → QF, add_zero → QH, mod_lt → QJ
open Array renaming getElem?_toList → Px, getElem?_eq_some_iff → Pz, length_toList → Qz
open Option renaming map_eq_some_iff → PQ, map_some → QM
open Int renaming eq_ofNat_of_zero_le → Qp
open Bool renaming eq_false_iff → QE
namespace Go.Pv
variable {P:Program} {N M:Nat→Nat} {W:Nat→Prop} {L L':Lx} {e e':bc} {h:af} {w w':World} {Φ:Nat→List PV→Option (List PV)} {Pr:bf} {Tk:Nat→Bool}
def bc.cut (e:bc) (kb:List Nat):bc:={ e with sl:=fun s=>e.sl s∧(s∈kb∨dJ s=true) }
theorem qN (s:Nat):∀bx:List (Nat×List V),aC s (pins bx)=if dJ s=true then aC s bx else none
 |[]=>by simp[pins,aC]
 |(t,cs)::r=>by
  have ih:=qN s r
  simp only[pins]
  by_cases ht:dJ t=true
  ·rw[if_pos ht]
   simp only[aC]
   by_cases hs:t=s
   ·subst hs; simp[ht]
   ·rw[if_neg hs,if_neg hs]; exact ih
  ·rw[if_neg ht,ih]
   by_cases hs:dJ s=true
   ·have:t≠s:=fun h=>ht (h ▸ hs)
    simp[hs,aC,this]
   ·simp[hs]
theorem qO (kb:List Nat) (bx:List (Nat×List V)) (s:Nat):aC s (gv kb bx)=if s∈kb∨dJ s=true then aC s bx else none:=by
 induction kb with
 |nil=>
  have:=qN s bx
  simp only[gv]
  rw[this]
  simp
 |cons k r ih=>
  simp only[gv]
  cases hk:aC k bx with
  |none=>
   simp only
   rw[ih]
   by_cases hs:s=k
   ·subst hs; simp[hk]
   ·simp[hs]
  |some cs=>
   simp only[aC]
   by_cases hs:k=s
   ·subst hs; simp[hk]
   ·rw[if_neg hs,ih]
    simp[Ne.symm hs]
theorem BQ (kt kb:List Nat) (env:List (Nat×V)) (t:Nat):get (gE kt kb env) t=if t∈kt then dU kb (get env t) else .any:=by
 induction kt with
 |nil=>simp[gE,get,aC]
 |cons k r ih=>
  have:gE (k::r) kb env=(k,dU kb (get env k))::gE r kb env:=rfl
  rw[this]
  simp only[get,aC]
  by_cases hk:k=t
  ·subst hk; simp[]
  ·rw[if_neg hk]
   have:=ih
   simp only[get]at this
   rw[this]
   simp[Ne.symm hk]
theorem VR.cut {x:V} {v:Value} (hv:VR N L e w x v) {kb:List Nat} (hk:ql kb x=true):VR N L (e.cut kb) w x v:=by
 cases hv with
 |pv p v hp=>exact .pv p v hp
 |tl rows a hp hs=>exact .tl rows a hp hs
 |own id aj off len a cap h0 h1 h2 h3=>exact .own id aj off len a cap h0 h1 h2 h3
 |ptr s off hs=>exact .ptr (e:=e.cut kb) s off ⟨hs,by simpa [ql]using hk⟩
 |cT id aj row col a h1 h2 h3=>exact .cT id aj row col a h1 h2 h3
 |func f cap arr hs hv=>
  have:cap=[]:=by simpa [ql]using hk
  subst this
  exact .func f [] arr hs (fun j c hj=>by simp at hj)
 |map id hi=>exact .map (e:=e.cut kb) id hi
 |dQ=>exact .dQ
 |agg=>simp[ql]at hk
 |dv=>simp[ql]at hk
 |any v=>exact .any v
theorem VR.dU {x:V} {v:Value} (hv:VR N L e w x v) (kb:List Nat):VR N L (e.cut kb) w (Pv.dU kb x) v:=by
 cases x with
 |ptr s o=>
  simp only[Pv.dU]
  split
  ·rename_i hk; exact hv.cut (by simpa [ql]using hk)
  ·exact .any v
 |func f cap=>
  simp only[Pv.dU]
  split
  ·rename_i hk
   cases hv with
   |func _ _ arr hs hvv=>exact .func f cap arr hs (fun j c hj=>(hvv j c hj).cut (PI.1 hk c (Ph hj)))
  ·exact .any v
 |agg cs=>
  simp only[Pv.dU]
  split
  ·rename_i hk
   cases hv with
   |agg _ arr hs hvv=>exact .agg cs arr hs (fun j c hj=>(hvv j c hj).cut (PI.1 hk c (Ph hj)))
  ·exact .any v
 |dv vs=>exact .any v
 |pv p=>exact hv.cut rfl
 |tl r=>exact hv.cut rfl
 |own=>exact hv.cut rfl
 |cT=>exact hv.cut rfl
 |map=>exact hv.cut rfl
 |dQ=>exact hv.cut rfl
 |any=>exact hv.cut rfl
theorem vO {x:V} (hc:x.calm=true) (kb:List Nat):ql kb x=true:=by
 cases x with
 |pv p=>rfl
 |tl r=>rfl
 |own=>rfl
 |func f cap=>simpa [V.calm,ql]using hc
 |_=>simp[V.calm]at hc
theorem zX {x:V} (hc:x.dK=true) (kb:List Nat):ql kb x=true:=by
 cases x with
 |ptr s o=>
  have:dJ s=true:=hc
  simp[ql,this]
 |map=>rfl
 |dQ=>rfl
 |pv p=>rfl
 |tl r=>rfl
 |own=>rfl
 |cT=>rfl
 |func f cap=>exact vO (x:=.func f cap) hc kb
 |agg cs=>simp[V.dK,V.calm]at hc
 |dv cs=>simp[V.dK,V.calm]at hc
 |any=>rfl
theorem fm.cut {b off:Nat} {cs:List V} (hc:fm N L e w b off cs) (kb:List Nat):fm N L (e.cut kb) w b off cs:=by
 intro j c hj
 obtain⟨h1,v,h2,h3⟩:=hc j c hj
 exact⟨h1,v,h2,h3.cut (vO h1 kb)⟩
theorem kz.cut {b:Nat} {cs:List V} (hc:kz N L e w b cs) (kb:List Nat):kz N L (e.cut kb) w b cs:=by
 intro j c hj
 obtain⟨h1,v,h2,h3⟩:=hc j c hj
 exact⟨h1,v,h2,h3.cut (zX h1 kb)⟩
theorem HR.cut (hr:HR N L e W h w) (kb:List Nat):HR N L (e.cut kb) W { h with bx:=gv kb h.bx } w:=by
 refine⟨fun s=>?_,fun s cs hs=>?_,hr.na,hr.aj,fun id a ha hk=>?_,hr.nm,hr.mp,fun s hs=>hr.sh s hs.1,hr.lS,hr.tZ,fun s s' hs hs'=>hr.xd s s' hs.1 hs'.1,fun s id hs=>hr.uc s id hs.1,hr.ud,hr.xg,hr.lU,hr.wide,hr.xe⟩
 ·simp only[bc.cut,qO]
  by_cases hk:s∈kb∨dJ s=true
  ·simp only[hk,and_true,if_true,hr.sl s]
  ·simp[hk]
 ·simp only[qO]at hs
  by_cases hk:s∈kb∨dJ s=true
  ·simp only[hk,if_true]at hs
   obtain⟨h1,h2⟩:=hr.bx s cs hs
   exact⟨h1,h2.cut kb⟩
  ·simp[hk]at hs
 ·obtain⟨h1,h2,h3,h4,h5⟩:=hr.ar id a ha hk
  exact⟨h1,h2,h3,fun i r hi=>(h4 i r hi).cut kb,h5⟩
theorem SR.mask {nt:Nat} {s:St} {a:Act} (hs:SR N W L e nt s a w) (kt kb:List Nat):SR N W L (e.cut kb) nt (s.mask kt kb) a w:=by
 refine⟨hs.hr.cut kb,fun t=>?_,hs.size,hs.defers⟩
 simp only[St.mask,BQ]
 split
 ·exact(hs.env t).dU kb
 ·exact .any _
structure ox (L:Lx) (e:bc) (w:World) (L':Lx) (e':bc) (w':World):Prop where
 sub:∀t b,L t b→L' t b
 kept:∀t b,L t b→w'.heap[b]?=w.heap[b]?
 sl:∀s,dJ s=true→e.sl s→e'.sl s∧e'.bx s=e.bx s
 na:e.na≤e'.na
 av:∀id,id<e.na→e.av id≤e'.av id∧(e'.av id=e.av id→e'.ar id=e.ar id∧e'.ad id=e.ad id∧e'.cap id=e.cap id∧e'.ak id=e.ak id∧e'.an id=e.an id)
 nm:e.nm≤e'.nm
 mp:∀id,id<e.nm→e'.mp id=e.mp id
theorem Ext.x (h:Ext L e w L' e' w'):ox L e w L' e' w':=⟨h.sub,h.kept,fun s _ hs=>h.sl s hs,h.na,h.av,h.nm,h.mp⟩
theorem ox.ext (h:ox L e w L' e' w') {e1 e2:bc} (h1:e1={ e with sl:=e1.sl,bx:=e1.bx }) (h2:e2={ e' with sl:=e2.sl,bx:=e2.bx }) (hs:∀s,e1.sl s→e2.sl s∧e2.bx s=e1.bx s):Ext L e1 w L' e2 w':=by
 have g1:e1.na=e.na∧e1.av=e.av∧e1.ar=e.ar∧e1.ad=e.ad∧e1.cap=e.cap∧e1.ak=e.ak∧e1.an=e.an∧e1.nm=e.nm∧e1.mp=e.mp:=by rw[h1]; exact⟨rfl,rfl,rfl,rfl,rfl,rfl,rfl,rfl,rfl⟩
 have g2:e2.na=e'.na∧e2.av=e'.av∧e2.ar=e'.ar∧e2.ad=e'.ad∧e2.cap=e'.cap∧e2.ak=e'.ak∧e2.an=e'.an∧e2.nm=e'.nm∧e2.mp=e'.mp:=by rw[h2]; exact⟨rfl,rfl,rfl,rfl,rfl,rfl,rfl,rfl,rfl⟩
 obtain⟨a1,a2,a3,a4,a5,a6,a7,a8,a9⟩:=g1
 obtain⟨b1,b2,b3,b4,b5,b6,b7,b8,b9⟩:=g2
 refine⟨h.sub,h.kept,hs,by rw[a1,b1]; exact h.na,?_,by rw[a8,b8]; exact h.nm,?_⟩
 ·rw[a1,a2,a3,a4,a5,a6,a7,b2,b3,b4,b5,b6,b7]; exact h.av
 ·rw[a8,a9,b9]; exact h.mp
theorem ox.trans {L'':Lx} {e'':bc} {w'':World} (h:ox L e w L' e' w') (k:ox L' e' w' L'' e'' w''):ox L e w L'' e'' w'':=by
 refine⟨fun t b hb=>k.sub _ _ (h.sub _ _ hb),fun t b hb=>(k.kept _ _ (h.sub _ _ hb)).trans (h.kept _ _ hb),fun s hp hs=>?_,PZ h.na k.na,fun id hid=>?_,PZ h.nm k.nm,fun id hid=>?_⟩
 ·obtain⟨h1,h2⟩:=h.sl s hp hs
  obtain⟨h3,h4⟩:=k.sl s hp h1
  exact⟨h3,h4.trans h2⟩
 ·obtain⟨h1,h2⟩:=h.av id hid
  obtain⟨h3,h4⟩:=k.av id (P1 hid h.na)
  refine⟨PZ h1 h3,fun he=>?_⟩
  have e1:e'.av id=e.av id:=by omega
  have e2:e''.av id=e'.av id:=by omega
  obtain⟨a1,a2,a3,a4,a5⟩:=h2 e1
  obtain⟨b1,b2,b3,b4,b5⟩:=h4 e2
  exact⟨b1.trans a1,b2.trans a2,b3.trans a3,b4.trans a4,b5.trans a5⟩
 ·exact(k.mp id (P1 hid h.nm)).trans (h.mp id hid)
theorem ox.cut (h:ox L e w L' e' w') (kb:List Nat):ox L e w L' (e'.cut kb) w':=
 ⟨h.sub,h.kept,fun s hp hs=>⟨⟨(h.sl s hp hs).1,.inr hp⟩,(h.sl s hp hs).2⟩,h.na,h.av,h.nm,h.mp⟩
def FS (N:Nat→Nat) (W:Nat→Prop) (nt:Nat) (L0:Lx) (e0:bc) (w0:World) (s:St) (a:Act) (w:World):Prop:=
 ∃L e,SR N W L e nt s a w∧Fr W w0 w∧(∀t b,L0 t b→L t b)∧(∀t b,L t b→L0 t b∨(t=0∧W b))∧ox L0 e0 w0 L e w
theorem FS.mask {nt:Nat} {L0:Lx} {e0:bc} {w0:World} {s:St} {a:Act} (hs:FS N W nt L0 e0 w0 s a w) (kt kb:List Nat):FS N W nt L0 e0 w0 (s.mask kt kb) a w:=by
 obtain⟨L,e,h1,h2,h3,h4,h5⟩:=hs
 exact⟨L,_,h1.mask kt kb,h2,h3,h4,h5.cut kb⟩
theorem FS.step {nt:Nat} {L0:Lx} {e0:bc} {w0:World} {s':St} {a':Act} (hf:Fr W w0 w) (h1:∀t b,L0 t b→L t b) (h2:∀t b,L t b→L0 t b∨(t=0∧W b)) (hx:ox L0 e0 w0 L e w) (hn:Nx N W L e w L' e' s'.h w') (hs:SR N W L' e' nt s' a' w'):FS N W nt L0 e0 w0 s' a' w':=by
 refine⟨L',e',hs,hf.trans hn.fr,fun t b hb=>hn.ext.sub _ _ (h1 t b hb),fun t b hb=>?_,hx.trans hn.ext.x⟩
 rcases hn.new t b hb with hb|hb
 ·exact h2 t b hb
 ·exact .inr hb
def BR:Ex→Exit
 |.normal=>.normal
 |.exit id=>.exit id
 |.ret=>.ret
def QQ (N:Nat→Nat) (W:Nat→Prop) (nt:Nat) (L0:Lx) (e0:bc) (w0:World) (ex:Ex) (s':St):Exit→Act→World→Prop:=fun x a w=>x=BR ex∧FS N W nt L0 e0 w0 s' a w
def jP (P:Program) (N M:Nat→Nat) (A:Nat→Option aa) (Pr:bf) (n:Nat):Prop:=
 ∀(nt:Nat) (code:Code) (an:Dx) (ac:AC) (an':Dx),dM P N M nt code an=some (ac,an')→∀(W:Nat→Prop) (L0:Lx) (e0:bc) (w0:World) (s:St) (ex:Ex) (s':St) (a:Act) (w:World),
  exec A Pr n ac s=some (ex,s')→FS N W nt L0 e0 w0 s a w→code.wp P (QQ N W nt L0 e0 w0 ex s') a w
def BS (P:Program) (N:Nat→Nat) (A:Nat→Option aa) (Pr:bf) (n:Nat):Prop:=∀f ps rs,cP A (exec A Pr n) f ps=some rs→sO P N f ps rs
theorem vP {A:Nat→Option aa} {nt:Nat} {code:Code} {an an':Dx} {x:AC} {kt kb:List Nat} (htr:dM P N M nt code an=some (x,an')) {W:Nat→Prop} {L0:Lx} {e0:bc} {w0:World}:∀(k:Nat),(∀j,j<k→jP P N M A Pr j)→∀(s:St) (ex:Ex) (s':St) (a:Act) (w:World),
  exec A Pr k (.loop (.mask kt kb x)) s=some (ex,s')→FS N W nt L0 e0 w0 s a w→Code.rounds P code (QQ N W nt L0 e0 w0 ex s') k a w:=by
 intro k
 induction k with
 |zero=>intro _ s ex s' a w he _; simp[exec]at he
 |succ k ih=>
  intro hall s ex s' a w he hs
  have he':bK A Pr (exec A Pr k) (.loop (.mask kt kb x)) s=some (ex,s'):=he
  simp only[bK]at he'
  rw[rounds_succ]
  cases k with
  |zero=>simp[exec]at he'
  |succ j=>
   have hmask:exec A Pr (j+1) (.mask kt kb x) s=exec A Pr j x (s.mask kt kb):=rfl
   rw[hmask]at he'
   cases hx:exec A Pr j x (s.mask kt kb)with
   |none=>simp[hx]at he'
   |some r=>
    obtain⟨ex1,s1⟩:=r
    have hwp:=hall j (by omega) nt code an x an' htr W L0 e0 w0 _ ex1 s1 a w hx (hs.mask kt kb)
    refine wp_mono hwp fun xx a1 w1 hq=>?_
    obtain⟨rfl,hs1⟩:=hq
    cases ex1 with
    |normal=>
     simp only[hx]at he'
     exact ih (fun i hi=>hall i (by omega)) s1 ex s' a1 w1 he' hs1
    |exit id=>
     simp only[hx]at he'
     injection he' with he'; injection he' with e1 e2; subst e1; subst e2
     exact⟨rfl,hs1⟩
    |ret=>
     simp only[hx]at he'
     injection he' with he'; injection he' with e1 e2; subst e1; subst e2
     exact⟨rfl,hs1⟩
theorem zY (hm:P.follows .mixedOrders=true) {A:Nat→Option aa} (n:Nat) (hPL:cK (bq A (exec A Pr n) Pr)) (hPr:dS P N (bq A (exec A Pr n) Pr)) (hall:∀j,j≤n→jP P N M A Pr j) (hfn:BS P N A Pr n):jP P N M A Pr (n+1):=by
 intro nt code an ac an' htr W L0 e0 w0 s ex s' a w he hs
 have he':bK A Pr (exec A Pr n) ac s=some (ex,s'):=he
 cases code with
 |skip=>
  simp only[dM]at htr
  injection htr with htr; injection htr with e1 e2; subst e1
  simp only[bK]at he'
  injection he' with he'; injection he' with e1 e2; subst e1; subst e2
  exact wp_skip ⟨rfl,hs⟩
 |exit id=>
  simp only[dM]at htr
  injection htr with htr; injection htr with e1 e2; subst e1
  simp only[bK]at he'
  injection he' with he'; injection he' with e1 e2; subst e1; subst e2
  exact wp_exit ⟨rfl,hs⟩
 |ret=>
  simp only[dM]at htr
  injection htr with htr; injection htr with e1 e2; subst e1
  simp only[bK]at he'
  injection he' with he'; injection he' with e1 e2; subst e1; subst e2
  exact wp_ret ⟨rfl,hs⟩
 |seq x y=>
  simp only[dM]at htr
  split at htr<;>first|(cases htr; done)|skip
  rename_i x' an1 hx
  split at htr<;>first|(cases htr; done)|skip
  rename_i y' an2 hy
  injection htr with htr; injection htr with e1 e2; subst e1
  simp only[bK]at he'
  refine wp_seq ?_
  cases hex:exec A Pr n x' s with
  |none=>simp[hex]at he'
  |some r=>
   obtain⟨ex1,s1⟩:=r
   refine wp_mono (hall n (Pu _) nt x an x' an1 hx W L0 e0 w0 s ex1 s1 a w hex hs) fun xx a1 w1 hq=>?_
   obtain⟨rfl,hs1⟩:=hq
   cases ex1 with
   |normal=>
    simp only[hex]at he'
    exact hall n (Pu _) nt y an1 y' an2 hy W L0 e0 w0 s1 ex s' a1 w1 he' hs1
   |exit id=>
    simp only[hex]at he'
    injection he' with he'; injection he' with e1 e2; subst e1; subst e2
    exact⟨rfl,hs1⟩
   |ret=>
    simp only[hex]at he'
    injection he' with he'; injection he' with e1 e2; subst e1; subst e2
    exact⟨rfl,hs1⟩
 |cond c x y=>
  simp only[dM]at htr
  split at htr<;>first|(cases htr; done)|skip
  rename_i c' x' an1 hc hx
  split at htr<;>first|(cases htr; done)|skip
  rename_i y' an2 hy
  injection htr with htr; injection htr with e1 e2; subst e1
  simp only[bK]at he'
  obtain⟨L,e,hsr,hrest⟩:=hs
  have hv:=(hsr.or (M:=M)) c c' hc
  have hs:FS N W nt L0 e0 w0 s a w:=⟨L,e,hsr,hrest⟩
  split at he'<;>first|(cases he'; done)|skip
  ·rename_i hg
   rw[hg]at hv
   exact wp_cond_true hv.bool (hall n (Pu _) nt x an x' an1 hx W L0 e0 w0 s ex s' a w he' hs)
  ·rename_i hg
   rw[hg]at hv
   exact wp_cond_false hv.bool (hall n (Pu _) nt y an1 y' an2 hy W L0 e0 w0 s ex s' a w he' hs)
 |block id x=>
  simp only[dM]at htr
  split at htr<;>first|(cases htr; done)|skip
  rename_i x' an1 hx
  injection htr with htr; injection htr with e1 e2; subst e1
  simp only[bK]at he'
  refine wp_block ?_
  cases hex:exec A Pr n x' s with
  |none=>simp[hex]at he'
  |some r=>
   obtain⟨ex1,s1⟩:=r
   refine wp_mono (hall n (Pu _) nt x an x' an1 hx W L0 e0 w0 s ex1 s1 a w hex hs) fun xx a1 w1 hq=>?_
   obtain⟨rfl,hs1⟩:=hq
   cases ex1 with
   |normal=>
    simp only[hex]at he'
    injection he' with he'; injection he' with e1 e2; subst e1; subst e2
    exact⟨rfl,hs1⟩
   |exit j=>
    simp only[hex]at he'
    simp only[BR,Exit.inBlock]
    split at he'
    ·rename_i hj
     injection he' with he'; injection he' with e1 e2; subst e1; subst e2
     rw[if_pos hj]
     exact⟨rfl,hs1⟩
    ·rename_i hj
     injection he' with he'; injection he' with e1 e2; subst e1; subst e2
     rw[if_neg hj]
     exact⟨rfl,hs1⟩
   |ret=>
    simp only[hex]at he'
    injection he' with he'; injection he' with e1 e2; subst e1; subst e2
    exact⟨rfl,hs1⟩
 |loop x=>
  simp only[dM]at htr
  split at htr<;>first|(cases htr; done)|skip
  rename_i kt kb r
  split at htr<;>first|(cases htr; done)|skip
  rename_i x' an1 hx
  injection htr with htr; injection htr with e1 e2; subst e1
  exact wp_loop_rounds (n+1) (vP hx (n+1) (fun j hj=>hall j (by omega)) s ex s' a w he hs)
 |region id ops draw=>
  simp only[dM]at htr
  split at htr<;>first|(cases htr; done)|skip
  rename_i kt kb r
  split at htr
  ·injection htr with htr; injection htr with e1 e2; subst e1
   have hno:bK A Pr (exec A Pr n) yT s=none:=rfl
   rw[hno]at he'
   cases he'
  split at htr<;>first|(cases htr; done)|skip
  rename_i l hl
  obtain⟨L,e,hsr,hf,h1,h2,hx⟩:=hs
  split at htr
  ·rename_i hdraw
   subst hdraw
   split at htr<;>first|(cases htr; done)|skip
   rename_i hok
   split at htr
   ·injection htr with htr; injection htr with e1 e2; subst e1
    simp only[bK]at he'
    split at he'<;>first|(cases he'; done)|skip
    rename_i s1 hex
    injection he' with he'; injection he' with e1 e2; subst e1; subst e2
    exact vN (M:=M) hm hPL hfn hPr hl hok hsr (gZ l 0).1 (gZ l 0).2 hex fun a' w' L' e' hn hs'=>⟨rfl,(FS.step hf h1 h2 hx hn hs').mask kt (kx kb)⟩
   split at htr
   ·injection htr with htr; injection htr with e1 e2; subst e1
    simp only[bK]at he'
    split at he'<;>first|(cases he'; done)|skip
    rename_i s1 hex
    injection he' with he'; injection he' with e1 e2; subst e1; subst e2
    exact vN (M:=M) hm hPL hfn hPr hl hok hsr (lj l 0).1 (lj l 0).2 hex fun a' w' L' e' hn hs'=>⟨rfl,(FS.step hf h1 h2 hx hn hs').mask kt (kx kb)⟩
   injection htr with htr; injection htr with e1 e2; subst e1
   simp only[bK]at he'
   split at he'<;>first|(cases he'; done)|skip
   rename_i s1 hex
   injection he' with he'; injection he' with e1 e2; subst e1; subst e2
   exact BP (M:=M) hm hPL hfn hPr hl hok hsr hex fun a' w' L' e' hn hs'=>⟨rfl,(FS.step hf h1 h2 hx hn hs').mask kt (kx kb)⟩
  ·rename_i hdraw
   have hdraw':draw=false:=by simpa using hdraw
   subst hdraw'
   split at htr
   ·injection htr with htr; injection htr with e1 e2; subst e1
    simp only[bK]at he'
    split at he'<;>first|(cases he'; done)|skip
    rename_i s1 hex
    injection he' with he'; injection he' with e1 e2; subst e1; subst e2
    exact xL (M:=M) hfn hPr hl hsr (gZ l 0).1 (gZ l 0).2 hex fun a' w' L' e' hn hs'=>⟨rfl,(FS.step hf h1 h2 hx hn hs').mask kt (kx kb)⟩
   injection htr with htr; injection htr with e1 e2; subst e1
   simp only[bK]at he'
   split at he'<;>first|(cases he'; done)|skip
   rename_i s1 hex
   injection he' with he'; injection he' with e1 e2; subst e1; subst e2
   exact zW (M:=M) hfn hPr hl hsr hex fun a' w' L' e' hn hs'=>⟨rfl,(FS.step hf h1 h2 hx hn hs').mask kt (kx kb)⟩
 |_=>simp[dM]at htr
end Go.Pv
namespace Go.Pv
variable {P:Program} {N M:Nat→Nat} {W:Nat→Prop} {L L':Lx} {e e':bc} {h:af} {w w':World} {Pr:bf}
def bc.empty:bc:=⟨fun _=>False,fun _=>0,0,fun _=>0,fun _=>0,fun _=>0,fun _=>0,fun _=>0,fun _=>0,0,fun _=>0⟩
theorem HR.start (hl:∀t b,L t b→b<w.heap.size) (ht:qp N L w) (hw:∀b,w.heap.size≤b→W b):HR N L .empty W af.empty w:=by
 refine⟨fun s=>?_,fun s cs hs=>?_,rfl,fun id a ha=>?_,fun id a ha=>?_,rfl,fun id m hm=>?_,fun s hs=>hs.elim,fun id hi=>absurd hi (Qu _),fun id hi=>absurd hi (Qu _),
  fun s _ hs=>hs.elim,fun s _ hs=>hs.elim,fun i _ hi=>absurd hi (Qu _),fun i _ hi=>absurd hi (Qu _),hl,hw,ht⟩
 ·simp[bc.empty,af.empty,aC]
 ·simp[af.empty,aC]at hs
 ·simp[af.empty]at ha
 ·simp[af.empty]at ha
 ·simp[af.empty]at hm
theorem s6:∀(ps:List PV) (n t:Nat),get (entry n ps) t=if n≤t then (match ps[t - n]? with|some p=>V.iK p|none=>.any) else .any
 |[],n,t=>by simp[entry,get,aC]
 |p::r,n,t=>by
  have ih:=s6 r (n+1) t
  simp only[entry,get,aC]at ih ⊢
  by_cases hn:n=t
  ·subst hn; simp
  ·rw[if_neg hn,ih]
   by_cases hlt:n≤t
   ·rw[if_pos (show n+1≤t by omega),if_pos hlt,show t - n=(t - (n+1))+1 by omega]
    simp
   ·rw[if_neg (by omega),if_neg hlt]
theorem s7 {p:PV} {v:Value} (hp:dB N L w p v):VR N L e w (V.iK p) v:=by
 cases p with
 |agg cs=>
  cases hp with
  |agg _ arr hs hv _=>
   refine .agg _ arr (by simpa using hs) (fun j c hj=>?_)
   obtain⟨q,hq,rfl⟩:=dn hj
   exact .pv _ _ (hv j q hq)
 |fr k rows=>cases hp
 |_=>exact .pv _ _ hp
theorem FO {k:Nat} {rows:List (List PV)} {v:Value} (hp:dB N L w (.fr k rows) v):False:=by cases hp
theorem Aa {T:Option Nat} {ps:List PV} {args:Array Value} (hl:∀t b,L t b→b<w.heap.size) (ht:qp N L w) (ha:vB N L w T ps args.toList):
  ∃e,HR N L e (Wc w T) (cC ps) w∧∀(j:Nat) (p:PV),ps[j]?=some p→∃v,args.toList[j]?=some v∧VR N L e w (V.iK p) v:=by
 generalize hargs:args.toList=al at ha
 cases ha with
 |plain _ _ hlen hv=>
  have h0:cC ps=af.empty:=by
   cases ps with
   |nil=>rfl
   |cons p r=>
    cases p with
    |fr k rows=>
     obtain⟨v,_,h2⟩:=hv 0 _ rfl
     exact(FO h2).elim
    |_=>rfl
  rw[h0]
  refine⟨.empty,HR.start hl ht (fun b hb=>.inl hb),fun j p hj=>?_⟩
  obtain⟨v,h1,h2⟩:=hv j p hj
  exact⟨v,h1,s7 h2⟩
 |take b k rows v qs vs hf hlen hv=>
  have hst:HR N L .empty (Wc w (some b)) af.empty w:=HR.start hl ht (fun b hb=>.inl hb)
  obtain⟨e,h1,h2,h3⟩:=hf.own hst (.inr rfl) (fun ho=>by
   rcases ho with⟨s,hs,_⟩|⟨id,hi,_⟩
   ·exact hs
   ·exact absurd hi (Qu _))
  refine⟨e,h1.hr,fun j p hj=>?_⟩
  match j,hj with
  |0,hj=>simp at hj; subst hj; exact⟨v,rfl,h2⟩
  |j+1,hj=>
   obtain⟨u,k1,k2⟩:=hv j p (by simpa using hj)
   exact⟨u,by simpa using k1,s7 k2⟩
theorem xM {t:TypeId} {n:Nat} {ag:Bool} (hl:loadT P t=some (n,ag)) (hr:HR N L e W h w) {x:V} {xv:Value} (hx:VR N L e w x xv) {cs:List V} {tn:Tn} (hla:loadAt h n x=some (cs,tn)) {v:V} (hc:dZ ag cs=some v):
  ∃a v',xv=.pointer (some a)∧(loadVar t a).run P w=.ok v' w∧VR N L e w v v':=by
 obtain⟨a1,a2,b,off,a3,a4⟩:=pe hr hx hla
 obtain⟨v',r1,r2⟩:=va (P:=P) hl a2 a4 hc
 exact⟨_,v',a3,r1,r2⟩
theorem ng {nt:Nat} {s:St} {a:Act} (hs:SR N W L e nt s a w):∀(rs:List ResultVar) (rv:List mI) (vs:List V),ax (qo P) rs=some rv→ax (cO s) rv=some vs→
  ∃vals:List Value,(rs.mapM (fun r=>(match r with|.tmp t=>pure (a.tmps.getD t undef)|.cell x t=>do loadVar t (← asAddr (a.tmps.getD x undef)):Sem Value))).run P w=.ok vals w∧vals.length=vs.length∧
   ∀(j:Nat) (v:V),vs[j]?=some v→∃u,vals[j]?=some u∧VR N L e w v u
 |[],rv,vs,h1,h2=>by
  simp[ax]at h1
  subst h1
  simp[ax]at h2
  subst h2
  exact⟨[],by simp,rfl,fun j v hj=>by simp at hj⟩
 |r::rs,rv,vs,h1,h2=>by
  simp only[ax]at h1
  split at h1<;>first|(cases h1; done)|skip
  rename_i q qs hq hqs
  injection h1 with h1
  subst h1
  simp only[ax]at h2
  split at h2<;>first|(cases h2; done)|skip
  rename_i v vr hv hvr
  injection h2 with h2
  subst h2
  obtain⟨vals,g1,g2,g3⟩:=ng hs rs qs vr hqs hvr
  have hone:∃u,(match r with|.tmp t=>pure (a.tmps.getD t undef)|.cell x t=>do loadVar t (← asAddr (a.tmps.getD x undef)):Sem Value).run P w=.ok u w∧VR N L e w v u:=by
   cases r with
   |tmp t=>
    simp[qo]at hq
    subst hq
    simp[cO]at hv
    subst hv
    exact⟨_,by simp,hs.env t⟩
   |cell x t=>
    simp only[qo]at hq
    split at hq<;>first|(cases hq; done)|skip
    rename_i n b hl
    injection hq with hq
    subst hq
    simp only[cO]at hv
    split at hv<;>first|(cases hv; done)|skip
    rename_i cs tn hla
    obtain⟨ad,u,k1,k2,k3⟩:=xM hl hs.hr (hs.env x) hla hv
    refine⟨u,?_,k3⟩
    simp only[Sem.run_bind]
    rw[k1]
    simpa [asAddr]using k2
  obtain⟨u,k1,k2⟩:=hone
  refine⟨u::vals,?_,by simp[g2],fun j x hj=>?_⟩
  ·rw[List.mapM_cons]
   simp only[Sem.run_bind,k1,Result.andThen_ok,g1,Sem.run_pure]
  ·match j,hj with
   |0,hj=>simp at hj; subst hj; exact⟨u,rfl,k2⟩
   |j+1,hj=>simpa using g3 j x (by simpa using hj)
theorem BT (vs:Array Value):(if h:vs.size=1 then vs[0] else .tuple vs)=qE vs.toList:=by
 obtain⟨l⟩:=vs
 match l with
 |[]=>rfl
 |[v]=>rfl
 |_::_::_=>rfl
theorem px {nt:Nat} {s:St} {a:Act} (hs:SR N W L e nt s a w) {go:Func} {rv:List mI} (hrv:ax (qo P) go.results.toList=some rv) {vs:List V} (hv:ax (cO s) rv=some vs):
  ∃vals:List Value,(results go a.tmps).run P w=.ok (qE vals) w∧vals.length=vs.length∧∀(j:Nat) (v:V),vs[j]?=some v→∃u,vals[j]?=some u∧VR N L e w v u:=by
 obtain⟨vals,h1,h2,h3⟩:=ng hs go.results.toList rv vs hrv hv
 refine⟨vals,?_,h2,h3⟩
 unfold results
 rw[Array.mapM_eq_mapM_toList]
 have h1':((go.results.toList.mapM (fun r=>(match r with|.tmp t=>pure (a.tmps.getD t undef)|.cell x t=>do loadVar t (← asAddr (a.tmps.getD x undef)):Sem Value))).run P w)=.ok vals w:=h1
 simp only[Sem.run_bind,map_eq_pure_bind]
 have:∀(f:ResultVar→Sem Value),(∀r,f r=(match r with|.tmp t=>pure (a.tmps.getD t undef)|.cell x t=>do loadVar t (← asAddr (a.tmps.getD x undef)):Sem Value))→(go.results.toList.mapM f).run P w=.ok vals w:=by
  intro f hf
  have:f=_:=funext hf
  rw[this]
  exact h1'
 rw[this _ (fun r=>by cases r<;>rfl)]
 simp only[Result.andThen_ok,Sem.run_pure]
 rw[BT]
theorem mb (hr:HR N L e W h w) (hL:∀b,L 0 b→L' 0 b) (hown:∀id,id<e.na→e.ak id≠0→L' 0 (e.ar id)) {x:V} {p:PV} {v:Value} (hk:aX h 4 x=some p) (hv:VR N L e w x v):CR N L' w p v []:=by
 obtain⟨h1,h2⟩:=kH hr hL 4 x p v hk hv (fun _=>hown)
 exact .bW p v h2 h1
def dp (e:bc) (cs:List V):List Nat:=(cs.filterMap fG).map e.ar
theorem kL (hr:HR N L e W h w) (hL:∀b,L 0 b→L' 0 b) {x:V} (hno:∀b∈dp e [x],∀t,¬L' t b) {p:PV} {v:Value} (hk:eK h x=some p) (hv:VR N L e w x v):CR N L' w p v (dp e [x])∧∀id,fG x=some id→id<e.na∧e.ak id≠0:=by
 unfold eK at hk
 split at hk
 ·rename_i id aj len
  cases ho:aB h id aj with
  |none=>simp[ho]at hk
  |some a=>
   simp only[ho]at hk
   split at hk<;>first|(cases hk; done)|skip
   rename_i rows hb
   split at hk<;>first|(cases hk; done)|skip
   rename_i hk0
   injection hk with hk
   subst hk
   obtain⟨ho1,ho2⟩:=bl ho
   obtain⟨v1,v2,v3,v4⟩:=hr.aj id a ho1
   obtain⟨g1,g2,g3,g4,g5⟩:=hr.ar id a ho1 hk0
   have hid:id<e.na:=by rw[hr.na]; exact(Pg.1 ho1).1
   refine⟨?_,fun j hj=>by simp[fG]at hj; subst hj; exact⟨hid,by rw[v2]; exact hk0⟩⟩
   have hbl:dp e [.own id aj 0 len]=[e.ar id]:=rfl
   rw[hbl]at hno ⊢
   refine .fresh a.k (rows.take len) (e.ar id) v ?_
   obtain⟨A,cap,rfl⟩:=p4 hv
   cases hv with
   |own _ _ _ _ _ _ h0 h1 h2 h3=>
    obtain⟨q1,q2,q3,q4⟩:=h3 (by omega)
    have hsz:a.size=rows.length:=by simp[aK.size,hb]
    simp only[Nat.zero_mul,Nat.add_zero,Nat.zero_add]at q1 q3 q4
    have hlen:(rows.take len).length=len:=by simp; omega
    have hrows:a.rows=rows.map (·.map V.pv):=by simp[aK.rows,hb]
    refine⟨A,cap,e.ad id,e.cap id,by rw[hlen],hk0,by omega,q3,q4,g2,fun r hr'=>?_,hno (e.ar id) (by simp),fun i j c hcc=>?_⟩
    ·have:=g3 (r.map V.pv) (by rw[hrows]; exact PB.2 ⟨r,Qg hr',rfl⟩)
     simpa using this
    ·unfold eY at hcc
     cases hi:(rows.take len)[i]? with
     |none=>simp[hi]at hcc
     |some r=>
      simp[hi]at hcc
      have hi':rows[i]?=some r:=by
       rw[Pw]at hi
       split at hi
       ·exact hi
       ·cases hi
      obtain⟨_,u,k1,k2⟩:=g4 i (r.map V.pv) (by rw[hrows]; exact jL hi') j (.pv c) (by simp[hcc])
      have hperm:c.perm=true:=by
       rw[hb]at g5
       exact g5 r (Ph hi') c (Ph hcc)
      refine⟨hperm,u,by rw[← P8]; exact k1,?_⟩
      cases k2 with
      |pv _ _ hq=>exact hq.fI hperm (fun b hb=>⟨hL b hb,rfl⟩)
 ·cases hk
 ·rename_i hn1 hn2
  have hnone:fG x=none:=by
   cases x with
   |own id aj off len=>
    cases off with
    |zero=>exact absurd rfl (hn1 id aj len)
    |succ off=>exact absurd rfl (hn2 id aj (off+1) len)
   |_=>rfl
  have hb0:dp e [x]=[]:=by simp[dp,hnone]
  rw[hb0]
  obtain⟨k1,k2⟩:=kH hr hL 4 x p v hk hv (fun hne=>absurd hnone hne)
  exact⟨.bW p v k2 k1,fun id hid=>by rw[hnone]at hid; cases hid⟩
theorem vQ (e:bc) (x:V) (cs:List V):dp e (x::cs)=dp e [x]++dp e cs:=by
 cases hx:fG x<;>simp[dp,hx]
theorem py (hr:HR N L e W h w) (hL:∀b,L 0 b→L' 0 b):∀(cs:List V) (ps:List PV) (vs:List Value),(∀b∈dp e cs,∀t,¬L' t b)→ax (eK h) cs=some ps→vs.length=cs.length→(∀(j:Nat) (x:V),cs[j]?=some x→∃u,vs[j]?=some u∧VR N L e w x u)→
  Bn N L' w ps vs (dp e cs)∧∀id∈cs.filterMap fG,id<e.na∧e.ak id≠0
 |[],ps,vs,_,hm,hl,_=>by
  simp[ax]at hm
  subst hm
  have:vs=[]:=List.eq_nil_of_length_eq_zero (by simpa using hl)
  subst this
  exact⟨.nil,by simp⟩
 |x::cs,ps,vs,hno,hm,hl,hv=>by
  simp only[ax]at hm
  split at hm<;>first|(cases hm; done)|skip
  rename_i p pr hp hpr
  injection hm with hm
  subst hm
  match vs,hl with
  |v::vs,hl=>
   obtain⟨u,h1,h2⟩:=hv 0 x rfl
   simp at h1
   subst h1
   rw[vQ]at hno ⊢
   obtain⟨c1,c2⟩:=kL hr hL (fun b hb=>hno b (PR _ hb)) hp h2
   obtain⟨d1,d2⟩:=py hr hL cs pr vs (fun b hb=>hno b (List.mem_append_right _ hb)) hpr (by simpa using hl) (fun j y hj=>by simpa using hv (j+1) y (by simpa using hj))
   refine⟨.cons _ _ _ _ _ _ c1 d1,fun id hid=>?_⟩
   obtain⟨y,hy1,hy2⟩:=QA.1 hid
   rcases PO.1 hy1 with rfl|hy1
   ·exact c2 id hy2
   ·exact d2 id (QA.2 ⟨y,hy1,hy2⟩)
theorem qP (hr:HR N L e W h w) (hL:∀b,L 0 b→L' 0 b) (hown:∀id,id<e.na→e.ak id≠0→L' 0 (e.ar id)):∀(cs:List V) (ps:List PV) (vs:List Value),ax (aX h 4) cs=some ps→vs.length=cs.length→(∀(j:Nat) (x:V),cs[j]?=some x→∃u,vs[j]?=some u∧VR N L e w x u)→Bn N L' w ps vs []
 |[],ps,vs,hm,hl,_=>by
  simp[ax]at hm
  subst hm
  have:vs=[]:=List.eq_nil_of_length_eq_zero (by simpa using hl)
  subst this
  exact .nil
 |x::cs,ps,vs,hm,hl,hv=>by
  simp only[ax]at hm
  split at hm<;>first|(cases hm; done)|skip
  rename_i p pr hp hpr
  injection hm with hm
  subst hm
  match vs,hl with
  |v::vs,hl=>
   obtain⟨u,h1,h2⟩:=hv 0 x rfl
   simp at h1
   subst h1
   exact Bn.cons _ _ [] _ _ [] (mb hr hL hown hp h2) (qP hr hL hown cs pr vs hpr (by simpa using hl) (fun j y hj=>by simpa using hv (j+1) y (by simpa using hj)))
end Go.Pv
namespace Go.Pv
variable {P:Program} {N M:Nat→Nat} {W:Nat→Prop} {L L':Lx} {e e':bc} {h:af} {w w':World} {Pr:bf}
theorem fv:∀(r l:List Nat),l.Nodup→(bR l r).Nodup
 |[],_,h=>h
 |s::r,l,h=>by
  simp only[bR]
  split
  ·exact fv r l h
  ·rename_i hc
   refine fv r _ (List.nodup_append.2 ⟨h,by simp,fun a ha b hb=>?_⟩)
   have hb:b=s:=by simpa using hb
   subst hb
   rintro rfl
   exact hc (by simpa using ha)
theorem nh (bx:List (Nat×List V)):∀(n:Nat) (l:List Nat),l.Nodup→(dz bx n l).Nodup
 |0,_,h=>h
 |n+1,l,h=>nh bx n _ (fv _ l h)
def bc.on (e:bc) (sl:Nat→Prop) (bx:Nat→Nat):bc:={ e with sl:=sl,bx:=bx }
theorem Ab {c:V} (hc:c.calm=true) (f:Nat→Option Nat):fh f c=some c:=by
 cases c with
 |func k cap=>
  have:cap.isEmpty=true:=hc
  simp[fh,this]
 |ptr=>simp[V.calm]at hc
 |agg=>simp[V.calm]at hc
 |dv=>simp[V.calm]at hc
 |_=>rfl
theorem VR.fh {f:Nat→Option Nat} {c c':V} {v:Value} {sl:Nat→Prop} {bx:Nat→Nat} (hh:Pv.fh f c=some c') (hv:VR N L e w c v) (hf:∀s t,f s=some t→e.sl s→sl t∧bx t=e.bx s):VR N L (e.on sl bx) w c' v:=by
 cases c with
 |ptr s o=>
  simp only[Pv.fh]at hh
  split at hh<;>first|(cases hh; done)|skip
  rename_i t ht
  cases hh
  cases hv with
  |ptr _ _ hs=>
   obtain⟨h1,h2⟩:=hf s t ht hs
   rw[← h2]
   exact .ptr (e:=e.on sl bx) t o h1
 |func k cap=>
  simp only[Pv.fh]at hh
  split at hh<;>first|(cases hh; done)|skip
  rename_i hc
  cases hh
  cases hv with
  |func _ _ arr hs _=>
   refine .func k cap arr hs (fun j c hj=>?_)
   rw[Qr.1 hc]at hj
   simp at hj
 |agg cs=>cases hh
 |dv cs=>cases hh
 |pv p=>cases hh; cases hv with|pv _ _ hp=>exact .pv p v hp
 |tl rows=>cases hh; cases hv with|tl _ a hp hs=>exact .tl rows a hp hs
 |own id aj off len=>cases hh; cases hv with|own _ _ _ _ a cap h0 h1 h2 h3=>exact .own (e:=e.on sl bx) id aj off len a cap h0 h1 h2 h3
 |cT id aj row col=>cases hh; cases hv with|cT _ _ _ _ a h1 h2 h3=>exact .cT (e:=e.on sl bx) id aj row col a h1 h2 h3
 |map id=>cases hh; cases hv with|map _ hi=>exact .map (e:=e.on sl bx) id hi
 |dQ=>cases hh; cases hv; exact .dQ
 |any=>cases hh; exact .any v
theorem VR.km {f:Nat→Option Nat} {c c':V} {v:Value} {sl:Nat→Prop} {bx:Nat→Nat} (hh:Pv.km f c=some c') (hv:VR N L e w c v) (hf:∀s t,f s=some t→e.sl s→sl t∧bx t=e.bx s):VR N L (e.on sl bx) w c' v:=by
 cases c with
 |func k cap=>
  simp only[Pv.km]at hh
  split at hh<;>first|(cases hh; done)|skip
  rename_i l hm
  cases hh
  cases hv with
  |func _ _ arr hs hvv=>
   refine .func k l arr (by rw[hs,bD hm]) (fun j c hj=>?_)
   obtain⟨x,h1,h2⟩:=bm hm j c hj
   exact(hvv j x h1).fh h2 hf
 |agg cs=>
  simp only[Pv.km]at hh
  split at hh<;>first|(cases hh; done)|skip
  rename_i l hm
  cases hh
  cases hv with
  |agg _ arr hs hvv=>
   refine .agg l arr (by rw[hs,bD hm]) (fun j c hj=>?_)
   obtain⟨x,h1,h2⟩:=bm hm j c hj
   exact(hvv j x h1).fh h2 hf
 |pv p=>exact VR.fh (c:=.pv p) hh hv hf
 |tl rows=>exact VR.fh (c:=.tl rows) hh hv hf
 |own id aj off len=>exact VR.fh (c:=.own id aj off len) hh hv hf
 |ptr s o=>exact VR.fh (c:=.ptr s o) hh hv hf
 |cT id aj row col=>exact VR.fh (c:=.cT id aj row col) hh hv hf
 |map id=>exact VR.fh (c:=.map id) hh hv hf
 |dQ=>exact VR.fh (c:=.dQ) hh hv hf
 |dv cs=>exact VR.fh (c:=.dv cs) hh hv hf
 |any=>exact VR.fh (c:=.any) hh hv hf
theorem xN {f:Nat→Option Nat} {c c':V} (hh:fh f c=some c') (hc:c.dK=true) (hf:∀s t,f s=some t→dJ t=true):c'.dK=true:=by
 cases c with
 |ptr s o=>
  simp only[fh]at hh
  split at hh<;>first|(cases hh; done)|skip
  rename_i t ht
  cases hh
  exact hf s t ht
 |func k cap=>
  simp only[fh]at hh
  split at hh<;>first|(cases hh; done)|skip
  cases hh
  exact hc
 |agg cs=>cases hh
 |dv cs=>cases hh
 |_=>cases hh; exact hc
theorem fm.on {b off:Nat} {cs:List V} (hc:fm N L e w b off cs) (sl:Nat→Prop) (bx:Nat→Nat):fm N L (e.on sl bx) w b off cs:=by
 intro j c hj
 obtain⟨h1,v,h2,h3⟩:=hc j c hj
 exact⟨h1,v,h2,h3.fh (Ab h1 fun _=>none) (fun s t ht=>by cases ht)⟩
theorem s8 {f:Nat→Option Nat} {bx:List (Nat×List V)}:∀(ss:List Nat) (n:Nat) (b:List (Nat×List V)),qm f bx n ss=some b→
  (∀i s,ss[i]?=some s→∃cs l,aC s bx=some cs∧ax (fh f) cs=some l∧aC (n+i) b=some l)∧∀t,(t<n∨n+ss.length≤t)→aC t b=none
 |[],n,b,hh=>by
  cases hh
  exact⟨fun i s hi=>by simp at hi,fun t _=>rfl⟩
 |s::r,n,b,hh=>by
  simp only[qm]at hh
  split at hh<;>first|(cases hh; done)|skip
  rename_i cs hcs
  split at hh<;>first|(cases hh; done)|skip
  rename_i l b' hl hb'
  cases hh
  obtain⟨i1,i2⟩:=s8 r (n+1) b' hb'
  refine⟨fun i s' hi=>?_,fun t ht=>?_⟩
  ·cases i with
   |zero=>
    cases hi
    exact⟨cs,l,hcs,hl,by simp[aC]⟩
   |succ i=>
    obtain⟨cs',l',g1,g2,g3⟩:=i1 i s' (by simpa using hi)
    refine⟨cs',l',g1,g2,?_⟩
    simp only[aC]
    rw[if_neg (by omega),show n+(i+1)=n+1+i by omega]
    exact g3
  ·simp only[aC,List.length_cons]at ht ⊢
   rw[if_neg (by omega)]
   exact i2 t (by omega)
theorem qQ {f:Nat→Option Nat} {bx:List (Nat×List V)}:∀(ss:List Nat) (n:Nat) (bs:List (Nat×List V)),ko f bx n ss=some bs→ss.Nodup→∀b0:List (Nat×List V),
  (∀i s,ss[i]?=some s→∃cs l,aC (n+i) bx=some cs∧ax (fh f) cs=some l∧l.all V.dK=true∧aC s (eL bs b0)=some l)∧∀t,t∉ss→aC t (eL bs b0)=aC t b0
 |[],n,bs,hh,_,b0=>by
  cases hh
  exact⟨fun i s hi=>by simp at hi,fun t _=>rfl⟩
 |s::r,n,bs,hh,hn,b0=>by
  simp only[ko]at hh
  split at hh<;>first|(cases hh; done)|skip
  rename_i cs hcs
  split at hh<;>first|(cases hh; done)|skip
  rename_i l b' hl hb'
  split at hh<;>first|(cases hh; done)|skip
  rename_i hcalm
  cases hh
  obtain⟨h1,h2⟩:=List.nodup_cons.1 hn
  obtain⟨i1,i2⟩:=qQ r (n+1) b' hb' h2 (dP s l b0)
  have hset:∀t,aC t (dP s l b0)=if s=t then some l else aC t b0:=fun t=>dG (α:=Unit) s t l b0
  refine⟨fun i s' hi=>?_,fun t ht=>?_⟩
  ·cases i with
   |zero=>
    cases hi
    refine⟨cs,l,hcs,hl,hcalm,?_⟩
    show aC s (eL b' (dP s l b0))=some l
    rw[i2 s h1,hset,if_pos rfl]
   |succ i=>
    obtain⟨cs',l',g1,g2,g3,g4⟩:=i1 i s' (by simpa using hi)
    exact⟨cs',l',by rw[show n+(i+1)=n+1+i by omega]; exact g1,g2,g3,g4⟩
  ·show aC t (eL b' (dP s l b0))=aC t b0
   simp only[List.mem_cons,not_or]at ht
   rw[i2 t ht.2,hset,if_neg (fun he=>ht.1 he.symm)]
theorem oy {ss:List Nat} {s t:Nat} (hh:oc ss s=some t):∃i,ss[i]?=some s∧t=outer+i:=by
 unfold oc at hh
 obtain⟨i,h1,rfl⟩:=PQ.1 hh
 rw[PT]at h1
 obtain⟨h2,h3,_⟩:=h1
 refine⟨i,?_,rfl⟩
 rw[Pj h2]
 simpa using h3
theorem qR {ss:List Nat} {s t:Nat} (hh:fH ss t=some s):∃i,ss[i]?=some s∧t=outer+i:=by
 unfold fH at hh
 split at hh
 ·exact⟨t - outer,hh,by omega⟩
 ·cases hh
theorem oz (i:Nat):dJ (outer+i)=true:=by
 unfold dJ outer
 rw[Nat.ble_eq]
 omega
def ES (e:bc) (W:Nat→Prop) (ss:List Nat) (b:Nat):Prop:=W b∧∀s,e.sl s→s∉ss→e.bx s≠b
def Ac (ss:List Nat) (t:Nat):Prop:=∃i s,ss[i]?=some s∧t=outer+i
def xO (e:bc) (ss:List Nat) (t:Nat):Nat:=e.bx (ss.getD (t - outer) 0)
theorem jQ (e:bc) {ss:List Nat} {i s:Nat} (h:ss[i]?=some s):xO e ss (outer+i)=e.bx s:=by
 unfold xO
 rw[Nat.add_sub_cancel_left]
 simp[h]
theorem HR.xP (hr:HR N L e W h w) {s id:Nat} (hs:e.sl s) (hi:id<e.nm):e.bx s≠e.mp id:=by
 obtain⟨m,hm⟩:=hr.xj hi
 obtain⟨es,cl,k1,_⟩:=hr.mp id m hm
 have hl:=(hr.sl s).1 hs
 cases hc:aC s h.bx with
 |none=>simp[hc]at hl
 |some cs=>
  obtain⟨⟨arr,ty,k2,_⟩,_⟩:=hr.bx s cs hc
  exact(eZ k1 k2).symm
theorem HR.ca (hr:HR N L e W h w) {ss:List Nat} (hnd:ss.Nodup) {b:List (Nat×List V)} (hb:qm (oc ss) h.bx outer ss=some b):
  HR N L (e.on (Ac ss) (xO e ss)) (ES e W ss) ⟨b,h.ar,h.mp⟩ w∧∀s∈ss,e.sl s:=by
 obtain⟨b1,b2⟩:=s8 ss outer b hb
 have hsl:∀s∈ss,e.sl s:=fun s hs=>by
  obtain⟨i,hi⟩:=Pk.1 hs
  obtain⟨cs,l,g1,_⟩:=b1 i s hi
  exact(hr.sl s).2 (by rw[g1]; rfl)
 have hf:∀s t,oc ss s=some t→e.sl s→Ac ss t∧xO e ss t=e.bx s:=fun s t ht _=>by
  obtain⟨i,h1,rfl⟩:=oy ht
  exact⟨⟨i,s,h1,rfl⟩,jQ e h1⟩
 have hlook:∀t,(aC t b).isSome=true→∃i s,ss[i]?=some s∧t=outer+i:=fun t ht=>by
  rcases Po t outer with h1|h1
  ·rw[b2 t (.inl h1)]at ht; cases ht
  ·rcases Po t (outer+ss.length)with h2|h2
   ·exact⟨t - outer,ss[t - outer]'(by omega),Pj (by omega),by omega⟩
   ·rw[b2 t (.inr h2)]at ht; cases ht
 refine⟨⟨fun t=>⟨?_,hlook t⟩,fun t cs ht=>?_,hr.na,hr.aj,fun id a ha hk=>?_,hr.nm,hr.mp,?_,fun id hi hk=>?_,fun id hi=>?_,?_,?_,hr.ud,hr.xg,hr.lU,fun g hg=>?_,hr.xe⟩,hsl⟩
 ·rintro ⟨i,s,h1,rfl⟩
  obtain⟨cs,l,_,_,g3⟩:=b1 i s h1
  show (aC (outer+i) b).isSome=true
  rw[g3]
  rfl
 ·obtain⟨i,s,h1,rfl⟩:=hlook t (by rw[ht]; rfl)
  obtain⟨cs0,l,g1,g2,g3⟩:=b1 i s h1
  rw[show aC (outer+i) (⟨b,h.ar,h.mp⟩:af).bx=aC (outer+i) b from rfl,g3]at ht
  cases ht
  obtain⟨k1,k2⟩:=hr.bx s cs0 g1
  show Block w (xO e ss (outer+i)) _∧kz N L _ w (xO e ss (outer+i)) _
  rw[jQ e h1]
  refine⟨by rw[bD g2]; exact k1,fun j c hj=>?_⟩
  obtain⟨x,p1,p2⟩:=bm g2 j c hj
  obtain⟨q1,v,q2,q3⟩:=k2 j x p1
  refine⟨xN p2 q1 (fun s t ht=>?_),v,q2,q3.fh p2 hf⟩
  obtain⟨i',_,rfl⟩:=oy ht
  exact oz i'
 ·obtain⟨g1,g2,g3,g4,g5⟩:=hr.ar id a ha hk
  exact⟨g1,g2,g3,fun i r hi=>(g4 i r hi).on _ _,g5⟩
 ·rintro t ⟨i,s,h1,rfl⟩
  show ES e W ss (xO e ss (outer+i))∧∀t,¬L t (xO e ss (outer+i))
  rw[jQ e h1]
  have hs:=Ph h1
  refine⟨⟨(hr.sh s (hsl s hs)).1,fun s' hs' hn he=>?_⟩,(hr.sh s (hsl s hs)).2⟩
  exact hn (hr.xd s' s hs' (hsl s hs) he ▸ hs)
 ·exact⟨⟨(hr.lS id hi hk).1,fun s' hs' _=>hr.uc s' id hs' hi hk⟩,(hr.lS id hi hk).2⟩
 ·exact⟨⟨(hr.tZ id hi).1,fun s' hs' _=>hr.xP hs' hi⟩,(hr.tZ id hi).2⟩
 ·rintro t t' ⟨i,s,h1,rfl⟩ ⟨i',s',h2,rfl⟩ he
  change xO e ss (outer+i)=xO e ss (outer+i')at he
  rw[jQ e h1,jQ e h2]at he
  have:=hr.xd s s' (hsl s (Ph h1)) (hsl s' (Ph h2)) he
  subst this
  have:=(List.getElem?_inj (Pg.1 h1).1 hnd).1 (h1.trans h2.symm)
  rw[this]
 ·rintro t id ⟨i,s,h1,rfl⟩ hi hk
  show xO e ss (outer+i)≠_
  rw[jQ e h1]
  exact hr.uc s id (hsl s (Ph h1)) hi hk
 ·exact⟨hr.wide g hg,fun s' hs' _ he=>by have:=hr.j9 hs'; omega⟩
theorem Nx.out (hr:HR N L e W h w) {ss:List Nat} (hnd:ss.Nodup) (hsl:∀s∈ss,e.sl s) {h1:af} (hr1:HR N L' e' (ES e W ss) h1 w') (hx:ox L (e.on (Ac ss) (xO e ss)) w L' e' w')
  (hf:Fr (ES e W ss) w w') (hnew:∀t b,L' t b→L t b∨(t=0∧ES e W ss b)) {bs:List (Nat×List V)} (ho:ko (fH ss) h1.bx outer ss=some bs):
  Nx N W L e w L' (e'.on e.sl e.bx) ⟨eL bs h.bx,h1.ar,h1.mp⟩ w':=by
 obtain⟨o1,o2⟩:=qQ ss outer bs ho hnd h.bx
 have hat:∀i s,ss[i]?=some s→e'.sl (outer+i)∧e'.bx (outer+i)=e.bx s:=fun i s hi=>by
  obtain⟨g1,g2⟩:=hx.sl (outer+i) (oz i) ⟨i,s,hi,rfl⟩
  exact⟨g1,g2.trans (jQ e hi)⟩
 have hext:Ext L e w L' (e'.on e.sl e.bx) w':=hx.ext rfl rfl (fun s hs=>⟨hs,rfl⟩)
 have hfo:∀t u,fH ss t=some u→e'.sl t→e.sl u∧e.bx u=e'.bx t:=fun t u ht _=>by
  obtain⟨i,g1,rfl⟩:=qR ht
  exact⟨hsl u (Ph g1),(hat i u g1).2.symm⟩
 have hframe:∀s,e.sl s→s∉ss→¬ES e W ss (e.bx s):=fun s hs hn hw=>hw.2 s hs hn rfl
 refine⟨⟨fun s=>?_,fun s cs hs=>?_,hr1.na,hr1.aj,fun id a ha hk=>?_,hr1.nm,hr1.mp,fun s hs=>?_,fun id hi hk=>?_,fun id hi=>?_,hr.xd,fun s id hs hi hk=>?_,hr1.ud,hr1.xg,hr1.lU,fun g hg=>?_,hr1.xe⟩,hext,?_,fun t b hb=>?_⟩
 ·show e.sl s↔(aC s (eL bs h.bx)).isSome=true
  by_cases hm:s∈ss
  ·obtain⟨i,hi⟩:=Pk.1 hm
   obtain⟨cs,l,_,_,_,g4⟩:=o1 i s hi
   rw[g4]
   exact⟨fun _=>rfl,fun _=>hsl s hm⟩
  ·rw[o2 s hm]
   exact hr.sl s
 ·change aC s (eL bs h.bx)=some cs at hs
  show Block w' (e.bx s) cs.length∧kz N L' (e'.on e.sl e.bx) w' (e.bx s) cs
  by_cases hm:s∈ss
  ·obtain⟨i,hi⟩:=Pk.1 hm
   obtain⟨cs0,l,g1,g2,g3,g4⟩:=o1 i s hi
   rw[g4]at hs
   cases hs
   obtain⟨k1,k2⟩:=hr1.bx (outer+i) cs0 g1
   rw[(hat i s hi).2]at k1 k2
   refine⟨by rw[bD g2]; exact k1,fun j c hj=>?_⟩
   obtain⟨x,p1,p2⟩:=bm g2 j c hj
   obtain⟨_,v,q2,q3⟩:=k2 j x p1
   exact⟨PI.1 g3 c (Ph hj),v,q2,q3.fh p2 hfo⟩
  ·rw[o2 s hm]at hs
   obtain⟨k1,k2⟩:=hr.bx s cs hs
   have hse:=(hr.sl s).2 (by rw[hs]; rfl)
   have hsame:=hf.kept (e.bx s) k1.lt (hframe s hse hm)
   exact⟨k1.same hsame,k2.mono hext hsame⟩
 ·obtain⟨g1,g2,g3,g4,g5⟩:=hr1.ar id a ha hk
  exact⟨g1,g2,g3,fun i r hi=>(g4 i r hi).on _ _,g5⟩
 ·refine⟨(hr.sh s hs).1,fun t ht=>?_⟩
  by_cases hm:s∈ss
  ·obtain⟨i,hi⟩:=Pk.1 hm
   obtain⟨g1,g2⟩:=hat i s hi
   exact(hr1.sh (outer+i) g1).2 t (by rw[g2]; exact ht)
  ·rcases hnew t _ ht with h2|⟨_,h2⟩
   ·exact(hr.sh s hs).2 t h2
   ·exact hframe s hs hm h2
 ·exact⟨(hr1.lS id hi hk).1.1,(hr1.lS id hi hk).2⟩
 ·exact⟨(hr1.tZ id hi).1.1,(hr1.tZ id hi).2⟩
 ·show e.bx s≠e'.ar id
  by_cases hm:s∈ss
  ·obtain⟨i,hi'⟩:=Pk.1 hm
   obtain⟨g1,g2⟩:=hat i s hi'
   rw[← g2]
   exact hr1.uc (outer+i) id g1 hi hk
  ·exact(hr1.lS id hi hk).1.2 s hs hm
 ·exact hr.wide g (PZ hf.size hg)
 ·exact⟨hf.os,hf.tape,hf.output,hf.size,fun b hb hw=>hf.kept b hb (fun hc=>hw hc.1),hf.drawn⟩
 ·rcases hnew t b hb with h2|⟨h2,h3⟩
  ·exact .inl h2
  ·exact .inr ⟨h2,h3.1⟩
theorem qS:∀(vs:List V) (n t:Nat),get (kr n vs) t=if n≤t then (vs[t - n]?).getD .any else .any
 |[],n,t=>by simp[kr,get,aC]
 |p::r,n,t=>by
  have ih:=qS r (n+1) t
  simp only[kr,get,aC]at ih ⊢
  by_cases hn:n=t
  ·subst hn; simp
  ·rw[if_neg hn,ih]
   by_cases hlt:n≤t
   ·rw[if_pos (show n+1≤t by omega),if_pos hlt,show t - n=(t - (n+1))+1 by omega]
    simp
   ·rw[if_neg (by omega),if_neg hlt]
theorem kM {fn:aa} {ss:List Nat} {s:St} {v:V} {tn:Tn} (hh:lV fn ss s=some (v,tn)):∃rs ws bs,ax (cO s) fn.results=some rs∧ax (km (fH ss)) rs=some ws∧ko (fH ss) s.h.bx outer ss=some bs∧v=eA ws∧tn={ all:=some (bs,s.h.ar,s.h.mp) }:=by
 unfold lV at hh
 split at hh<;>first|(cases hh; done)|skip
 rename_i rs h1
 split at hh<;>first|(cases hh; done)|skip
 rename_i ws bs h2 h3
 cases hh
 exact⟨rs,ws,bs,h1,h2,h3,rfl,rfl⟩
theorem kN {E:AC→St→Option (Ex×St)} {fn:aa} {vs:List V} {h:af} {r:V×Tn} (hh:fk E fn vs h=some r):∃ss us bx ex s,ss=dz h.bx 2 (bR [] (vs.flatMap slotsOf))∧ss.Nodup∧vs.length=fn.nX∧ax (km (oc ss)) vs=some us∧qm (oc ss) h.bx outer ss=some bx∧
  E fn.body ⟨kr 0 us,⟨bx,h.ar,h.mp⟩⟩=some (ex,s)∧(ex=.normal∨ex=.ret)∧lV fn ss s=some r:=by
 unfold fk at hh
 split at hh<;>first|(cases hh; done)|skip
 rename_i hn
 split at hh<;>first|(cases hh; done)|skip
 rename_i us bx h1 h2
 have hnd:=nh h.bx 2 (bR [] (vs.flatMap slotsOf)) (fv _ [] List.nodup_nil)
 split at hh<;>first|(cases hh; done)|skip
 ·rename_i s h3
  exact⟨_,us,bx,.normal,s,rfl,hnd,hn,h1,h2,h3,.inl rfl,hh⟩
 ·rename_i s h3
  exact⟨_,us,bx,.ret,s,rfl,hnd,hn,h1,h2,h3,.inr rfl,hh⟩
theorem Ad {A:Nat→Option aa} {n:Nat} (hcode:jP P N M A Pr n) {f:Nat} {fn:aa} {an:Dx} (hfn:u5 P N M (N f) an fn) {vs:List V} {args:Array Value} {v:V} {tn:Tn} (hh:fk (exec A Pr n) fn vs h=some (v,tn)) (hr:HR N L e W h w)
  (hs:args.size=vs.length) (hv:∀(j:Nat) (x:V),vs[j]?=some x→VR N L e w x (args.getD j undef)):
  dx P (N f) args w fun v' w'=>∃L' e',Nx N W L e w L' e' (tn.apply h) w'∧VR N L' e' w' v v':=by
 obtain⟨ss,us,bx,ex,s',_,hnd,hn,hus,hbx,hex,hex2,hend⟩:=kN hh
 obtain⟨rs,ws,bs,hrs,hws,hbs,rfl,rfl⟩:=kM hend
 obtain⟨go,code,f1,f2,f3,f4,f5,f6⟩:=hfn
 refine .inr ⟨by simp only[beq_eq_false_iff_ne,ne_eq]at f3; simp[callFunc,f1,f2,f3],?_⟩
 refine calls_of_wp f1 f2 ?_
 obtain⟨hri,hsl⟩:=hr.ca hnd hbx
 have hfi:∀s t,oc ss s=some t→e.sl s→Ac ss t∧xO e ss t=e.bx s:=fun s t ht _=>by
  obtain⟨i,h1,rfl⟩:=oy ht
  exact⟨⟨i,s,h1,rfl⟩,jQ e h1⟩
 have hlen:us.length=vs.length:=bD hus
 have hst:FS N (ES e W ss) go.ntmps L (e.on (Ac ss) (xO e ss)) w ⟨kr 0 us,⟨bx,h.ar,h.mp⟩⟩ { tmps:=args++Array.replicate (go.ntmps - args.size) undef,defers:=[] } w:=by
  refine⟨L,_,⟨hri,fun t=>?_,?_,rfl⟩,Fr.refl _ _,fun _ _ hb=>hb,fun _ _ hb=>.inl hb,(Ext.refl _ _ _).x⟩
  ·rw[qS]
   simp only[Nat.zero_le,if_true,Nat.sub_zero]
   cases hp:us[t]? with
   |none=>exact .any _
   |some u=>
    obtain⟨x,h1,h2⟩:=bm hus t u hp
    have hlt:t<args.size:=by rw[hs]; exact(Pg.1 h1).1
    have:(args++Array.replicate (go.ntmps - args.size) undef).getD t undef=args.getD t undef:=by
     apply bP
     rw[Array.toList_append,List.getElem?_append_left (by simpa using hlt),Array.getElem?_toList]
     exact aZ hlt
    rw[this]
    exact(hv t x h1).km h2 hfi
  ·simp
   omega
 have key:∀a1 w1,FS N (ES e W ss) go.ntmps L (e.on (Ac ss) (xO e ss)) w s' a1 w1→a1.defers=[]∧∃v',(results go a1.tmps).run P w1=.ok v' w1∧∃L' e',Nx N W L e w L' e' (Tn.apply { all:=some (bs,s'.h.ar,s'.h.mp) } h) w1∧VR N L' e' w1 (eA ws) v':=by
  rintro a1 w1 ⟨L1,e1,hsr,hf,_,hnew,hx⟩
  obtain⟨vals,r1,r2,r3⟩:=px hsr f6 hrs
  refine⟨hsr.defers,_,r1,L1,e1.on e.sl e.bx,Nx.out hr hnd hsl hsr.hr hx hf hnew hbs,?_⟩
  refine sR (by rw[r2,bD hws]) (fun j x hj=>?_)
  obtain⟨y,h1,h2⟩:=bm hws j x hj
  obtain⟨u,h3,h4⟩:=r3 j y h1
  refine⟨u,h3,h4.km h2 fun t q ht _=>?_⟩
  obtain⟨i,g1,rfl⟩:=qR ht
  obtain⟨_,k2⟩:=hx.sl (outer+i) (oz i) ⟨i,q,g1,rfl⟩
  exact⟨hsl q (Ph g1),(k2.trans (jQ e g1)).symm⟩
 refine wp_mono (hcode go.ntmps code an fn.body [] f5 _ L _ w _ ex s' _ w hex hst) fun xx a1 w1 hq=>?_
 obtain⟨rfl,hs1⟩:=hq
 obtain⟨k1,v',k2,k3⟩:=key a1 w1 hs1
 rcases hex2 with rfl|rfl
 ·exact⟨k1,v',k2,k3⟩
 ·exact⟨k1,v',k2,k3⟩
theorem vR {f:Nat→Option Nat} {b1 b2:List (Nat×List V)} (hb:∀s,aC s b1=aC s b2):∀(ss:List Nat) (n:Nat),qm f b1 n ss=qm f b2 n ss
 |[],_=>rfl
 |s::r,n=>by simp only[qm,hb s,vR hb r (n+1)]
theorem qT {b1 b2:List (Nat×List V)} (hb:∀s,aC s b1=aC s b2):∀(n:Nat) (l:List Nat),dz b1 n l=dz b2 n l
 |0,_=>rfl
 |n+1,l=>by
  have:pX b1=pX b2:=funext fun s=>by simp only[pX,hb s]
  simp only[dz,this]
  exact qT hb n _
theorem xQ {E:AC→St→Option (Ex×St)} {fn:aa} {vs:List V} {h1 h2:af} (k:oo h1 h2):fk E fn vs h1=fk E fn vs h2:=by
 unfold fk
 rw[qT k.bx,vR k.bx,k.ar,k.mp]
theorem mc {E:AC→St→Option (Ex×St)} {fn:aa} {vs:List V} {h:af} {v:V} {t:Tn} (hh:fk E fn vs h=some (v,t)):∃x,t={ all:=some x }:=by
 obtain⟨ss,us,bx,ex,s',_,_,_,_,_,_,_,hend⟩:=kN hh
 obtain⟨rs,ws,bs,_,_,_,_,rfl⟩:=kM hend
 exact⟨_,rfl⟩
theorem vS (A:Nat→Option aa) (E:AC→St→Option (Ex×St)) (hPL:cK Pr):cK (bq A E Pr):=by
 have two:∀fn pr,bq A E Pr fn=some pr→Pr fn=some pr∨∃g,pr=fk E g:=by
  intro fn pr hf
  unfold bq at hf
  split at hf
  ·split at hf
   ·cases hf
    exact .inr ⟨_,rfl⟩
   ·exact .inl hf
  ·exact .inl hf
 refine⟨fun fn pr hf vs h1 h2 v t he ha=>?_,fun fn pr hf vs h v t he=>?_,fun fn pr hf vs h v t he=>?_⟩
 ·rcases two fn pr hf with h|⟨g,rfl⟩
  ·exact hPL.loc fn pr h vs h1 h2 v t he ha
  ·obtain⟨x,rfl⟩:=mc he
   rw[← xQ (ha.whole rfl)]
   exact he
 ·rcases two fn pr hf with h'|⟨g,rfl⟩
  ·exact hPL.fit fn pr h' vs h v t he
  ·obtain⟨x,rfl⟩:=mc he
   exact⟨fun hp=>absurd rfl hp,fun i a hia=>by cases hia⟩
 ·rcases two fn pr hf with h'|⟨g,rfl⟩
  ·exact hPL.gf fn pr h' vs h v t he
  ·obtain⟨x,rfl⟩:=mc he
   rfl
theorem xR {A:Nat→Option aa} {n:Nat} (hPr:dS P N Pr) (hcode:jP P N M A Pr n) (hA:∀f fn,A f=some fn→∃an,u5 P N M (N f) an fn):dS P N (bq A (exec A Pr n) Pr):=by
 intro f pr hf L e W h w vs args v tn he hr hs hv
 unfold bq at hf
 split at hf
 ·rename_i fn hfn
  split at hf
  ·cases hf
   obtain⟨an,hok⟩:=hA f fn hfn
   exact Ad hcode hok he hr hs hv
  ·exact hPr f pr hf L e W h w vs args v tn he hr hs hv
 ·exact hPr f pr hf L e W h w vs args v tn he hr hs hv
end Go.Pv
namespace Go.Pv
variable {P:Program} {N M:Nat→Nat} {W:Nat→Prop} {L L':Lx} {e e':bc} {h:af} {w w':World} {Pr:bf}
theorem s9 {cs:List V} {v:Value} (hv:VR N L e w (.agg cs) v):∃arr:Array Value,v=.agg arr∧arr.toList.length=cs.length∧∀(j:Nat) (x:V),cs[j]?=some x→∃u,arr.toList[j]?=some u∧VR N L e w x u:=by
 cases hv with
 |agg _ arr hs hvv=>
  refine⟨arr,rfl,by simpa using hs,fun j x hj=>?_⟩
  have hlt:j<arr.size:=by rw[hs]; exact(Pg.1 hj).1
  exact⟨arr.getD j undef,by rw[Px]; exact aZ hlt,hvv j x hj⟩
theorem BU (hr:HR N L e W h w) (hL:∀b,L 0 b→L' 0 b) (hown:∀id,id<e.na→e.ak id≠0→L' 0 (e.ar id)) (hbox:∀s,e.sl s→L' 0 (e.bx s)) {slot off:Nat} {cs:List V} {l:List PV} (hs:aC slot h.bx=some cs) (hm:ax (aX h 4) (cs.drop off)=some l) {v:Value} (hv:VR N L e w (.ptr slot off) v):CR N L' w (.ro 0 l) v []:=by
 cases hv with
 |ptr _ _ hsl=>
  have hcell:∀(j:Nat) (c:PV),l[j]?=some c→c.perm=true∧∃v,w.cell? ⟨e.bx slot,off+j,none⟩=some v∧dB N L' w c v:=by
   intro j c hj
   obtain⟨x,k1,k2⟩:=bm hm j c hj
   rw[PM]at k1
   obtain⟨_,v,k3,k4⟩:=(hr.bx slot cs hs).2 (off+j) x k1
   obtain⟨i1,i2⟩:=kH hr hL 4 x c v k2 k4 (fun _=>hown)
   exact⟨i2,v,k3,i1⟩
  refine .ro l _ (fun c hc=>?_) (.ro 0 l (e.bx slot) off (fun j=>(w.cell? ⟨e.bx slot,off+j,none⟩).getD undef) (fun _=>.inl (hbox slot hsl)) (fun j c hj=>?_) (fun j c hj=>?_) (fun c hc=>?_))
  ·obtain⟨j,hj⟩:=Pk.1 hc
   exact(hcell j c hj).1
  ·obtain⟨_,v,k1,_⟩:=hcell j c hj
   simp[k1]
  ·obtain⟨_,v,k1,k2⟩:=hcell j c hj
   simp only[k1,Option.getD_some]
   exact k2
  ·obtain⟨j,hj⟩:=Pk.1 hc
   exact PV.u6 (hcell j c hj).1
theorem Ae (hr:HR N L e W h w) (hL:∀b,L 0 b→L' 0 b) {x:V} {p:PV} {v:Value} (hno:∀b∈dp e x.cells,∀t,¬L' t b) (hk:bW h true x=some p) (hv:VR N L e w x v):
  RR N L' w p v (dp e x.cells)∧∀id∈x.cells.filterMap fG,id<e.na∧e.ak id≠0:=by
 cases x with
 |agg cs=>
  simp only[bW,if_true]at hk
  cases hm:ax (eK h) cs with
  |none=>simp[hm]at hk
  |some l=>
   simp[hm]at hk
   subst hk
   obtain⟨arr,rfl,h1,h2⟩:=s9 hv
   obtain⟨k1,k2⟩:=py hr hL cs l arr.toList hno hm h1 h2
   exact⟨.agg l arr _ k1,k2⟩
 |pv q=>
  cases q with
  |ro t cs=>
   simp only[bW]at hk
   rw[if_neg (fun hh=>by cases hh.1)]at hk
   cases hk
  |_=>
   simp only[bW,if_true]at hk
   obtain⟨k1,k2⟩:=kL hr hL hno hk hv
   refine⟨.cell _ _ _ k1,fun id hid=>?_⟩
   obtain⟨y,hy1,hy2⟩:=QA.1 hid
   simp[V.cells]at hy1
   subst hy1
   exact k2 id hy2
 |_=>
  simp only[bW,if_true]at hk
  obtain⟨k1,k2⟩:=kL hr hL hno hk hv
  refine⟨.cell _ _ _ k1,fun id hid=>?_⟩
  obtain⟨y,hy1,hy2⟩:=QA.1 hid
  simp[V.cells]at hy1
  subst hy1
  exact k2 id hy2
theorem BV (hr:HR N L e W h w) (hL:∀b,L 0 b→L' 0 b) (hown:∀id,id<e.na→e.ak id≠0→L' 0 (e.ar id)) (hbox:∀s,e.sl s→L' 0 (e.bx s)) {x:V} {p:PV} {v:Value} (hk:bW h false x=some p) (hv:VR N L e w x v):RR N L' w p v []:=by
 cases x with
 |agg cs=>
  simp only[bW,Bool.false_eq_true,if_false]at hk
  cases hm:ax (aX h 4) cs with
  |none=>simp[hm]at hk
  |some l=>
   simp[hm]at hk
   subst hk
   obtain⟨arr,rfl,h1,h2⟩:=s9 hv
   exact .agg l arr _ (qP hr hL hown cs l arr.toList hm h1 h2)
 |ptr slot off=>
  simp only[bW,Bool.false_eq_true,if_false]at hk
  cases hs:aC slot h.bx with
  |none=>simp[hs]at hk
  |some cs=>
   simp only[hs]at hk
   cases hm:ax (aX h 4) (cs.drop off)with
   |none=>simp[hm]at hk
   |some l=>
    simp only[hm]at hk
    cases hk
    exact .cell _ _ _ (BU hr hL hown hbox hs hm hv)
 |pv q=>
  cases q with
  |ro t cs=>
   simp only[bW]at hk
   split at hk<;>first|(cases hk; done)|skip
   rename_i hc
   obtain⟨_,rfl,hp⟩:=hc
   cases hk
   have hp:∀c∈cs,c.perm=true:=fun c hc=>PI.1 hp c hc
   cases hv with
   |pv _ _ hq=>exact .cell _ _ _ (.ro cs _ hp (dB.OD hp hq fun b hb=>⟨hL b hb,rfl⟩))
  |_=>
   simp only[bW,Bool.false_eq_true,if_false]at hk
   exact .cell _ _ _ (mb hr hL hown hk hv)
 |_=>
  simp only[bW,Bool.false_eq_true,if_false]at hk
  exact .cell _ _ _ (mb hr hL hown hk hv)
theorem qU (hr:HR N L e W h w) (hL:∀b,L 0 b→L' 0 b):∀(xs:List V) (rs:List PV) (vals:List Value),(∀b∈(dR xs).map e.ar,∀t,¬L' t b)→ax (bW h true) xs=some rs→vals.length=xs.length→(∀(j:Nat) (x:V),xs[j]?=some x→∃u,vals[j]?=some u∧VR N L e w x u)→
  Bo N L' w rs vals ((dR xs).map e.ar)∧∀id∈dR xs,id<e.na∧e.ak id≠0
 |[],rs,vals,_,hm,hl,_=>by
  simp[ax]at hm
  subst hm
  have:vals=[]:=List.eq_nil_of_length_eq_zero (by simpa using hl)
  subst this
  exact⟨.nil,by simp[dR]⟩
 |x::xs,rs,vals,hno,hm,hl,hv=>by
  simp only[ax]at hm
  split at hm<;>first|(cases hm; done)|skip
  rename_i p pr hp hpr
  injection hm with hm
  subst hm
  match vals,hl with
  |v::vals,hl=>
   obtain⟨u,h1,h2⟩:=hv 0 x rfl
   simp at h1
   subst h1
   have hsplit:(dR (x::xs)).map e.ar=dp e x.cells++(dR xs).map e.ar:=by simp[dR,dp]
   rw[hsplit]at hno ⊢
   obtain⟨c1,c2⟩:=Ae hr hL (fun b hb=>hno b (PR _ hb)) hp h2
   obtain⟨d1,d2⟩:=qU hr hL xs pr vals (fun b hb=>hno b (List.mem_append_right _ hb)) hpr (by simpa using hl) (fun j y hj=>by simpa using hv (j+1) y (by simpa using hj))
   refine⟨.cons _ _ _ _ _ _ c1 d1,fun id hid=>?_⟩
   simp only[dR,List.mem_append]at hid
   rcases hid with hid|hid
   ·exact c2 id hid
   ·exact d2 id hid
theorem ta (hr:HR N L e W h w) (hL:∀b,L 0 b→L' 0 b) (hown:∀id,id<e.na→e.ak id≠0→L' 0 (e.ar id)) (hbox:∀s,e.sl s→L' 0 (e.bx s)):∀(xs:List V) (rs:List PV) (vals:List Value),ax (bW h false) xs=some rs→vals.length=xs.length→(∀(j:Nat) (x:V),xs[j]?=some x→∃u,vals[j]?=some u∧VR N L e w x u)→Bo N L' w rs vals []
 |[],rs,vals,hm,hl,_=>by
  simp[ax]at hm
  subst hm
  have:vals=[]:=List.eq_nil_of_length_eq_zero (by simpa using hl)
  subst this
  exact .nil
 |x::xs,rs,vals,hm,hl,hv=>by
  simp only[ax]at hm
  split at hm<;>first|(cases hm; done)|skip
  rename_i p pr hp hpr
  injection hm with hm
  subst hm
  match vals,hl with
  |v::vals,hl=>
   obtain⟨u,h1,h2⟩:=hv 0 x rfl
   simp at h1
   subst h1
   exact Bo.cons _ _ [] _ _ [] (BV hr hL hown hbox hp h2) (ta hr hL hown hbox xs pr vals hpr (by simpa using hl) (fun j y hj=>by simpa using hv (j+1) y (by simpa using hj)))
theorem kO:∀{l:List Nat},distinct l=true→l.Nodup
 |[],_=>List.nodup_nil
 |x::r,hd=>by
  simp only[distinct,Bool.and_eq_true,Bool.not_eq_true']at hd
  refine List.nodup_cons.2 ⟨fun hx=>?_,kO hd.2⟩
  have:=Qv.2 hx
  rw[hd.1]at this
  cases this
theorem tc {f:Nat→Nat}:∀{l:List Nat},l.Nodup→(∀a∈l,∀b∈l,f a=f b→a=b)→(l.map f).Nodup
 |[],_,_=>List.nodup_nil
 |x::r,hn,hf=>by
  obtain⟨h1,h2⟩:=List.nodup_cons.1 hn
  rw[List.map_cons]
  refine List.nodup_cons.2 ⟨fun hx=>?_,tc h2 (fun a ha b hb=>hf a (by simp[ha]) b (by simp[hb]))⟩
  obtain⟨y,hy1,hy2⟩:=PB.1 hx
  have:=hf y (by simp[hy1]) x (by simp) hy2
  subst this
  exact h1 hy1
theorem DJ (hr:HR N L e W h w):∀{xs:List V} {rs:List PV},ax (bW h true) xs=some rs→∀id∈dR xs,id<e.na∧e.ak id≠0:=by
 have hc:∀{x:V} {p:PV},eK h x=some p→∀id,fG x=some id→id<e.na∧e.ak id≠0:=by
  intro x p hk id hid
  cases x with
  |own id' aj off len=>
   simp[fG]at hid
   subst hid
   cases off with
   |succ off=>simp[eK]at hk
   |zero=>
    simp only[eK]at hk
    cases ho:aB h id' aj with
    |none=>simp[ho]at hk
    |some a=>
     simp only[ho]at hk
     split at hk<;>first|(cases hk; done)|skip
     split at hk<;>first|(cases hk; done)|skip
     rename_i hk0
     obtain⟨ho1,_⟩:=bl ho
     exact⟨by rw[hr.na]; exact(Pg.1 ho1).1,by rw[(hr.aj id' a ho1).2.1]; exact hk0⟩
  |_=>simp[fG]at hid
 intro xs
 induction xs with
 |nil=>intro rs _ id hid; simp[dR]at hid
 |cons x xs ih=>
  intro rs hm id hid
  simp only[ax]at hm
  split at hm<;>first|(cases hm; done)|skip
  rename_i p pr hp hpr
  simp only[dR,List.mem_append]at hid
  rcases hid with hid|hid
  ·obtain⟨y,hy1,hy2⟩:=QA.1 hid
   cases x with
   |agg cs=>
    simp only[bW,if_true]at hp
    cases hmm:ax (eK h) cs with
    |none=>simp[hmm]at hp
    |some l=>
     obtain⟨j,hj⟩:=Pk.1 (show y∈cs from hy1)
     obtain⟨q,_,hq⟩:=mL hmm j y hj
     exact hc hq id hy2
   |ptr s o=>simp[bW]at hp
   |pv q=>
    simp[V.cells]at hy1
    subst hy1
    simp[fG]at hy2
   |_=>
    simp only[bW,if_true]at hp
    simp[V.cells]at hy1
    subst hy1
    exact hc hp id hy2
  ·exact ih hpr id hid
theorem pz {T:Option Nat} {nt:Nat} {L0:Lx} {e0:bc} {w0:World} {s:St} {a:Act} {fn:aa} {go:Func} (hs:FS N (Wc w0 T) nt L0 e0 w0 s a w) (hrv:ax (qo P) go.results.toList=some fn.results) {rs:List PV} (hl:leave fn s=some rs):
  ∃v,(results go a.tmps).run P w=.ok v w∧BE N L0 w0 T rs v w:=by
 obtain⟨L,e,hsr,hf,h1,h2,_⟩:=hs
 unfold leave at hl
 split at hl<;>first|(cases hl; done)|skip
 rename_i xs hxs
 split at hl<;>first|(cases hl; done)|skip
 rename_i hcond
 obtain⟨vals,r1,r2,r3⟩:=px hsr hrv hxs
 refine⟨qE vals,r1,?_⟩
 have hr:=hsr.hr
 cases hfr:fn.fresh with
 |false=>
  rw[hfr]at hl
  let L1:Lx:=fun t b=>L t b∨(t=0∧Wc w0 T b∧b<w.heap.size)
  refine⟨L1,[],vals,hf,fun t b hb=>.inl (h1 t b hb),fun t b hb=>?_,fun t b hb=>?_,?_,List.nodup_nil,by simp,rfl⟩
  ·rcases hb with hb|⟨h3,h4,_⟩
   ·exact h2 t b hb
   ·exact .inr ⟨h3,h4⟩
  ·rcases hb with hb|⟨_,_,h5⟩
   ·exact hr.lU t b hb
   ·exact h5
  ·exact ta (L':=L1) hr (fun b hb=>.inl hb) (fun id hi hk=>.inr ⟨rfl,(hr.lS id hi hk).1,hr.gC hi hk⟩) (fun s hs=>.inr ⟨rfl,(hr.sh s hs).1,hr.j9 hs⟩) xs rs vals hl r2 r3
 |true=>
  rw[hfr]at hl hcond
  simp only[Bool.not_true,Bool.false_or]at hcond
  let bs:List Nat:=(dR xs).map e.ar
  let L1:Lx:=fun t b=>(L t b∨(t=0∧Wc w0 T b∧b<w.heap.size))∧b∉bs
  -- the blocks of what is given away are no one's
  have hids:∀id∈dR xs,id<e.na∧e.ak id≠0:=DJ hr hl
  have hfree:∀b∈bs,Wc w0 T b∧∀t,¬L t b:=fun b hb=>by
   obtain⟨id,hid,rfl⟩:=PB.1 hb
   exact⟨(hr.lS id (hids id hid).1 (hids id hid).2).1,(hr.lS id (hids id hid).1 (hids id hid).2).2⟩
  refine⟨L1,bs,vals,hf,fun t b hb=>⟨.inl (h1 t b hb),fun hbb=>(hfree b hbb).2 t (h1 t b hb)⟩,fun t b hb=>?_,fun t b hb=>?_,?_,?_,fun b hb=>(hfree b hb).1,rfl⟩
  ·rcases hb.1 with hb|⟨h3,h4,_⟩
   ·exact h2 t b hb
   ·exact .inr ⟨h3,h4⟩
  ·rcases hb.1 with hb|⟨_,_,h5⟩
   ·exact hr.lU t b hb
   ·exact h5
  ·exact(qU (L':=L1) hr (fun b hb=>⟨.inl hb,fun hbb=>(hfree b hbb).2 0 hb⟩) xs rs vals (fun b hb t ht=>ht.2 hb) hl r2 r3).1
  ·exact tc (kO hcond) (fun i hi j hj heq=>hr.ud i j (hids i hi).1 (hids j hj).1 (hids i hi).2 (hids j hj).2 heq)
theorem vT {A:Nat→Option aa} {n:Nat} (hcode:jP P N M A Pr n) (hA:∀f fn,A f=some fn→∃an,u5 P N M (N f) an fn):BS P N A Pr n:=by
 intro f ps rs hcall
 unfold cP at hcall
 split at hcall<;>first|(cases hcall; done)|skip
 rename_i fn hfn
 obtain⟨an,go,code,f1,f2,f3,f4,f5,f6⟩:=hA f fn hfn
 unfold yQ at hcall
 split at hcall<;>first|(cases hcall; done)|skip
 rename_i hargs
 intro L w T args hlsz htab har
 refine .inr ⟨by simp only[beq_eq_false_iff_ne,ne_eq]at f3; simp[callFunc,f1,f2,f3],?_⟩
 refine calls_of_wp f1 f2 ?_
 obtain⟨e,e1,e2⟩:=Aa hlsz htab har
 have hlen:args.size=ps.length:=by
  have:args.toList.length=ps.length:=by
   generalize args.toList=al at har
   cases har with
   |plain _ _ hl _=>exact hl
   |take _ _ _ _ _ _ _ hl _=>simp[hl]
  simpa using this
 have hst:FS N (Wc w T) go.ntmps L e w ⟨entry 0 ps,cC ps⟩ { tmps:=args++Array.replicate (go.ntmps - args.size) undef,defers:=[] } w:=by
  refine⟨L,e,⟨e1,fun t=>?_,?_,rfl⟩,Fr.refl _ _,fun _ _ hb=>hb,fun _ _ hb=>.inl hb,(Ext.refl _ _ _).x⟩
  ·rw[s6]
   simp only[Nat.zero_le,if_true,Nat.sub_zero]
   cases hp:ps[t]? with
   |none=>exact .any _
   |some p=>
    obtain⟨v,h1,h2⟩:=e2 t p hp
    have hlt:t<args.size:=by rw[hlen]; exact(Pg.1 hp).1
    have:(args++Array.replicate (go.ntmps - args.size) undef).getD t undef=v:=by
     apply bP
     rw[Array.toList_append,List.getElem?_append_left (by simpa using hlt)]
     exact h1
    show VR N L e w (V.iK p) _
    rw[this]
    exact h2
  ·simp
   omega
 split at hcall<;>first|(cases hcall; done)|skip
 ·rename_i s' hex
  refine wp_mono (hcode go.ntmps code an fn.body [] f5 (Wc w T) L e w _ _ s' _ w hex hst) fun xx a1 w1 hq=>?_
  obtain⟨rfl,hs1⟩:=hq
  obtain⟨v,r1,r2⟩:=pz hs1 f6 hcall
  exact⟨hs1.choose_spec.choose_spec.1.defers,v,r1,r2⟩
 ·rename_i s' hex
  refine wp_mono (hcode go.ntmps code an fn.body [] f5 (Wc w T) L e w _ _ s' _ w hex hst) fun xx a1 w1 hq=>?_
  obtain⟨rfl,hs1⟩:=hq
  obtain⟨v,r1,r2⟩:=pz hs1 f6 hcall
  exact⟨hs1.choose_spec.choose_spec.1.defers,v,r1,r2⟩
theorem sound (hm:P.follows .mixedOrders=true) (hPL:cK Pr) (hPr:dS P N Pr) {A:Nat→Option aa} (hA:∀f fn,A f=some fn→∃an,u5 P N M (N f) an fn):∀n,(∀j,j≤n→jP P N M A Pr j)∧BS P N A Pr n:=by
 have zero:jP P N M A Pr 0:=fun nt code an ac an' _ W L0 e0 w0 s ex s' a w he _=>by simp[exec]at he
 intro n
 induction n with
 |zero=>
  have hall:∀j,j≤0→jP P N M A Pr j:=fun j hj=>by
   obtain rfl:j=0:=by omega
   exact zero
  exact⟨hall,vT zero hA⟩
 |succ n ih=>
  have hstep:=zY hm n (vS A _ hPL) (xR hPr (ih.1 n (Pu _)) hA) ih.1 ih.2
  refine⟨fun j hj=>?_,vT hstep hA⟩
  rcases Po j (n+1)with h1|h1
  ·exact ih.1 j (by omega)
  ·obtain rfl:j=n+1:=by omega
   exact hstep
end Go.Pv
namespace Go.Pv
variable {A:Nat→Option aa} {Pr:bf}
def JA (Φ Φ':Nat→List PV→Option (List PV)):Prop:=∀f ps rs,Φ f ps=some rs→Φ' f ps=some rs
def DK (Pr Pr':bf):Prop:=∀f,match Pr f with
 |some pr=>∃pr',Pr' f=some pr'∧∀vs h r,pr vs h=some r→pr' vs h=some r
 |none=>Pr' f=none
theorem DK.refl (Pr:bf):DK Pr Pr:=fun f=>by
 cases h:Pr f with
 |none=>rfl
 |some pr=>exact⟨pr,rfl,fun _ _ _ hh=>hh⟩
theorem uy {Φ Φ':Nat→List PV→Option (List PV)} {Pr':bf} (hle:JA Φ Φ') (hp:DK Pr Pr') {Tk:Nat→Bool} {g:bz→V} {h:af} {q:da} {r:V×Tn} (he:evalOp Φ Pr Tk g h q=some r):evalOp Φ' Pr' Tk g h q=some r:=by
 cases q with
 |call f args=>
  simp only[evalOp]at he ⊢
  split at he<;>first|(cases he; done)|skip
  rename_i fn cap _
  have hf:=hp fn
  split at he
  ·rename_i pr hpr
   rw[hpr]at hf
   obtain⟨pr',h1,h2⟩:=hf
   rw[h1]
   exact h2 _ _ _ he
  ·rename_i hpr
   rw[hpr]at hf
   rw[hf]
   split at he<;>first|(cases he; done)|skip
   split at he<;>first|(cases he; done)|skip
   rename_i rs hrs
   rw[hle _ _ _ hrs]
   exact he
 |_=>exact he
theorem p7 {Φ Φ':Nat→List PV→Option (List PV)} {Pr':bf} (hle:JA Φ Φ') (hp:DK Pr Pr') {Tk:Nat→Bool} {o:ay} {s:St} {r:St×Tn} (he:bj Φ Pr Tk o s=some r):bj Φ' Pr' Tk o s=some r:=by
 unfold bj at he ⊢
 split at he
 ·cases he
 ·exact he
 ·split at he<;>first|(cases he; done)|skip
  rename_i v t hev
  rw[uy hle hp hev]
  exact he
theorem xS {Φ Φ':Nat→List PV→Option (List PV)} {Pr':bf} (hle:JA Φ Φ') (hp:DK Pr Pr') {Tk:Nat→Bool}:∀{l:List ay} {s s':St},dL Φ Pr Tk l s=some s'→dL Φ' Pr' Tk l s=some s'
 |[],s,s',he=>he
 |o::r,s,s',he=>by
  simp only[dL]at he ⊢
  split at he<;>first|(cases he; done)|skip
  rename_i hst
  rw[p7 hle hp hst]
  exact xS hle hp he
theorem p8 {Φ Φ':Nat→List PV→Option (List PV)} {Pr':bf} (hle:JA Φ Φ') (hp:DK Pr Pr') {Tk:Nat→Bool}:∀{l:List (ay×List Nat)} {done:List Tn} {s s':St},cx Φ Pr Tk l done s=some s'→cx Φ' Pr' Tk l done s=some s'
 |[],_,s,s',he=>he
 |(o,un)::r,done,s,s',he=>by
  simp only[cx]at he ⊢
  split at he<;>first|(cases he; done)|skip
  rename_i hst
  rw[p7 hle hp hst]
  simp only
  split at he<;>first|(cases he; done)|skip
  rename_i hh
  rw[if_pos hh]
  exact p8 hle hp he
def Hz (E E':AC→St→Option (Ex×St)):Prop:=∀c s r,E c s=some r→E' c s=some r
theorem jR {E E':AC→St→Option (Ex×St)} (hle:Hz E E'):DK (bq A E Pr) (bq A E' Pr):=by
 intro f
 unfold bq
 cases hf:A f with
 |none=>exact DK.refl Pr f
 |some fn=>
  simp only
  by_cases hi:fn.inl=true
  ·rw[if_pos hi,if_pos hi]
   refine⟨_,rfl,fun vs h r he=>?_⟩
   unfold fk at he ⊢
   split at he<;>first|(cases he; done)|skip
   rename_i hn
   rw[if_pos hn]
   split at he<;>first|(cases he; done)|skip
   split at he<;>first|(cases he; done)|skip
   all_goals
    rename_i hex
    rw[hle _ _ _ hex]
    exact he
  ·rw[if_neg hi,if_neg hi]
   exact DK.refl Pr f
theorem fw {E E':AC→St→Option (Ex×St)} (hle:Hz E E'):JA (cP A E) (cP A E'):=by
 intro f ps rs he
 unfold cP at he ⊢
 split at he<;>first|(cases he; done)|skip
 rename_i fn hfn
 unfold yQ at he ⊢
 split at he<;>first|(cases he; done)|skip
 rename_i hc
 rw[if_pos hc]
 split at he<;>first|(cases he; done)|skip
 all_goals
  rename_i hex
  rw[hle _ _ _ hex]
  exact he
theorem BW {E E':AC→St→Option (Ex×St)} (hle:Hz E E'):Hz (bK A Pr E) (bK A Pr E'):=by
 intro c s r he
 cases c with
 |skip=>exact he
 |exit id=>exact he
 |ret=>exact he
 |mask kt kb a=>exact hle _ _ _ he
 |region ops kt kb=>
  simp only[bK]at he ⊢
  split at he<;>first|(cases he; done)|skip
  rename_i hex
  rw[xS (fw hle) (jR hle) hex]
  exact he
 |draw ops kt kb=>
  simp only[bK]at he ⊢
  split at he<;>first|(cases he; done)|skip
  rename_i hex
  rw[p8 (fw hle) (jR hle) hex]
  exact he
 |sg n ops kt kb=>
  simp only[bK]at he ⊢
  split at he<;>first|(cases he; done)|skip
  rename_i hex
  rw[p8 (fw hle) (jR hle) hex]
  exact he
 |cond x a b=>
  simp only[bK]at he ⊢
  split at he<;>first|(cases he; done)|exact hle _ _ _ he
 |seq a b=>
  simp only[bK]at he ⊢
  cases ha:E a s with
  |none=>simp[ha]at he
  |some q=>
   obtain⟨ex,s1⟩:=q
   rw[hle _ _ _ ha]
   rw[ha]at he
   cases ex with
   |normal=>exact hle _ _ _ he
   |exit id=>exact he
   |ret=>exact he
 |block id a=>
  simp only[bK]at he ⊢
  cases ha:E a s with
  |none=>simp[ha]at he
  |some q=>
   rw[hle _ _ _ ha]
   rw[ha]at he
   exact he
 |loop a=>
  simp only[bK]at he ⊢
  cases ha:E a s with
  |none=>simp[ha]at he
  |some q=>
   obtain⟨ex,s1⟩:=q
   rw[hle _ _ _ ha]
   rw[ha]at he
   cases ex with
   |normal=>exact hle _ _ _ he
   |exit id=>exact he
   |ret=>exact he
theorem Af (n:Nat):Hz (exec A Pr n) (exec A Pr (n+1)):=by
 induction n with
 |zero=>intro c s r he; simp[exec]at he
 |succ n ih=>exact BW ih
theorem cU {m n:Nat} (hmn:m≤n):Hz (exec A Pr m) (exec A Pr n):=by
 induction hmn with
 |refl=>exact fun _ _ _ h=>h
 |step _ ih=>exact fun c s r h=>Af _ c s r (ih c s r h)
def cb (A:Nat→Option aa) (Pr:bf) (c:AC) (s:St) (ex:Ex) (s':St):Prop:=∃n,exec A Pr n c s=some (ex,s')
def fK (A:Nat→Option aa) (Pr:bf) (f:Nat) (ps rs:List PV):Prop:=∃n,cP A (exec A Pr n) f ps=some rs
def gJ (A:Nat→Option aa) (Pr:bf) (ops:List ay) (s s':St):Prop:=∃n,dL (cP A (exec A Pr n)) (bq A (exec A Pr n) Pr) (dF A) ops s=some s'
def fx (A:Nat→Option aa) (Pr:bf) (ops:List (ay×List Nat)) (done:List Tn) (s s':St):Prop:=∃n,cx (cP A (exec A Pr n)) (bq A (exec A Pr n) Pr) (dF A) ops done s=some s'
theorem cb.skip (s:St):cb A Pr .skip s .normal s:=⟨1,rfl⟩
theorem cb.exit (id:Nat) (s:St):cb A Pr (.exit id) s (.exit id) s:=⟨1,rfl⟩
theorem cb.ret (s:St):cb A Pr .ret s .ret s:=⟨1,rfl⟩
theorem cb.mask {kt kb:List Nat} {a:AC} {s s':St} {ex:Ex} (h:cb A Pr a (s.mask kt kb) ex s'):cb A Pr (.mask kt kb a) s ex s':=by
 obtain⟨n,hn⟩:=h
 exact⟨n+1,hn⟩
theorem cb.seq {a b:AC} {s s1 s':St} {ex:Ex} (h1:cb A Pr a s .normal s1) (h2:cb A Pr b s1 ex s'):cb A Pr (.seq a b) s ex s':=by
 obtain⟨n,hn⟩:=h1
 obtain⟨m,hm⟩:=h2
 refine⟨max n m+1,?_⟩
 show bK A Pr (exec A Pr (max n m)) (.seq a b) s=_
 simp only[bK,cU (Nat.le_max_left n m) _ _ _ hn,cU (Nat.le_max_right n m) _ _ _ hm]
theorem cb.y7 {a b:AC} {s s1:St} {ex:Ex} (h1:cb A Pr a s ex s1) (hx:ex≠.normal):cb A Pr (.seq a b) s ex s1:=by
 obtain⟨n,hn⟩:=h1
 refine⟨n+1,?_⟩
 show bK A Pr (exec A Pr n) (.seq a b) s=_
 cases ex<;>simp_all [bK]
theorem cb.cond {c:bz} {a b:AC} {s s':St} {ex:Ex} {t:Bool} (hc:bg s.env c=.pv (.bool t)) (h:cb A Pr (if t then a else b) s ex s'):cb A Pr (.cond c a b) s ex s':=by
 obtain⟨n,hn⟩:=h
 refine⟨n+1,?_⟩
 show bK A Pr (exec A Pr n) (.cond c a b) s=_
 cases t<;>simpa [bK,hc]using hn
theorem cb.block {id:Nat} {a:AC} {s s':St} {ex:Ex} (h:cb A Pr a s ex s'):cb A Pr (.block id a) s (match ex with|.exit j=>if j=id then .normal else .exit j|e=>e) s':=by
 obtain⟨n,hn⟩:=h
 refine⟨n+1,?_⟩
 show bK A Pr (exec A Pr n) (.block id a) s=_
 cases ex with
 |exit j=>
  simp only[bK,hn]
  by_cases hj:j=id<;>simp[hj]
 |_=>simp[bK,hn]
theorem cb.td {a:AC} {s s1 s':St} {ex:Ex} (h1:cb A Pr a s .normal s1) (h2:cb A Pr (.loop a) s1 ex s'):cb A Pr (.loop a) s ex s':=by
 obtain⟨n,hn⟩:=h1
 obtain⟨m,hm⟩:=h2
 refine⟨max n m+1,?_⟩
 show bK A Pr (exec A Pr (max n m)) (.loop a) s=_
 simp only[bK,cU (Nat.le_max_left n m) _ _ _ hn,cU (Nat.le_max_right n m) _ _ _ hm]
theorem cb.gj {a:AC} {s s':St} {ex:Ex} (h:cb A Pr a s ex s') (hx:ex≠.normal):cb A Pr (.loop a) s ex s':=by
 obtain⟨n,hn⟩:=h
 refine⟨n+1,?_⟩
 show bK A Pr (exec A Pr n) (.loop a) s=_
 cases ex<;>simp_all [bK]
theorem cb.region {ops:List ay} {kt kb:List Nat} {s s':St} (h:gJ A Pr ops s s'):cb A Pr (.region ops kt kb) s .normal (s'.mask kt kb):=by
 obtain⟨n,hn⟩:=h
 exact⟨n+1,by show bK A Pr (exec A Pr n) _ _=_; simp only[bK,hn]⟩
theorem cb.draw {ops:List (ay×List Nat)} {kt kb:List Nat} {s s':St} (h:fx A Pr ops [] s s'):cb A Pr (.draw ops kt kb) s .normal (s'.mask kt kb):=by
 obtain⟨n,hn⟩:=h
 exact⟨n+1,by show bK A Pr (exec A Pr n) _ _=_; simp only[bK,hn]⟩
theorem fK.of {f:Nat} {fn:aa} {ps rs:List PV} {ex:Ex} {s':St} (hf:A f=some fn) (hl:ps.length=fn.nX) (ha:n9 fn.take ps=true) (hr:cb A Pr fn.body ⟨entry 0 ps,cC ps⟩ ex s') (hx:ex=.normal∨ex=.ret) (hv:leave fn s'=some rs):fK A Pr f ps rs:=by
 obtain⟨n,hn⟩:=hr
 refine⟨n,?_⟩
 simp only[cP,hf,yQ,hl,ha,and_self,if_true,hn]
 rcases hx with rfl|rfl<;>exact hv
theorem fK.sound {P:Program} {N M:Nat→Nat} (hm:P.follows .mixedOrders=true) (hPL:cK Pr) (hPr:dS P N Pr) (hA:∀f fn,A f=some fn→∃an,u5 P N M (N f) an fn) {f:Nat} {ps rs:List PV} (h:fK A Pr f ps rs):sO P N f ps rs:=by
 obtain⟨n,hn⟩:=h
 exact(Pv.sound hm hPL hPr hA n).2 f ps rs hn
theorem gJ.nil (s:St):gJ A Pr [] s s:=⟨0,rfl⟩
theorem gJ.cons {o:ay} {r:List ay} {s s1 s':St} {t:Tn} {n:Nat} (h1:bj (cP A (exec A Pr n)) (bq A (exec A Pr n) Pr) (dF A) o s=some (s1,t)) (h2:gJ A Pr r s1 s'):gJ A Pr (o::r) s s':=by
 obtain⟨m,hm⟩:=h2
 refine⟨max n m,?_⟩
 simp only[dL,p7 (fw (cU (Nat.le_max_left n m))) (jR (cU (Nat.le_max_left n m))) h1]
 exact xS (fw (cU (Qi n m))) (jR (cU (Qi n m))) hm
theorem fx.nil (done:List Tn) (s:St):fx A Pr [] done s s:=⟨0,rfl⟩
theorem fx.cons {o:ay} {un:List Nat} {r:List (ay×List Nat)} {done:List Tn} {s s1 s':St} {t:Tn} {n:Nat} (h1:bj (cP A (exec A Pr n)) (bq A (exec A Pr n) Pr) (dF A) o s=some (s1,t)) (hh:eb un t done=true) (h2:fx A Pr r (done++[t]) s1 s'):fx A Pr ((o,un)::r) done s s':=by
 obtain⟨m,hm⟩:=h2
 refine⟨max n m,?_⟩
 simp only[cx,p7 (fw (cU (Nat.le_max_left n m))) (jR (cU (Nat.le_max_left n m))) h1,hh,if_true]
 exact p8 (fw (cU (Qi n m))) (jR (cU (Qi n m))) hm
end Go.Pv
namespace Go.Pv
variable {P:Program} {N:Nat→Nat} {w:World}
def BX (N:Nat→Nat) (w:World):Prop:=∀g,N 1000000=100000+g→∃ty z,w.heap[g]?=some (.cells u7 ty z)
theorem BX.none {N:Nat→Nat} {w:World} (h:N 1000000<100000):BX N w:=fun g hg=>by omega
def oA (w:World):Lx:=fun t b=>(t=0∨t=7777)∧b<w.heap.size
theorem BX.oA {N:Nat→Nat} {w:World} (h:BX N w):qp N (oA w) w:=fun g hg=>by
 obtain⟨ty,z,h1⟩:=h g hg
 exact⟨⟨.inr rfl,(Pz.1 h1).1⟩,ty,z,h1⟩
def plainData (P:Program):Nat→TypeId→Bool
 |0,_=>false
 |n+1,t=>match P.underlying t with
  |some .bool=>true
  |some (.int _)=>true
  |some .string=>true
  |some (.slice e)=>plainData P n e&&decide (0<P.cellsOf e)
  |some (.struct fs)=>iT P 0 fs.toList&&(fs.toList.all fun f=>plainData P n f.type&&(cQ P f.type).isSome)&&((fs.toList.map fun f=>P.cellsOf f.type).sum==P.cellsOf t)
  |some (.array m e)=>plainData P n e&&m*P.cellsOf e==P.cellsOf t
  |_=>false
def typed (P:Program):Nat→TypeId→List PV→Prop
 |0,_,_=>False
 |n+1,t,cs=>match P.underlying t with
  |some .bool=>∃b,cs=[.bool b]
  |some (.int k)=>∃x,cs=[.int k x]∧k.min≤x∧x≤k.max
  |some .string=>∃s,cs=[.str s]∧s.size≤maxLen
  |some (.slice e)=>∃rows,cs=[.ae 0 rows]∧rows.length≤maxLen∧∀r∈rows,typed P n e r
  |some (.struct fs)=>∃parts:List (List PV),parts.length=fs.size∧cs=parts.flatten∧∀(i:Nat) (f:Field) (r:List PV),fs[i]?=some f→parts[i]?=some r→typed P n f.type r
  |some (.array m e)=>∃parts:List (List PV),parts.length=m∧cs=parts.flatten∧∀r∈parts,typed P n e r
  |_=>False
def gk (N:Nat→Nat) (w:World) (ps:List PV) (cs:List Value):Prop:=ps.length=cs.length∧∀(j:Nat) (c:PV) (v:Value),ps[j]?=some c→cs[j]?=some v→dB N (oA w) w c v∧c.perm=true
theorem gk.nil:gk N w [] []:=⟨rfl,fun j c v hj=>by simp at hj⟩
theorem gk.one {c:PV} {v:Value} (h:dB N (oA w) w c v) (hp:c.perm=true):gk N w [c] [v]:=by
 refine⟨rfl,fun j c' v' hj hv=>?_⟩
 match j,hj with
 |0,hj=>simp at hj hv; subst hj; subst hv; exact⟨h,hp⟩
 |j+1,hj=>simp at hj
theorem gk.append {p q:List PV} {a b:List Value} (h:gk N w p a) (k:gk N w q b):gk N w (p++q) (a++b):=by
 refine⟨by simp[h.1,k.1],fun j c v hj hv=>?_⟩
 rcases Po j p.length with h1|h1
 ·rw[Pl h1]at hj
  rw[Pl (by rw[← h.1]; exact h1)]at hv
  exact h.2 j c v hj hv
 ·rw[PA h1]at hj
  rw[PA (by rw[← h.1]; exact h1)]at hv
  rw[← h.1]at hv
  exact k.2 _ c v hj hv
theorem xT {t:TypeId} (_hs:(cQ P t).isSome=true):(cQ P t).getD 0=P.cellsOf t:=by
 unfold cQ at _hs ⊢
 unfold Program.cellsOf
 rfl
theorem oB {base:Nat} {a:Addr} {n:Nat} {cs:List Value} (hc:w.cells? base a n=some cs):cs.length=n∧∀(j:Nat) (v:Value),cs[j]?=some v→w.cell? (a.add j)=some v:=by
 unfold World.cells? at hc
 split at hc<;>first|(cases hc; done)|skip
 have gen:∀(l:List Nat) (cs:List Value),l.mapM (fun i=>w.cell? (a.add i))=some cs→cs.length=l.length∧∀(j:Nat) (v:Value) (i:Nat),cs[j]?=some v→l[j]?=some i→w.cell? (a.add i)=some v:=by
  intro l
  induction l with
  |nil=>intro cs h; simp at h; subst h; exact⟨rfl,fun j v i hj=>by simp at hj⟩
  |cons x l ih=>
   intro cs h
   rw[List.mapM_cons]at h
   simp only[bind,Option.bind_eq_some_iff,pure,Option.some.injEq]at h
   obtain⟨y,h1,ys,h2,rfl⟩:=h
   obtain⟨k1,k2⟩:=ih ys h2
   refine⟨by simp[k1],fun j v i hj hi=>?_⟩
   match j,hj,hi with
   |0,hj,hi=>simp at hj hi; subst hj; subst hi; exact h1
   |j+1,hj,hi=>exact k2 j v i (by simpa using hj) (by simpa using hi)
 obtain⟨k1,k2⟩:=gen _ _ hc
 refine⟨by simpa using k1,fun j v hj=>k2 j v j hj ?_⟩
 have hlt:j<n:=by have:=(List.getElem?_eq_some_iff.1 hj).1; rw[k1]at this; simpa using this
 simp[hlt]
theorem add_add (a:Addr) (ha:a.spot=none) (n j:Nat):(a.add n).add j=⟨a.block,a.off+(n+j),none⟩:=by
 obtain⟨b,o,s⟩:=a
 simp only at ha
 subst ha
 rw[dH,dH,P8]
theorem ni {α β:Type} {f:α→Option β}:∀{l:List α} {r:List β},l.mapM f=some r→r.length=l.length∧∀(j:Nat) (x:α),l[j]?=some x→∃y,r[j]?=some y∧f x=some y
 |[],r,h=>by simp at h; subst h; exact⟨rfl,fun j x hj=>by simp at hj⟩
 |a::l,r,h=>by
  rw[List.mapM_cons]at h
  simp only[bind,Option.bind_eq_some_iff,pure,Option.some.injEq]at h
  obtain⟨y,h1,ys,h2,rfl⟩:=h
  obtain⟨k1,k2⟩:=ni h2
  refine⟨by simp[k1],fun j x hj=>?_⟩
  match j,hj with
  |0,hj=>simp at hj; subst hj; exact⟨y,rfl,h1⟩
  |j+1,hj=>simpa using k2 j x (by simpa using hj)
theorem iP {α β:Type} (Q:Nat→α→β→Prop):∀(l:List α),(∀(j:Nat) (x:α),l[j]?=some x→∃y,Q j x y)→∃r:List β,r.length=l.length∧∀(j:Nat) (x:α) (y:β),l[j]?=some x→r[j]?=some y→Q j x y
 |[],_=>⟨[],rfl,fun j x y hj=>by simp at hj⟩
 |a::l,h=>by
  obtain⟨y,hy⟩:=h 0 a rfl
  obtain⟨r,h1,h2⟩:=iP (fun j=>Q (j+1)) l (fun j x hj=>h (j+1) x (by simpa using hj))
  refine⟨y::r,by simp[h1],fun j x z hj hz=>?_⟩
  match j,hj,hz with
  |0,hj,hz=>simp at hj hz; subst hj; subst hz; exact hy
  |j+1,hj,hz=>exact h2 j x z (by simpa using hj) (by simpa using hz)
theorem qV {cs:List Value}:∀(fs:List Field) (o:Nat) (parts:List (List PV)),iT P o fs=true→(∀f∈fs,(cQ P f.type).isSome=true)→parts.length=fs.length→o+(fs.map fun f=>P.cellsOf f.type).sum=cs.length→
  (∀(i:Nat) (f:Field) (r:List PV),fs[i]?=some f→parts[i]?=some r→gk N w r ((cs.drop f.offset).take (P.cellsOf f.type)))→gk N w parts.flatten (cs.drop o)
 |[],o,parts,_,_,hl,hsum,_=>by
  have:parts=[]:=List.eq_nil_of_length_eq_zero (by simpa using hl)
  subst this
  simp only[List.map_nil,List.sum_nil,Nat.add_zero]at hsum
  rw[hsum,List.drop_length]
  exact gk.nil
 |f::fs,o,parts,ho,hs,hl,hsum,hr=>by
  match parts,hl with
  |p::parts,hl=>
   simp only[iT,Bool.and_eq_true,beq_iff_eq]at ho
   obtain⟨rfl,ho2⟩:=ho
   rw[xT (hs f (by simp))]at ho2
   simp only[List.map_cons,List.sum_cons]at hsum
   have h1:=hr 0 f p rfl rfl
   have h2:=qV fs (f.offset+P.cellsOf f.type) parts ho2 (fun q hq=>hs q (by simp[hq])) (by simpa using hl) (by omega) (fun i f' r hf hp=>hr (i+1) f' r (by simpa using hf) (by simpa using hp))
   have h3:=h1.append h2
   rw[← List.drop_drop,Qj]at h3
   exact h3
theorem te {cs:List Value} {k:Nat}:∀(m o:Nat) (parts:List (List PV)),parts.length=m→(o+m)*k=cs.length→(∀(i:Nat) (r:List PV),parts[i]?=some r→gk N w r ((cs.drop ((o+i)*k)).take k))→gk N w parts.flatten (cs.drop (o*k))
 |0,o,parts,hl,hsum,_=>by
  have:parts=[]:=PC hl
  subst this
  rw[QH]at hsum
  rw[hsum,List.drop_length]
  exact gk.nil
 |m+1,o,parts,hl,hsum,hr=>by
  match parts,hl with
  |p::parts,hl=>
   have h1:=hr 0 p rfl
   have h2:=te (cs:=cs) (k:=k) m (o+1) parts (by simpa using hl) (by rw[← hsum]; congr 1; omega) (fun i r hi=>by
    have:=hr (i+1) r (by simpa using hi)
    rw[show o+1+i=o+(i+1) by omega]
    exact this)
   rw[QH]at h1
   have h3:=h1.append h2
   rw[Nat.succ_mul,← List.drop_drop,Qj]at h3
   exact h3
theorem xU {a:Addr} {v:Value} (hc:w.cell? a=some v):a.spot=none∧a.block<w.heap.size:=by
 unfold World.cell? at hc
 split at hc<;>first|(cases hc; done)|skip
 rename_i c x y hh
 split at hc<;>first|(cases hc; done)|skip
 rename_i hs
 exact⟨by simpa using hs,(Array.getElem?_eq_some_iff.1 hh).1⟩
theorem FP {a:Addr} {len cap k base:Nat} (hk:0<k) (hlc:len≤cap) {Ty:List PV→Prop}
  (he:∀i,i<len→∃cs,w.cells? base (a.add (i*k)) k=some cs∧∃ps,Ty ps∧gk N w ps cs):
  ∃rows:List (List PV),rows.length=len∧(∀r∈rows,Ty r)∧dB N (oA w) w (.ae 0 rows) (.slice (some a) rows.length cap):=by
 obtain⟨rows,h1,h2⟩:=iP (fun i (_:Nat) (ps:List PV)=>∃cs,w.cells? base (a.add (i*k)) k=some cs∧Ty ps∧gk N w ps cs) (List.range len) (fun j x hj=>by
  have hjl:j<len:=by have:=(List.getElem?_eq_some_iff.1 hj).1; simpa using this
  obtain⟨cs,k1,ps,k2,k3⟩:=he j hjl
  exact⟨ps,cs,k1,k2,k3⟩)
 have hrl:rows.length=len:=by simpa using h1
 have hrow:∀(i:Nat) (r:List PV),rows[i]?=some r→∃cs,w.cells? base (a.add (i*k)) k=some cs∧Ty r∧gk N w r cs:=fun i r hi=>by
  have hlt:i<len:=by rw[← hrl]; exact(Pg.1 hi).1
  exact h2 i i r (by simp[hlt]) hi
 have hsp:0<rows.length→a.spot=none∧a.block<w.heap.size:=fun hpos=>by
  obtain⟨cs,k1,_,_⟩:=hrow 0 rows[0] (Pj hpos)
  obtain⟨c1,c2⟩:=oB k1
  have:=c2 0 (cs[0]'(by omega)) (Pj (by omega))
  rw[Nat.zero_mul]at this
  have h0:(a.add 0).add 0=a:=by simp[Addr.add]
  rw[h0]at this
  exact xU this
 have hcell:∀(i j:Nat) (c:PV),eY rows i j=some c→∃v,w.cell? ⟨a.block,a.off+(i*k+j),none⟩=some v∧dB N (oA w) w c v∧c.perm=true:=by
  intro i j c hc
  unfold eY at hc
  cases hi:rows[i]? with
  |none=>simp[hi]at hc
  |some r=>
   simp[hi]at hc
   obtain⟨cs,k1,_,k3⟩:=hrow i r hi
   obtain⟨c1,c2⟩:=oB k1
   have hjl:j<cs.length:=by rw[← k3.1]; exact(Pg.1 hc).1
   have hv:=c2 j cs[j] (Pj hjl)
   rw[add_add a (hsp (by have:=(Pg.1 hi).1; omega)).1]at hv
   obtain⟨q1,q2⟩:=k3.2 j c cs[j] hc (Pj hjl)
   exact⟨_,hv,q1,q2⟩
 refine⟨rows,hrl,fun r hr=>?_,.ae 0 rows (some a) a cap k (fun i j=>(w.cell? ⟨a.block,a.off+(i*k+j),none⟩).getD undef) (fun r hr=>?_) (by omega) (fun hpos=>⟨rfl,(hsp hpos).1,.inl ⟨.inl rfl,(hsp hpos).2⟩⟩) (fun i j c hc=>?_) (fun i j c hc=>?_) (fun _ i j c hc=>?_) (fun i j c hc=>?_)⟩
 ·obtain⟨i,hi⟩:=Pk.1 hr
  exact(hrow i r hi).choose_spec.2.1
 ·obtain⟨i,hi⟩:=Pk.1 hr
  obtain⟨cs,k1,_,k3⟩:=hrow i r hi
  rw[k3.1]; exact(oB k1).1
 ·obtain⟨v,q1,_⟩:=hcell i j c hc
  simp[q1]
 ·obtain⟨v,q1,q2,_⟩:=hcell i j c hc
  simp only[q1,Option.getD_some]; exact q2
 ·exact(hcell i j c hc).choose_spec.2.2
 ·exact jK (hcell i j c hc).choose_spec.2.2
end Go.Pv
namespace Go.Pv
open Go.RowKit
variable {P:Program} {N:Nat→Nat} {w:World}
def ji (P:Program) (t:TypeId) (cs:List PV):PV:=if dm P t=some true then .agg cs else cs.headD .mE
end Go.Pv
namespace Go.Pv
open Go.RowKit Go.ChangeShapes
variable {H:Type} {enc:TypeId×Value→H} {P:Program}
theorem qW (hl:laidOutB P=true) {W W':World} (hb:Below W.heap.size W W'):∀(ts:List TypeId) (vs:List Value) (ds:List (DataW H)) (ps:List MemPlace),(∀t∈ts,P.readableRec t=true∧t<P.types.size)→
  DataW.TrodAll enc P W 0 (fun _=>true) true ts vs ds ps→(∀x∈ps,x.block<W.heap.size)→DataW.TrodAll enc P W' 0 (fun b=>decide (b<W.heap.size)) true ts vs ds ps
 |[],_,_,_,_,h,_=>by
  obtain⟨rfl,rfl,rfl⟩:=trodAll_nil h
  exact h
 |t::ts,vs,ds,ps,hr,h,hp=>by
  obtain⟨v,vs',d,ds',p,q,rfl,rfl,rfl,h1,h2⟩:=trodAll_cons h
  obtain⟨r1,r2⟩:=hr t (by simp)
  exact⟨p,q,Below.trod hl r1 r2 h1 hb (fun x hx=>hp x (by simp[hx])),qW hl hb ts vs' ds' q (fun u hu=>hr u (by simp[hu])) h2 (fun x hx=>hp x (by simp[hx])),rfl⟩
theorem Ag {W:World} {b:Nat} {sp:Nat→Bool} {hd:Bool} {t:TypeId} (ht:P.underlying t=some .bool) (x:Bool):DataW.TrodAll enc P W b sp hd [t] [.bool x] [.lit (.bool x)] []:=
 trodAll_mk1 ⟨1,by simp[DataW.trod,Value.cells,ht]⟩
theorem BY {f:Func} {s:ChangeSpec} {W W':World} {args:Array Value} {ds gs:List (DataW H)} {before:List MemPlace} (hl:laidOutB P=true)
  (hW:DataW.Whole enc P f.params.toList s.vars false W args.toList ds gs before) (hsv:s.vars=[]) {tb:TypeId} (hres:f.resultTypes=#[tb]) (htb:P.underlying tb=some .bool)
  (hsf:s.fn H (ds++gs)={ results:=[.lit (.bool true)],args:=ds }) (hr:∀t∈f.params.toList,P.readableRec t=true∧t<P.types.size) (hb:Below W.heap.size W W'):
  s.post enc P f false true false false W args (.bool true) W':=by
 have hlt:∀p∈before,p.block<W.heap.size:=fun p hp=>hW.lt p hp
 obtain⟨p,q,h1,h2,h3,h4,h5⟩:=hW
 have hq:q=[]∧gs=[]:=by
  rw[hsv]at h2
  obtain⟨rfl,rfl⟩:=trodVars_none h2
  exact⟨rfl,rfl⟩
 obtain⟨rfl,rfl⟩:=hq
 have hp:before=p:=by rw[h3,P7]
 refine⟨ds,[],before,[],p,[],⟨p,[],h1,h2,h3,h4,h5⟩,?_,?_,?_,?_,?_⟩
 ·rw[hsf,hres]
  exact Ag htb true
 ·rw[hsf]
  exact qW hl hb _ _ _ _ hr h1 (fun x hx=>hlt x (by rw[hp]; exact hx))
 ·rw[hsf]
  rw[hsv]at h2 ⊢
  exact h2
 ·exact Below.frame hb _
 ·intro hh
  cases hh
end Go.Pv
namespace Go.Pv
open Go.RowKit Go.ChangeShapes
variable {P:Program} {N:Nat→Nat} {w:World}
def lk (P:Program) (S:List TypeId) (t:TypeId):Bool:=
 match P.underlying t with
  |some .bool=>true
  |some (.int _)=>true
  |some .string=>true
  |some (.slice e)=>S.contains e&&decide (0<P.cellsOf e)
  |some (.struct fs)=>iT P 0 fs.toList&&(fs.toList.all fun f=>S.contains f.type&&(cQ P f.type).isSome)&&((fs.toList.map fun f=>P.cellsOf f.type).sum==P.cellsOf t)
  |some (.array m e)=>S.contains e&&m*P.cellsOf e==P.cellsOf t
  |_=>false
def ll (P:Program) (S:List TypeId):Bool:=S.all (lk P S)
theorem vU {S:List TypeId} (h:ll P S=true) {t:TypeId} (ht:t∈S):lk P S t=true:=PI.1 h t ht
theorem DL {n:Nat} {S:List TypeId} {t:TypeId} (hp:lk P S t=true) {r:Reach} {base:Nat} {v:Value} (hv:Value.okWide P w r base t v) {ps:List PV} (ht:typed P n t ps) (hr:gk N w ps v.cells.toList):dB N (oA w) w (ji P t ps) v:=by
  cases hu:P.underlying t with
  |none=>simp[lk,hu]at hp
  |some de=>
   have agg:dm P t=some true→(∃cs,v=.agg cs)→dB N (oA w) w (ji P t ps) v:=by
    rintro hag ⟨cs,rfl⟩
    simp only[ji,hag,if_true]
    refine .agg ps cs (by have:=hr.1; simpa [Value.cells]using this.symm) (fun j c hj=>?_) (fun c hc=>?_)
    ·have hlt:j<cs.size:=by
      have:=hr.1
      simp only[Value.cells,Array.length_toList]at this
      rw[← this]
      exact(Pg.1 hj).1
     exact(hr.2 j c _ hj (by simp only[Value.cells,Array.getElem?_toList]; exact aZ hlt)).1
    ·obtain⟨j,hj⟩:=Pk.1 hc
     have hlt':j<cs.size:=by
      have:=hr.1
      simp only[Value.cells,Array.length_toList]at this
      rw[← this]
      exact(Pg.1 hj).1
     exact PV.u6 (hr.2 j c _ hj (by simp only[Value.cells,Array.getElem?_toList]; exact aZ hlt')).2
   have one:dm P t=some false→v.cells=#[v]→dB N (oA w) w (ji P t ps) v:=by
    intro hag hc
    simp only[ji,hag]
    have hl:=hr.1
    rw[hc]at hl hr
    match ps,hl with
    |[c],_=>exact(hr.2 0 c v rfl rfl).1
   cases de with
   |bool=>
    refine one (by simp[dm,hu]) ?_
    simp only[Value.okWide,hu,Cell.okWide,Cell.ok]at hv
    cases v<;>first|rfl|(simp at hv)
   |int k=>
    refine one (by simp[dm,hu]) ?_
    simp only[Value.okWide,hu,Cell.okWide,Cell.ok]at hv
    cases v<;>first|rfl|(simp at hv)
   |string=>
    refine one (by simp[dm,hu]) ?_
    simp only[Value.okWide,hu,Cell.okWide,Cell.ok]at hv
    cases v<;>first|rfl|(simp at hv)
   |slice el=>
    refine one (by simp[dm,hu]) ?_
    simp only[Value.okWide,hu,Cell.okWide,Cell.ok]at hv
    cases v<;>first|rfl|(simp at hv)
   |struct fs=>
    refine agg (by simp[dm,hu]) ?_
    simp only[Value.okWide,hu]at hv
    obtain⟨cs,rfl,_⟩:=hv
    exact⟨cs,rfl⟩
   |array m el=>
    refine agg (by simp[dm,hu]) ?_
    simp only[Value.okWide,hu]at hv
    obtain⟨cs,rfl,_⟩:=hv
    exact⟨cs,rfl⟩
   |_=>simp[lk,hu]at hp
end Go.Pv
namespace Go.Pv
open Go.RowKit Go.ChangeShapes
variable {P:Program} {N:Nat→Nat} {w:World}
structure vV {H:Type} (B:DataW H→Nat):Prop where
 str:∀l,l.length≤B (.lit (.string l))
 slice:∀e s,e.length≤B (.slice e s)∧∀d∈e,B d≤B (.slice e s)
 agg:∀ps,∀d∈ps,B d≤B (.agg ps)
inductive Small (M:Nat):PV→Prop
 |bool (b:Bool):Small M (.bool b)
 |int (k:IntKind) (n:Int):Small M (.int k n)
 |str (s:ByteArray) (h:s.size≤M):Small M (.str s)
 |ae (t:Nat) (rows:List (List PV)) (hl:rows.length≤M) (hr:∀r∈rows,∀c∈r,Small M c):Small M (.ae t rows)
theorem jj {M:Nat} {p:PV} (h:Small M p):∀c∈[p],Small M c:=fun c hc=>by
 rw[List.mem_singleton]at hc
 rw[hc]
 exact h
theorem jS {S:List TypeId} (hS:ll P S=true) {H:Type} {B:DataW H→Nat} (hB:vV B) {M:Nat} {enc:TypeId×Value→H} {base:Nat} {spare:Nat→Bool} {held:Bool}:∀(fuel:Nat) (t:TypeId),t∈S→∀(cs:List Value) (r:DataW H×List MemPlace),DataW.trod enc P w base spare held fuel t cs=some r→B r.1≤M→
  ∃ps,(typed P fuel t ps∧∀c∈ps,Small M c)∧gk N w ps cs
 |0,t,_,cs,r,ht,_=>by simp[DataW.trod]at ht
 |fuel+1,t,hp,cs,r,ht,hM=>by
   have hp:=vU hS hp
   unfold lk at hp
   cases hu:P.underlying t with
   |none=>simp[hu]at hp
   |some de=>
    simp only[hu]at hp
    cases de with
    |bool=>
     rcases cs with _|⟨v,_|⟨v2,l⟩⟩
     ·simp[DataW.trod,hu]at ht
     ·cases v<;>simp[DataW.trod,hu]at ht
      rename_i b
      exact⟨[.bool b],⟨by simp only[typed,hu]; exact⟨b,rfl⟩,jj (.bool b)⟩,gk.one (.bool b) rfl⟩
     ·simp[DataW.trod,hu]at ht
    |int k=>
     rcases cs with _|⟨v,_|⟨v2,l⟩⟩
     ·simp[DataW.trod,hu]at ht
     ·cases v<;>simp[DataW.trod,hu]at ht
      rename_i k' x
      obtain⟨⟨rfl,hwf⟩,_⟩:=ht
      simp[Lit.wf]at hwf
      exact⟨[.int k' x],⟨by simp only[typed,hu]; exact⟨x,rfl,hwf.1,hwf.2⟩,jj (.int k' x)⟩,gk.one (.int k' x) rfl⟩
     ·simp[DataW.trod,hu]at ht
    |string=>
     rcases cs with _|⟨v,_|⟨v2,l⟩⟩
     ·simp[DataW.trod,hu]at ht
     ·cases v<;>simp[DataW.trod,hu]at ht
      rename_i x
      obtain⟨ht,rfl⟩:=ht
      have hsz:x.size≤M:=by
       have:=hB.str x.data.toList
       rw[Qz]at this
       exact PZ this hM
      exact⟨[.str x],⟨by simp only[typed,hu]; exact⟨x,rfl,ht⟩,jj (.str x hsz)⟩,gk.one (.str x) rfl⟩
     ·simp[DataW.trod,hu]at ht
    |slice el=>
     simp only[Bool.and_eq_true,decide_eq_true_eq]at hp
     obtain⟨hpe,hk⟩:=hp
     rcases cs with _|⟨v,_|⟨v2,l⟩⟩
     ·simp[DataW.trod,hu]at ht
     ·cases v with
      |slice A len cap=>
       cases A with
       |none=>
        rcases len with _|len<;>rcases cap with _|cap<;>simp[DataW.trod,hu]at ht
        refine⟨[.ae 0 []],⟨by simp only[typed,hu]; exact⟨[],rfl,by simp,by simp⟩,jj (.ae 0 [] (Nat.zero_le _) (fun r hr=>(List.not_mem_nil hr).elim))⟩,gk.one (.ae 0 [] none default 0 0 (fun _ _=>undef) (by simp) (by simp) (by simp) (by simp[eY]) (by simp[eY]) (by simp[eY]) (by simp[eY])) rfl⟩
       |some a=>
        simp only[DataW.trod,hu]at ht
        split at ht<;>first|(cases ht; done)|skip
        rename_i hc
        rw[Option.bind_eq_some_iff]at ht
        obtain⟨elems,hel,hrest⟩:=ht
        rw[PQ]at hrest
        obtain⟨rest,_,rfl⟩:=hrest
        obtain⟨k1,k2⟩:=ni hel
        obtain⟨b1,b2⟩:=hB.slice (elems.map (·.1)) (rest.map (·.1))
        rw[Pm,k1,PL]at b1
        obtain⟨rows,q1,q2,q3⟩:=FP (N:=N) (w:=w) (a:=a) (len:=len) (cap:=cap) (base:=base) (Ty:=fun ps=>typed P fuel el ps∧∀c∈ps,Small M c) hk hc.2.1 (fun i hi=>by
         obtain⟨y,hy0,hy⟩:=k2 i i (by simp[hi])
         rw[Option.bind_eq_some_iff]at hy
         obtain⟨ci,hci,htr⟩:=hy
         exact⟨ci,hci,jS hS hB fuel el (Qv.1 hpe) ci y htr (PZ (b2 y.1 (PB.2 ⟨y,Ph hy0,rfl⟩)) hM)⟩)
        refine⟨[.ae 0 rows],⟨by simp only[typed,hu]; exact⟨rows,rfl,by omega,fun r hr=>(q2 r hr).1⟩,jj (.ae 0 rows (by rw[q1]; exact Nat.le_trans b1 hM) (fun r hr=>(q2 r hr).2))⟩,?_⟩
        rw[q1]at q3
        exact gk.one q3 rfl
      |_=>simp[DataW.trod,hu]at ht
     ·simp[DataW.trod,hu]at ht
    |struct fs=>
     simp only[Bool.and_eq_true,List.all_eq_true,beq_iff_eq]at hp
     obtain⟨⟨ho,hf⟩,hsum⟩:=hp
     simp only[DataW.trod,hu]at ht
     split at ht<;>first|(cases ht; done)|skip
     rename_i hlen
     obtain⟨xs,hxs,rfl⟩:=PQ.1 ht
     have hb:=hB.agg (xs.map (·.1))
     obtain⟨k1,k2⟩:=ni hxs
     obtain⟨parts,p1,p2⟩:=iP (fun(_:Nat) (f:Field) (ps:List PV)=>(typed P fuel f.type ps∧∀c∈ps,Small M c)∧gk N w ps ((cs.drop f.offset).take (P.cellsOf f.type))) fs.toList (fun j f hj=>by
      obtain⟨y,hy0,hy⟩:=k2 j f hj
      exact jS hS hB fuel f.type (Qv.1 (hf f (Ph hj)).1) _ y hy (PZ (hb y.1 (PB.2 ⟨y,Ph hy0,rfl⟩)) hM))
     refine⟨parts.flatten,⟨by simp only[typed,hu]; exact⟨parts,by simpa using p1,rfl,fun i f r hi hr=>(p2 i f r (by simpa using hi) hr).1.1⟩,fun c hc=>by
      obtain⟨r,hr,hcr⟩:=List.mem_flatten.1 hc
      obtain⟨i,hi⟩:=Pk.1 hr
      have hlt:i<fs.toList.length:=by rw[← p1]; exact(Pg.1 hi).1
      exact(p2 i _ r (Pj hlt) hi).1.2 c hcr⟩,?_⟩
     have:=qV (N:=N) (w:=w) (cs:=cs) fs.toList 0 parts ho (fun f hff=>(hf f hff).2) p1 (by rw[QF,hsum,hlen]) (fun i f r hi hr=>(p2 i f r hi hr).2)
     simpa using this
    |array m el=>
     simp only[Bool.and_eq_true,beq_iff_eq]at hp
     simp only[DataW.trod,hu]at ht
     split at ht<;>first|(cases ht; done)|skip
     rename_i hlen
     obtain⟨xs,hxs,rfl⟩:=PQ.1 ht
     have hb:=hB.agg (xs.map (·.1))
     obtain⟨k1,k2⟩:=ni hxs
     obtain⟨parts,p1,p2⟩:=iP (fun(i:Nat) (_:Nat) (ps:List PV)=>(typed P fuel el ps∧∀c∈ps,Small M c)∧gk N w ps ((cs.drop (i*P.cellsOf el)).take (P.cellsOf el))) (List.range m) (fun j x hj=>by
      obtain⟨y,hy0,hy⟩:=k2 j x hj
      have hjx:x=j:=by
       have hlt:j<m:=by have:=(List.getElem?_eq_some_iff.1 hj).1; simpa using this
       simp[hlt]at hj; exact hj.symm
      subst hjx
      exact jS hS hB fuel el (Qv.1 hp.1) _ y hy (PZ (hb y.1 (PB.2 ⟨y,Ph hy0,rfl⟩)) hM))
     have hpl:parts.length=m:=by simpa using p1
     have hone:∀r∈parts,typed P fuel el r∧∀c∈r,Small M c:=fun r hr=>by
      obtain⟨i,hi⟩:=Pk.1 hr
      have hlt:i<m:=by rw[← hpl]; exact(Pg.1 hi).1
      exact(p2 i i r (by simp[hlt]) hi).1
     refine⟨parts.flatten,⟨by simp only[typed,hu]; exact⟨parts,hpl,rfl,fun r hr=>(hone r hr).1⟩,fun c hc=>by
      obtain⟨r,hr,hcr⟩:=List.mem_flatten.1 hc
      exact(hone r hr).2 c hcr⟩,?_⟩
     have:=te (N:=N) (w:=w) (cs:=cs) (k:=P.cellsOf el) m 0 parts hpl (by rw[QF,hp.2,hlen]) (fun i r hi=>by
      have hlt:i<m:=by rw[← hpl]; exact(Pg.1 hi).1
      rw[QF]
      exact(p2 i i r (by simp[hlt]) hi).2)
     simpa using this
    |_=>simp at hp
theorem qX {S:List TypeId} (hS:ll P S=true) {H:Type} {B:DataW H→Nat} (hB:vV B) {M:Nat} {enc:TypeId×Value→H} {base b0:Nat} {spare:Nat→Bool} {held:Bool} {r:Reach}:∀(ts:List TypeId) (vs:List Value) (ds:List (DataW H)) (pl:List MemPlace),DataW.TrodAll enc P w base spare held ts vs ds pl→(∀t∈ts,t∈S)→(∀d∈ds,B d≤M)→
  (∀(j:Nat) (t:TypeId) (v:Value),ts[j]?=some t→vs[j]?=some v→Value.okWide P w r b0 t v)→
  ∃css:List (List PV),css.length=ts.length∧vs.length=ts.length∧(∀(j:Nat) (t:TypeId) (cs:List PV),ts[j]?=some t→css[j]?=some cs→(∃n,typed P n t cs)∧∀c∈cs,Small M c)∧
   ∀(j:Nat) (p:PV),(List.zipWith (ji P) ts css)[j]?=some p→∃v,vs[j]?=some v∧dB N (oA w) w p v
 |[],[],[],pl,_,_,_,_=>⟨[],rfl,rfl,fun j t cs hj=>by simp at hj,fun j p hj=>by simp at hj⟩
 |t::ts,v::vs,d::ds,pl,h,hp,hM,hv=>by
  obtain⟨p,q,⟨fuel,h1⟩,h2,_⟩:=h
  obtain⟨ps,k1,k2⟩:=jS (N:=N) hS hB fuel t (hp t (by simp)) _ _ h1 (hM d (by simp))
  have hone:=DL (vU hS (hp t (by simp))) (hv 0 t v rfl rfl) k1.1 k2
  obtain⟨css,g1,g2,g3,g4⟩:=qX hS hB ts vs ds q h2 (fun u hu=>hp u (by simp[hu])) (fun u hu=>hM u (by simp[hu])) (fun j u x hj hx=>hv (j+1) u x (by simpa using hj) (by simpa using hx))
  refine⟨ps::css,by simp[g1],by simp[g2],fun j u cs hj hc=>?_,fun j p hj=>?_⟩
  ·match j,hj,hc with
   |0,hj,hc=>simp at hj hc; subst hj; subst hc; exact⟨⟨_,k1.1⟩,k1.2⟩
   |j+1,hj,hc=>exact g3 j u cs (by simpa using hj) (by simpa using hc)
  ·match j,hj with
   |0,hj=>simp at hj; subst hj; exact⟨v,rfl,hone⟩
   |j+1,hj=>simpa using g4 j p (by simpa using hj)
theorem pP {S : List TypeId} (hS : ll P S = true) {H : Type} {B : DataW H → Nat} (hB : vV B) {M : Nat} {enc : TypeId × Value → H} {base b0 : Nat} {spare : Nat → Bool} {held : Bool} {r : Reach} {f : Nat} {ts : List TypeId} (hF : ∀ css : List (List PV),css.length = ts.length → (∀ (j : Nat) (t : TypeId) (cs : List PV),ts[j]? = some t → css[j]? = some cs → (∃ n,typed P n t cs) ∧ ∀ c ∈ cs,Small M c) →
   sO P N f (List.zipWith (ji P) ts css) [.bool true]) (htab : BX N w) {go : Func} {code : Code} (h1 : P.funcs[N f]? = some go) (h2 : go.body = some code) (h3 : (go.name == "runtime.NumGoroutine") = false)
  {args : Array Value} {ds : List (DataW H)} {pl : List MemPlace} (hA : DataW.TrodAll enc P w base spare held ts args.toList ds pl) (hp : ∀ t ∈ ts,t ∈ S) (hM : ∀ d ∈ ds,B d ≤ M)
  (hv : ∀ (j : Nat) (t : TypeId) (v : Value),ts[j]? = some t → args.toList[j]? = some v → Value.okWide P w r b0 t v) :
  Calls P (N f) args w fun e w' => e = .returned (.bool true) ∧ Below w.heap.size w w' := by
 obtain ⟨css,g1,g2,g3,g4⟩ := qX (N := N) hS hB ts args.toList ds pl hA hp hM hv
 have hlen : args.toList.length = (List.zipWith (ji P) ts css).length := by rw [g2,List.length_zipWith,g1]; simp
 have hcg := hF css g1 g3 (oA w) w none args (fun t b hb => hb.2) htab.oA (.plain _ _ hlen g4)
 have hpost : ∀ v w',BE N (oA w) w none [.bool true] v w' → v = .bool true ∧ Below w.heap.size w w' := by
  rintro v w' ⟨L1,bs,vals,f1,f2,f3,f4,f5,f6,f7,rfl⟩
  refine ⟨?_,f1.os,f1.tape,f1.output,f1.size,fun k hk => f1.kept k hk (fun hc => by
   rcases hc with hc | hc
   ·omega
   ·cases hc)⟩
  cases f5 with
  | cons p u b1 ps vs b2 q1 q2 =>
   cases q2
   cases q1 with
   | cell _ _ _ q =>
    cases q with
    | bW _ _ _ q => cases q; rfl
 rcases hcg with ⟨v,w',k1,k2⟩ | ⟨k1,k2⟩
 ·exfalso
  have : (callFunc (N f) args).run P w = .ok (.enter (N f) args) w := by simp only [beq_eq_false_iff_ne,ne_eq] at h3; simp [callFunc,h1,h2,h3]
  rw [this] at k1
  cases k1
 ·refine k2.mono fun e w' hh => ?_
  cases e with
  | returned v =>
   obtain ⟨rfl,hb⟩ := hpost v w' hh
   exact ⟨rfl,hb⟩
  | panicked => exact hh.elim
  | outgrown => exact hh.elim
theorem pQ {H:Type} {B:DataW H→Nat} (hB:vV B) {M:Nat} {S:List TypeId} {C:Checked} {os:Os} {N:Nat→Nat} {f:Nat} {fn:Func} {s:ChangeSpec} {s':OpenSpec} {k:(H:Type)→List (DataW H)→Bool} (hk:s'.cond=some k) (hkM:∀ds:List (DataW H),k H ds=true→∀d∈ds,B d≤M) {F:Stop.Interp} {code:Code} {tb:TypeId} (enc:TypeId×Value→H)
  (hF:∀css:List (List PV),css.length=fn.params.toList.length→(∀(j:Nat) (t:TypeId) (cs:List PV),fn.params.toList[j]?=some t→css[j]?=some cs→(∃n,typed C.prog n t cs)∧∀c∈cs,Small M c)→sO C.prog N f (List.zipWith (ji C.prog) fn.params.toList css) [.bool true])
  (hN:N 1000000<100000:=by decide) (own:ownKnob C.prog.godebug=none) (hl:laidOutB C.prog=true) (started:os.Started) (noInit:C.prog.inits.idxOf? (N f)=none) (hfn:C.prog.funcs[N f]?=some fn) (hcode:fn.body=some code) (hname:(fn.name=="runtime.NumGoroutine")=false)
  (wit:∃(w:World) (tape:Tape) (i:Input),w.os=os∧(w.forCall tape i).Shaped C.prog∧i.vars=[]∧Input.okWide C.prog (w.forCall tape i) .any w.heap.size (N f) i∧
   s'.pre6 enc C.prog fn [] false (w.forCall tape i).memory i.args∧({}:Assume).holds C.prog (lone (Frame.enter C.prog (N f) i.args .normal) [] (w.forCall tape i)))
  (hres:fn.resultTypes=#[tb]) (htb:C.prog.underlying tb=some .bool) (hsv:s.vars=[]) (hsv':s'.vars=s.vars) (hpost:(s'.at F).post enc C.prog fn false true false false=s.post enc C.prog fn false true false false) (hsf:∀ds:List (DataW H),ds.length=fn.params.toList.length→s.fn H ds={ results:=[.lit (.bool true)],args:=ds })
  (hr:∀t∈fn.params.toList,C.prog.readableRec t=true∧t<C.prog.types.size) (hS:ll C.prog S=true) (hp:∀t∈fn.params.toList,t∈S):
  ReturnsInHanded {} C os (N f) .any (s'.pre6 enc C.prog fn [] false) ((s'.at F).post enc C.prog fn false true false false):=by
 refine returnsInHanded_of_cond hk own started noInit hfn wit ?_
 intro W base args ds gs before hval hW _ hkk _
 rw[hsv']at hW
 have hMM:=hkM _ hkk
 have hW':=hW
 obtain⟨p,q,h1,h2,h3,h4,h5⟩:=hW
 have hlen:ds.length=fn.params.toList.length:=by
  have key:∀(ts:List TypeId) (vs:List Value) (ds:List (DataW H)) (ps:List MemPlace),DataW.TrodAll enc C.prog W 0 (fun _=>true) true ts vs ds ps→ds.length=ts.length:=by
   intro ts
   induction ts with
   |nil=>intro vs ds ps h; obtain⟨rfl,rfl,rfl⟩:=trodAll_nil h; rfl
   |cons t ts ih=>
    intro vs ds ps h
    obtain⟨v,vs',d,ds',p,q,rfl,rfl,rfl,_,g2⟩:=trodAll_cons h
    simp[ih _ _ _ g2]
  exact key _ _ _ _ h1
 have hgs:gs=[]:=by
  rw[hsv]at h2
  obtain⟨g1,g2⟩:=trodVars_none h2
  first|exact g2|exact g1
 refine(pP hS hB hF (.none hN) hfn hcode hname h1 hp (fun d hd=>hMM d (List.mem_append_left _ hd)) (fun j t v hj hv=>hval j t v (by simpa using hj) (by simpa using hv))).mono fun e W' ⟨he,hb⟩=>?_
 subst he
 rw[hpost]
 exact⟨_,rfl,BY hl hW' hsv hres htb (by rw[hgs,P7]; exact hsf ds hlen) hr hb⟩
end Go.Pv
namespace Go.Pv
variable {A:Nat→Option aa} {Pr:bf}
inductive nj {α:Sort _} (a:α):Type
 |mk
def bS {α:Type} (o:Option α) (K:α→Prop) (_t:nj K:=.mk):Prop:=∃v,o=some v∧K v
@[congr] theorem FQ {α:Type} {o o':Option α} {K:α→Prop} (h:o=o'):bS o K=bS o' K:=by rw[h]
@[go_sem] theorem HA {α:Type} (v:α) (K:α→Prop):bS (some v) K=K v:=by simp[bS]
def Br (c:Bool) (X Y:Prop) (_t:nj (X∧Y):=.mk):Prop:=if c=true then X else Y
@[congr] theorem JB {c c':Bool} {X Y:Prop} (h:c=c'):Br c X Y=Br c' X Y:=by rw[h]
@[go_sem] theorem p9 (X Y:Prop):Br true X Y=X:=rfl
@[go_sem] theorem nk (X Y:Prop):Br false X Y=Y:=by simp[Br]
theorem Br.of {c:Bool} {X Y:Prop} (h1:c=true→X) (h2:c=false→Y):Br c X Y:=by
 cases c
 ·simpa [Br]using h2 rfl
 ·simpa [Br]using h1 rfl
theorem Br.aG {p:Prop} {i:Decidable p} {X Y:Prop} (h1:p→X) (h2:¬p→Y):Br (@decide p i) X Y:=by
 by_cases h:p<;>simp[Br,h,h1,h2]
def y8 (v:V) (K:Bool→Prop) (_t:nj K:=.mk):Prop:=∃b,v=.pv (.bool b)∧K b
@[go_sem] theorem JC (b:Bool) (K:Bool→Prop):y8 (.pv (.bool b)) K=K b:=by simp[y8]
open Classical in
noncomputable def res (A:Nat→Option aa) (Pr:bf) (f:Nat) (ps:List PV):Option (List PV):=if h:∃rs,fK A Pr f ps rs then some h.choose else none
theorem fK.uniq {f:Nat} {ps rs rs':List PV} (h:fK A Pr f ps rs) (h':fK A Pr f ps rs'):rs=rs':=by
 obtain⟨n,hn⟩:=h
 obtain⟨m,hm⟩:=h'
 have h1:=fw (cU (A:=A) (Pr:=Pr) (Nat.le_max_left n m)) _ _ _ hn
 have h2:=fw (cU (A:=A) (Pr:=Pr) (Qi n m)) _ _ _ hm
 rw[h1]at h2
 exact Option.some.inj h2
theorem jk {f:Nat} {ps rs:List PV}:res A Pr f ps=some rs↔fK A Pr f ps rs:=by
 unfold res
 constructor
 ·intro h
  split at h
  ·rename_i hh
   cases h
   exact hh.choose_spec
  ·cases h
 ·intro h
  have hh:∃rs,fK A Pr f ps rs:=⟨rs,h⟩
  rw[dif_pos hh]
  rw[fK.uniq hh.choose_spec h]
def W (A:Nat→Option aa) (Pr:bf) (c:AC) (s:St) (Q:Ex→St→Prop) (_t:nj (c,Q):=.mk):Prop:=∃ex s',cb A Pr c s ex s'∧Q ex s'
def WO (A:Nat→Option aa) (Pr:bf) (l:List ay) (s:St) (K:St→Prop) (_t:nj (l,K):=.mk):Prop:=∃s',gJ A Pr l s s'∧K s'
def WD (A:Nat→Option aa) (Pr:bf) (l:List (ay×List Nat)) (done:List Tn) (s:St) (K:St→Prop) (_t:nj (l,K):=.mk):Prop:=∃s',fx A Pr l done s s'∧K s'
def DM (A:Nat→Option aa) (Pr:bf) (b:AC) (Q:Ex→St→Prop) (_t:nj (b,Q):=.mk):Ex→St→Prop
 |.normal,s=>W A Pr b s Q
 |.exit i,s=>Q (.exit i) s
 |.ret,s=>Q .ret s
def kP (id:Nat) (Q:Ex→St→Prop) (_t:nj Q:=.mk):Ex→St→Prop
 |.normal,s=>Q .normal s
 |.exit i,s=>if i=id then Q .normal s else Q (.exit i) s
 |.ret,s=>Q .ret s
@[go_sem] theorem ET (b:AC) (Q:Ex→St→Prop) (s:St):DM A Pr b Q .mk .normal s=W A Pr b s Q:=rfl
@[go_sem] theorem HB (b:AC) (Q:Ex→St→Prop) (i:Nat) (s:St):DM A Pr b Q .mk (.exit i) s=Q (.exit i) s:=rfl
@[go_sem] theorem JD (b:AC) (Q:Ex→St→Prop) (s:St):DM A Pr b Q .mk .ret s=Q .ret s:=rfl
@[go_sem] theorem Dj (i:Nat) (Q:Ex→St→Prop) (s:St):kP i Q .mk .normal s=Q .normal s:=rfl
@[go_sem] theorem EU (i j:Nat) (Q:Ex→St→Prop) (s:St):kP i Q .mk (.exit j) s=if j=i then Q .normal s else Q (.exit j) s:=rfl
@[go_sem] theorem FR (i:Nat) (Q:Ex→St→Prop) (s:St):kP i Q .mk .ret s=Q .ret s:=rfl
theorem cb.uniq {c:AC} {s s1 s2:St} {e1 e2:Ex} (h1:cb A Pr c s e1 s1) (h2:cb A Pr c s e2 s2):e1=e2∧s1=s2:=by
 obtain⟨n,hn⟩:=h1
 obtain⟨m,hm⟩:=h2
 have h1:=cU (A:=A) (Pr:=Pr) (Nat.le_max_left n m) _ _ _ hn
 have h2:=cU (A:=A) (Pr:=Pr) (Qi n m) _ _ _ hm
 rw[h1]at h2
 cases h2
 exact⟨rfl,rfl⟩
theorem W.uniq {c:AC} {s s':St} {ex:Ex} {Q:Ex→St→Prop} (h:cb A Pr c s ex s'):W A Pr c s Q=Q ex s':=by
 apply propext
 constructor
 ·rintro ⟨e2,s2,h1,h2⟩
  obtain⟨rfl,rfl⟩:=cb.uniq h h1
  exact h2
 ·exact fun hq=>⟨_,_,h,hq⟩
@[go_sem] theorem Nb (s:St) (Q:Ex→St→Prop):W A Pr .skip s Q=Q .normal s:=W.uniq (cb.skip s)
@[go_sem] theorem Nc (i:Nat) (s:St) (Q:Ex→St→Prop):W A Pr (.exit i) s Q=Q (.exit i) s:=W.uniq (cb.exit i s)
@[go_sem] theorem OE (s:St) (Q:Ex→St→Prop):W A Pr .ret s Q=Q .ret s:=W.uniq (cb.ret s)
theorem ln {c:AC} {s s':St} {ex:Ex} (h:cb A Pr c s ex s'):∃n,bK A Pr (exec A Pr n) c s=some (ex,s'):=by
 obtain⟨n,hn⟩:=h
 cases n with
 |zero=>simp[exec]at hn
 |succ n=>exact⟨n,hn⟩
@[go_sem] theorem OF (a b:AC) (s:St) (Q:Ex→St→Prop):W A Pr (.seq a b) s Q=W A Pr a s (DM A Pr b Q):=by
 apply propext
 constructor
 ·rintro ⟨ex,s',h,hq⟩
  obtain⟨n,hn⟩:=ln h
  simp only[bK]at hn
  cases ha:exec A Pr n a s with
  |none=>simp[ha]at hn
  |some r=>
   obtain⟨e1,s1⟩:=r
   rw[ha]at hn
   refine⟨e1,s1,⟨n,ha⟩,?_⟩
   cases e1 with
   |normal=>exact⟨ex,s',⟨n,hn⟩,hq⟩
   |exit i=>cases hn; exact hq
   |ret=>cases hn; exact hq
 ·rintro ⟨ex,s',h,hq⟩
  cases ex with
  |normal=>
   obtain⟨e2,s2,h2,hq2⟩:=hq
   exact⟨e2,s2,cb.seq h h2,hq2⟩
  |exit i=>exact⟨_,_,cb.y7 h (by simp),hq⟩
  |ret=>exact⟨_,_,cb.y7 h (by simp),hq⟩
@[go_sem] theorem L6 (id:Nat) (a:AC) (s:St) (Q:Ex→St→Prop):W A Pr (.block id a) s Q=W A Pr a s (kP id Q):=by
 apply propext
 constructor
 ·rintro ⟨ex,s',h,hq⟩
  obtain⟨n,hn⟩:=ln h
  simp only[bK]at hn
  cases ha:exec A Pr n a s with
  |none=>simp[ha]at hn
  |some r=>
   obtain⟨e1,s1⟩:=r
   rw[ha]at hn
   refine⟨e1,s1,⟨n,ha⟩,?_⟩
   cases e1 with
   |normal=>cases hn; exact hq
   |exit i=>
    simp only[kP]
    split
    ·rename_i hi
     simp only[hi,if_true]at hn
     cases hn
     exact hq
    ·rename_i hi
     simp only[hi,if_false]at hn
     cases hn
     exact hq
   |ret=>cases hn; exact hq
 ·rintro ⟨ex,s',h,hq⟩
  have hb:=cb.block (id:=id) h
  cases ex with
  |normal=>exact⟨_,_,hb,hq⟩
  |exit i=>
   simp only[kP]at hq
   refine⟨_,_,hb,?_⟩
   show Q (if i=id then Ex.normal else Ex.exit i) s'
   by_cases hi:i=id
   ·rw[if_pos hi]at hq ⊢; exact hq
   ·rw[if_neg hi]at hq ⊢; exact hq
  |ret=>exact⟨_,_,hb,hq⟩
@[go_sem] theorem Nd (kt kb:List Nat) (a:AC) (s:St) (Q:Ex→St→Prop):W A Pr (.mask kt kb a) s Q=W A Pr a (s.mask kt kb) Q:=by
 apply propext
 constructor
 ·rintro ⟨ex,s',h,hq⟩
  obtain⟨n,hn⟩:=ln h
  exact⟨ex,s',⟨n,hn⟩,hq⟩
 ·rintro ⟨ex,s',h,hq⟩
  exact⟨ex,s',cb.mask h,hq⟩
@[go_sem] theorem Nf (c:bz) (a b:AC) (s:St) (Q:Ex→St→Prop):W A Pr (.cond c a b) s Q=y8 (bg s.env c) fun t=>Br t (W A Pr a s Q) (W A Pr b s Q):=by
 apply propext
 constructor
 ·rintro ⟨ex,s',h,hq⟩
  obtain⟨n,hn⟩:=ln h
  simp only[bK]at hn
  split at hn
  ·rename_i he
   exact⟨true,he,ex,s',⟨n,hn⟩,hq⟩
  ·rename_i he
   exact⟨false,he,by simpa [Br]using ⟨ex,s',⟨n,hn⟩,hq⟩⟩
  ·cases hn
 ·rintro ⟨t,ht,hb⟩
  cases t with
  |true=>
   obtain⟨ex,s',h,hq⟩:W A Pr a s Q:=hb
   exact⟨ex,s',cb.cond ht h,hq⟩
  |false=>
   have hb':W A Pr b s Q:=by simpa [Br]using hb
   obtain⟨ex,s',h,hq⟩:=hb'
   exact⟨ex,s',cb.cond ht h,hq⟩
@[go_sem] theorem JE (ops:List ay) (kt kb:List Nat) (s:St) (Q:Ex→St→Prop):W A Pr (.region ops kt kb) s Q=WO A Pr ops s fun s'=>Q .normal (s'.mask kt kb):=by
 apply propext
 constructor
 ·rintro ⟨ex,s',h,hq⟩
  obtain⟨n,hn⟩:=ln h
  simp only[bK]at hn
  split at hn
  ·rename_i s1 he
   cases hn
   exact⟨s1,⟨n,he⟩,hq⟩
  ·cases hn
 ·rintro ⟨s',h,hq⟩
  exact⟨_,_,cb.region h,hq⟩
@[go_sem] theorem Ng (ops:List (ay×List Nat)) (kt kb:List Nat) (s:St) (Q:Ex→St→Prop):W A Pr (.draw ops kt kb) s Q=WD A Pr ops [] s fun s'=>Q .normal (s'.mask kt kb):=by
 apply propext
 constructor
 ·rintro ⟨ex,s',h,hq⟩
  obtain⟨n,hn⟩:=ln h
  simp only[bK]at hn
  split at hn
  ·rename_i s1 he
   cases hn
   exact⟨s1,⟨n,he⟩,hq⟩
  ·cases hn
 ·rintro ⟨s',h,hq⟩
  exact⟨_,_,cb.draw h,hq⟩
def WE (A:Nat→Option aa) (Pr:bf) (env:List (Nat×V)) (h:af) (q:da) (K:V→Tn→Prop) (_t:nj (q,K):=.mk):Prop:=∃n v t,evalOp (cP A (exec A Pr n)) (bq A (exec A Pr n) Pr) (dF A) (bg env) h q=some (v,t)∧K v t
theorem WE.uniq {env:List (Nat×V)} {h:af} {q:da} {K:V→Tn→Prop} {n:Nat} {v:V} {t:Tn} (he:evalOp (cP A (exec A Pr n)) (bq A (exec A Pr n) Pr) (dF A) (bg env) h q=some (v,t)):WE A Pr env h q K=K v t:=by
 apply propext
 constructor
 ·rintro ⟨m,v',t',h1,hk⟩
  have e1:=uy (fw (cU (A:=A) (Pr:=Pr) (Nat.le_max_left n m))) (jR (cU (A:=A) (Pr:=Pr) (Nat.le_max_left n m))) he
  have e2:=uy (fw (cU (A:=A) (Pr:=Pr) (Qi n m))) (jR (cU (A:=A) (Pr:=Pr) (Qi n m))) h1
  rw[e1]at e2
  cases e2
  exact hk
 ·exact fun hk=>⟨n,v,t,he,hk⟩
def uz:da→Bool
 |.call _ _=>false
 |_=>true
def ev (env:List (Nat×V)) (h:af) (q:da):Option (V×Tn):=evalOp (fun _ _=>none) (fun _=>none) (fun _=>false) (bg env) h q
theorem vW {Φ:Nat→List PV→Option (List PV)} {Tk:Nat→Bool} {env:List (Nat×V)} {h:af} {q:da} (hq:uz q=true):evalOp Φ Pr Tk (bg env) h q=ev env h q:=by
 cases q<;>first|rfl|(simp[uz]at hq)
theorem bI {env:List (Nat×V)} {h:af} {q:da} {K:V→Tn→Prop} (hq:uz q=true):WE A Pr env h q K=bS (ev env h q) fun r=>K r.1 r.2:=by
 apply propext
 constructor
 ·rintro ⟨n,v,t,h1,hk⟩
  rw[vW hq]at h1
  exact⟨_,h1,hk⟩
 ·rintro ⟨⟨v,t⟩,h1,hk⟩
  exact⟨0,v,t,by rw[vW hq]; exact h1,hk⟩
def pR (A:Nat→Option aa) (fn:Nat):Bool:=
 match A fn with
 |some g=>g.inl
 |none=>false
def Ah (rv:List mI) (ss:List Nat) (K:V→Tn→Prop) (_t:nj (rv,K):=.mk):Ex→St→Prop
 |.exit _,_=>False
 |_,s=>bS (ax (cO s) rv) fun rs=>bS (ax (km (fH ss)) rs) fun ws=>bS (ko (fH ss) s.h.bx outer ss) fun bs=>K (eA ws) { all:=some (bs,s.h.ar,s.h.mp) }
@[go_sem] theorem EV (rv:List mI) (ss:List Nat) (K:V→Tn→Prop) (s:St):Ah rv ss K .mk .normal s=bS (ax (cO s) rv) fun rs=>bS (ax (km (fH ss)) rs) fun ws=>bS (ko (fH ss) s.h.bx outer ss) fun bs=>K (eA ws) { all:=some (bs,s.h.ar,s.h.mp) }:=rfl
@[go_sem] theorem JF (rv:List mI) (ss:List Nat) (K:V→Tn→Prop) (s:St):Ah rv ss K .mk .ret s=bS (ax (cO s) rv) fun rs=>bS (ax (km (fH ss)) rs) fun ws=>bS (ko (fH ss) s.h.bx outer ss) fun bs=>K (eA ws) { all:=some (bs,s.h.ar,s.h.mp) }:=rfl
def qa (vs:List V) (bx:List (Nat×List V)):List Nat:=dz bx 2 (bR [] (vs.flatMap slotsOf))
def IW (A:Nat→Option aa) (Pr:bf) (fn:Nat) (vs:List V) (h:af) (K:V→Tn→Prop) (_t:nj K:=.mk):Prop:=
 ∃g n v t,A fn=some g∧fk (exec A Pr n) g vs h=some (v,t)∧K v t
def CW (A:Nat→Option aa) (Pr:bf) (fn:Nat) (vs:List V) (h:af) (K:V→Tn→Prop) (_t:nj K:=.mk):Prop:=
 if pR A fn=true then IW A Pr fn vs h K else
 match Pr fn with
 |some pr=>bS (pr vs h) fun r=>K r.1 r.2
 |none=>bS (cr h (dF A fn) vs) fun q=>bS (res A Pr fn q.1) fun rs=>K (eA (bo h.ar.length rs).1) { ar:=q.2,push:=(bo h.ar.length rs).2,eG:=!(vs.all V.iS),base:=if (bo h.ar.length rs).2.isEmpty then 0 else h.ar.length }
theorem DN {fn:Nat} (hi:pR A fn=false) (hp:Pr fn=none) {t:Bool} (ht:dF A fn=t) (vs:List V) (h:af) (K:V→Tn→Prop):CW A Pr fn vs h K=bS (cr h t vs) fun q=>bS (res A Pr fn q.1) fun rs=>K (eA (bo h.ar.length rs).1) { ar:=q.2,push:=(bo h.ar.length rs).2,eG:=!(vs.all V.iS),base:=if (bo h.ar.length rs).2.isEmpty then 0 else h.ar.length }:=by
 unfold CW
 rw[hi,hp,ht]
 rfl
theorem jT {fn:Nat} {pr:List V→af→Option (V×Tn)} (hi:pR A fn=false) (hp:Pr fn=some pr) (vs:List V) (h:af) (K:V→Tn→Prop):CW A Pr fn vs h K=bS (pr vs h) fun r=>K r.1 r.2:=by
 unfold CW
 rw[hi,hp]
 rfl
theorem FT {fn:Nat} (hi:pR A fn=true) (vs:List V) (h:af) (K:V→Tn→Prop):CW A Pr fn vs h K=IW A Pr fn vs h K:=if_pos hi
theorem EW {fn:Nat} {g:aa} (hg:A fn=some g) (vs:List V) (h:af) (K:V→Tn→Prop):IW A Pr fn vs h K=(vs.length=g.nX∧bS (ax (km (oc (qa vs h.bx))) vs) fun us=>bS (qm (oc (qa vs h.bx)) h.bx outer (qa vs h.bx)) fun bx=>
  W A Pr g.body ⟨kr 0 us,⟨bx,h.ar,h.mp⟩⟩ (Ah g.results (qa vs h.bx) K)):=by
 apply propext
 constructor
 ·rintro ⟨g',n,v,t,h1,h2,hk⟩
  rw[hg]at h1
  cases h1
  obtain⟨ss,us,bx,ex,s',hss,_,h3,h4,h5,h6,h7,h8⟩:=kN h2
  subst hss
  obtain⟨rs,ws,bs,g1,g2,g3,rfl,rfl⟩:=kM h8
  refine⟨h3,us,h4,bx,h5,ex,s',⟨n,h6⟩,?_⟩
  rcases h7 with rfl|rfl
  ·exact⟨rs,g1,ws,g2,bs,g3,hk⟩
  ·exact⟨rs,g1,ws,g2,bs,g3,hk⟩
 ·rintro ⟨h3,us,h4,bx,h5,ex,s',⟨n,h6⟩,hq⟩
  have h4:ax (km (oc (dz h.bx 2 (bR [] (vs.flatMap slotsOf))))) vs=some us:=h4
  have h5:qm (oc (dz h.bx 2 (bR [] (vs.flatMap slotsOf)))) h.bx outer (dz h.bx 2 (bR [] (vs.flatMap slotsOf)))=some bx:=h5
  cases ex with
  |exit i=>exact hq.elim
  |normal=>
   obtain⟨rs,g1,ws,g2,bs,g3,hk⟩:=hq
   have g2:ax (km (fH (dz h.bx 2 (bR [] (vs.flatMap slotsOf))))) rs=some ws:=g2
   have g3:ko (fH (dz h.bx 2 (bR [] (vs.flatMap slotsOf)))) s'.h.bx outer (dz h.bx 2 (bR [] (vs.flatMap slotsOf)))=some bs:=g3
   refine⟨g,n,_,_,hg,?_,hk⟩
   simp only[fk,h3,if_true,h4,h5,h6,lV,g1,g2,g3]
  |ret=>
   obtain⟨rs,g1,ws,g2,bs,g3,hk⟩:=hq
   have g2:ax (km (fH (dz h.bx 2 (bR [] (vs.flatMap slotsOf))))) rs=some ws:=g2
   have g3:ko (fH (dz h.bx 2 (bR [] (vs.flatMap slotsOf)))) s'.h.bx outer (dz h.bx 2 (bR [] (vs.flatMap slotsOf)))=some bs:=g3
   refine⟨g,n,_,_,hg,?_,hk⟩
   simp only[fk,h3,if_true,h4,h5,h6,lV,g1,g2,g3]
theorem me {fn:Nat} (hi:pR A fn=false) (E:AC→St→Option (Ex×St)):bq A E Pr fn=Pr fn:=by
 unfold pR at hi
 unfold bq
 cases hf:A fn with
 |none=>rfl
 |some g=>
  rw[hf]at hi
  simp only at hi ⊢
  rw[hi]
  simp
theorem pB {fn:Nat} (hi:pR A fn=true) (E:AC→St→Option (Ex×St)):∃g,A fn=some g∧bq A E Pr fn=some (fk E g):=by
 unfold pR at hi
 unfold bq
 cases hf:A fn with
 |none=>rw[hf]at hi; cases hi
 |some g=>
  rw[hf]at hi
  simp only at hi ⊢
  rw[hi]
  exact⟨g,rfl,rfl⟩
@[go_sem] theorem L7 (env:List (Nat×V)) (h:af) (f:bz) (args:List bz) (K:V→Tn→Prop):WE A Pr env h (.call f args) K=bS (funcOf (bg env f)) fun fc=>CW A Pr fc.1 (args.map (bg env)++fc.2) h K:=by
 apply propext
 constructor
 ·rintro ⟨n,v,t,h1,hk⟩
  simp only[evalOp]at h1
  split at h1<;>first|(cases h1; done)|skip
  rename_i fn cap hf
  refine⟨(fn,cap),hf,?_⟩
  unfold CW
  cases hi:pR A fn with
  |true=>
   obtain⟨g,g1,g2⟩:=pB (Pr:=Pr) hi (exec A Pr n)
   rw[g2]at h1
   dsimp only
   rw[if_pos hi]
   exact⟨g,n,v,t,g1,h1,hk⟩
  |false=>
   rw[me hi]at h1
   dsimp only
   rw[if_neg (by rw[hi]; simp)]
   cases hp:Pr fn with
   |some pr=>
    simp only[hp]at h1 ⊢
    exact⟨_,h1,hk⟩
   |none=>
    simp only[hp]at h1 ⊢
    split at h1<;>first|(cases h1; done)|skip
    rename_i ps a hl
    split at h1<;>first|(cases h1; done)|skip
    rename_i rs hrs
    cases h1
    exact⟨(ps,a),hl,⟨rs,jk.2 ⟨n,hrs⟩,hk⟩⟩
 ·rintro ⟨⟨fn,cap⟩,hf,hc⟩
  unfold CW at hc
  cases hi:pR A fn with
  |true=>
   simp only at hc
   rw[hi,if_pos rfl]at hc
   obtain⟨g,n,v,t,g1,g2,hk⟩:=hc
   obtain⟨g',k1,k2⟩:=pB (Pr:=Pr) hi (exec A Pr n)
   rw[g1]at k1
   cases k1
   refine⟨n,v,t,?_,hk⟩
   simp only[evalOp,hf,k2]
   exact g2
  |false=>
   simp only at hc
   rw[hi,if_neg (by simp)]at hc
   cases hp:Pr fn with
   |some pr=>
    simp only[hp]at hc
    obtain⟨⟨v,t⟩,h1,hk⟩:=hc
    refine⟨0,v,t,?_,hk⟩
    simp only[evalOp,hf,me hi,hp]
    exact h1
   |none=>
    simp only[hp]at hc
    obtain⟨⟨ps,a⟩,hl,rs,hrs,hk⟩:=hc
    obtain⟨n,hn⟩:=jk.1 hrs
    refine⟨n,_,_,?_,hk⟩
    simp only[evalOp,hf,me hi,hp,hl,hn]
@[go_sem] theorem Nh (s:St) (K:St→Prop):WO A Pr [] s K=K s:=by
 apply propext
 constructor
 ·rintro ⟨s',⟨n,hn⟩,hk⟩
  simp only[dL]at hn
  cases hn
  exact hk
 ·exact fun hk=>⟨s,gJ.nil s,hk⟩
theorem np {o:ay} {r:List ay} {s:St} {K:St→Prop}:WO A Pr (o::r) s K=∃n s1 t,bj (cP A (exec A Pr n)) (bq A (exec A Pr n) Pr) (dF A) o s=some (s1,t)∧WO A Pr r s1 K:=by
 apply propext
 constructor
 ·rintro ⟨s',⟨n,hn⟩,hk⟩
  simp only[dL]at hn
  split at hn
  ·rename_i s1 t h1
   exact⟨n,s1,t,h1,s',⟨n,hn⟩,hk⟩
  ·cases hn
 ·rintro ⟨n,s1,t,h1,s',h2,hk⟩
  exact⟨s',gJ.cons h1 h2,hk⟩
@[go_sem] theorem DO (d:Option Nat) (q:da) (r:List ay) (env:List (Nat×V)) (h:af) (K:St→Prop):WO A Pr (⟨d,q,none⟩::r) ⟨env,h⟩ K=WE A Pr env h q fun v t=>WO A Pr r ⟨put env d v,t.apply h⟩ K:=by
 rw[np]
 apply propext
 constructor
 ·rintro ⟨n,s1,t,h1,hk⟩
  simp only[bj,wanted]at h1
  split at h1
  ·rename_i v t' he
   cases h1
   exact⟨n,v,t,he,hk⟩
  ·cases h1
 ·rintro ⟨n,v,t,he,hk⟩
  exact⟨n,_,t,by simp only[bj,wanted,he],hk⟩
def bare (t:Nat) (b:Bool):List ay→List ay
 |[]=>[]
 |o::r=>if o.guard=some (t,b)∧o.dst≠some t then ⟨o.dst,o.op,none⟩::bare t b r else o::r
def pS (t:Nat) (b:Bool):List ay→List (Nat×V)→List (Nat×V)×List ay
 |[],env=>(env,[])
 |o::r,env=>if o.guard=some (t,b)∧o.dst≠some t then pS t b r (put env o.dst (.dv [])) else (env,o::r)
theorem BZ {env:List (Nat×V)} {d:Option Nat} {v:V} {t:Nat} (h:d≠some t):get (put env d v) t=get env t:=by
 cases d with
 |none=>rfl
 |some d=>
  simp only[put,get,aC]
  rw[if_neg (by intro he; exact h (by rw[he]))]
theorem wanted_put {env:List (Nat×V)} {d:Option Nat} {v:V} {t:Nat} {b:Bool} (h:d≠some t):wanted (put env d v) (some (t,b))=wanted env (some (t,b)):=by
 simp only[wanted,BZ h]
theorem uA {t:Nat} {b:Bool}:∀(l:List ay) (s:St) (K:St→Prop),wanted s.env (some (t,b))=some true→WO A Pr l s K=WO A Pr (bare t b l) s K
 |[],s,K,_=>rfl
 |o::r,s,K,he=>by
  by_cases hg:o.guard=some (t,b)∧o.dst≠some t
  ·rw[show bare t b (o::r)=⟨o.dst,o.op,none⟩::bare t b r from if_pos hg]
   obtain⟨env,h⟩:=s
   rw[np,np]
   have:∀n,bj (cP A (exec A Pr n)) (bq A (exec A Pr n) Pr) (dF A) o ⟨env,h⟩=bj (cP A (exec A Pr n)) (bq A (exec A Pr n) Pr) (dF A) ⟨o.dst,o.op,none⟩ ⟨env,h⟩:=by
    intro n
    have e1:wanted env o.guard=some true:=by rw[hg.1]; exact he
    have e2:wanted env (none:Option (Nat×Bool))=some true:=rfl
    simp only[bj,e1,e2]
   simp only[this]
   apply propext
   have hr:∀n s1 tn,bj (cP A (exec A Pr n)) (bq A (exec A Pr n) Pr) (dF A) ⟨o.dst,o.op,none⟩ ⟨env,h⟩=some (s1,tn)→wanted s1.env (some (t,b))=some true:=by
    intro n s1 tn h1
    have e2:wanted env (none:Option (Nat×Bool))=some true:=rfl
    simp only[bj,e2]at h1
    split at h1
    ·cases h1
     exact(wanted_put hg.2).trans he
    ·cases h1
   constructor
   ·rintro ⟨n,s1,tn,h1,hk⟩
    exact⟨n,s1,tn,h1,by rw[← uA r s1 K (hr _ _ _ h1)]; exact hk⟩
   ·rintro ⟨n,s1,tn,h1,hk⟩
    exact⟨n,s1,tn,h1,by rw[uA r s1 K (hr _ _ _ h1)]; exact hk⟩
  ·rw[show bare t b (o::r)=o::r from if_neg hg]
theorem y9 {t:Nat} {b:Bool}:∀(l:List ay) (env:List (Nat×V)) (h:af) (K:St→Prop),wanted env (some (t,b))=some false→WO A Pr l ⟨env,h⟩ K=WO A Pr (pS t b l env).2 ⟨(pS t b l env).1,h⟩ K
 |[],env,h,K,_=>rfl
 |o::r,env,h,K,he=>by
  by_cases hg:o.guard=some (t,b)∧o.dst≠some t
  ·rw[show pS t b (o::r) env=pS t b r (put env o.dst (.dv [])) from if_pos hg]
   rw[np,← y9 r (put env o.dst (.dv [])) h K ((wanted_put hg.2).trans he)]
   have:∀n,bj (cP A (exec A Pr n)) (bq A (exec A Pr n) Pr) (dF A) o ⟨env,h⟩=some (⟨put env o.dst (.dv []),h⟩,{}):=by
    intro n
    have e1:wanted env o.guard=some false:=by rw[hg.1]; exact he
    simp only[bj,e1]
   simp only[this]
   apply propext
   constructor
   ·rintro ⟨n,s1,tn,h1,hk⟩
    cases h1
    exact hk
   ·exact fun hk=>⟨0,_,_,rfl,hk⟩
  ·rw[show pS t b (o::r) env=(env,o::r) from if_neg hg]
def JG (v:V) (b:Bool) (X Y:Prop) (_t:nj (X∧Y):=.mk):Prop:=
 match v with
 |.pv (.bool c)=>Br (c==b) X Y
 |.dv _=>Y
 |_=>False
@[go_sem] theorem B0 (c b:Bool) (X Y:Prop):JG (.pv (.bool c)) b X Y=Br (c==b) X Y:=rfl
@[go_sem] theorem DP (l:List V) (b:Bool) (X Y:Prop):JG (.dv l) b X Y=Y:=rfl
theorem za {env:List (Nat×V)} {t:Nat} {b:Bool} {X Y Z:Prop} (h0:Z→∃c,wanted env (some (t,b))=some c) (h1:wanted env (some (t,b))=some true→Z=X) (h2:wanted env (some (t,b))=some false→Z=Y):Z=JG (get env t) b X Y:=by
 simp only[wanted]at h0 h1 h2
 apply propext
 cases hv:get env t with
 |pv p=>
  cases p with
  |bool c=>
   simp only[hv,Option.some.injEq]at h1 h2
   rw[B0]
   cases hcb:(c==b)with
   |true=>rw[p9,h1 hcb]
   |false=>rw[nk,h2 hcb]
  |_=>
   simp only[hv]at h0
   exact⟨fun hz=>(h0 hz).elim (fun _ h=>by cases h),fun h=>h.elim⟩
 |dv l=>
  simp only[hv]at h2
  rw[DP,h2 trivial]
 |_=>
  simp only[hv]at h0
  exact⟨fun hz=>(h0 hz).elim (fun _ h=>by cases h),fun h=>h.elim⟩
def WB (A:Nat→Option aa) (Pr:bf) (t:Nat) (b:Bool) (l:List ay) (s:St) (K:St→Prop) (_t:nj (l,K):=.mk):Prop:=WO A Pr (bare t b l) s K
def WN (A:Nat→Option aa) (Pr:bf) (t:Nat) (b:Bool) (l:List ay) (s:St) (K:St→Prop) (_t:nj (l,K):=.mk):Prop:=WO A Pr (pS t b l s.env).2 ⟨(pS t b l s.env).1,s.h⟩ K
def lG (t:Nat):Option Nat→Bool
 |some d=>!(d==t)
 |none=>true
@[go_sem] theorem HC (t d:Nat):lG t (some d)=!(d==t):=rfl
@[go_sem] theorem HD (t:Nat):lG t none=true:=rfl
theorem jm {t:Nat} {d:Option Nat}:lG t d=true↔d≠some t:=by
 cases d<;>simp[lG]
@[congr] theorem JH {t:Nat} {b:Bool} {l:List ay} {s s':St} {K:St→Prop} (h:s=s'):WB A Pr t b l s K=WB A Pr t b l s' K:=by rw[h]
@[congr] theorem JI {t:Nat} {b:Bool} {l:List ay} {s s':St} {K:St→Prop} (h:s=s'):WN A Pr t b l s K=WN A Pr t b l s' K:=by rw[h]
@[go_sem] theorem L8 (t:Nat) (b:Bool) (d:Option Nat) (q:da) (r:List ay) (s:St) (K:St→Prop):WB A Pr t b (⟨d,q,none⟩::r) s K=WO A Pr (⟨d,q,none⟩::r) s K:=by
 simp[WB,bare]
@[go_sem] theorem L9 (t:Nat) (b:Bool) (d:Option Nat) (q:da) (r:List ay) (s:St) (K:St→Prop):WN A Pr t b (⟨d,q,none⟩::r) s K=WO A Pr (⟨d,q,none⟩::r) s K:=by
 simp[WN,pS]
@[go_sem] theorem Ma (t:Nat) (b:Bool) (d:Option Nat) (q:da) (t':Nat) (b':Bool) (r:List ay) (env:List (Nat×V)) (h:af) (K:St→Prop):WB A Pr t b (⟨d,q,some (t',b')⟩::r) ⟨env,h⟩ K=Br (t'==t&&b'==b&&lG t d) (WE A Pr env h q fun v tn=>WB A Pr t b r ⟨put env d v,tn.apply h⟩ K) (WO A Pr (⟨d,q,some (t',b')⟩::r) ⟨env,h⟩ K):=by
 by_cases hc:t'=t∧b'=b∧d≠some t
 ·obtain⟨rfl,rfl,hd⟩:=hc
  rw[show (t'==t'&&b'==b'&&lG t' d)=true by simp[jm.2 hd],p9]
  unfold WB
  rw[← DO,show bare t' b' (⟨d,q,some (t',b')⟩::r)=⟨d,q,none⟩::bare t' b' r from if_pos ⟨rfl,hd⟩]
 ·rw[show (t'==t&&b'==b&&lG t d)=false by
   cases hx:(t'==t&&b'==b&&lG t d)with
   |false=>rfl
   |true=>
    simp only[Bool.and_eq_true,beq_iff_eq]at hx
    exact(hc ⟨hx.1.1,hx.1.2,jm.1 hx.2⟩).elim,nk]
  have:¬(some (t',b')=some (t,b)∧d≠some t):=fun⟨h1,h2⟩=>hc ⟨by cases h1; rfl,by cases h1; rfl,h2⟩
  unfold WB
  rw[show bare t b (⟨d,q,some (t',b')⟩::r)=⟨d,q,some (t',b')⟩::r from if_neg this]
@[go_sem] theorem Mb (t:Nat) (b:Bool) (d:Option Nat) (q:da) (t':Nat) (b':Bool) (r:List ay) (env:List (Nat×V)) (h:af) (K:St→Prop):WN A Pr t b (⟨d,q,some (t',b')⟩::r) ⟨env,h⟩ K=Br (t'==t&&b'==b&&lG t d) (WN A Pr t b r ⟨put env d (.dv []),h⟩ K) (WO A Pr (⟨d,q,some (t',b')⟩::r) ⟨env,h⟩ K):=by
 by_cases hc:t'=t∧b'=b∧d≠some t
 ·obtain⟨rfl,rfl,hd⟩:=hc
  rw[show (t'==t'&&b'==b'&&lG t' d)=true by simp[jm.2 hd],p9]
  unfold WN
  dsimp only
  rw[show pS t' b' (⟨d,q,some (t',b')⟩::r) env=pS t' b' r (put env d (.dv [])) from if_pos ⟨rfl,hd⟩]
 ·rw[show (t'==t&&b'==b&&lG t d)=false by
   cases hx:(t'==t&&b'==b&&lG t d)with
   |false=>rfl
   |true=>
    simp only[Bool.and_eq_true,beq_iff_eq]at hx
    exact(hc ⟨hx.1.1,hx.1.2,jm.1 hx.2⟩).elim,nk]
  have:¬(some (t',b')=some (t,b)∧d≠some t):=fun⟨h1,h2⟩=>hc ⟨by cases h1; rfl,by cases h1; rfl,h2⟩
  unfold WN
  dsimp only
  rw[show pS t b (⟨d,q,some (t',b')⟩::r) env=(env,⟨d,q,some (t',b')⟩::r) from if_neg this]
@[go_sem] theorem JJ (d:Option Nat) (q:da) (t:Nat) (b:Bool) (r:List ay) (env:List (Nat×V)) (h:af) (K:St→Prop):WO A Pr (⟨d,q,some (t,b)⟩::r) ⟨env,h⟩ K=JG (get env t) b (WB A Pr t b (⟨d,q,some (t,b)⟩::r) ⟨env,h⟩ K) (WN A Pr t b (⟨d,q,some (t,b)⟩::r) ⟨env,h⟩ K):=by
 refine za (fun hw=>?_) (fun hw=>uA _ ⟨env,h⟩ K hw) (fun hw=>y9 _ env h K hw)
 rw[np]at hw
 obtain⟨n,s1,tn,h1,_⟩:=hw
 cases hx:wanted env (some (t,b))with
 |none=>simp only[bj,hx]at h1; cases h1
 |some c=>exact⟨c,rfl⟩
@[go_sem] theorem Ni (done:List Tn) (s:St) (K:St→Prop):WD A Pr [] done s K=K s:=by
 apply propext
 constructor
 ·rintro ⟨s',⟨n,hn⟩,hk⟩
  simp only[cx]at hn
  cases hn
  exact hk
 ·exact fun hk=>⟨s,fx.nil done s,hk⟩
theorem nq {o:ay} {un:List Nat} {r:List (ay×List Nat)} {done:List Tn} {s:St} {K:St→Prop}:WD A Pr ((o,un)::r) done s K=∃n s1 t,bj (cP A (exec A Pr n)) (bq A (exec A Pr n) Pr) (dF A) o s=some (s1,t)∧eb un t done=true∧WD A Pr r (done++[t]) s1 K:=by
 apply propext
 constructor
 ·rintro ⟨s',⟨n,hn⟩,hk⟩
  simp only[cx]at hn
  split at hn
  ·rename_i s1 t h1
   split at hn
   ·rename_i hh
    exact⟨n,s1,t,h1,hh,s',⟨n,hn⟩,hk⟩
   ·cases hn
  ·cases hn
 ·rintro ⟨n,s1,t,h1,hh,s',h2,hk⟩
  exact⟨s',fx.cons h1 hh h2,hk⟩
def held (un:List Nat) (t:Tn) (done:List Tn) (X:Prop) (_t:nj X:=.mk):Prop:=eb un t done=true∧X
@[congr] theorem FU {un:List Nat} {t t':Tn} {done done':List Tn} {X:Prop} (h:t=t') (h':done=done'):held un t done X=held un t' done' X:=by rw[h,h']
@[go_sem] theorem JK (t:Tn) (done:List Tn) (X:Prop):held [] t done X=X:=by simp[held,eb]
@[go_sem] theorem DQ (d:Option Nat) (q:da) (un:List Nat) (r:List (ay×List Nat)) (done:List Tn) (env:List (Nat×V)) (h:af) (K:St→Prop):WD A Pr ((⟨d,q,none⟩,un)::r) done ⟨env,h⟩ K=WE A Pr env h q fun v t=>held un t done (WD A Pr r (done++[t]) ⟨put env d v,t.apply h⟩ K):=by
 rw[nq]
 apply propext
 constructor
 ·rintro ⟨n,s1,t,h1,hh,hk⟩
  simp only[bj,wanted]at h1
  split at h1
  ·rename_i v t' he
   cases h1
   exact⟨n,v,t,he,hh,hk⟩
  ·cases h1
 ·rintro ⟨n,v,t,he,hh,hk⟩
  exact⟨n,_,t,by simp only[bj,wanted,he],hh,hk⟩
def lM (t:Nat) (b:Bool):List (ay×List Nat)→List (ay×List Nat)
 |[]=>[]
 |(o,un)::r=>if o.guard=some (t,b)∧o.dst≠some t then (⟨o.dst,o.op,none⟩,un)::lM t b r else (o,un)::r
theorem uB {t:Nat} {b:Bool}:∀(l:List (ay×List Nat)) (done:List Tn) (s:St) (K:St→Prop),wanted s.env (some (t,b))=some true→WD A Pr l done s K=WD A Pr (lM t b l) done s K
 |[],_,s,K,_=>rfl
 |(o,un)::r,done,s,K,he=>by
  by_cases hg:o.guard=some (t,b)∧o.dst≠some t
  ·rw[show lM t b ((o,un)::r)=(⟨o.dst,o.op,none⟩,un)::lM t b r from if_pos hg]
   obtain⟨env,h⟩:=s
   rw[nq,nq]
   have:∀n,bj (cP A (exec A Pr n)) (bq A (exec A Pr n) Pr) (dF A) o ⟨env,h⟩=bj (cP A (exec A Pr n)) (bq A (exec A Pr n) Pr) (dF A) ⟨o.dst,o.op,none⟩ ⟨env,h⟩:=by
    intro n
    have e1:wanted env o.guard=some true:=by rw[hg.1]; exact he
    have e2:wanted env (none:Option (Nat×Bool))=some true:=rfl
    simp only[bj,e1,e2]
   simp only[this]
   apply propext
   have hr:∀n s1 tn,bj (cP A (exec A Pr n)) (bq A (exec A Pr n) Pr) (dF A) ⟨o.dst,o.op,none⟩ ⟨env,h⟩=some (s1,tn)→wanted s1.env (some (t,b))=some true:=by
    intro n s1 tn h1
    have e2:wanted env (none:Option (Nat×Bool))=some true:=rfl
    simp only[bj,e2]at h1
    split at h1
    ·cases h1
     exact(wanted_put hg.2).trans he
    ·cases h1
   constructor
   ·rintro ⟨n,s1,tn,h1,hh,hk⟩
    exact⟨n,s1,tn,h1,hh,by rw[← uB r _ s1 K (hr _ _ _ h1)]; exact hk⟩
   ·rintro ⟨n,s1,tn,h1,hh,hk⟩
    exact⟨n,s1,tn,h1,hh,by rw[uB r _ s1 K (hr _ _ _ h1)]; exact hk⟩
  ·rw[show lM t b ((o,un)::r)=(o,un)::r from if_neg hg]
theorem B1 {o:ay} {un:List Nat} {r:List (ay×List Nat)} {done:List Tn} {env:List (Nat×V)} {h:af} {K:St→Prop} (he:wanted env o.guard=some false):WD A Pr ((o,un)::r) done ⟨env,h⟩ K=held un ({}:Tn) done (WD A Pr r (done++[({}:Tn)]) ⟨put env o.dst (.dv []),h⟩ K):=by
 rw[nq]
 have:∀n,bj (cP A (exec A Pr n)) (bq A (exec A Pr n) Pr) (dF A) o ⟨env,h⟩=some (⟨put env o.dst (.dv []),h⟩,{}):=by
  intro n
  simp only[bj,he]
 simp only[this]
 apply propext
 constructor
 ·rintro ⟨n,s1,tn,h1,hh,hk⟩
  cases h1
  exact⟨hh,hk⟩
 ·rintro ⟨hh,hk⟩
  exact⟨0,_,_,rfl,hh,hk⟩
def DR (A:Nat→Option aa) (Pr:bf) (t:Nat) (b:Bool) (l:List (ay×List Nat)) (done:List Tn) (s:St) (K:St→Prop) (_t:nj (l,K):=.mk):Prop:=WD A Pr (lM t b l) done s K
@[congr] theorem HE {t:Nat} {b:Bool} {l:List (ay×List Nat)} {done done':List Tn} {s s':St} {K:St→Prop} (h':done=done') (h:s=s'):DR A Pr t b l done s K=DR A Pr t b l done' s' K:=by rw[h,h']
@[go_sem] theorem JL (t:Nat) (b:Bool) (d:Option Nat) (q:da) (un:List Nat) (r:List (ay×List Nat)) (done:List Tn) (s:St) (K:St→Prop):DR A Pr t b ((⟨d,q,none⟩,un)::r) done s K=WD A Pr ((⟨d,q,none⟩,un)::r) done s K:=by
 simp[DR,lM]
@[go_sem] theorem JM (t:Nat) (b:Bool) (d:Option Nat) (q:da) (t':Nat) (b':Bool) (un:List Nat) (r:List (ay×List Nat)) (done:List Tn) (env:List (Nat×V)) (h:af) (K:St→Prop):DR A Pr t b ((⟨d,q,some (t',b')⟩,un)::r) done ⟨env,h⟩ K=Br (t'==t&&b'==b&&lG t d) (WE A Pr env h q fun v tn=>held un tn done (DR A Pr t b r (done++[tn]) ⟨put env d v,tn.apply h⟩ K)) (WD A Pr ((⟨d,q,some (t',b')⟩,un)::r) done ⟨env,h⟩ K):=by
 by_cases hc:t'=t∧b'=b∧d≠some t
 ·obtain⟨rfl,rfl,hd⟩:=hc
  rw[show (t'==t'&&b'==b'&&lG t' d)=true by simp[jm.2 hd],p9]
  unfold DR
  rw[← DQ,show lM t' b' ((⟨d,q,some (t',b')⟩,un)::r)=(⟨d,q,none⟩,un)::lM t' b' r from if_pos ⟨rfl,hd⟩]
 ·rw[show (t'==t&&b'==b&&lG t d)=false by
   cases hx:(t'==t&&b'==b&&lG t d)with
   |false=>rfl
   |true=>
    simp only[Bool.and_eq_true,beq_iff_eq]at hx
    exact(hc ⟨hx.1.1,hx.1.2,jm.1 hx.2⟩).elim,nk]
  have:¬(some (t',b')=some (t,b)∧d≠some t):=fun⟨h1,h2⟩=>hc ⟨by cases h1; rfl,by cases h1; rfl,h2⟩
  unfold DR
  rw[show lM t b ((⟨d,q,some (t',b')⟩,un)::r)=(⟨d,q,some (t',b')⟩,un)::r from if_neg this]
@[go_sem] theorem JN (d:Option Nat) (q:da) (t:Nat) (b:Bool) (un:List Nat) (r:List (ay×List Nat)) (done:List Tn) (env:List (Nat×V)) (h:af) (K:St→Prop):WD A Pr ((⟨d,q,some (t,b)⟩,un)::r) done ⟨env,h⟩ K=JG (get env t) b (DR A Pr t b ((⟨d,q,some (t,b)⟩,un)::r) done ⟨env,h⟩ K) (held un ({}:Tn) done (WD A Pr r (done++[({}:Tn)]) ⟨put env d (.dv []),h⟩ K)):=by
 refine za (fun hw=>?_) (fun hw=>uB _ done ⟨env,h⟩ K hw) (fun hw=>B1 hw)
 rw[nq]at hw
 obtain⟨n,s1,tn,h1,_⟩:=hw
 cases hx:wanted env (some (t,b))with
 |none=>simp only[bj,hx]at h1; cases h1
 |some c=>exact⟨c,rfl⟩
def FV {α:Type} (S:α→St) (P:α→Prop) (m:α→Nat) (x:α) (Q:Ex→St→Prop) (_t:nj (S,P,m,x,Q):=.mk):Ex→St→Prop
 |.normal,s=>∃y,P y∧m y<m x∧s=S y
 |.exit i,s=>Q (.exit i) s
 |.ret,s=>Q .ret s
@[go_sem] theorem HF {α:Type} (S:α→St) (P:α→Prop) (m:α→Nat) (x:α) (Q:Ex→St→Prop) (i:Nat) (s:St):FV S P m x Q .mk (.exit i) s=Q (.exit i) s:=rfl
@[go_sem] theorem JO {α:Type} (S:α→St) (P:α→Prop) (m:α→Nat) (x:α) (Q:Ex→St→Prop) (s:St):FV S P m x Q .mk .ret s=Q .ret s:=rfl
theorem W.loop {α:Type} {a:AC} {s:St} {Q:Ex→St→Prop} (S:α→St) (P:α→Prop) (m:α→Nat) (x0:α) (hs:s=S x0) (h0:P x0) (hr:∀x,P x→W A Pr a (S x) (FV S P m x Q)):W A Pr (.loop a) s Q:=by
 subst hs
 have key:∀n x,m x≤n→P x→W A Pr (.loop a) (S x) Q:=by
  intro n
  induction n with
  |zero=>
   intro x hm hp
   obtain⟨ex,s',h1,h2⟩:=hr x hp
   cases ex with
   |normal=>obtain⟨y,_,h3,_⟩:=h2; omega
   |exit i=>exact⟨_,_,cb.gj h1 (by simp),h2⟩
   |ret=>exact⟨_,_,cb.gj h1 (by simp),h2⟩
  |succ n ih=>
   intro x hm hp
   obtain⟨ex,s',h1,h2⟩:=hr x hp
   cases ex with
   |normal=>
    obtain⟨y,hy,h3,rfl⟩:=h2
    obtain⟨e2,s2,h4,h5⟩:=ih y (by omega) hy
    exact⟨e2,s2,cb.td h1 h4,h5⟩
   |exit i=>exact⟨_,_,cb.gj h1 (by simp),h2⟩
   |ret=>exact⟨_,_,cb.gj h1 (by simp),h2⟩
 exact key _ x0 (Pu _) h0
def vX (S:Nat→St) (P:Nat→Prop) (n k:Nat) (Q:Ex→St→Prop) (_t:nj (S,P,n,k,Q):=.mk):Ex→St→Prop
 |.normal,s=>k<n∧s=S (k+1)∧P (k+1)
 |.exit i,s=>Q (.exit i) s
 |.ret,s=>Q .ret s
@[go_sem] theorem FW (S:Nat→St) (P:Nat→Prop) (n k:Nat) (Q:Ex→St→Prop) (i:Nat) (s:St):vX S P n k Q .mk (.exit i) s=Q (.exit i) s:=rfl
@[go_sem] theorem HG (S:Nat→St) (P:Nat→Prop) (n k:Nat) (Q:Ex→St→Prop) (s:St):vX S P n k Q .mk .ret s=Q .ret s:=rfl
theorem vX.of {S:Nat→St} {P:Nat→Prop} {n k:Nat} {Q:Ex→St→Prop} {s:St} (h1:k<n) (h2:s=S (k+1)) (h3:P (k+1)):vX S P n k Q .mk .normal s:=⟨h1,h2,h3⟩
theorem W.dD {a:AC} {s:St} {Q:Ex→St→Prop} (n:Nat) (S:Nat→St) (P:Nat→Prop) (hs:s=S 0) (h0:P 0) (hr:∀k,k≤n→P k→W A Pr a (S k) (vX S P n k Q)):W A Pr (.loop a) s Q:=by
 refine W.loop S (fun k=>k≤n∧P k) (fun k=>n - k) 0 hs ⟨Qn _,h0⟩ fun k hk=>?_
 obtain⟨ex,s',h1,h2⟩:=hr k hk.1 hk.2
 refine⟨ex,s',h1,?_⟩
 cases ex with
 |normal=>
  obtain⟨g1,g2,g3⟩:=h2
  exact⟨k+1,⟨g1,g3⟩,by show n - (k+1)<n - k; omega,g2⟩
 |exit i=>exact h2
 |ret=>exact h2
def iY (s:St) (rs:List mI) (fresh:Bool):Option (List PV):=
 (ax (cO s) rs).bind fun vs=>if !fresh||distinct (dR vs) then ax (bW s.h fresh) vs else none
theorem vY (fn:aa) (s:St):leave fn s=iY s fn.results fn.fresh:=by
 simp only[leave,iY]
 cases ax (cO s) fn.results<;>rfl
def DS (l:List mI) (fresh:Bool) (rs:List PV) (_t:nj (l,fresh,rs):=.mk):Ex→St→Prop
 |.normal,s=>iY s l fresh=some rs
 |.ret,s=>iY s l fresh=some rs
 |.exit _,_=>False
@[go_sem] theorem EX (l:List mI) (fresh:Bool) (rs:List PV) (s:St):DS l fresh rs .mk .normal s=(iY s l fresh=some rs):=rfl
@[go_sem] theorem JP (l:List mI) (fresh:Bool) (rs:List PV) (s:St):DS l fresh rs .mk .ret s=(iY s l fresh=some rs):=rfl
theorem fK.OO {f:Nat} {fn:aa} {ps rs:List PV} (hf:A f=some fn) (hl:ps.length=fn.nX) (ha:n9 fn.take ps=true) (hw:W A Pr fn.body ⟨entry 0 ps,cC ps⟩ (DS fn.results fn.fresh rs)):fK A Pr f ps rs:=by
 obtain⟨ex,s',h,hq⟩:=hw
 cases ex with
 |normal=>exact fK.of hf hl ha h (.inl rfl) ((vY fn s').trans hq)
 |ret=>exact fK.of hf hl ha h (.inr rfl) ((vY fn s').trans hq)
 |exit i=>exact hq.elim
theorem aq {f:Nat} {fn:aa} {ps rs:List PV} (hf:A f=some fn) (hl:ps.length=fn.nX) (ha:n9 fn.take ps=true) (hw:W A Pr fn.body ⟨entry 0 ps,cC ps⟩ (DS fn.results fn.fresh rs)):res A Pr f ps=some rs:=
 jk.2 (fK.OO hf hl ha hw)
end Go.Pv
namespace Go.Pv
variable {A:Nat→Option aa} {Pr:bf}
@[congr] theorem Mc {c:AC} {s s':St} {Q:Ex→St→Prop} (h:s=s'):W A Pr c s Q=W A Pr c s' Q:=by rw[h]
@[congr] theorem JQ {l:List ay} {s s':St} {K:St→Prop} (h:s=s'):WO A Pr l s K=WO A Pr l s' K:=by rw[h]
@[congr] theorem JR {l:List (ay×List Nat)} {d d':List Tn} {s s':St} {K:St→Prop} (h':d=d') (h:s=s'):WD A Pr l d s K=WD A Pr l d' s' K:=by rw[h,h']
@[congr] theorem JS {fn:Nat} {vs vs':List V} {h h':af} {K:V→Tn→Prop} (he:vs=vs') (hh:h=h'):CW A Pr fn vs h K=CW A Pr fn vs' h' K:=by rw[he,hh]
@[congr] theorem DT {i:Nat} {Q:Ex→St→Prop} {e e':Ex} {s s':St} (he:e=e') (hs:s=s'):kP i Q .mk e s=kP i Q .mk e' s':=by rw[he,hs]
def zb {α:Type} (c:Bool) (x y:α) (_t:nj (x,y):=.mk):α:=if c=true then x else y
@[congr] theorem HH {α:Type} {c c':Bool} {x y:α} (h:c=c'):zb c x y=zb c' x y:=by rw[h]
@[go_sem] theorem JT {α:Type} (x y:α):zb true x y=x:=rfl
@[go_sem] theorem HI {α:Type} (x y:α):zb false x y=y:=by simp[zb]
theorem xV {α:Type} (s t:Nat) (x y:α):zb (s==t) x y=if s=t then x else y:=by simp[zb]
@[go_sem] theorem JU (env:List (Nat×V)) (t:Nat):bg env (.tmp t)=get env t:=rfl
@[go_sem] theorem JV (env:List (Nat×V)) (v:V):bg env (.val v)=v:=rfl
@[go_sem] theorem JW (s:Nat) (x:V) (r:List (Nat×V)) (t:Nat):get ((s,x)::r) t=zb (s==t) x (get r t):=by
 simp only[get,aC,xV]
 split<;>rfl
@[go_sem] theorem get_nil (t:Nat):get [] t=.any:=rfl
@[go_sem] theorem JX (env:List (Nat×V)) (d:Nat) (v:V):put env (some d) v=(d,v)::env:=rfl
@[go_sem] theorem JY (env:List (Nat×V)) (v:V):put env none v=env:=rfl
@[go_sem] theorem FX {α:Type} (s:Nat) (x:α) (r:List (Nat×α)) (t:Nat):aC t ((s,x)::r)=zb (s==t) (some x) (aC t r):=by rw[xV]; rfl
@[go_sem] theorem HJ {α:Type} (t:Nat):aC t ([]:List (Nat×α))=none:=rfl
@[go_sem] theorem HK (s:Nat) (c:List V):dP s c []=[(s,c)]:=rfl
@[go_sem] theorem FY (s:Nat) (c:List V) (s':Nat) (c':List V) (r:List (Nat×List V)):dP s c ((s',c')::r)=zb (s'==s) ((s,c)::r) ((s',c')::dP s c r):=by rw[xV]; rfl
@[go_sem] theorem Md (kt kb:List Nat) (env:List (Nat×V)) (bx:List (Nat×List V)) (ar:List aK) (mp:List (List (PV×PV))):St.mask kt kb ⟨env,⟨bx,ar,mp⟩⟩=⟨gE kt kb env,⟨gv kb bx,ar,mp⟩⟩:=rfl
@[go_sem] theorem DU (t:Nat) (kt kb:List Nat) (env:List (Nat×V)):gE (t::kt) kb env=(t,dU kb (get env t))::gE kt kb env:=rfl
@[go_sem] theorem EY (kb:List Nat) (env:List (Nat×V)):gE [] kb env=[]:=rfl
def B2 (s:Nat) (o:Option (List V)) (r:List (Nat×List V)):List (Nat×List V):=
 match o with
 |some c=>(s,c)::r
 |none=>r
@[go_sem] theorem FZ (s:Nat) (c:List V) (r:List (Nat×List V)):B2 s (some c) r=(s,c)::r:=rfl
@[go_sem] theorem F1 (s:Nat) (r:List (Nat×List V)):B2 s none r=r:=rfl
@[go_sem] theorem EZ (s:Nat) (kb:List Nat) (bx:List (Nat×List V)):gv (s::kb) bx=B2 s (aC s bx) (gv kb bx):=by
 simp only[gv]
 split<;>rename_i h<;>rw[h]<;>rfl
@[go_sem] theorem F2 (bx:List (Nat×List V)):gv [] bx=pins bx:=rfl
@[go_sem] theorem JZ:pins []=[]:=rfl
@[go_sem] theorem HL (s:Nat) (cs:List V) (r:List (Nat×List V)):pins ((s,cs)::r)=zb (dJ s) ((s,cs)::pins r) (pins r):=rfl
@[go_sem] theorem J0 {s:Nat} (h:s<100000):dJ s=false:=by
 unfold dJ
 rw[QE]
 intro hh
 rw[Nat.ble_eq]at hh
 omega
@[go_sem] theorem J1 {s:Nat} (h:100000≤s):dJ s=true:=by
 unfold dJ
 rw[Nat.ble_eq]
 exact h
@[go_sem] theorem J2 (kb:List Nat) (p:PV):dU kb (.pv p)=.pv p:=rfl
@[go_sem] theorem J3 (kb:List Nat) (r:List (List PV)):dU kb (.tl r)=.tl r:=rfl
@[go_sem] theorem HM (kb:List Nat) (a b c d:Nat):dU kb (.own a b c d)=.own a b c d:=rfl
@[go_sem] theorem F3 (kb:List Nat) (a b c d:Nat):dU kb (.cT a b c d)=.cT a b c d:=rfl
@[go_sem] theorem HN (kb:List Nat) (i:Nat):dU kb (.map i)=.map i:=rfl
@[go_sem] theorem F4 (kb:List Nat):dU kb .dQ=.dQ:=rfl
@[go_sem] theorem HO (kb:List Nat):dU kb .any=.any:=rfl
@[go_sem] theorem HP (kb:List Nat) (vs:List V):dU kb (.dv vs)=.any:=rfl
@[go_sem] theorem HQ (kb:List Nat) (s o:Nat):dU kb (.ptr s o)=zb (kb.contains s||dJ s) (.ptr s o) .any:=rfl
@[go_sem] theorem F5 (kb:List Nat) (f:Nat) (cap:List V):dU kb (.func f cap)=zb (cap.all (ql kb)) (.func f cap) .any:=rfl
@[go_sem] theorem HS (kb:List Nat) (cs:List V):dU kb (.agg cs)=zb (cs.all (ql kb)) (.agg cs) .any:=rfl
@[go_sem] theorem Nj (kb:List Nat) (p:PV):ql kb (.pv p)=true:=rfl
@[go_sem] theorem Nk (kb:List Nat) (r:List (List PV)):ql kb (.tl r)=true:=rfl
@[go_sem] theorem Me (kb:List Nat) (a b c d:Nat):ql kb (.own a b c d)=true:=rfl
@[go_sem] theorem Mf (kb:List Nat):ql kb .any=true:=rfl
@[go_sem] theorem Mg (kb:List Nat) (i:Nat):ql kb (.map i)=true:=rfl
@[go_sem] theorem J4 (kb:List Nat):ql kb .dQ=true:=rfl
@[go_sem] theorem J5 (kb:List Nat) (a b c d:Nat):ql kb (.cT a b c d)=true:=rfl
@[go_sem] theorem Mh (kb:List Nat) (s o:Nat):ql kb (.ptr s o)=(kb.contains s||dJ s):=rfl
@[go_sem] theorem J6 (kb:List Nat) (f:Nat) (cap:List V):ql kb (.func f cap)=cap.isEmpty:=rfl
@[go_sem] theorem F6 (new:Bool) (rb ra rm:Option Nat) (eG:Bool) (mH:Option Nat) (base:Nat) (h:af):Tn.apply ⟨none,new,none,[],none,false,rb,ra,rm,eG,mH,base,none⟩ h=h:=by
 cases h
 simp[Tn.apply]
@[go_sem] theorem qt (s:Nat) (c:List V) (new:Bool) (rb ra rm:Option Nat) (eG:Bool) (mH:Option Nat) (base:Nat) (bx:List (Nat×List V)) (ar:List aK) (mp:List (List (PV×PV))):Tn.apply ⟨some (s,c),new,none,[],none,false,rb,ra,rm,eG,mH,base,none⟩ ⟨bx,ar,mp⟩=⟨dP s c bx,ar,mp⟩:=by
 simp[Tn.apply]
@[go_sem] theorem HT (i:Nat) (a:aK) (new:Bool) (rb ra rm:Option Nat) (eG:Bool) (mH:Option Nat) (base:Nat) (bx:List (Nat×List V)) (ar:List aK) (mp:List (List (PV×PV))):Tn.apply ⟨none,new,some (i,a),[],none,false,rb,ra,rm,eG,mH,base,none⟩ ⟨bx,ar,mp⟩=⟨bx,ar.set i a,mp⟩:=by
 simp[Tn.apply]
@[go_sem] theorem ik (x:aK) (l:List aK) (new:Bool) (rb ra rm:Option Nat) (eG:Bool) (mH:Option Nat) (base:Nat) (bx:List (Nat×List V)) (ar:List aK) (mp:List (List (PV×PV))):Tn.apply ⟨none,new,none,x::l,none,false,rb,ra,rm,eG,mH,base,none⟩ ⟨bx,ar,mp⟩=⟨bx,ar++x::l,mp⟩:=by
 simp[Tn.apply]
@[go_sem] theorem DV (i:Nat) (a:aK) (x:aK) (l:List aK) (new:Bool) (rb ra rm:Option Nat) (eG:Bool) (mH:Option Nat) (base:Nat) (bx:List (Nat×List V)) (ar:List aK) (mp:List (List (PV×PV))):Tn.apply ⟨none,new,some (i,a),x::l,none,false,rb,ra,rm,eG,mH,base,none⟩ ⟨bx,ar,mp⟩=⟨bx,ar.set i a++x::l,mp⟩:=by
 simp[Tn.apply]
@[go_sem] theorem vu (i:Nat) (m:List (PV×PV)) (new:Bool) (rb ra rm:Option Nat) (eG:Bool) (mH:Option Nat) (base:Nat) (bx:List (Nat×List V)) (ar:List aK) (mp:List (List (PV×PV))):Tn.apply ⟨none,new,none,[],some (i,m),false,rb,ra,rm,eG,mH,base,none⟩ ⟨bx,ar,mp⟩=⟨bx,ar,mp.set i m⟩:=by
 simp[Tn.apply]
@[go_sem] theorem E0 (new:Bool) (rb ra rm:Option Nat) (eG:Bool) (mH:Option Nat) (base:Nat) (bx:List (Nat×List V)) (ar:List aK) (mp:List (List (PV×PV))):Tn.apply ⟨none,new,none,[],none,true,rb,ra,rm,eG,mH,base,none⟩ ⟨bx,ar,mp⟩=⟨bx,ar,mp++[[]]⟩:=by
 simp[Tn.apply]
@[go_sem] theorem HU (ob:Option (Nat×List V)) (new:Bool) (oa:Option (Nat×aK)) (l:List aK) (om:Option (Nat×List (PV×PV))) (pm:Bool) (rb ra rm:Option Nat) (eG:Bool) (mH:Option Nat) (base:Nat) (bs:List (Nat×List V)) (ar:List aK) (mp:List (List (PV×PV))) (h:af):Tn.apply ⟨ob,new,oa,l,om,pm,rb,ra,rm,eG,mH,base,some (bs,ar,mp)⟩ h=⟨eL bs h.bx,ar,mp⟩:=rfl
@[go_sem] theorem F7 (bx:List (Nat×List V)):eL [] bx=bx:=rfl
@[go_sem] theorem E1 (s:Nat) (cs:List V) (r bx:List (Nat×List V)):eL ((s,cs)::r) bx=eL r (dP s cs bx):=rfl
@[go_sem] theorem Nl (env:List (Nat×V)) (h:af) (x:bz) (K:V→Tn→Prop):WE A Pr env h (.eJ x) K=K (bg env x) {}:=WE.uniq (n:=0) rfl
@[go_sem] theorem Mi (env:List (Nat×V)) (h:af) (c a b:bz) (K:V→Tn→Prop):WE A Pr env h (.pick c a b) K=y8 (bg env c) fun t=>Br t (K (bg env a) {}) (K (bg env b) {}):=by
 rw[bI rfl]
 apply propext
 unfold ev
 constructor
 ·rintro ⟨⟨v,t⟩,h1,hk⟩
  simp only[evalOp]at h1
  split at h1
  ·rename_i hc
   cases h1
   exact⟨true,hc,hk⟩
  ·rename_i hc
   cases h1
   exact⟨false,hc,by simpa [Br]using hk⟩
  ·cases h1
 ·rintro ⟨t,hc,hb⟩
  cases t with
  |true=>exact⟨(bg env a,{}),by simp only[evalOp,hc],hb⟩
  |false=>exact⟨(bg env b,{}),by simp only[evalOp,hc],by simpa [Br]using hb⟩
def Nn (slot:Nat) (h:af) (X:Prop) (_t:nj X:=.mk):Prop:=aC slot h.bx=none∧X
@[go_sem] theorem Mj (slot:Nat) (bx:List (Nat×List V)) (ar:List aK) (mp:List (List (PV×PV))) (X:Prop):Nn slot ⟨bx,ar,mp⟩ X=(aC slot bx=none∧X):=rfl
def pT (p:Prop) (X:Prop) (_t:nj X:=.mk):Prop:=p∧X
@[congr] theorem F8 {p p' X:Prop} (h:p=p'):pT p X=pT p' X:=by rw[h]
@[go_sem] theorem HV (X:Prop):pT True X=X:=by simp[pT]
@[go_sem] theorem J7 (env:List (Nat×V)) (h:af) (slot:Nat) (zero:List V) (K:V→Tn→Prop):WE A Pr env h (.alloc slot zero) K=pT ((aC slot h.bx).isNone=true) (K (.ptr slot 0) { bx:=some (slot,zero),new:=true }):=by
 rw[bI rfl]
 apply propext
 unfold ev
 constructor
 ·rintro ⟨⟨v,t⟩,h1,hk⟩
  simp only[evalOp]at h1
  split at h1
  ·rename_i hc
   cases h1
   exact⟨by rw[hc]; rfl,hk⟩
  ·cases h1
 ·rintro ⟨hc,hk⟩
  refine⟨(_,_),?_,hk⟩
  simp only[evalOp]
  cases hl:aC slot h.bx with
  |none=>rfl
  |some x=>simp[hl]at hc
@[go_sem] theorem No (env:List (Nat×V)) (h:af) (slot n:Nat) (x:bz) (K:V→Tn→Prop):WE A Pr env h (.box slot n x) K=pT ((aC slot h.bx).isNone=true∧(bg env x).cells.length=n∧(bg env x).cells.all V.dK=true) (K (.ptr slot 0) { bx:=some (slot,(bg env x).cells),new:=true }):=by
 rw[bI rfl]
 apply propext
 unfold ev
 constructor
 ·rintro ⟨⟨v,t⟩,h1,hk⟩
  simp only[evalOp]at h1
  split at h1
  ·rename_i hc
   split at h1
   ·rename_i h2
    cases h1
    exact⟨⟨by rw[hc]; rfl,h2⟩,hk⟩
   ·cases h1
  ·cases h1
 ·rintro ⟨⟨hc,h2⟩,hk⟩
  refine⟨(_,_),?_,hk⟩
  simp only[evalOp]
  cases hl:aC slot h.bx with
  |none=>simp only; rw[if_pos h2]
  |some x=>simp[hl]at hc
@[go_sem] theorem J8 (env:List (Nat×V)) (h:af) (zero:List V) (parts:List (Nat×Nat×bz)) (K:V→Tn→Prop):WE A Pr env h (.build zero parts) K=bS (ez (bg env) zero parts) fun cs=>K (.agg cs) {}:=by
 rw[bI rfl]
 apply propext
 unfold ev
 constructor
 ·rintro ⟨⟨v,t⟩,h1,hk⟩
  simp only[evalOp]at h1
  split at h1
  ·rename_i cs hc
   cases h1
   exact⟨cs,hc,hk⟩
  ·cases h1
 ·rintro ⟨cs,hc,hk⟩
  exact⟨(_,_),by simp only[evalOp,hc],hk⟩
def F9 (h:af) (k len:Nat) (cs:List V):Option (V×Tn):=
 match hZ (fE k len cs)with
 |.inl rows=>some (.tl rows,{})
 |.inr rows=>if cs.all V.calm then some (.own h.ar.length 0 0 len,{ push:=[⟨0,k,.inr rows⟩],base:=h.ar.length }) else none
@[go_sem] theorem Np (env:List (Nat×V)) (h:af) (k:Nat) (zero:List V) (len:Nat) (parts:List (Nat×Nat×bz)) (K:V→Tn→Prop):WE A Pr env h (.lit k zero len parts) K=bS (ez (bg env) ((List.range (len*k)).map fun i=>zero.getD (i%k) .any) parts) fun cs=>bS (F9 h k len cs) fun r=>K r.1 r.2:=by
 rw[bI rfl]
 apply propext
 unfold ev
 constructor
 ·rintro ⟨⟨v,t⟩,h1,hk⟩
  simp only[evalOp]at h1
  split at h1
  ·rename_i cs hc
   exact⟨cs,hc,_,h1,hk⟩
  ·cases h1
 ·rintro ⟨cs,hc,⟨v,t⟩,h1,hk⟩
  exact⟨(v,t),by simp only[evalOp,hc]; exact h1,hk⟩
@[go_sem] theorem Mk (env:List (Nat×V)) (h:af) (n:Nat) (b:Bool) (x:bz) (K:V→Tn→Prop):WE A Pr env h (.load n b x) K=bS (loadAt h n (bg env x)) fun r=>bS (dZ b r.1) fun v=>K v r.2:=by
 rw[bI rfl]
 apply propext
 unfold ev
 constructor
 ·rintro ⟨⟨v,t⟩,h1,hk⟩
  simp only[evalOp]at h1
  split at h1
  ·rename_i cs tq hc
   split at h1
   ·rename_i vq hv
    cases h1
    exact⟨_,hc,_,hv,hk⟩
   ·cases h1
  ·cases h1
 ·rintro ⟨⟨cs,t⟩,hc,v,hv,hk⟩
  exact⟨(v,t),by simp only[evalOp,hc,hv],hk⟩
@[go_sem] theorem J9 (env:List (Nat×V)) (h:af) (n:Nat) (x v:bz) (K:V→Tn→Prop):WE A Pr env h (.store n x v) K=pT ((bg env v).cells.length=n) (bS (storeAt h (bg env x) (bg env v).cells) fun t=>K .any t):=by
 rw[bI rfl]
 apply propext
 unfold ev
 constructor
 ·rintro ⟨⟨v,t⟩,h1,hk⟩
  simp only[evalOp]at h1
  split at h1
  ·rename_i hn
   split at h1
   ·rename_i t' ht
    cases h1
    exact⟨hn,_,ht,hk⟩
   ·cases h1
  ·cases h1
 ·rintro ⟨hn,t,ht,hk⟩
  exact⟨(_,t),by simp only[evalOp,hn,ht,if_true],hk⟩
def oC:V→Option V
 |.func f cap=>some (.func f cap)
 |.pv (.func f cap)=>some (.pv (.func f cap))
 |.ptr s o=>some (.ptr s o)
 |.pv (.ro t cs)=>some (.pv (.ro t cs))
 |.cT i v r c=>some (.cT i v r c)
 |_=>none
theorem fY {α β:Type} (o:Option α) (f:α→β) (K:β→Prop):bS (o.map f) K=bS o fun v=>K (f v):=by
 cases o<;>simp[bS]
@[go_sem] theorem Ka (env:List (Nat×V)) (h:af) (x:bz) (K:V→Tn→Prop):WE A Pr env h (.dX x) K=bS (oC (bg env x)) fun v=>K v {}:=by
 rw[bI rfl,← fY _ (fun v=>(v,({}:Tn))) (fun r=>K r.1 r.2)]
 congr 1
 simp only[ev,evalOp]
 cases bg env x with
 |pv p=>cases p<;>rfl
 |_=>rfl
@[go_sem] theorem Nq (env:List (Nat×V)) (h:af) (op:BinOp) (x y:bz) (K:V→Tn→Prop):WE A Pr env h (.bin op x y) K=bS (ea op (bg env x) (bg env y)) fun v=>K v {}:=by
 rw[bI rfl,← fY _ (fun v=>(v,({}:Tn))) (fun r=>K r.1 r.2)]; rfl
def DW (ag:Bool) (ks:List Nat) (neg:Bool) (x y:V):Option V:=
 match bn ag x,bn ag y with
 |some a,some b=>match aY ks a b with
  |some r=>some (.pv (.bool (if neg then !r else r)))
  |none=>none
 |_,_=>none
@[go_sem] theorem Nr (env:List (Nat×V)) (h:af) (ag:Bool) (ks:List Nat) (neg:Bool) (x y:bz) (K:V→Tn→Prop):WE A Pr env h (.mF ag ks neg x y) K=bS (DW ag ks neg (bg env x) (bg env y)) fun v=>K v {}:=by
 rw[bI rfl,← fY _ (fun v=>(v,({}:Tn))) (fun r=>K r.1 r.2)]
 congr 1
 simp only[ev,evalOp,DW]
 cases bn ag (bg env x)with
 |none=>rfl
 |some a=>
  cases bn ag (bg env y)with
  |none=>rfl
  |some b=>
   simp only
   cases aY ks a b<;>rfl
@[go_sem] theorem OG (env:List (Nat×V)) (h:af) (op:UnOp) (x:bz) (K:V→Tn→Prop):WE A Pr env h (.un op x) K=bS (Hy op (bg env x)) fun v=>K v {}:=by
 rw[bI rfl,← fY _ (fun v=>(v,({}:Tn))) (fun r=>K r.1 r.2)]; rfl
def E2 (k:IntKind):V→Option V
 |.pv (.int _ n)=>some (.pv (.int k (k.wrap n)))
 |_=>none
@[go_sem] theorem HW (k j:IntKind) (n:Int):E2 k (.pv (.int j n))=some (.pv (.int k (k.wrap n))):=rfl
@[go_sem] theorem Ml (env:List (Nat×V)) (h:af) (k:IntKind) (x:bz) (K:V→Tn→Prop):WE A Pr env h (.conv k x) K=bS (E2 k (bg env x)) fun v=>K v {}:=by
 rw[bI rfl,← fY _ (fun v=>(v,({}:Tn))) (fun r=>K r.1 r.2)]
 congr 1
 simp only[ev,evalOp]
 cases bg env x with
 |pv p=>cases p<;>rfl
 |_=>rfl
def xW:V→Option V
 |.pv (.str s)=>some (.pv (.str s))
 |.pv (.int _ n)=>some (.pv (.str (Utf8.encode n)))
 |_=>none
@[go_sem] theorem Ga (s:ByteArray):xW (.pv (.str s))=some (.pv (.str s)):=rfl
@[go_sem] theorem Gb (k:IntKind) (n:Int):xW (.pv (.int k n))=some (.pv (.str (Utf8.encode n))):=rfl
@[go_sem] theorem Kb (env:List (Nat×V)) (h:af) (x:bz) (K:V→Tn→Prop):WE A Pr env h (.sf x) K=bS (xW (bg env x)) fun v=>K v {}:=by
 rw[bI rfl,← fY _ (fun v=>(v,({}:Tn))) (fun r=>K r.1 r.2)]
 congr 1
 simp only[ev,evalOp]
 cases bg env x with
 |pv p=>cases p<;>rfl
 |_=>rfl
@[go_sem] theorem Ns (env:List (Nat×V)) (h:af) (off:Nat) (x:bz) (K:V→Tn→Prop):WE A Pr env h (.Hw off x) K=bS (sj off (bg env x)) fun v=>K v {}:=by
 rw[bI rfl,← fY _ (fun v=>(v,({}:Tn))) (fun r=>K r.1 r.2)]; rfl
@[go_sem] theorem Nt (env:List (Nat×V)) (h:af) (k:Nat) (x i:bz) (K:V→Tn→Prop):WE A Pr env h (.idx k x i) K=bS (nZ h k (bg env x) (intOf (bg env i))) fun r=>K r.1 r.2:=by
 rw[bI rfl]; rfl
def DX (i:Option Int):V→Option V
 |.pv (.str s)=>match cF i s.size with
  |some j=>match s[j]? with
   |some b=>some (.pv (.int .u8 b.toNat))
   |none=>none
  |none=>none
 |_=>none
@[go_sem] theorem Nu (env:List (Nat×V)) (h:af) (x i:bz) (K:V→Tn→Prop):WE A Pr env h (.Dh x i) K=bS (DX (intOf (bg env i)) (bg env x)) fun v=>K v {}:=by
 rw[bI rfl,← fY _ (fun v=>(v,({}:Tn))) (fun r=>K r.1 r.2)]
 congr 1
 simp only[ev,evalOp]
 cases bg env x with
 |pv p=>
  cases p<;>simp only[DX]<;>first|rfl|skip
  rename_i str
  cases cF (intOf (bg env i)) str.size with
  |none=>rfl
  |some j=>
   simp only
   cases str[j]?<;>rfl
 |_=>rfl
@[go_sem] theorem OH (env:List (Nat×V)) (h:af) (k:Nat) (x:bz) (lo hi mx:Option bz) (K:V→Tn→Prop):WE A Pr env h (.sl k x lo hi mx) K=bS (du (bg env) h k (bg env x) lo hi mx) fun r=>K r.1 r.2:=by
 rw[bI rfl]; rfl
@[go_sem] theorem Nv (env:List (Nat×V)) (h:af) (kd:Nat) (x:bz) (K:V→Tn→Prop):WE A Pr env h (.len kd x) K=bS (gu h kd (bg env x)) fun r=>K (.pv (.int .i64 r.1)) r.2:=by
 rw[bI rfl]
 apply propext
 unfold ev
 constructor
 ·rintro ⟨⟨v,t⟩,h1,hk⟩
  simp only[evalOp]at h1
  split at h1
  ·rename_i n tq hc
   cases h1
   exact⟨_,hc,hk⟩
  ·cases h1
 ·rintro ⟨⟨n,t⟩,hc,hk⟩
  exact⟨(_,t),by simp only[evalOp,hc],hk⟩
@[go_sem] theorem Nw (env:List (Nat×V)) (h:af) (k:Nat) (x y:bz) (K:V→Tn→Prop):WE A Pr env h (.app k x y) K=bS (aU h k (bg env x) (bg env y)) fun r=>K r.1 r.2:=by
 rw[bI rfl]; rfl
@[go_sem] theorem Mm (env:List (Nat×V)) (h:af) (k:Nat) (zero:List V) (n c:bz) (K:V→Tn→Prop):WE A Pr env h (.make k zero n c) K=bS (intOf (bg env n)) fun a=>bS (intOf (bg env c)) fun b=>pT (0≤a∧a≤b∧b≤aQ) (K (.own h.ar.length 0 0 a.toNat) { push:=[⟨0,k,bY a.toNat zero⟩],base:=h.ar.length }):=by
 rw[bI rfl]
 apply propext
 unfold ev
 constructor
 ·rintro ⟨⟨v,t⟩,h1,hk⟩
  simp only[evalOp]at h1
  split at h1
  ·rename_i a b ha hb
   split at h1
   ·rename_i hc
    cases h1
    exact⟨a,ha,b,hb,hc,hk⟩
   ·cases h1
  ·cases h1
 ·rintro ⟨a,ha,b,hb,hc,hk⟩
  exact⟨(_,_),by simp only[evalOp,ha,hb]; rw[if_pos hc],hk⟩
@[go_sem] theorem HX (b:Nat):ku b []=[]:=rfl
@[go_sem] theorem Gc (b:Nat) (d:Option Nat) (q:da) (g:Option (Nat×Bool)) (un:List Nat) (r:List (ay×List Nat)):ku b ((⟨d,q,g⟩,un)::r)=(⟨d,sk b q,g⟩,un)::ku b r:=rfl
def zd:Nat→List aK
 |0=>[]
 |n+1=>⟨0,0,.inl []⟩::zd n
@[go_sem] theorem Gd:zd 0=[]:=rfl
@[go_sem] theorem Ge (n:Nat):zd (n+1)=⟨0,0,.inl []⟩::zd n:=rfl
attribute [go_sem] sk
@[go_sem] theorem Kc (env:List (Nat×V)) (h:af) (K:V→Tn→Prop):WE A Pr env h .ki K=K (.map h.mp.length) { nY:=true }:=WE.uniq (n:=0) rfl
def mapOf (h:af):V→Option (List (PV×PV))
 |.dQ=>some []
 |.map id=>h.mp[id]?
 |_=>none
def Gf:V→Tn
 |.map id=>{ rm:=some id }
 |_=>{}
@[go_sem] theorem Kd (id:Nat):Gf (.map id)={ rm:=some id }:=rfl
@[go_sem] theorem HY:Gf .dQ={}:=rfl
@[go_sem] theorem Gg (h:af):mapOf h .dQ=some []:=rfl
@[go_sem] theorem HZ (h:af) (id:Nat):mapOf h (.map id)=h.mp[id]?:=rfl
def uC (zero:V) (ok:Bool) (r:Option (Nat×PV)):V:=
 if ok then .dv [match r with|some (_,p)=>.pv p|none=>zero,.pv (.bool r.isSome)] else match r with|some (_,p)=>.pv p|none=>zero
@[go_sem] theorem Mn (env:List (Nat×V)) (h:af) (ag:Bool) (ks:List Nat) (zero:V) (x i:bz) (ok:Bool) (K:V→Tn→Prop):WE A Pr env h (.look ag ks zero x i ok) K=bS (keyOf ag (bg env i)) fun k=>bS (mapOf h (bg env x)) fun m=>bS (findKey ag ks k m 0) fun r=>K (uC zero ok r) (Gf (bg env x)):=by
 rw[bI rfl]
 apply propext
 unfold ev
 constructor
 ·rintro ⟨⟨v,t⟩,h1,hk⟩
  simp only[evalOp]at h1
  split at h1
  ·cases h1
  ·rename_i k hk'
   split at h1
   ·cases h1
   ·rename_i m hm
    split at h1
    ·cases h1
    ·rename_i r hr
     cases h1
     refine⟨k,hk',m,?_,r,hr,hk⟩
     cases hx:bg env x<;>simp only[hx]at hm<;>first|exact hm|cases hm
 ·rintro ⟨k,hk',m,hm,r,hr,hk⟩
  refine⟨(_,_),?_,hk⟩
  simp only[evalOp,hk']
  cases hx:bg env x<;>simp only[hx,mapOf]at hm<;>first|(cases hm; done)|skip
  ·simp only[hm,hr]
   rfl
  ·cases hm
   simp only[hr]
   rfl
def B3 (ag:Bool) (ks:List Nat) (q p:PV) (id:Nat) (l:List (PV×PV)):Option Tn:=
 match findKey ag ks q l 0 with
 |some (some (i,_))=>some { mp:=some (id,l.set i (q,p)) }
 |some none=>some { mp:=some (id,l++[(q,p)]) }
 |none=>none
def B4:V→Option Nat
 |.map id=>some id
 |_=>none
@[go_sem] theorem H0 (id:Nat):B4 (.map id)=some id:=rfl
@[go_sem] theorem Ny (env:List (Nat×V)) (h:af) (ag:Bool) (ks:List Nat) (m k v:bz) (K:V→Tn→Prop):WE A Pr env h (.zK ag ks m k v) K=bS (B4 (bg env m)) fun id=>bS (keyOf ag (bg env k)) fun q=>bS (bg env v).bG fun p=>bS h.mp[id]? fun l=>bS (B3 ag ks q p id l) fun t=>K .any t:=by
 rw[bI rfl]
 apply propext
 unfold ev
 constructor
 ·rintro ⟨⟨v,t⟩,h1,hk⟩
  simp only[evalOp]at h1
  split at h1
  ·rename_i id q p h2 h3 h4
   split at h1
   ·rename_i l hl
    refine⟨id,by rw[h2]; rfl,q,h3,p,h4,l,hl,?_⟩
    simp only[B3]
    split at h1
    ·rename_i hf
     cases h1
     exact⟨_,by rw[hf],hk⟩
    ·rename_i hf
     cases h1
     exact⟨_,by rw[hf],hk⟩
    ·cases h1
   ·cases h1
  ·cases h1
 ·rintro ⟨id,h2,q,h3,p,h4,l,hl,t,ht,hk⟩
  refine⟨(_,t),?_,hk⟩
  have h2':bg env m=.map id:=by
   cases hx:bg env m<;>simp only[hx,B4]at h2<;>first|(cases h2; rfl)|cases h2
  simp only[evalOp,h2',h3,h4,hl]
  simp only[B3]at ht
  split at ht
  ·rename_i hf
   cases ht
   rw[hf]
  ·rename_i hf
   cases ht
   rw[hf]
  ·cases ht
@[go_sem] theorem Mo (env:List (Nat×V)) (h:af) (f:Nat) (cap:List bz) (K:V→Tn→Prop):WE A Pr env h (.jA f cap) K=K (.func f (cap.map (bg env))) {}:=WE.uniq (n:=0) rfl
def Gh (i:Nat):V→Option V
 |.dv vs=>vs[i]?
 |_=>none
@[go_sem] theorem Ke (i:Nat) (vs:List V):Gh i (.dv vs)=vs[i]?:=rfl
@[go_sem] theorem Nz (env:List (Nat×V)) (h:af) (x:bz) (i:Nat) (K:V→Tn→Prop):WE A Pr env h (.ext x i) K=bS (Gh i (bg env x)) fun v=>K v {}:=by
 rw[bI rfl,← fY _ (fun v=>(v,({}:Tn))) (fun r=>K r.1 r.2)]
 congr 1
 simp only[ev,evalOp]
 cases bg env x<;>simp only[Gh]<;>first|rfl|skip
 split<;>rename_i hh<;>rw[hh]<;>rfl
def jU (isMax:Bool):List V→Option V
 |.pv (.int k a)::r=>match gD isMax a r with
  |some n=>some (.pv (.int k n))
  |none=>none
 |_=>none
@[go_sem] theorem H2 (env:List (Nat×V)) (h:af) (isMax:Bool) (args:List bz) (K:V→Tn→Prop):WE A Pr env h (.er isMax args) K=bS (jU isMax (args.map (bg env))) fun v=>K v {}:=by
 rw[bI rfl,← fY _ (fun v=>(v,({}:Tn))) (fun r=>K r.1 r.2)]
 congr 1
 simp only[ev,evalOp]
 cases args.map (bg env)with
 |nil=>rfl
 |cons x r=>
  cases x with
  |pv p=>
   cases p with
   |int k a=>
    simp only[jU]
    cases gD isMax a r<;>rfl
   |_=>rfl
  |_=>rfl
@[go_sem] theorem E3 (k j:IntKind) (a b:Int):jU true [.pv (.int k a),.pv (.int j b)]=some (.pv (.int k (max a b))):=by
 simp only[jU,gD]
 congr 3
 simp only[if_true]
 split<;>omega
@[go_sem] theorem DY (k j:IntKind) (a b:Int):jU false [.pv (.int k a),.pv (.int j b)]=some (.pv (.int k (min a b))):=by
 simp only[jU,gD]
 congr 3
 simp only[Bool.false_eq_true,if_false]
 split<;>omega
def Gi (h:af) (k:Nat) (zero:List V):V→Option (V×Tn)
 |.pv (.ae _ [])=>some (.dv [],{})
 |.tl []=>some (.dv [],{})
 |.own id aj off len=>match aB h id aj,ax V.bG zero with
  |some a,some z=>match a.body with
   |.inl rows=>if a.k=k∧off+len≤rows.length then
     some (.dv [],{ ar:=some (id,⟨aj,k,.inl (rows.take off++List.replicate len z++rows.drop (off+len))⟩) }) else none
   |.inr _=>none
  |_,_=>none
 |_=>none
@[go_sem] theorem NA (env:List (Nat×V)) (h:af) (k:Nat) (zero:List V) (x:bz) (K:V→Tn→Prop):WE A Pr env h (.Dw k zero x) K=bS (Gi h k zero (bg env x)) fun r=>K r.1 r.2:=by
 rw[bI rfl]
 rfl
@[go_sem] theorem E4:jU true []=none:=rfl
end Go.Pv
namespace Go.Pv
variable {A:Nat→Option aa} {Pr:bf}
@[go_sem] theorem NB (c:Bool) (X Y:Prop):Br (!c) X Y=Br c Y X:=by cases c<;>simp[Br]
theorem wrap_i64 {x:Int} (h1: -9223372036854775808≤x) (h2:x≤9223372036854775807):IntKind.wrap .i64 x=x:=by
 show (if (true&&decide (x%(2^64:Int)≥(2^63:Int)))=true then x%(2^64:Int) - (2^64:Int) else x%(2^64:Int))=x
 simp only[Bool.true_and,decide_eq_true_eq,Int.reducePow]
 by_cases h:x%18446744073709551616≥9223372036854775808
 ·rw[if_pos h]; omega
 ·rw[if_neg h]; omega
attribute [go_sem] wrap_i64
theorem wrap_u8 {x:Int} (h1:0≤x) (h2:x≤255):IntKind.wrap .u8 x=x:=by
 show (if (false&&decide (x%(2^8:Int)≥(2^7:Int)))=true then x%(2^8:Int) - (2^8:Int) else x%(2^8:Int))=x
 simp only[Bool.false_and,Bool.false_eq_true,if_false,Int.reducePow]
 omega
theorem qb {α:Type} [DecidableEq α] (a b:α):(a==b)=decide (a=b):=by
 by_cases h:a=b<;>simp[h]
@[go_sem] theorem Kf (k:IntKind) (a b:Int):ea .add (.pv (.int k a)) (.pv (.int k b))=some (.pv (.int k (k.wrap (a+b)))):=by simp[ea,fN]
@[go_sem] theorem Kg (k:IntKind) (a b:Int):ea .sub (.pv (.int k a)) (.pv (.int k b))=some (.pv (.int k (k.wrap (a - b)))):=by simp[ea,fN]
@[go_sem] theorem Kh (k:IntKind) (a b:Int):ea .mul (.pv (.int k a)) (.pv (.int k b))=some (.pv (.int k (k.wrap (a*b)))):=by simp[ea,fN]
@[go_sem] theorem Ki (k:IntKind) (a b:Int):ea .eql (.pv (.int k a)) (.pv (.int k b))=some (.pv (.bool (decide (a=b)))):=by simp[ea,fN,qb]
@[go_sem] theorem Kj (k:IntKind) (a b:Int):ea .neq (.pv (.int k a)) (.pv (.int k b))=some (.pv (.bool (!decide (a=b)))):=by simp[ea,fN,bne,qb]
@[go_sem] theorem Kk (k:IntKind) (a b:Int):ea .lss (.pv (.int k a)) (.pv (.int k b))=some (.pv (.bool (decide (a<b)))):=by simp[ea,fN]
@[go_sem] theorem Kl (k:IntKind) (a b:Int):ea .leq (.pv (.int k a)) (.pv (.int k b))=some (.pv (.bool (decide (a≤b)))):=by simp[ea,fN]
@[go_sem] theorem Km (k:IntKind) (a b:Int):ea .gtr (.pv (.int k a)) (.pv (.int k b))=some (.pv (.bool (decide (b<a)))):=by simp[ea,fN]
@[go_sem] theorem Kn (k:IntKind) (a b:Int):ea .geq (.pv (.int k a)) (.pv (.int k b))=some (.pv (.bool (decide (b≤a)))):=by simp[ea,fN]
theorem ns {a b:ByteArray}:(a.toList==b.toList)=decide (a=b):=by
 by_cases h:a=b
 ·subst h; simp
 ·have:¬a.toList=b.toList:=fun hh=>h (ByteArray.ext (by
   have e:∀x:ByteArray,x.toList=x.data.toList:=fun x=>by
    rw[ByteArray.toList_eq]
   rw[e,e]at hh
   exact Array.toList_inj.1 hh))
  simp[h,this]
@[go_sem] theorem H3 (a b:ByteArray):ea .eql (.pv (.str a)) (.pv (.str b))=some (.pv (.bool (decide (a=b)))):=by simp only[ea,qk,Option.map_some,ns]
@[go_sem] theorem H4 (a b:ByteArray):ea .neq (.pv (.str a)) (.pv (.str b))=some (.pv (.bool (!decide (a=b)))):=by simp only[ea,qk,Option.map_some,ns]
@[go_sem] theorem Mp (k:IntKind) (n:Int):Hy .neg (.pv (.int k n))=some (.pv (.int k (k.wrap (0 - n)))):=rfl
@[go_sem] theorem Mq (b:Bool):Hy .not (.pv (.bool b))=some (.pv (.bool !b)):=rfl
@[go_sem] theorem intOf_int (k:IntKind) (n:Int):intOf (.pv (.int k n))=some n:=rfl
@[go_sem] theorem uD {x:Int} {n:Nat} (h0:0≤x) (h1:x<n):cF (some x) n=some x.toNat:=by simp[cF,h0,h1]
@[go_sem] theorem Mr {a b:Int} {X:Prop} (h0:0≤a) (h1:a≤b) (h2:b≤2147483648):pT (0≤a∧a≤b∧b≤aQ) X=X:=by
 unfold pT aQ
 apply propext
 constructor
 ·exact fun h=>h.2
 ·exact fun h=>⟨⟨h0,h1,h2⟩,h⟩
theorem tf {α β:Type} {f:α→Option β}:∀{l:List α} {r:List β},ax f l=some r→r.length=l.length
 |[],r,h=>by cases h; rfl
 |x::l,r,h=>by
  simp only[ax]at h
  split at h
  ·rename_i y l' h1 h2
   cases h
   simp[tf h2]
  ·cases h
@[go_sem] theorem Ko (p:PV):V.cells (.pv p)=[.pv p]:=rfl
@[go_sem] theorem Kp (r:List (List PV)):V.cells (.tl r)=[.tl r]:=rfl
@[go_sem] theorem H5 (a b c d:Nat):V.cells (.own a b c d)=[.own a b c d]:=rfl
@[go_sem] theorem H6 (cs:List V):V.cells (.agg cs)=cs:=rfl
@[go_sem] theorem H7 (i:Nat):V.cells (.map i)=[.map i]:=rfl
@[go_sem] theorem Gj:V.cells .dQ=[.dQ]:=rfl
@[go_sem] theorem Gk (f:Nat) (c:List V):V.cells (.func f c)=[.func f c]:=rfl
@[go_sem] theorem H8 (a b:Nat):V.cells (.ptr a b)=[.ptr a b]:=rfl
@[go_sem] theorem Gl (a b c d:Nat):V.cells (.cT a b c d)=[.cT a b c d]:=rfl
@[go_sem] theorem H9 (b:Bool):V.calm (.pv (.bool b))=true:=rfl
@[go_sem] theorem Kq (k:IntKind) (n:Int):V.calm (.pv (.int k n))=true:=rfl
@[go_sem] theorem Kr (s:ByteArray):V.calm (.pv (.str s))=true:=rfl
@[go_sem] theorem Ks (t:Nat) (r:List (List PV)):V.calm (.pv (.ae t r))=true:=rfl
@[go_sem] theorem Ia:V.calm (.pv .mE)=true:=rfl
@[go_sem] theorem Ib:V.calm (.pv .pW)=true:=rfl
@[go_sem] theorem Gm (f:Nat) (c:List PV):V.calm (.pv (.func f c))=c.isEmpty:=rfl
@[go_sem] theorem Ms (r:List (List PV)):V.calm (.tl r)=true:=rfl
@[go_sem] theorem Kt (a b c d:Nat):V.calm (.own a b c d)=true:=rfl
@[go_sem] theorem Ic (f:Nat) (c:List V):V.calm (.func f c)=c.isEmpty:=rfl
@[go_sem] theorem Ku (i:Nat):V.calm (.map i)=false:=rfl
@[go_sem] theorem Ie:V.calm .dQ=false:=rfl
@[go_sem] theorem Kv (a b:Nat):V.calm (.ptr a b)=false:=rfl
def B5:V→Bool
 |.ptr s _=>dJ s
 |.map _|.dQ=>true
 |_=>false
@[go_sem] theorem Kw (s o:Nat):B5 (.ptr s o)=dJ s:=rfl
@[go_sem] theorem Kx (i:Nat):B5 (.map i)=true:=rfl
@[go_sem] theorem Ig:B5 .dQ=true:=rfl
@[go_sem] theorem Ky (v:V):V.dK v=(V.calm v||B5 v):=by cases v<;>simp[V.dK,V.calm,B5]
@[go_sem] theorem Gn (b:Bool):V.sized (.pv (.bool b))=true:=rfl
@[go_sem] theorem Ih (k:IntKind) (n:Int):V.sized (.pv (.int k n))=true:=rfl
@[go_sem] theorem Ii (s:ByteArray):V.sized (.pv (.str s))=true:=rfl
@[go_sem] theorem Ij (t:Nat) (r:List (List PV)):V.sized (.pv (.ae t r))=true:=rfl
@[go_sem] theorem Gp:V.sized (.pv .mE)=true:=rfl
@[go_sem] theorem Kz (r:List (List PV)):V.sized (.tl r)=true:=rfl
@[go_sem] theorem Ik (a b c d:Nat):V.sized (.own a b c d)=true:=rfl
@[go_sem] theorem Il (cs:List V):V.sized (.agg cs)=true:=rfl
@[go_sem] theorem Gq:V.sized .dQ=true:=rfl
@[go_sem] theorem Im (i:Nat):V.sized (.map i)=true:=rfl
@[go_sem] theorem Gr (f:Nat) (c:List V):V.sized (.func f c)=true:=rfl
@[go_sem] theorem KA {α:Type} (off n:Nat) (l:List α):takeN off n l=if off+n≤l.length then some ((l.drop off).take n) else none:=rfl
@[go_sem] theorem E5 (cs:List V):dZ true cs=some (.agg cs):=rfl
@[go_sem] theorem Gs (v:V):dZ false [v]=some v:=rfl
@[go_sem] theorem KB {α:Type} (l:List α) (off:Nat) (n:List α):setAt l off n=l.take off++n++l.drop (off+n.length):=rfl
@[go_sem] theorem Io (g:bz→V) (cells:List V):ez g cells []=some cells:=rfl
@[go_sem] theorem Gt (g:bz→V) (cells:List V) (off n:Nat) (x:bz) (r:List (Nat×Nat×bz)):ez g cells ((off,n,x)::r)=if (g x).sized=true∧(g x).cells.length=n∧off+n≤cells.length then ez g (setAt cells off (g x).cells) r else none:=rfl
@[go_sem] theorem Ip (h:af) (n t:Nat) (cs:List PV):loadAt h n (.pv (.ro t cs))=(takeN 0 n cs).bind fun l=>some (l.map .pv,{}):=by
 simp only[loadAt]
 cases takeN 0 n cs<;>rfl
@[go_sem] theorem Gu (h:af) (n slot off:Nat):loadAt h n (.ptr slot off)=(aC slot h.bx).bind fun cs=>(takeN off n cs).bind fun l=>some (l,{ rb:=some slot }):=by
 simp only[loadAt]
 cases aC slot h.bx with
 |none=>rfl
 |some cs=>
  simp only[Option.bind_some]
  cases takeN off n cs<;>rfl
def jV (row:Nat):Sum (List (List PV)) (List (List V))→Option (List V)
 |.inl x=>x[row]?.map (·.map .pv)
 |.inr x=>x[row]?
@[go_sem] theorem E6 (row:Nat) (x:List (List PV)):jV row (.inl x)=x[row]?.map (·.map .pv):=rfl
@[go_sem] theorem E7 (row:Nat) (x:List (List V)):jV row (.inr x)=x[row]?:=rfl
@[go_sem] theorem E8 (h:af) (n id aj row col:Nat):loadAt h n (.cT id aj row col)=(aB h id aj).bind fun a=>(jV row a.body).bind fun r=>(takeN col n r).bind fun l=>some (l,{ ra:=some id }):=by
 simp only[loadAt]
 cases aB h id aj with
 |none=>rfl
 |some a=>
  simp only[Option.bind_some]
  cases a.body with
  |inl x=>
   simp only[jV]
   cases x[row]? with
   |none=>rfl
   |some r=>
    simp only[Option.map_some,Option.bind_some,takeN,List.length_map]
    by_cases hc:col+n≤r.length<;>simp[hc]
  |inr x=>
   simp only[jV]
   cases x[row]? with
   |none=>rfl
   |some r=>
    simp only[Option.bind_some]
    cases takeN col n r<;>rfl
@[go_sem] theorem E9 (h:af) (slot off:Nat) (news:List V):storeAt h (.ptr slot off) news=(aC slot h.bx).bind fun cs=>if off+news.length≤cs.length∧news.all V.dK then some { bx:=some (slot,setAt cs off news) } else none:=by
 simp only[storeAt]
 cases aC slot h.bx<;>rfl
def dq (id row col:Nat) (news:List V) (a:aK):Option Tn:=
 if row<a.size∧col+news.length≤a.k∧news.all V.calm then some { ar:=some (id,{ a with body:=setBody row col news a.body }) } else none
@[go_sem] theorem DZ (h:af) (id aj row col:Nat) (news:List V):storeAt h (.cT id aj row col) news=(aB h id aj).bind (dq id row col news):=by
 simp only[storeAt]
 cases aB h id aj<;>rfl
def uk (row c:Nat) (news:List PV) (x:List (List PV)):List (List PV):=x.set row ((x.getD row []).take c++news++(x.getD row []).drop (c+news.length))
theorem gK {id row col aj k:Nat} {news:List V} {rows:List (List PV)} {l:List PV} (h1:row<rows.length) (h2:ax V.bG news=some l) (h3:col+news.length≤k) (h4:news.all V.calm=true):
  dq id row col news ⟨aj,k,.inl rows⟩=some { ar:=some (id,⟨aj,k,.inl (uk row col l rows)⟩) }:=by
 have hl:l.length=news.length:=tf h2
 have:row<(⟨aj,k,.inl rows⟩:aK).size:=h1
 simp only[dq,this,h3,h4,true_and,if_true,setBody,h2,uk,hl]
theorem nu {id row aj:Nat} {p:PV} {rows:List (List PV)} (h1:row<rows.length) (h2:p.perm=true) (h3:rows[row]?=none∨∃q,rows[row]?=some [q]) (h4:(V.pv p).calm=true):
  dq id row 0 [.pv p] ⟨aj,1,.inl rows⟩=some { ar:=some (id,⟨aj,1,.inl (rows.set row [p])⟩) }:=by
 rw[gK (l:=[p]) h1 (by simp[ax,V.bG,h2]) (by simp) (by simp[h4])]
 have:rows.getD row []=[]∨∃q,rows.getD row []=[q]:=by
  rcases h3 with h|⟨q,h⟩
  ·exact .inl (by simp[h])
  ·exact .inr ⟨q,by simp[h]⟩
 unfold uk
 rcases this with h|⟨q,h⟩<;>rw[h]<;>rfl
@[go_sem] theorem Mt (off t:Nat) (cs:List PV):sj off (.pv (.ro t cs))=some (.pv (.ro t (cs.drop off))):=rfl
@[go_sem] theorem KC (off s o:Nat):sj off (.ptr s o)=some (.ptr s (o+off)):=rfl
@[go_sem] theorem Iq (off i v r c:Nat):sj off (.cT i v r c)=some (.cT i v r (c+off)):=rfl
@[go_sem] theorem Fa (f:Nat) (cap:List V):oC (.func f cap)=some (.func f cap):=rfl
@[go_sem] theorem D0 (f:Nat) (cap:List PV):oC (.pv (.func f cap))=some (.pv (.func f cap)):=rfl
@[go_sem] theorem Gv (s o:Nat):oC (.ptr s o)=some (.ptr s o):=rfl
@[go_sem] theorem Ir (t:Nat) (cs:List PV):oC (.pv (.ro t cs))=some (.pv (.ro t cs)):=rfl
@[go_sem] theorem Fb (i v r c:Nat):oC (.cT i v r c)=some (.cT i v r c):=rfl
@[go_sem] theorem Fc (f:Nat) (cap:List V):funcOf (.func f cap)=some (f,cap):=rfl
@[go_sem] theorem D1 (f:Nat) (cap:List PV):funcOf (.pv (.func f cap))=some (f,cap.map .pv):=rfl
@[go_sem] theorem oD (bx:List (Nat×List V)) (ar:List aK) (mp:List (List (PV×PV))) (id aj:Nat):aB ⟨bx,ar,mp⟩ id aj=(ar[id]?).bind fun a=>if a.aj=aj then some a else none:=by
 simp only[aB]
 cases ar[id]?<;>rfl
@[go_sem] theorem Dk (p:PV):bn false (.pv p)=some [p]:=rfl
@[go_sem] theorem B6 (cs:List V):bn true (.agg cs)=ax ue cs:=rfl
@[go_sem] theorem Mu (p:PV):ue (.pv p)=some p:=rfl
@[go_sem] theorem KD {α β:Type} (f:α→Option β):ax f []=some []:=rfl
theorem mf {α β:Type} (f:α→Option β) (x:α) (r:List α):ax f (x::r)=(f x).bind fun y=>(ax f r).bind fun l=>some (y::l):=by
 simp only[ax]
 cases f x with
 |none=>rfl
 |some y=>cases ax f r<;>rfl
attribute [go_sem] mf
@[go_sem] theorem KE (p:PV):keyOf false (.pv p)=some p:=rfl
theorem Ai (cs:List V):keyOf true (.agg cs)=(ax ue cs).map .agg:=by
 simp only[keyOf,bn]
 cases ax ue cs<;>rfl
attribute [go_sem] Ai
@[go_sem] theorem xX:aY [] [] []=some true:=rfl
theorem pC (k:Nat) (ks:List Nat) (a b:PV) (x y:List PV):aY (k::ks) (a::x) (b::y)=(PV.eqs k a b).bind fun p=>(aY ks x y).bind fun q=>some (p&&q):=by
 simp only[aY]
 cases PV.eqs k a b with
 |none=>rfl
 |some p=>cases aY ks x y<;>rfl
attribute [go_sem] pC
@[go_sem] theorem KF (a b:Bool):PV.eqs 0 (.bool a) (.bool b)=some (decide (a=b)):=by simp[PV.eqs,qb]
@[go_sem] theorem Mw (k:IntKind) (a b:Int):PV.eqs 1 (.int k a) (.int k b)=some (decide (a=b)):=by simp[PV.eqs,qb]
@[go_sem] theorem D2 (a b:ByteArray):PV.eqs 2 (.str a) (.str b)=some (decide (a=b)):=by simp only[PV.eqs,ns]
theorem D3 (ag:Bool) (ks:List Nat) (neg:Bool) (x y:V):DW ag ks neg x y=(bn ag x).bind fun a=>(bn ag y).bind fun b=>(aY ks a b).bind fun r=>some (.pv (.bool (if neg then !r else r))):=by
 simp only[DW]
 cases bn ag x with
 |none=>rfl
 |some a=>
  cases bn ag y with
  |none=>rfl
  |some b=>
   simp only[Option.bind_some]
   cases aY ks a b<;>rfl
attribute [go_sem] D3
theorem vZ (k t:Nat) (rows:List (List PV)) (j:Nat):kl k t rows (some (j:Int))=(rows[j]?).bind fun r=>if r.length=k then some (.pv (.ro t r)) else none:=by
 simp only[kl,cF]
 by_cases h:j<rows.length
 ·rw[if_pos ⟨by omega,by omega⟩]
  simp only[Int.toNat_natCast]
  cases rows[j]?<;>rfl
 ·rw[if_neg (by omega)]
  rw[PS (by omega)]
  rfl
theorem gl (k t:Nat) (rows:List (List PV)) {i:Int} (h:0≤i):kl k t rows (some i)=(rows[i.toNat]?).bind fun r=>if r.length=k then some (.pv (.ro t r)) else none:=by
 obtain⟨j,rfl⟩:=Qp h
 exact vZ k t rows j
attribute [go_sem] vZ
@[go_sem] theorem KG (h:af) (k t:Nat) (rows:List (List PV)) (i:Option Int):nZ h k (.pv (.ae t rows)) i=(kl k t rows i).map fun v=>(v,{}):=rfl
@[go_sem] theorem Mx (h:af) (k:Nat) (rows:List (List PV)) (i:Option Int):nZ h k (.tl rows) i=(kl k 0 rows i).map fun v=>(v,{}):=rfl
theorem B7 (h:af) (k id aj off len:Nat) (i:Option Int):nZ h k (.own id aj off len) i=(cF i len).bind fun j=>(aB h id aj).bind fun a=>if a.k=k then some (.cT id aj (off+j) 0,{ ra:=some id }) else none:=by
 simp only[nZ]
 cases cF i len with
 |none=>rfl
 |some j=>cases aB h id aj<;>rfl
attribute [go_sem] B7
@[go_sem] theorem KH (h:af) (t:Nat) (rows:List (List PV)):gu h 0 (.pv (.ae t rows))=some (rows.length,{}):=rfl
@[go_sem] theorem My (h:af) (rows:List (List PV)):gu h 0 (.tl rows)=some (rows.length,{}):=rfl
@[go_sem] theorem KI (h:af) (a b c d:Nat):gu h 0 (.own a b c d)=some (d,{}):=rfl
@[go_sem] theorem KJ (h:af) (s:ByteArray):gu h 1 (.pv (.str s))=some (s.size,{}):=rfl
theorem B8 (h:af) (id:Nat):gu h 2 (.map id)=(h.mp[id]?).map fun m=>(m.length,{ rm:=some id }):=by
 simp only[gu]
 cases h.mp[id]?<;>rfl
attribute [go_sem] B8
@[go_sem] theorem Is (h:af):gu h 2 .dQ=some (0,{}):=rfl
@[go_sem] theorem It (cs:List PV):V.iK (.agg cs)=.agg (cs.map .pv):=rfl
@[go_sem] theorem Gw (b:Bool):V.iK (.bool b)=.pv (.bool b):=rfl
@[go_sem] theorem Iu (k:IntKind) (n:Int):V.iK (.int k n)=.pv (.int k n):=rfl
@[go_sem] theorem Iv (s:ByteArray):V.iK (.str s)=.pv (.str s):=rfl
@[go_sem] theorem Iw (t:Nat) (r:List (List PV)):V.iK (.ae t r)=.pv (.ae t r):=rfl
@[go_sem] theorem KK (t:Nat) (r:List PV):V.iK (.ro t r)=.pv (.ro t r):=rfl
@[go_sem] theorem Gx (f:Nat) (r:List PV):V.iK (.func f r)=.pv (.func f r):=rfl
@[go_sem] theorem KL (k:Nat) (r:List (List PV)):V.iK (.fr k r)=.own 0 0 0 r.length:=rfl
@[go_sem] theorem Ix (n:Nat):entry n []=[]:=rfl
@[go_sem] theorem Gy (n:Nat) (p:PV) (r:List PV):entry n (p::r)=(n,V.iK p)::entry (n+1) r:=rfl
@[go_sem] theorem Dl:cC []=⟨[],[],[]⟩:=rfl
@[go_sem] theorem D4 (k:Nat) (rows:List (List PV)) (r:List PV):cC (.fr k rows::r)=⟨[],[⟨0,k,.inl rows⟩],[]⟩:=rfl
@[go_sem] theorem Dm (cs:List PV) (r:List PV):cC (.agg cs::r)=⟨[],[],[]⟩:=rfl
@[go_sem] theorem B9 (b:Bool) (r:List PV):cC (.bool b::r)=⟨[],[],[]⟩:=rfl
@[go_sem] theorem Dn (k:IntKind) (n:Int) (r:List PV):cC (.int k n::r)=⟨[],[],[]⟩:=rfl
@[go_sem] theorem Dp (s:ByteArray) (r:List PV):cC (.str s::r)=⟨[],[],[]⟩:=rfl
@[go_sem] theorem Dq (t:Nat) (rows:List (List PV)) (r:List PV):cC (.ae t rows::r)=⟨[],[],[]⟩:=rfl
@[go_sem] theorem D5 (t:Nat) (rows:List PV) (r:List PV):cC (.ro t rows::r)=⟨[],[],[]⟩:=rfl
@[go_sem] theorem Ca (t:Nat) (rows:List PV) (r:List PV):cC (.func t rows::r)=⟨[],[],[]⟩:=rfl
@[go_sem] theorem D6 (s:St) (t:Nat):cO s (.tmp t)=some (get s.env t):=rfl
theorem sx (s:St) (t n:Nat) (b:Bool):cO s (.cell t n b)=(loadAt s.h n (get s.env t)).bind fun r=>dZ b r.1:=by
 simp only[cO]
 cases loadAt s.h n (get s.env t)<;>rfl
attribute [go_sem] sx
@[go_sem] theorem D7 (s:St) (rs:List mI):iY s rs false=(ax (cO s) rs).bind fun vs=>ax (bW s.h false) vs:=by
 simp[iY]
theorem v7 (s:St) (rs:List mI):iY s rs true=(ax (cO s) rs).bind fun vs=>if distinct (dR vs) then ax (bW s.h true) vs else none:=by
 simp[iY]
attribute [go_sem] v7
@[go_sem] theorem KM (h:af) (cs:List V):bW h false (.agg cs)=(ax (aX h 4) cs).map .agg:=by
 simp only[bW,Bool.false_eq_true,if_false]
 cases ax (aX h 4) cs<;>rfl
@[go_sem] theorem Iy (h:af) (b:Bool):bW h false (.pv (.bool b))=aX h 4 (.pv (.bool b)):=rfl
@[go_sem] theorem KN (h:af) (k:IntKind) (n:Int):bW h false (.pv (.int k n))=aX h 4 (.pv (.int k n)):=rfl
@[go_sem] theorem KO (h:af) (s:ByteArray):bW h false (.pv (.str s))=aX h 4 (.pv (.str s)):=rfl
@[go_sem] theorem Iz (h:af):bW h false (.pv (.mE))=aX h 4 (.pv (.mE)):=rfl
@[go_sem] theorem IA (h:af):bW h false (.pv (.pW))=aX h 4 (.pv (.pW)):=rfl
@[go_sem] theorem KP (h:af) (t:Nat) (rows:List (List PV)):bW h false (.pv (.ae t rows))=aX h 4 (.pv (.ae t rows)):=rfl
@[go_sem] theorem Gz (h:af) (f:Nat) (cap:List PV):bW h false (.pv (.func f cap))=aX h 4 (.pv (.func f cap)):=rfl
@[go_sem] theorem IB (h:af) (cs:List PV):bW h false (.pv (.agg cs))=aX h 4 (.pv (.agg cs)):=rfl
@[go_sem] theorem Mz (h:af) (r:List (List PV)):bW h false (.tl r)=aX h 4 (.tl r):=rfl
@[go_sem] theorem KQ (h:af) (a b c d:Nat):bW h false (.own a b c d)=aX h 4 (.own a b c d):=rfl
@[go_sem] theorem IC (h:af) (a:Nat) (c:List V):bW h false (.func a c)=aX h 4 (.func a c):=rfl
@[go_sem] theorem v8 (h:af) (d:Nat) (p:PV):aX h d (.pv p)=if p.perm then some p else none:=by cases d<;>rfl
@[go_sem] theorem KR (h:af) (d:Nat) (r:List (List PV)):aX h d (.tl r)=some (.ae 0 r):=by cases d<;>rfl
@[go_sem] theorem ID (b:Bool):PV.perm (.bool b)=true:=rfl
@[go_sem] theorem KS (k:IntKind) (n:Int):PV.perm (.int k n)=true:=rfl
@[go_sem] theorem KT (s:ByteArray):PV.perm (.str s)=true:=rfl
@[go_sem] theorem IE:PV.perm .mE=true:=rfl
@[go_sem] theorem KU (t:Nat) (r:List (List PV)):PV.perm (.ae t r)=(t==0):=rfl
@[go_sem] theorem Fe (off len:Nat) (x:List (List PV)):aI off len (.inl x)=.inl ((x.drop off).take len):=rfl
@[go_sem] theorem Ff (off len:Nat) (x:List (List V)):aI off len (.inr x)=.inr ((x.drop off).take len):=rfl
def ej (f:V→Option PV):Sum (List (List PV)) (List (List V))→Option PV
 |.inl rows=>some (.ae 0 rows)
 |.inr rows=>(ax (ax f) rows).map (.ae 0)
@[go_sem] theorem D8 (f:V→Option PV) (rows:List (List PV)):ej f (.inl rows)=some (.ae 0 rows):=rfl
@[go_sem] theorem D9 (f:V→Option PV) (rows:List (List V)):ej f (.inr rows)=(ax (ax f) rows).map (.ae 0):=rfl
theorem hD (h:af) (d id aj off len:Nat):aX h (d+1) (.own id aj off len)=(aB h id aj).bind fun a=>ej (aX h d) (aI off len a.body):=by
 simp only[aX]
 cases aB h id aj with
 |none=>rfl
 |some a=>
  simp only[Option.bind_some]
  cases aI off len a.body with
  |inl r=>rfl
  |inr r=>
   simp only[ej]
   cases ax (ax (aX h d)) r<;>rfl
@[go_sem] theorem GA (h:af) (id aj off len:Nat):aX h 4 (.own id aj off len)=(aB h id aj).bind fun a=>ej (aX h 3) (aI off len a.body):=hD h 3 id aj off len
def kQ (f:V→Option PV):Sum (List (List PV)) (List (List V))→Option PV
 |.inl rows=>some (.ae 1 rows)
 |.inr rows=>(ax (ax f) rows).map (.ae 2)
@[go_sem] theorem Ea (f:V→Option PV) (rows:List (List PV)):kQ f (.inl rows)=some (.ae 1 rows):=rfl
@[go_sem] theorem Eb (f:V→Option PV) (rows:List (List V)):kQ f (.inr rows)=(ax (ax f) rows).map (.ae 2):=rfl
@[go_sem] theorem Dr (h:af) (vs:List V):cr h false vs=(ax (cE h) vs).bind fun l=>some (l,none):=by
 simp only[cr,Bool.false_eq_true,if_false]
 cases ax (cE h) vs<;>rfl
@[go_sem] theorem IF (h:af) (b:Bool):cE h (.pv (.bool b))=some (.bool b):=rfl
@[go_sem] theorem KV (h:af) (k:IntKind) (n:Int):cE h (.pv (.int k n))=some (.int k n):=rfl
@[go_sem] theorem KW (h:af) (s:ByteArray):cE h (.pv (.str s))=some (.str s):=rfl
@[go_sem] theorem KX (h:af) (t:Nat) (r:List (List PV)):cE h (.pv (.ae t r))=some (.ae t r):=rfl
@[go_sem] theorem MA (h:af) (t:Nat) (r:List PV):cE h (.pv (.ro t r))=some (.ro t r):=rfl
@[go_sem] theorem GB (h:af) (t:Nat) (r:List PV):cE h (.pv (.func t r))=some (.func t r):=rfl
@[go_sem] theorem IG (h:af) (r:List PV):cE h (.pv (.agg r))=some (.agg r):=rfl
@[go_sem] theorem MB (h:af) (r:List (List PV)):cE h (.tl r)=some (.ae 0 r):=rfl
@[go_sem] theorem KY (h:af) (cs:List V):cE h (.agg cs)=(ax (aT h 4) cs).map .agg:=by
 simp only[cE]
 cases ax (aT h 4) cs<;>rfl
theorem Aj (h:af) (d id aj off len:Nat):aT h (d+1) (.own id aj off len)=(aB h id aj).bind fun a=>kQ (aT h d) (aI off len a.body):=by
 simp only[aT]
 cases aB h id aj with
 |none=>rfl
 |some a=>
  simp only[Option.bind_some]
  cases aI off len a.body with
  |inl r=>rfl
  |inr r=>
   simp only[kQ]
   cases ax (ax (aT h d)) r<;>rfl
@[go_sem] theorem KZ (h:af) (id aj off len:Nat):cE h (.own id aj off len)=(aB h id aj).bind fun a=>kQ (aT h 3) (aI off len a.body):=Aj h 3 id aj off len
theorem th (h:af) (d slot off:Nat):aT h (d+1) (.ptr slot off)=(aC slot h.bx).bind fun cs=>(ax (aT h d) (cs.drop off)).map (.ro 2):=by
 simp only[aT]
 cases aC slot h.bx with
 |none=>rfl
 |some cs=>
  simp only[Option.bind_some]
  cases ax (aT h d) (cs.drop off)<;>rfl
@[go_sem] theorem K0 (h:af) (slot off:Nat):cE h (.ptr slot off)=(aC slot h.bx).bind fun cs=>(ax (aT h 3) (cs.drop off)).map (.ro 2):=th h 3 slot off
@[go_sem] theorem GC (h:af) (slot off:Nat):aT h 3 (.ptr slot off)=(aC slot h.bx).bind fun cs=>(ax (aT h 2) (cs.drop off)).map (.ro 2):=th h 2 slot off
theorem xY (h:af) (d f:Nat) (cap:List V):aT h (d+1) (.func f cap)=(ax (aT h d) cap).map (.func f):=by
 simp only[aT]
 cases ax (aT h d) cap<;>rfl
@[go_sem] theorem IH (h:af) (f:Nat) (cap:List V):cE h (.func f cap)=(ax (aT h 3) cap).map (.func f):=xY h 3 f cap
@[go_sem] theorem GD (h:af) (d:Nat) (b:Bool):aT h d (.pv (.bool b))=some (.bool b):=by cases d<;>rfl
@[go_sem] theorem II (h:af) (d:Nat) (k:IntKind) (n:Int):aT h d (.pv (.int k n))=some (.int k n):=by cases d<;>rfl
@[go_sem] theorem IJ (h:af) (d:Nat) (s:ByteArray):aT h d (.pv (.str s))=some (.str s):=by cases d<;>rfl
@[go_sem] theorem IK (h:af) (d t:Nat) (r:List (List PV)):aT h d (.pv (.ae t r))=some (.ae t r):=by cases d<;>rfl
@[go_sem] theorem K1 (h:af) (d:Nat) (r:List (List PV)):aT h d (.tl r)=some (.ae 0 r):=by cases d<;>rfl
def PV.still:PV→Bool
 |.fr _ _=>false
 |_=>true
@[go_sem] theorem IL (n:Nat):di n []=([],[]):=rfl
@[go_sem] theorem K2 (n k:Nat) (rows:List (List PV)) (r:List PV):di n (.fr k rows::r)=(.own n 0 0 rows.length::(di (n+1) r).1,⟨0,k,.inl rows⟩::(di (n+1) r).2):=rfl
@[go_sem] theorem GF (n:Nat) (b:Bool) (r:List PV):di n (.bool b::r)=(.pv (.bool b)::(di n r).1,(di n r).2):=rfl
@[go_sem] theorem IM (n:Nat) (k:IntKind) (i:Int) (r:List PV):di n (.int k i::r)=(.pv (.int k i)::(di n r).1,(di n r).2):=rfl
@[go_sem] theorem IN (n:Nat) (s:ByteArray) (r:List PV):di n (.str s::r)=(.pv (.str s)::(di n r).1,(di n r).2):=rfl
@[go_sem] theorem IP (n t:Nat) (l:List (List PV)) (r:List PV):di n (.ae t l::r)=(.pv (.ae t l)::(di n r).1,(di n r).2):=rfl
@[go_sem] theorem IQ (n:Nat) (cs:List PV):eE n (.agg cs)=(.agg (di n cs).1,(di n cs).2):=rfl
@[go_sem] theorem K3 (n k:Nat) (rows:List (List PV)):eE n (.fr k rows)=(.own n 0 0 rows.length,[⟨0,k,.inl rows⟩]):=rfl
@[go_sem] theorem GG (n:Nat) (b:Bool):eE n (.bool b)=(.pv (.bool b),[]):=rfl
@[go_sem] theorem IS (n:Nat) (k:IntKind) (i:Int):eE n (.int k i)=(.pv (.int k i),[]):=rfl
@[go_sem] theorem IT (n:Nat) (s:ByteArray):eE n (.str s)=(.pv (.str s),[]):=rfl
@[go_sem] theorem IU (n t:Nat) (l:List (List PV)):eE n (.ae t l)=(.pv (.ae t l),[]):=rfl
@[go_sem] theorem Fg (n:Nat):bo n []=([],[]):=rfl
@[go_sem] theorem Ec (n:Nat) (p:PV) (r:List PV):bo n (p::r)=((eE n p).1::(bo (n+(eE n p).2.length) r).1,(eE n p).2++(bo (n+(eE n p).2.length) r).2):=rfl
@[go_sem] theorem GH (v:V):eA [v]=v:=rfl
@[go_sem] theorem GI (v w:V) (r:List V):eA (v::w::r)=.dv (v::w::r):=rfl
@[go_sem] theorem GJ:eA []=.dv []:=rfl
def CN (A:Nat→Option aa) (Pr:bf) (t:Bool) (fn:Nat) (vs:List V) (h:af) (K:V→Tn→Prop) (_t:nj K:=.mk):Prop:=
 bS (cr h t vs) fun q=>bS (res A Pr fn q.1) fun rs=>K (eA (bo h.ar.length rs).1) { ar:=q.2,push:=(bo h.ar.length rs).2,eG:=!(vs.all V.iS),base:=if (bo h.ar.length rs).2.isEmpty then 0 else h.ar.length }
theorem wc {fn:Nat} (hi:pR A fn=false) (hp:Pr fn=none) {t:Bool} (ht:dF A fn=t) (vs:List V) (h:af) (K:V→Tn→Prop):CW A Pr fn vs h K=CN A Pr t fn vs h K:=DN hi hp ht vs h K
@[go_sem] theorem OI (t:Bool) (fn:Nat) (vs:List V) (h:af) (K:V→Tn→Prop):CN A Pr t fn vs h K=bS (cr h t vs) fun q=>bS (res A Pr fn q.1) fun rs=>K (eA (bo h.ar.length rs).1) { ar:=q.2,push:=(bo h.ar.length rs).2,eG:=!(vs.all V.iS),base:=if (bo h.ar.length rs).2.isEmpty then 0 else h.ar.length }:=rfl
@[go_sem] theorem MC (p:PV):V.iS (.pv p)=true:=rfl
@[go_sem] theorem MD (r:List (List PV)):V.iS (.tl r)=true:=rfl
@[go_sem] theorem K4 (a b c d:Nat):V.iS (.own a b c d)=false:=rfl
@[go_sem] theorem K5 (a b:Nat):V.iS (.ptr a b)=false:=rfl
@[go_sem] theorem IV (f:Nat) (cap:List V):V.iS (.func f cap)=cap.isEmpty:=rfl
def Ed:V→Bool
 |.pv _=>true
 |.tl _=>true
 |_=>false
@[go_sem] theorem ME (p:PV):Ed (.pv p)=true:=rfl
@[go_sem] theorem MF (r:List (List PV)):Ed (.tl r)=true:=rfl
@[go_sem] theorem K6 (a b c d:Nat):Ed (.own a b c d)=false:=rfl
@[go_sem] theorem K7 (cs:List V):V.iS (.agg cs)=cs.all Ed:=by
 show (cs.all fun|.pv _=>true|.tl _=>true|_=>false)=_
 congr 1
@[go_sem] theorem IX (j:Nat) (un:List Nat) (t:Tn) (done:List Tn) (X:Prop):held (j::un) t done X=pT (((done[j]?).map fun u=>u.apart t)=some true) (held un t done X):=by
 unfold held pT eb
 simp only[List.all_cons,Bool.and_eq_true]
 apply propext
 cases done[j]? with
 |none=>simp
 |some u=>simp[and_assoc]
@[go_sem] theorem K8 (a b:Tn):a.apart b=(a.off b&&b.xh a):=rfl
@[go_sem] theorem MG (a b:Tn):a.xh b=(jf (a.bx.map (·.1)) (b.bx.map (·.1)) (·==·)&&jf (a.bx.map (·.1)) b.rb (·==·)&&
 jf (a.ar.map (·.1)) (b.ar.map (·.1)) (·==·)&&jf (a.ar.map (·.1)) b.ra (·==·)&&jf (a.ar.map (·.1)) b.mH (·==·)&&
 (a.push.isEmpty||(b.push.isEmpty&&b.gf a.base))&&a.mp.isNone&&!a.nY&&(a.all.isNone&&b.all.isNone)&&
 (!b.eG||((a.bx.isNone||a.new)&&a.ar.isNone))):=rfl
@[go_sem] theorem NC (a b:Tn):a.off b=(jf (a.bx.map (·.1)) (b.bx.map (·.1)) (·==·)&&jf (a.bx.map (·.1)) b.rb (·==·)&&
 jf (a.ar.map (·.1)) (b.ar.map (·.1)) (·==·)&&jf (a.ar.map (·.1)) b.ra (·==·)&&jf (a.ar.map (·.1)) b.mH (·==·)&&
 (a.push.isEmpty||(b.push.isEmpty&&b.gf a.base))&&a.mp.isNone&&!a.nY&&(a.all.isNone&&b.all.isNone)&&
 (!b.eG||(a.bx.isNone&&a.ar.isNone&&a.push.isEmpty))):=rfl
@[go_sem] theorem ND (a:Tn) (n:Nat):a.gf n=(a.ar.all (·.1<n)&&a.ra.all (·<n)&&a.mH.all (·<n)):=rfl
@[go_sem] theorem IY {α:Type} (a b:α) (eq:α→α→Bool):jf (some a) (some b) eq=!eq a b:=rfl
@[go_sem] theorem IZ {α:Type} (p:Option α) (eq:α→α→Bool):jf none p eq=true:=rfl
@[go_sem] theorem GK {α:Type} (a:α) (eq:α→α→Bool):jf (some a) none eq=true:=rfl
attribute [go_sem] Option.all_some Option.all_none
def zf (r:Option (List (List PV))) (h:af) (k len:Nat) (cs:List V):Option (V×Tn):=
 match r with
 |some rows=>some (.tl rows,{})
 |none=>if cs.all V.calm then some (.own h.ar.length 0 0 len,{ push:=[⟨0,k,.inr (fE k len cs)⟩],base:=h.ar.length }) else none
@[go_sem] theorem GL (rows:List (List PV)) (h:af) (k len:Nat) (cs:List V):zf (some rows) h k len cs=some (.tl rows,{}):=rfl
@[go_sem] theorem GM (h:af) (k len:Nat) (cs:List V):zf none h k len cs=if cs.all V.calm then some (.own h.ar.length 0 0 len,{ push:=[⟨0,k,.inr (fE k len cs)⟩],base:=h.ar.length }) else none:=rfl
@[go_sem] theorem I0 (h:af) (k len:Nat) (cs:List V):F9 h k len cs=zf (ax (ax V.bG) (fE k len cs)) h k len cs:=by
 unfold F9 hZ zf
 cases ax (ax V.bG) (fE k len cs)<;>rfl
@[go_sem] theorem I1 {α:Type} (k:Nat) (l:List α):fE k 0 l=[]:=rfl
@[go_sem] theorem I2 {α:Type} (k n:Nat) (l:List α):fE k (n+1) l=l.take k::fE k n (l.drop k):=rfl
@[go_sem] theorem K9 (p:PV):V.bG (.pv p)=if p.perm then some p else none:=rfl
@[go_sem] theorem La (r:List (List PV)):V.bG (.tl r)=none:=rfl
@[go_sem] theorem I3 (a b c d:Nat):V.bG (.own a b c d)=none:=rfl
@[go_sem] theorem GN:V.bG .dQ=none:=rfl
attribute [go_sem] List.map_cons List.map_nil List.length_cons List.length_nil List.all_cons List.all_nil Option.isNone_none Option.isNone_some Bool.and_true Bool.true_and Bool.and_false Bool.false_and Bool.or_true Bool.true_or Bool.or_false Bool.false_or Bool.not_true Bool.not_false and_self and_true true_and and_false false_and Bool.and_self
 List.drop_zero List.drop_succ_cons List.drop_nil List.take_zero List.take_succ_cons List.take_nil List.nil_append List.cons_append P7 Option.bind_some Option.bind_none QM Option.map_none List.contains_cons List.contains_nil Nat.reduceBEq beq_self_eq_true List.isEmpty_nil List.isEmpty_cons Pm Pn
 decide_true decide_false Bool.false_eq_true if_true if_false Pp QF QH List.getElem?_cons_zero List.getElem?_cons_succ List.set_cons_zero List.set_cons_succ List.map_drop Qf beq_true beq_false List.getElem?_nil
attribute [go_sem] Nat.reduceAdd Nat.reduceSub Nat.reduceMul Nat.reduceDiv Nat.reduceMod Nat.reduceLeDiff Nat.reduceEqDiff Nat.reduceLT Int.reduceAdd Int.reduceSub Int.reduceMul Int.reduceNeg Int.reduceLT Int.reduceLE Int.reduceEq Int.reduceToNat Int.toNat_natCast Int.toNat_zero Int.toNat_one
attribute [go_sem] List.range_succ List.range_zero List.range_eq_range' List.range'_succ List.range'_zero List.getD_cons_zero List.getD_cons_succ
attribute [go_sem ↓] reduceIte
end Go.Pv
namespace Go.Pv
open Go.Sort
variable {P:Program} {N:Nat→Nat} {W:Nat→Prop} {L:Lx} {e:bc} {h:af} {w:World}
def oE:PV→Bool
 |.bool _|.int _ _|.str _=>true
 |_=>false
def sv:PV→Value
 |.bool b=>.bool b
 |.int k n=>.int k n
 |.str s=>.string s
 |_=>undef
theorem we {p:PV} (hp:oE p=true):dB N L w p (sv p):=by
 cases p<;>simp[oE]at hp
 ·exact .bool _
 ·exact .int _ _
 ·exact .str _
theorem Ee {p:PV} {v:Value} (hp:oE p=true) (h:dB N L w p v):v=sv p:=by
 cases h<;>simp[oE]at hp<;>rfl
theorem tj {p:PV} (hp:oE p=true):(V.pv p).calm=true∧p.perm=true:=by
 cases p<;>simp[oE]at hp<;>exact⟨rfl,rfl⟩
theorem uE {i j k n:Nat} (hi:i<n) (hj:j<k):i*k+j<n*k:=by
 have:=Ps k (show i+1≤n from hi)
 rw[PE,P3]at this
 omega
theorem zg (hr:HR N L e W h w) {id0:Nat} {a:aK} {rows:List (List PV)} {off len:Nat} (h0:h.ar[id0]?=some a) (hb:a.body=.inl rows) (hk:a.k≠0) (hol:off+len≤rows.length)
  {news:List (List PV)} (hn:news.length=len) (hnk:∀r∈news,r.length=a.k∧∀c∈r,oE c=true) (F:Array Value) (hF:F.size=len*a.k)
  (hFv:∀i j c,eY news i j=some c→F[i*a.k+j]! =sv c) (n:Nat) (os:Array Obj) (F0:Array Value) (hF0:Holds id w (e.ar id0) (e.ad id0+off*a.k) F0) (hF0s:F0.size=F.size):
  ∃e',Nx N W L e w L e' { h with ar:=h.ar.set id0 ⟨a.aj,a.k,.inl (rows.take off++news++rows.drop (off+len))⟩ } (grow (putRow id (Sort.ahead w n) (e.ar id0) (e.ad id0+off*a.k) F) os):=by
 have hid:id0<e.na:=by rw[hr.na]; exact(Pg.1 h0).1
 obtain⟨v1,v2,v3,_⟩:=hr.aj id0 a h0
 have hak:e.ak id0≠0:=by rw[v2]; exact hk
 have hown:=hr.lS id0 hid hak
 have hlt:=hr.gC hid hak
 obtain⟨c1,c2,c3,c4,c5⟩:=hr.ar id0 a h0 hk
 have hsz:a.size=rows.length:=by simp[aK.size,hb]
 have hrw:a.rows=rows.map (·.map .pv):=by simp[aK.rows,hb]
 have hlen:(rows.take off++news++rows.drop (off+len)).length=rows.length:=by
  simp only[List.length_append,List.length_take,List.length_drop,hn]
  omega
 have hbig:(putRow id (Sort.ahead w n) (e.ar id0) (e.ad id0+off*a.k) F).heap.size=w.heap.size:=by simp[putRow,mapBlock,Sort.ahead]
 have hother:∀g,g<w.heap.size→g≠e.ar id0→(grow (putRow id (Sort.ahead w n) (e.ar id0) (e.ad id0+off*a.k) F) os).heap[g]?=w.heap[g]?:=by
  intro g hg hne
  rw[heap_grow_old _ _ (by rw[hbig]; exact hg)]
  simp only[putRow,mapBlock,Sort.ahead,Array.getElem?_modify]
  rw[if_neg (Ne.symm hne)]
 have hcell:∀o,(grow (putRow id (Sort.ahead w n) (e.ar id0) (e.ad id0+off*a.k) F) os).cell? ⟨e.ar id0,o,none⟩=(putRow id (Sort.ahead w n) (e.ar id0) (e.ad id0+off*a.k) F).cell? ⟨e.ar id0,o,none⟩:=
  fun o=>cell?_grow _ _ _ (by rw[hbig]; exact hlt)
 refine⟨_,Nx.oe hr (b:=e.ar id0) (d:=e.ad id0) (c:=e.cap id0) ⟨a.aj,a.k,.inl (rows.take off++news++rows.drop (off+len))⟩ h0 hk hother (by simp[hbig]) ?_ (.inr ⟨rfl,rfl,rfl,rfl,rfl,by rw[hsz]; exact hlen⟩) (.inl rfl) hk (by
  show (rows.take off++news++rows.drop (off+len)).length≤_
  rw[hlen,← hsz]; exact c1) ?_ ?_ ?_ ?_⟩
 ·refine⟨rfl,rfl,rfl,by simp[hbig],fun g hg hw=>hother g hg (fun he=>hw (he ▸ hown.1)),?_⟩
  show w.drawn≤w.drawn+n
  omega
 ·obtain⟨arr,ty,h1,h2⟩:=c2.out
  refine⟨putCells id (e.ad id0+off*a.k) F arr,ty,?_,by simpa [putCells]using h2⟩
  rw[heap_grow_old _ _ (by rw[hbig]; exact hlt)]
  simp only[putRow,mapBlock,Sort.ahead,Array.getElem?_modify,if_true,h1]
  rfl
 ·intro r hr'
  simp only[aK.rows]at hr'
  obtain⟨q,hq,rfl⟩:=PB.1 hr'
  simp only[List.length_map]
  rcases PX.1 hq with hq|hq
  ·rcases PX.1 hq with hq|hq
   ·have:=c3 (q.map .pv) (by rw[hrw]; exact PB.2 ⟨q,Qg hq,rfl⟩)
    simpa using this
   ·exact(hnk q hq).1
  ·have:=c3 (q.map .pv) (by rw[hrw]; exact PB.2 ⟨q,Qx hq,rfl⟩)
   simpa using this
 ·intro i r hi j x hj
  simp only[aK.rows]at hi
  rw[Pn]at hi
  obtain⟨q,hq,rfl⟩:=PQ.1 hi
  obtain⟨p,hp,rfl⟩:=dn hj
  rw[hcell]
  have gf:∀i',rows[i']?=some q→(i'<off∨off+len≤i')→i'=i→(V.pv p).calm=true∧∃v,(putRow id (Sort.ahead w n) (e.ar id0) (e.ad id0+off*a.k) F).cell? ⟨e.ar id0,e.ad id0+i*a.k+j,none⟩=some v∧VR N L e w (.pv p) v:=by
   rintro i' hq' hor rfl
   have hrow:a.rows[i']?=some (q.map .pv):=by rw[hrw,Pn,hq']; rfl
   obtain⟨g1,v,g2,g3⟩:=c4 i' _ hrow j (.pv p) (by rw[Pn,hp]; rfl)
   refine⟨g1,v,?_,g3⟩
   have hjk:j<a.k:=by
    have h1:=c3 (q.map .pv) (Ph hrow)
    have h2:=(Pg.1 hp).1
    simp at h1
    omega
   rw[cell?_putRow_other id _ _ _ _ _ (.inr ?_)]
   ·exact g2
   ·rw[hF]
    show e.ad id0+i'*a.k+j<_∨_≤e.ad id0+i'*a.k+j
    rcases hor with hlt'|hge
    ·left
     have:=uE (k:=a.k) hlt' hjk
     omega
    ·right
     have:=Ps a.k hge
     rw[PE]at this
     omega
  rcases Po i off with h1|h1
  ·refine gf i ?_ (.inl h1) rfl
   rw[PG,Pl (by rw[Pt]; omega),Pw,if_pos h1]at hq
   exact hq
  ·rcases Po i (off+len)with h2|h2
   ·have htl:(rows.take off).length=off:=by rw[Pt]; omega
    rw[List.getElem?_append_left (by simp only[List.length_append,htl,hn]; omega),List.getElem?_append_right (by rw[htl]; exact h1),htl]at hq
    have hmem:=hnk q (Ph hq)
    have hpm:=hmem.2 p (Ph hp)
    have hjk:j<a.k:=by rw[← hmem.1]; exact(Pg.1 hp).1
    refine⟨(tj hpm).1,sv p,?_,.pv _ _ (we hpm)⟩
    have hf:=hFv (i - off) j p (by simp[eY,hq,hp])
    have hlt2:=uE (k:=a.k) (show i - off<len by omega) hjk
    have hadd:i*a.k=off*a.k+(i - off)*a.k:=by rw[← PE]; congr 1; omega
    have:=cell?_putRow id (Sort.ahead w n) (e.ar id0) (e.ad id0+off*a.k) F0 F (holds_ahead id w n _ _ F0 hF0) hF0s.symm ((i - off)*a.k+j) (by rw[hF]; exact hlt2)
    rw[show e.ad id0+i*a.k+j=e.ad id0+off*a.k+((i - off)*a.k+j) by omega,this,hf]
    rfl
   ·refine gf i ?_ (.inr h2) rfl
    have hl2:(rows.take off++news).length=off+len:=by simp only[List.length_append,List.length_take,hn]; omega
    rw[PA (by rw[hl2]; exact h2),hl2,PM]at hq
    rw[show off+len+(i - (off+len))=i by omega]at hq
    exact hq
 ·intro r hr' c hc
  rcases PX.1 hr' with hq|hq
  ·rcases PX.1 hq with hq|hq
   ·have:=c5
    rw[hb]at this
    exact this r (Qg hq) c hc
   ·exact(tj ((hnk r hq).2 c hc)).2
  ·have:=c5
   rw[hb]at this
   exact this r (Qx hq) c hc
theorem tu (hr:HR N L e W h w) {id0:Nat} {a:aK} {rows:List (List PV)} {off len:Nat} (h0:h.ar[id0]?=some a) (hb:a.body=.inl rows) (hk:a.k≠0) (hol:off+len≤rows.length)
  (hs:∀r∈(rows.drop off).take len,∀c∈r,oE c=true) (F:Array Value) (hF:F.size=len*a.k) (hFv:∀i j c,eY ((rows.drop off).take len) i j=some c→F[i*a.k+j]! =sv c):
  Holds id w (e.ar id0) (e.ad id0+off*a.k) F:=by
 obtain⟨c1,c2,c3,c4,c5⟩:=hr.ar id0 a h0 hk
 have hrw:a.rows=rows.map (·.map .pv):=by simp[aK.rows,hb]
 have kp:0<a.k:=Nat.pos_of_ne_zero hk
 intro t ht
 rw[hF]at ht
 have hi:t/a.k<len:=Nat.div_lt_of_lt_mul (by rw[Nat.mul_comm]; exact ht)
 have hj:t%a.k<a.k:=QJ _ kp
 have hq:rows[off+t/a.k]?=some rows[off+t/a.k]:=Pj (by omega)
 generalize rows[off+t/a.k]'(by omega)=q at hq
 have hrow:a.rows[off+t/a.k]?=some (q.map .pv):=by rw[hrw,Pn,hq]; rfl
 have hql:q.length=a.k:=by
  have:=c3 _ (Ph hrow)
  simpa using this
 have hp:q[t%a.k]?=some (q[t%a.k]'(by omega)):=Pj (by omega)
 generalize q[t%a.k]'(by omega)=p at hp
 have hin:((rows.drop off).take len)[t/a.k]?=some q:=by
  rw[Pw,if_pos hi,PM]
  exact hq
 have hsc:=hs q (Ph hin) p (Ph hp)
 obtain⟨g1,v,g2,g3⟩:=c4 _ _ hrow (t%a.k) (.pv p) (by rw[Pn,hp]; rfl)
 have hv:v=sv p:=by
  cases g3 with
  |pv _ _ g=>exact Ee hsc g
 have hdm:off*a.k+t=(off+t/a.k)*a.k+t%a.k:=by
  rw[PE]
  have:=Nat.div_add_mod t a.k
  rw[Nat.mul_comm]at this
  omega
 have hft:F[t]! =sv p:=by
  have:=hFv (t/a.k) (t%a.k) p (by simp[eY,hin,hp])
  rw[Nat.mul_comm,Nat.div_add_mod]at this
  exact this
 refine⟨?_,?_⟩
 ·rw[show e.ad id0+off*a.k+t=e.ad id0+(off+t/a.k)*a.k+t%a.k by omega,g2,hv,hft]
  rfl
 ·obtain⟨arr,ty,h1,_⟩:=c2.out
  simp[World.frozen?,h1]
end Go.Pv
namespace Go.Pv
open Go.Sort
def ins {α:Type} (lt:α→α→Bool) (x:α):List α→List α
 |[]=>[x]
 |y::r=>if lt y x then y::ins lt x r else x::y::r
def cI {α:Type} (lt:α→α→Bool):List α→List α
 |[]=>[]
 |x::r=>ins lt x (cI lt r)
def rising {α:Type} (lt:α→α→Bool):List α→Bool
 |[]=>true
 |[_]=>true
 |x::y::r=>lt x y&&rising lt (y::r)
theorem nw {α:Type} (lt:α→α→Bool) (x:α):∀l,(ins lt x l).Perm (x::l)
 |[]=>List.Perm.refl _
 |y::r=>by
  unfold ins
  split
  ·exact((nw lt x r).cons y).trans (List.Perm.swap x y r)
  ·exact List.Perm.refl _
theorem ch {α:Type} (lt:α→α→Bool):∀l,(cI lt l).Perm l
 |[]=>List.Perm.refl _
 |x::r=>(nw lt x _).trans ((ch lt r).cons x)
theorem qY {α:Type} {lt:α→α→Bool} (ht:∀x y z,lt x y=true→lt y z=true→lt x z=true):∀l,rising lt l=true→l.Pairwise (fun a b=>lt a b=true)
 |[],_=>List.Pairwise.nil
 |[x],_=>List.pairwise_singleton _ _
 |x::y::r,h=>by
  simp only[rising,Bool.and_eq_true]at h
  have h2:=qY ht (y::r) h.2
  refine List.Pairwise.cons (fun z hz=>?_) h2
  rcases PO.1 hz with rfl|hz
  ·exact h.1
  ·exact ht _ _ _ h.1 ((PH.1 h2).1 z hz)
theorem pD {α:Type} {lt:α→α→Bool}:∀(m d:List α),m.Pairwise (fun a b=>lt a b=true)→d.Pairwise (fun a b=>lt b a=false)→d.Perm m→d=m
 |[],d,_,_,hp=>List.Perm.eq_nil hp
 |x::m,[],_,_,hp=>by simp at hp
 |x::m,y::d,hm,hd,hp=>by
  have hxy:y=x:=by
   have hy:y∈x::m:=hp.subset (PN ..)
   have hx:x∈y::d:=hp.symm.subset (PN ..)
   rcases PO.1 hy with h|h
   ·exact h
   ·rcases PO.1 hx with h'|h'
    ·exact h'.symm
    ·have h1:=(PH.1 hm).1 y h
     have h2:=(PH.1 hd).1 x h'
     rw[h1]at h2
     cases h2
  subst hxy
  rw[pD m d (PH.1 hm).2 (PH.1 hd).2 (List.Perm.cons_inv hp)]
variable {P:Program} {N:Nat→Nat} {W:Nat→Prop} {L:Lx} {e:bc} {h:af} {w:World} {α:Type} [Inhabited α]
def gm (enc:α→List PV) (dec:List PV→Option α) (lt:α→α→Bool) (rows:List (List PV)):Option (List (List PV)):=
 match ax dec rows with
 |some l=>if rising lt (cI lt l)=true then some ((cI lt l).map enc) else none
 |none=>none
def jn (k:Nat) (f:List (List PV)→Option (List (List PV))) (g:Nat):List V→af→Option (V×Tn)
 |[x,.func g' []],h=>if g'=g then (match x with
  |.tl []=>some (.dv [],{})
  |.own id aj off len=>match aB h id aj with
   |some a=>if len=0 then some (.dv [],{ ra:=some id }) else (match a.body with
    |.inl rows=>if a.k=k∧off+len≤rows.length∧len≤aQ then (match f ((rows.drop off).take len)with
     |some news=>some (.dv [],{ ar:=some (id,⟨aj,k,.inl (rows.take off++news++rows.drop (off+len))⟩) })
     |none=>none) else none
    |.inr _=>none)
   |none=>none
  |_=>none) else none
 |_,_=>none
theorem oF {β γ:Type} {f:β→Option γ}:∀{l:List β} {r:List γ},ax f l=some r→r.length=l.length∧∀(i:Nat) (x:β) (y:γ),l[i]?=some x→r[i]?=some y→f x=some y
 |[],r,h=>by cases h; exact⟨rfl,fun i x y hx=>by simp at hx⟩
 |b::l,r,h=>by
  simp only[ax]at h
  split at h
  ·rename_i y l' h1 h2
   cases h
   obtain⟨k1,k2⟩:=oF h2
   refine⟨by simp[k1],fun i x z hx hz=>?_⟩
   cases i with
   |zero=>simp at hx hz; subst hx; subst hz; exact h1
   |succ i=>exact k2 i x z (by simpa using hx) (by simpa using hz)
  ·cases h
def oG (enc:α→List PV) (x:α):List Value:=(enc x).map sv
theorem wg {enc:α→List PV} {k:Nat} (hk:∀x,(enc x).length=k) (l:List α) (i j:Nat) (c:PV) (hc:eY (l.map enc) i j=some c):(flatK (oG enc) k l.toArray)[i*k+j]! =sv c:=by
 unfold eY at hc
 rw[Pn]at hc
 cases hx:l[i]? with
 |none=>simp[hx]at hc
 |some x=>
  simp only[hx,Option.map_some,Option.bind_some]at hc
  have hi:=(Pg.1 hx).1
  have hj:j<k:=by rw[← hk x]; exact(Pg.1 hc).1
  have hlt:i*k+j<l.toArray.size*k:=uE (by simpa using hi) hj
  rw[get_flatK _ _ _ _ hlt]
  have h1:(i*k+j)/k=i:=by
   rw[Nat.mul_comm,Nat.mul_add_div (by omega),Nat.div_eq_of_lt hj,QH]
  have h2:(i*k+j)%k=j:=by
   rw[Nat.mul_comm,Nat.mul_add_mod,Nat.mod_eq_of_lt hj]
  rw[h1,h2]
  have h3:l.toArray[i]! =x:=by
   rw[getElem!_pos _ i (by simpa using hi)]
   have:=(Pg.1 hx).2
   simpa using this
  rw[h3]
  have h4:(oG enc x)[j]?=some (sv c):=by simp[oG,hc]
  rw[List.getElem!_eq_getElem?_getD,h4]
  rfl
theorem qZ (i:Nat) (a:aK) (h:af):Tn.apply { ar:=some (i,a) } h={ h with ar:=h.ar.set i a }:=by
 cases h
 simp[Tn.apply]
theorem Cb {k:Nat} (hk0:k≠0) {enc:α→List PV} {dec:List PV→Option α} (hde:∀r x,dec r=some x→enc x=r) (hk:∀x,(enc x).length=k) (hsc:∀x,∀c∈enc x,oE c=true)
  {lt:α→α→Bool} (hO:SWO lt) {fn g:Nat}
  (hent:∀args w,(callFunc (N fn) args).run P w=.ok (.enter (N fn) args) w)
  (hnone:∀(a:Option Addr) (cap:Nat) (w:World),Calls P (N fn) #[.slice a 0 cap,.func (.func (N g)) #[] #[]] w fun e w'=>e=.returned (.tuple #[])∧w'=w)
  (hcon:∀(blk off cap:Nat) (d:Array α) (w:World),HoldsK (oG enc) k w blk off d→blk<w.heap.size→d.size<4611686018427387904→qp N L w→(∀t,¬L t blk)→
   Calls P (N fn) #[.slice (some ⟨blk,off,none⟩) d.size cap,.func (.func (N g)) #[] #[]] w fun e w'=>e=.returned (.tuple #[])∧∃d' n os,PermIn 0 d.size d d'∧SortedIn lt 0 d.size d'∧w'=Go.Proofs.sortWorldK (oG enc) k w blk off n d' os)
  {vs:List V} {args:Array Value} {v:V} {tn:Tn} (hp:jn k (gm enc dec lt) g vs h=some (v,tn)) (hr:HR N L e W h w)
  (hs:args.size=vs.length) (hv:∀(j:Nat) (x:V),vs[j]?=some x→VR N L e w x (args.getD j undef)):
  dx P (N fn) args w fun v' w'=>∃L' e',Nx N W L e w L' e' (tn.apply h) w'∧VR N L' e' w' v v':=by
 have key:∀(x:V) (g':Nat),vs=[x,.func g' []]→g'=g→∃v0,args=#[v0,.func (.func (N g)) #[] #[]]∧VR N L e w x v0:=by
  rintro x g' rfl rfl
  have h0:=hv 0 x rfl
  have h1:=hv 1 (.func g' []) rfl
  have hsz:args.size=2:=hs
  obtain⟨l⟩:=args
  match l,hsz with
  |[v0,v1],_=>
   refine⟨v0,?_,h0⟩
   have h1':VR N L e w (.func g' []) v1:=h1
   cases h1' with
   |func _ _ arr ha _=>
    have:arr=#[]:=Array.eq_empty_of_size_eq_zero ha
    subst this
    rfl
 have fin0:∀(a:Option Addr) (cap:Nat),args=#[.slice a 0 cap,.func (.func (N g)) #[] #[]]→tn.apply h=h→v=.dv []→dx P (N fn) args w fun v' w'=>∃L' e',Nx N W L e w L' e' (tn.apply h) w'∧VR N L' e' w' v v':=by
  rintro a cap rfl ht rfl
  refine .inr ⟨hent _ _,(hnone a cap w).mono ?_⟩
  rintro en w' ⟨rfl,rfl⟩
  exact⟨L,e,by rw[ht]; exact Nx.refl hr,.dv [] #[] rfl (fun j c hj=>by simp at hj)⟩
 unfold jn at hp
 split at hp<;>first|(cases hp; done)|skip
 rename_i _ x g'
 split at hp<;>first|(cases hp; done)|skip
 rename_i hg
 obtain⟨v0,hargs,hv0⟩:=key x g' rfl hg
 split at hp<;>first|(cases hp; done)|skip
 ·injection hp with hp
  injection hp with e1 e2
  subst e1
  subst e2
  cases hv0 with
  |tl rows a hh=>exact fin0 a 0 hargs (by cases h; simp[Tn.apply]) rfl
 ·rename_i id0 aj off len
  split at hp<;>first|(cases hp; done)|skip
  rename_i a ha
  obtain⟨ha1,ha2⟩:=bl ha
  split at hp
  ·rename_i hl
   subst hl
   injection hp with hp
   injection hp with e1 e2
   subst e1
   subst e2
   cases hv0 with
   |own _ _ _ _ a' cap _ _ _ _=>exact fin0 a' cap hargs (by cases h; simp[Tn.apply]) rfl
  ·rename_i hl
   split at hp<;>first|(cases hp; done)|skip
   rename_i rows hb
   split at hp<;>first|(cases hp; done)|skip
   rename_i hc
   obtain⟨hak,hol,hm⟩:=hc
   split at hp<;>first|(cases hp; done)|skip
   rename_i news hnews
   injection hp with hp
   injection hp with e1 e2
   subst e1
   subst e2
   unfold gm at hnews
   split at hnews<;>first|(cases hnews; done)|skip
   rename_i l hl2
   split at hnews<;>first|(cases hnews; done)|skip
   rename_i hris
   injection hnews with hnews
   subst hnews
   obtain⟨m1,m2⟩:=oF hl2
   have hcut:((rows.drop off).take len).length=len:=by simp only[List.length_take,List.length_drop]; omega
   have hrl:(rows.drop off).take len=l.map enc:=by
    apply PW
    intro i
    rw[Pn]
    rcases Po i len with hi|hi
    ·have h1:((rows.drop off).take len)[i]?=some (((rows.drop off).take len)[i]'(by omega)):=Pj (by omega)
     have h2:l[i]?=some (l[i]'(by omega)):=Pj (by omega)
     rw[h2,h1]
     exact congrArg some (hde _ _ (m2 i _ _ h1 h2)).symm
    ·rw[PS (by omega),PS (by omega)]
     rfl
   have hll:l.length=len:=by omega
   have hk':a.k≠0:=by rw[hak]; exact hk0
   obtain⟨v1,v2,v3,_⟩:=hr.aj id0 a ha1
   have hid:id0<e.na:=by rw[hr.na]; exact(Pg.1 ha1).1
   cases hv0 with
   |own _ _ _ _ a' cap g0 g1 g2 g3=>
    obtain⟨k1,k2,k3,k4⟩:=g3 (by rw[v1,ha2])
    have ha':=k4 (by omega)
    subst ha'
    have hH:Holds id w (e.ar id0) (e.ad id0+off*a.k) (flatK (oG enc) k l.toArray):=by
     refine tu hr ha1 hb hk' hol ?_ _ (by simp[hll,hak]) ?_
     ·intro r hr' c hc
      rw[hrl]at hr'
      obtain⟨y,_,rfl⟩:=PB.1 hr'
      exact hsc y c hc
     ·intro i j c hc
      rw[hrl]at hc
      rw[hak]
      exact wg hk l i j c hc
    have hblk:=hr.gC hid (by rw[v2]; exact hk')
    rw[hargs]
    refine .inr ⟨hent _ _,?_⟩
    have hcall:=hcon (e.ar id0) (e.ad id0+off*e.ak id0) cap l.toArray w (by rw[v2]; exact hH) hblk (by simp[hll]; unfold aQ at hm; omega) hr.xe (hr.lS id0 hid (by rw[v2]; exact hk')).2
    rw[show l.toArray.size=len by simp[hll]]at hcall
    refine hcall.mono ?_
    rintro en w' ⟨rfl,d',n,os,hp1,hp2,rfl⟩
    have hd':d'=(cI lt l).toArray:=by
     obtain⟨p1,p2,p3⟩:=hp1
     have hsz:d'.size=len:=by simpa [hll]using p1
     have hperm:d'.toList.Perm l:=by
      have e1:d'.extract 0 len=d':=by rw[← hsz]; exact Array.extract_size
      have e2:l.toArray.extract 0 len=l.toArray:=by rw[show len=l.toArray.size by simp[hll]]; exact Array.extract_size
      rw[e1,e2]at p3
      simpa using p3
     have hsort:d'.toList.Pairwise (fun a b=>lt b a=false):=by
      rw[List.pairwise_iff_getElem]
      intro i j hi hj hij
      have:=hp2 i j (Nat.zero_le _) hij (by rw[← hsz]; simpa using hj)
      rw[getElem!_pos d' i (by simpa using hi),getElem!_pos d' j (by simpa using hj)]at this
      simpa using this
     have:=pD (cI lt l) d'.toList (qY hO.trans _ hris) hsort (hperm.trans (ch lt l).symm)
     rw[← this]
    subst hd'
    have hlen2:(cI lt l).length=len:=by rw[(ch lt l).length_eq,hll]
    obtain⟨e',hnx⟩:=zg hr ha1 hb hk' hol (news:=(cI lt l).map enc) (by simp[hlen2]) (by
     intro r hr'
     obtain⟨y,_,rfl⟩:=PB.1 hr'
     exact⟨by rw[hak]; exact hk y,hsc y⟩) (flatK (oG enc) k (cI lt l).toArray) (by simp[hlen2,hak]) (by
     intro i j c hc
     rw[hak]
     exact wg hk _ i j c hc) n os _ hH (by simp[hll,hlen2])
    refine⟨L,e',?_,.dv [] #[] rfl (fun j c hj=>by simp at hj)⟩
    rw[qZ,← ha2,← hak]
    have:Go.Proofs.sortWorldK (oG enc) a.k w (e.ar id0) (e.ad id0+off*e.ak id0) n (cI lt l).toArray os=grow (putRow id (Sort.ahead w n) (e.ar id0) (e.ad id0+off*a.k) (flatK (oG enc) k (cI lt l).toArray)) os:=by
     rw[v2,hak]
     rfl
    rw[this]
    exact hnx
end Go.Pv
namespace Go.Pv
open Go.Sort
variable {P:Program} {N:Nat→Nat} {W:Nat→Prop} {L:Lx} {e:bc} {h:af} {w w':World}
theorem Fr.grown (hf:Fr (Wc w none) w w'):∃q os,w'=grow (w.drewN q) os:=by
 refine⟨w'.drawn - w.drawn,w'.heap.extract w.heap.size w'.heap.size,?_⟩
 obtain⟨h1,h2,h3,h4,h5,h6⟩:=hf
 have hh:w'.heap=w.heap++w'.heap.extract w.heap.size w'.heap.size:=by
  apply Array.ext_getElem?
  intro i
  rcases Po i w.heap.size with hi|hi
  ·rw[Array.getElem?_append_left hi]
   exact h5 i hi (fun hc=>by rcases hc with hc|hc<;>first|omega|cases hc)
  ·rw[Array.getElem?_append_right hi,Array.getElem?_extract]
   rcases Po i w'.heap.size with hi2|hi2
   ·rw[if_pos (by omega)]
    congr 1
    omega
   ·rw[Array.getElem?_eq_none hi2,if_neg (by omega)]
 obtain⟨heap,tape,drawn,os,output⟩:=w
 obtain⟨heap',tape',drawn',os',output'⟩:=w'
 simp only at h1 h2 h3 h4 h5 h6 hh
 subst h1
 subst h2
 subst h3
 show _=grow (Sort.ahead _ _) _
 simp only[grow,Sort.ahead]
 rw[← hh]
 congr 1
 show drawn'=drawn+(drawn' - drawn)
 omega
theorem Cc {p:PV} (hp:oE p=true):p.one=true:=by
 cases p<;>simp[oE]at hp<;>rfl
theorem re {ps:List PV} (hp:∀c∈ps,oE c=true):dB N L w (.agg ps) (.agg (ps.map sv).toArray):=by
 refine .agg _ _ (by simp) (fun j c hj=>?_) (fun c hc=>Cc (hp c hc))
 have:(ps.map sv).toArray.getD j undef=sv c:=by
  simp[Array.getD_eq_getD_getElem?,hj]
 rw[this]
 exact we (hp c (Ph hj))
theorem Ak {g:Nat} {ps:List PV} {k:IntKind} {n:Int} (hF:sO P N g ps [.int k n]) {args:Array Value} (w:World) (ht:qp N L w)
  (eg:∀args w,(callFunc (N g) args).run P w=.ok (.enter (N g) args) w) (hl:args.toList.length=ps.length) (ha:∀(j:Nat) (p:PV),ps[j]?=some p→∃v,args.toList[j]?=some v∧∀L',dB N L' w p v):
  Calls P (N g) args w fun e w'=>e=.returned (.int k n)∧∃q os',w'=grow (w.drewN q) os':=by
 have hc:=hF (fun t b=>t=7777∧L t b∧b<w.heap.size) w none args (fun _ _ h=>h.2.2) (fun g hg=>by
  obtain⟨h1,ty,z,h2⟩:=ht g hg
  exact⟨⟨rfl,h1,(Pz.1 h2).1⟩,ty,z,h2⟩) (.plain _ _ hl fun j p hj=>by
  obtain⟨v,h1,h2⟩:=ha j p hj
  exact⟨v,h1,h2 _⟩)
 rcases hc with⟨v,w',h1,h2⟩|⟨h1,h2⟩
 ·rw[eg]at h1
  cases h1
 ·refine h2.mono fun en w' hh=>?_
  cases en with
  |returned v=>
   obtain⟨L1,bs,vals,f1,f2,f3,f4,f5,f6,f7,rfl⟩:=hh
   refine⟨?_,f1.grown⟩
   cases f5 with
   |cons p u b1 ps vs b2 q1 q2=>
    cases q2
    cases q1 with
    |cell _ _ _ q=>
     cases q with
     |bW _ _ _ q=>cases q; rfl
  |panicked=>exact hh.elim
  |outgrown=>exact hh.elim
theorem Cd {α:Type} [Inhabited α] {g:Nat} {enc:α→List PV} (hsc:∀x,∀c∈enc x,oE c=true) {cf:α→α→Int} (hF:∀x y,sO P N g [.agg (enc x),.agg (enc y)] [.int .i64 (cf x y)])
  (eg:∀args w,(callFunc (N g) args).run P w=.ok (.enter (N g) args) w) (k blk off size:Nat) (w:World) (ht:qp N L w) (hb:∀t,¬L t blk):Go.Proofs.CmpLays P (N g) #[] (oG enc) k cf blk off size w:=by
 intro m os dk hs x y
 refine Ak (L:=L) (hF x y) _ (fun b hg=>?_) eg rfl fun j p hj=>?_
 ·obtain⟨h1,ty,z,h2⟩:=ht b hg
  refine⟨h1,ty,z,?_⟩
  have hlt:=(Pz.1 h2).1
  have hne:blk≠b:=fun he=>hb _ (he ▸ h1)
  show (grow (putRow id (Sort.ahead w m) blk off (flatK (oG enc) k dk)) os).heap[b]?=_
  rw[heap_grow_old _ _ (by simp[putRow,mapBlock,Sort.ahead]; exact hlt)]
  simp only[putRow,mapBlock,Sort.ahead,Array.getElem?_modify]
  rw[if_neg hne]
  exact h2
 ·match j,hj with
  |0,hj=>
   cases hj
   exact⟨_,rfl,fun _=>re (hsc x)⟩
  |1,hj=>
   cases hj
   exact⟨_,rfl,fun _=>re (hsc y)⟩
  |j+2,hj=>simp at hj
end Go.Pv
namespace Go.Proofs
open Go.Shelf Go.RowKit Go.Lib
variable {P:Program} {ρ:Ren}
theorem rf {ops:Array Oper} {rest:List Oper} {o:Oper} {a:Act} {w:World} {Q:Exit→Act→World→Prop} (hgd:o.guard=none) (s x:Operand) (t:TypeId)
  (ho:o.op=.call { callee:=.builtin .append,args:=#[s,x],argTypes:=#[t,t] }) (e:TypeId) (i:TypeInfo) (ht:P.underlying t=some (.slice e)) (hi:P.info? e=some i)
  (g:Nat) (hg:w.heap[g]?=some (.cells #[] e (0,0))) (hs:a.eval s=.slice (some ⟨g,0,none⟩) 0 0) (ad:Addr) (c:Nat) (hx:a.eval x=.slice (some ad) 0 c)
  (h:wpList P ops Q rest (a.put o.dst (.slice (some ⟨g,0,none⟩) 0 0)) w):wpList P ops Q (o::rest) a w:=by
 refine wpList_plain hgd fun K hK=>?_
 have hr:=run_append_room (P:=P) w t o.type e i ht hi g 0 0 #[] hg ad 0 c [] (by simp) (fun j u hj=>by simp at hj) (fun u hu=>by simp at hu) (Nat.le_refl _) (by simp)
 have hw:w.setRow g (([]:List Value).take (0*i.size)++[]++([]:List Value).drop (0*i.size+([]:List Value).length)).toArray=w:=by
  simp only[List.take_nil,List.drop_nil,List.append_nil]
  unfold World.setRow
  have:w.heap.modify g (fun|.cells _ t f=>.cells #[] t f|o=>o)=w.heap:=by
   apply Array.ext_getElem?
   intro k
   rw[Array.getElem?_modify]
   split
   ·rename_i hk
    subst hk
    rw[hg]
    rfl
   ·rfl
  first|rw[this]|(congr 1)
 rw[show (#[]:Array Value).toList=[] from rfl,hw]at hr
 unfold Oper.wp execOp
 simp only[ho,resolve,invoke,builtin,Sem.run_bind,Sem.run_pure,Result.andThen_ok,List.map_toArray,List.map_cons,List.map_nil,hs,hx,hr]
 exact hK _ _ h
set_option maxHeartbeats 1000000 in
theorem rh (L:SlLaysE0.n41 P ρ) (i0:TypeInfo) (z:Value) (hi:P.info? (ρ.t 23)=some i0) (_hz0:i0.zero=some z)
  (z23:∀w,(Go.sizeOf (ρ.t 23)).run P w=.ok i0.size w) (ad:Addr) (c:Nat) (w:World):
  Calls P (ρ.f 41) #[.slice (some ad) 0 c] w fun e w'=>∃g,e=.returned (.slice (some ⟨g,0,none⟩) 0 0)∧w'=w.alloc (.cells #[] (ρ.t 23)):=by
 have mixed:=L.mixed; have t4:=L.t4; have a4:=L.a4; have z4:=L.z4; have v4:=L.v4; have t22:=L.t22; have a22:=L.a22; have z22:=L.z22; have v22:=L.v22
 have q22:∀(w:World) (a:Option Addr) (n c n' c':Nat),(binOp .eql (ρ.t 22) (.slice a n c) (.slice none n' c')).run P w=.ok (.bool a.isNone) w:=fun w a n c n' c'=>Lib.run_eql_slice_nil w _ _ a n c n' c' L.t22
 have u22:∀w,Sem.run P (underlying (ρ.t 22)) w=.ok (TypeDesc.slice (ρ.t 23)) w:=run_underlying t22
 obtain⟨_,_,FG⟩:=L.f41
 go_enter FG,SlBodyN.n41_ntmps ρ
 go_wp2_with (at_builtin; refine rf rfl _ _ (ρ.t 22) rfl (ρ.t 23) i0 t22 hi w.heap.size ?qc1 rfl ad c rfl ?_)
 case qc1=>exact heap_alloc_new w _
 go_wp2
 go_ret
 exact⟨_,rfl,rfl⟩
theorem ri {ops:Array Oper} {rest:List Oper} {o:Oper} {a:Act} {w:World} {Q:Exit→Act→World→Prop} (hgd:o.guard=none) (s x:Operand) (t:TypeId)
  (ho:o.op=.call { callee:=.builtin .append,args:=#[s,x],argTypes:=#[t,t] }) (e:TypeId) (i:TypeInfo) (z:Value) (ht:P.underlying t=some (.slice e)) (hi:P.info? e=some i) (hz:i.zero=some z) (zc:Array Value) (hzc:z.cells=zc)
  (g:Nat) (hs:a.eval s=.slice (some ⟨g,0,none⟩) 0 0) (ad:Addr) (n c:Nat) (hx:a.eval x=.slice (some ad) n c) (news:List Value) (hl:news.length=n*i.size) (hnews:∀j v,news[j]?=some v→w.cell? (ad.add j)=some v)
  (hn:0<n) (hm:n≤maxLen) (hb:n*i.bytes≤140737488355328)
  (h:wpList P ops Q rest (a.put o.dst (.slice (some ⟨w.heap.size,0,none⟩) n (grownCap w n 0 e))) (w.drew.alloc (.cells (news.toArray++Builtin.zeroCells zc (grownCap w n 0 e - n)) e))):wpList P ops Q (o::rest) a w:=by
 subst hzc
 refine wpList_plain hgd fun K hK=>?_
 have hr:=run_append_grow (P:=P) w t o.type e i z ht hi hz ⟨g,0,none⟩ 0 0 [] (by simp) (fun j v hj=>by simp at hj) ad n c news hl hnews (by omega) (by unfold maxLen at hm; omega) (by rw[Nat.zero_add,nextslicecap_zero hn]; omega)
 simp only[Nat.zero_add,Array.empty_append]at hr
 unfold Oper.wp execOp
 simp only[ho,resolve,invoke,builtin,Sem.run_bind,Sem.run_pure,Result.andThen_ok,List.map_toArray,List.map_cons,List.map_nil,hs,hx,hr]
 exact hK _ _ h
def mh (w:World) (e:TypeId) (zc:Array Value) (n:Nat) (news:List Value):World:=
 (w.alloc (.cells #[] e)).drew.alloc (.cells (news.toArray++Builtin.zeroCells zc (grownCap (w.alloc (.cells #[] e)) n 0 e - n)) e)
set_option maxHeartbeats 1000000 in
theorem sy (L:SlLaysE0.n41 P ρ) (i0:TypeInfo) (z:Value) (hi:P.info? (ρ.t 23)=some i0) (hz0:i0.zero=some z) (zc:Array Value) (hzc:z.cells=zc)
  (z23:∀w,(Go.sizeOf (ρ.t 23)).run P w=.ok i0.size w) (ad:Addr) (n c:Nat) (news:List Value) (w:World) (hl:news.length=n*i0.size) (hn0:0<n) (hn:n≤maxLen) (hbig:n*i0.bytes≤140737488355328)
  (hc:∀j u,news[j]?=some u→w.cell? (ad.add j)=some u):
  Calls P (ρ.f 41) #[.slice (some ad) n c] w fun e w'=>e=.returned (.slice (some ⟨w.heap.size+1,0,none⟩) n (grownCap (w.alloc (.cells #[] (ρ.t 23))) n 0 (ρ.t 23)))∧w'=mh w (ρ.t 23) zc n news:=by
 have mixed:=L.mixed; have t4:=L.t4; have a4:=L.a4; have z4:=L.z4; have v4:=L.v4; have t22:=L.t22; have a22:=L.a22; have z22:=L.z22; have v22:=L.v22
 have q22:∀(w:World) (a:Option Addr) (n c n' c':Nat),(binOp .eql (ρ.t 22) (.slice a n c) (.slice none n' c')).run P w=.ok (.bool a.isNone) w:=fun w a n c n' c'=>Lib.run_eql_slice_nil w _ _ a n c n' c' L.t22
 have u22:∀w,Sem.run P (underlying (ρ.t 22)) w=.ok (TypeDesc.slice (ρ.t 23)) w:=run_underlying t22
 have A:Aside (∀j u,news[j]?=some u→w.cell? (ad.add j)=some u):=hc
 clear hc
 unfold mh
 obtain⟨_,_,FG⟩:=L.f41
 go_enter FG,SlBodyN.n41_ntmps ρ
 go_wp2_with (at_builtin; refine ri rfl _ _ (ρ.t 22) rfl (ρ.t 23) i0 z t22 hi hz0 zc hzc w.heap.size rfl ad n c rfl news ?qc1 ?qc2 ?qc3 ?qc4 ?qc5 ?_)
 case qc1=>exact hl
 case qc2=>
  intro j u hj
  exact Lib.cell?_alloc_some _ (A.out j u hj)
 case qc3=>exact hn0
 case qc4=>exact hn
 case qc5=>exact hbig
 go_wp2
 go_ret
 exact⟨by simp,rfl⟩
end Go.Proofs
namespace Go.Pv
open Go.Shelf
variable {P:Program} {N:Nat→Nat} {W:Nat→Prop} {L:Lx} {e:bc} {h:af} {w:World}
def cY (k:Nat):List V→af→Option (V×Tn)
 |[x],h=>match bE h x with
  |some (.inl rows,rd)=>if aW k (.inl rows)=true∧rows.length≤aQ then
    (if rows.length=0 then some (.tl [],{ ra:=rd }) else some (.own h.ar.length 0 0 rows.length,{ push:=[⟨0,k,.inl rows⟩],ra:=rd,base:=h.ar.length })) else none
  |_=>none
 |_,_=>none
theorem dB.nil (a:Option Addr):dB N L w (.ae 0 []) (.slice a 0 0):=
 .ae 0 [] a ⟨0,0,none⟩ 0 0 (fun _ _=>undef) (fun r hr=>by simp at hr) (Nat.le_refl _) (fun h=>by simp at h) (fun i j c hc=>by simp[eY]at hc) (fun i j c hc=>by simp[eY]at hc) (fun _ i j c hc=>by simp[eY]at hc) (fun i j c hc=>by simp[eY]at hc)
theorem jo {ρ:Ren} (LL:Go.Proofs.SlLaysE0.n41 P ρ) {fn:Nat} (hfn:N fn=ρ.f 41) {k:Nat} (hk:k≠0) (i0:TypeInfo) (z:Value) (hi:P.info? (ρ.t 23)=some i0) (hz0:i0.zero=some z) (hzs:z.cells.size=k) (his:i0.size=k) (hby:i0.bytes≤32768)
  (z23k:∀w,(Go.sizeOf (ρ.t 23)).run P w=.ok k w) (hent:∀args w,(callFunc (N fn) args).run P w=.ok (.enter (N fn) args) w)
  {vs:List V} {args:Array Value} {v:V} {tn:Tn} (hp:cY k vs h=some (v,tn)) (hr:HR N L e W h w)
  (hs:args.size=vs.length) (hv:∀(j:Nat) (x:V),vs[j]?=some x→VR N L e w x (args.getD j undef)):
  dx P (N fn) args w fun v' w'=>∃L' e',Nx N W L e w L' e' (tn.apply h) w'∧VR N L' e' w' v v':=by
 have z23:∀w,(Go.sizeOf (ρ.t 23)).run P w=.ok i0.size w:=fun w=>by rw[his]; exact z23k w
 unfold cY at hp
 split at hp<;>first|(cases hp; done)|skip
 rename_i x
 split at hp<;>first|(cases hp; done)|skip
 rename_i rows rd hsrc
 split at hp<;>first|(cases hp; done)|skip
 rename_i hc
 obtain⟨hfit,hmost⟩:=hc
 have hargs:∃v0,args=#[v0]∧VR N L e w x v0:=by
  have h0:=hv 0 x rfl
  have hsz:args.size=1:=hs
  obtain⟨l⟩:=args
  match l,hsz with
  |[v0],_=>exact⟨v0,rfl,h0⟩
 obtain⟨v0,rfl,hv0⟩:=hargs
 obtain⟨B,c,ad,vals,rfl,s1,s2,s3,s4,s5⟩:=mU hr hv0 hsrc hfit hk
 have hlen:aD (.inl rows:Sum (List (List PV)) (List (List V)))=rows.length:=rfl
 rw[hlen]at s1 ⊢
 split at hp
 ·rename_i h0
  injection hp with hp
  injection hp with e1 e2
  subst e1
  subst e2
  rw[h0]
  have hap:Tn.apply { ra:=rd } h=h:=by cases h; simp[Tn.apply]
  rw[hap]
  have h2:VR N L e w (.tl []) (.slice none 0 0):=.tl [] none (dB.nil _) uh.nil
  cases B with
  |none=>
   refine .inr ⟨hent _ _,?_⟩
   rw[hfn]
   refine(Go.Proofs.AnyE.slices_Clone_nil LL 0 c w).mono ?_
   rintro en w' ⟨rfl,rfl⟩
   exact⟨L,e,Nx.refl hr,h2⟩
  |some a=>
   refine .inr ⟨hent _ _,?_⟩
   rw[hfn]
   refine(Go.Proofs.rh LL i0 z hi hz0 z23 a c w).mono ?_
   rintro en w' ⟨g,rfl,rfl⟩
   exact⟨L,e,Nx.idle hr _,.tl [] _ (dB.nil _) uh.nil⟩
 ·rename_i h0
  injection hp with hp
  injection hp with e1 e2
  subst e1
  subst e2
  have hB:=s1 (by omega)
  subst hB
  refine .inr ⟨hent _ _,?_⟩
  rw[hfn]
  have hvl:vals.length=rows.length*k:=by rw[s2.1,cy]; rfl
  refine(Go.Proofs.sy LL i0 z hi hz0 z.cells rfl z23 ad rows.length c vals w (by rw[his]; exact hvl) (by omega) (by unfold maxLen; unfold aQ at hmost; omega) (by
   have:rows.length*i0.bytes≤2147483648*32768:=Nat.mul_le_mul hmost hby
   omega) s3).mono ?_
  rintro en w' ⟨rfl,rfl⟩
  unfold Go.Proofs.mh
  have n1:=Nx.idle hr (.cells #[] (ρ.t 23))
  have n2:=Nx.drew n1.hr
  have n12:=n1.trans n2
  have hG:=grownCap_ge (w.alloc (.cells #[] (ρ.t 23))) rows.length 0 (ρ.t 23)
  generalize grownCap (w.alloc (.cells #[] (ρ.t 23))) rows.length 0 (ρ.t 23)=G at hG ⊢
  have hsz:(vals.toArray++Builtin.zeroCells z.cells (G - rows.length)).size=G*k:=by
   simp only[Array.size_append,List.size_toArray,size_zeroCells,hzs,hvl,← Nat.add_mul]
   congr 1
   omega
  obtain⟨n3,v3⟩:=um n2.hr hk (n:=rows.length) (c:=G) (body:=.inl rows) (arr:=vals.toArray++Builtin.zeroCells z.cells (G - rows.length)) (el:=ρ.t 23) (by
   rw[Array.toList_append,List.take_append_of_le_length (by simp[hvl])]
   rw[show (vals.toArray.toList).take (rows.length*k)=vals by simp[← hvl]]
   exact s2.mono n12.ext) rfl hG (by rw[hsz]; exact Pu _) s4
  refine⟨L,_,by rw[Tn.ik]; exact n12.trans n3,?_⟩
  have hheap:((w.alloc (.cells #[] (ρ.t 23))).drew).heap.size=w.heap.size+1:=by simp[World.drew]
  rw[← hheap]
  exact v3
end Go.Pv
namespace Go.Pv
abbrev Prim:=List V→af→Option (V×Tn)
structure Prim.MH (pr:Prim):Prop where
 loc:∀vs h1 h2 v t,pr vs h1=some (v,t)→gg t h1 h2→pr vs h2=some (v,t)
 fit:∀vs h v t,pr vs h=some (v,t)→t.fit h
 gf:∀vs h v t,pr vs h=some (v,t)→t.new=false
def Prim.Ok (P:Program) (N:Nat→Nat) (fn:Nat) (pr:Prim):Prop:=
 ∀(L:Lx) (e:bc) (W:Nat→Prop) (h:af) (w:World) (vs:List V) (args:Array Value) (v:V) (tn:Tn),pr vs h=some (v,tn)→HR N L e W h w→
  args.size=vs.length→(∀(j:Nat) (x:V),vs[j]?=some x→VR N L e w x (args.getD j undef))→
  dx P (N fn) args w fun v' w'=>∃L' e',Nx N W L e w L' e' (tn.apply h) w'∧VR N L' e' w' v v'
theorem hJ {α:Type} {n:Nat} {x:α}:∀{l:List (Nat×α)},aC n l=some x→(n,x)∈l
 |[],h=>by cases h
 |(m,y)::r,h=>by
  simp only[aC]at h
  split at h
  ·rename_i hm
   cases h
   subst hm
   exact PN ..
  ·exact P2 _ (hJ h)
theorem tv {l:List (Nat×Prim)} (hl:∀x∈l,Prim.MH x.2):cK (fun n=>aC n l):=
 ⟨fun _fn _pr hf=>(hl _ (hJ hf)).loc,fun _fn _pr hf=>(hl _ (hJ hf)).fit,fun _fn _pr hf=>(hl _ (hJ hf)).gf⟩
theorem wh {P:Program} {N:Nat→Nat} {l:List (Nat×Prim)} (hl:∀x∈l,Prim.Ok P N x.1 x.2):dS P N (fun n=>aC n l):=
 fun _fn _pr hf=>hl _ (hJ hf)
theorem Al (k:Nat) (f:List (List PV)→Option (List (List PV))) (g:Nat):Prim.MH (jn k f g) where
 gf:=by
  intro vs h v t hh
  unfold jn at hh
  repeat' split at hh
  all_goals first|(cases hh; done)|(injection hh with hh; injection hh with e1 e2; subst e2; rfl)
 loc:=by
  intro vs h1 h2 v t hh ha
  unfold jn at hh ⊢
  split at hh<;>first|(cases hh; done)|skip
  split at hh<;>first|(cases hh; done)|skip
  rename_i hg
  simp only[hg,if_true]
  split at hh<;>first|(cases hh; done)|skip
  ·exact hh
  ·rename_i id aj off len
   split at hh<;>first|(cases hh; done)|skip
   rename_i a ho
   have:(t.ra=some id∨t.mH=some id∨∃a,t.ar=some (id,a))→aB h2 id aj=some a:=fun hi=>(ha.own hi).trans ho
   split at hh
   ·rename_i h0
    injection hh with hh
    injection hh with e1 e2
    subst e1
    subst e2
    rw[this (.inl rfl)]
    simp only[h0,if_true]
   ·rename_i h0
    split at hh<;>first|(cases hh; done)|skip
    rename_i rows hb
    split at hh<;>first|(cases hh; done)|skip
    rename_i hc
    split at hh<;>first|(cases hh; done)|skip
    rename_i news hn
    injection hh with hh
    injection hh with e1 e2
    subst e1
    subst e2
    rw[this (.inr (.inr ⟨_,rfl⟩))]
    simp only[h0,if_false,hb,hn]
    rw[if_pos hc]
 fit:=by
  intro vs h v t hh
  unfold jn at hh
  split at hh<;>first|(cases hh; done)|skip
  split at hh<;>first|(cases hh; done)|skip
  split at hh<;>first|(cases hh; done)|skip
  ·injection hh with hh
   injection hh with e1 e2
   subst e2
   exact⟨fun hp=>absurd rfl hp,fun i a hia=>by cases hia⟩
  ·split at hh<;>first|(cases hh; done)|skip
   rename_i a ho
   split at hh
   ·injection hh with hh
    injection hh with e1 e2
    subst e2
    exact⟨fun hp=>absurd rfl hp,fun i a hia=>by cases hia⟩
   ·split at hh<;>first|(cases hh; done)|skip
    split at hh<;>first|(cases hh; done)|skip
    split at hh<;>first|(cases hh; done)|skip
    injection hh with hh
    injection hh with e1 e2
    subst e2
    refine⟨fun hp=>absurd rfl hp,fun i a' hia=>?_⟩
    cases hia
    exact fR ho
theorem iy (k:Nat):Prim.MH (cY k) where
 gf:=by
  intro vs h v t hh
  unfold cY at hh
  repeat' split at hh
  all_goals first|(cases hh; done)|(injection hh with hh; injection hh with e1 e2; subst e2; rfl)
 loc:=by
  intro vs h1 h2 v t hh ha
  unfold cY at hh ⊢
  split at hh<;>first|(cases hh; done)|skip
  split at hh<;>first|(cases hh; done)|skip
  rename_i rows rd hs
  split at hh<;>first|(cases hh; done)|skip
  rename_i hc
  split at hh
  ·rename_i h0
   injection hh with hh
   injection hh with e1 e2
   subst e1
   subst e2
   rw[gh hs (fun i hi=>ha.ar i (.inl hi))]
   simp only
   rw[if_pos hc,if_pos h0]
  ·rename_i h0
   injection hh with hh
   injection hh with e1 e2
   subst e1
   subst e2
   rw[gh hs (fun i hi=>ha.ar i (.inl hi))]
   simp only
   rw[if_pos hc,if_neg h0,ha.len (by simp)]
 fit:=by
  intro vs h v t hh
  unfold cY at hh
  split at hh<;>first|(cases hh; done)|skip
  split at hh<;>first|(cases hh; done)|skip
  split at hh<;>first|(cases hh; done)|skip
  split at hh
  all_goals
   injection hh with hh
   injection hh with e1 e2
   subst e2
   refine⟨fun hp=>?_,fun i a hia=>by cases hia⟩
   first|rfl|exact absurd rfl hp
end Go.Pv
