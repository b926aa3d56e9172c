/-
 The interpreter over plain values,and that it is sound.
-/
import Derived.Test.YtpchfogcccagjaaGreatA2
import Derived.ProofKit
import Derived.Carry
import Derived.Attr
import Derived.Sort.Grow
import Derived.Shelf.GgSortFunc.InsertionK
import Derived.Shelf.SlSortCmp.InsertionK
import Derived.Shelf.SlicesE.Clone
open List renaming getElem?_eq_some_iff → V9, mem_of_getElem? → Wa, getElem?_eq_getElem → Wb, mem_iff_getElem? → Wd, getElem?_append_left → We, getElem?_map → Wf, length_map → Wg, mem_map → Wk, getElem?_append_right → Wn, eq_nil_of_length_eq_zero → Wp, all_eq_true → Wu, pairwise_cons → Wv, findIdx?_eq_some_iff_getElem → Ww, getElem?_take → Wy, length_append → Wz, mem_cons → WG, mem_cons_self → WH, append_assoc → WK, getElem?_drop → WQ, getElem?_eq_none → WS, mem_append → WT, ext_getElem? → WW, mem_of_mem_take → W2, mem_cons_of_mem → W3, mem_filterMap → W4, mem_of_mem_drop → W5, length_take → W8, mem_append_left → Xa, pairwise_iff_getElem → Xd, append_nil → Xh, pairwise_singleton → XC, isEmpty_iff → XD, contains_iff_mem → XF, take_append_drop → XG, map_cons → XQ
open Nat renaming lt_or_ge → Wh, mul_le_mul_right → Wi, le_refl → Wj, add_mul → Wm, mod_lt → Wt, zero_le → WA, le_trans → WM, add_assoc → W0, lt_of_lt_of_le → W6, one_mul → W7, not_lt_zero → Xo, le_max_right → Xs, zero_add → XN, mod_eq_of_lt → XO
open Array renaming getElem?_toList → Wo, getElem?_eq_some_iff → Wr
open Option renaming map_eq_some_iff → Wx, bind_eq_some_iff → XP
open Bool renaming eq_false_iff → Xz
open Int renaming eq_ofNat_of_zero_le → XB
namespace Go.Pv
variable {P:Program} {N M:Nat→Nat} {W:Nat→Prop} {L L':Lx} {e e':bh} {h:aa} {w w':World} {Φ:Nat→List PV→Option (List PV)} {Pr:bm} {Tk:Nat→Bool}
def bh.cut (e:bh) (kb:List Nat):bh:={ e with sl:=fun s=>e.sl s∧(s∈kb∨dE s=true) }
theorem r7 (s:Nat):∀bx:List (Nat×List V),aE s (pins bx)=if dE s=true then aE s bx else none
 |[]=>by simp[pins,aE]
 |(t,cs)::r=>by
  have ih:=r7 s r
  simp only[pins]
  by_cases ht:dE t=true
  .rw[if_pos ht]
   simp only[aE]
   by_cases hs:t=s
   .subst hs; simp[ht]
   .rw[if_neg hs,if_neg hs]; exact ih
  .rw[if_neg ht,ih]
   by_cases hs:dE s=true
   .have:t≠s:=fun h=>ht (h ▸ hs)
    simp[hs,aE,this]
   .simp[hs]
theorem r8 (kb:List Nat) (bx:List (Nat×List V)) (s:Nat):aE s (gJ kb bx)=if s∈kb∨dE s=true then aE s bx else none:=by
 induction kb with
 |nil=>
  have:=r7 s bx
  simp only[gJ]
  rw[this]
  simp
 |cons k r ih=>
  simp only[gJ]
  cases hk:aE k bx with
  |none=>
   simp only
   rw[ih]
   by_cases hs:s=k
   .subst hs; simp[hk]
   .simp[hs]
  |some cs=>
   simp only[aE]
   by_cases hs:k=s
   .subst hs; simp[hk]
   .rw[if_neg hs,ih]
    simp[Ne.symm hs]
theorem Eb (kt kb:List Nat) (env:List (Nat×V)) (t:Nat):get (gW kt kb env) t=if t∈kt then dN kb (get env t) else .any:=by
 induction kt with
 |nil=>simp[gW,get,aE]
 |cons k r ih=>
  have:gW (k::r) kb env=(k,dN kb (get env k))::gW r kb env:=rfl
  rw[this]
  simp only[get,aE]
  by_cases hk:k=t
  .subst hk; simp[]
  .rw[if_neg hk]
   have:=ih
   simp only[get]at this
   rw[this]
   simp[Ne.symm hk]
theorem VR.cut {x:V} {v:Value} (hv:VR N L e w x v) {kb:List Nat} (hk:rA kb x=true):VR N L (e.cut kb) w x v:=by
 cases hv with
 |pv p v hp=>exact .pv p v hp
 |tl rows a hp hs=>exact .tl rows a hp hs
 |own id ax off len a cap h0 h1 h2 h3=>exact .own id ax off len a cap h0 h1 h2 h3
 |ptr s off hs=>exact .ptr (e:=e.cut kb) s off ⟨hs,by simpa [rA]using hk⟩
 |du id ax row col a h1 h2 h3=>exact .du id ax row col a h1 h2 h3
 |func f cap arr hs hv=>
  have:cap=[]:=by simpa [rA]using hk
  subst this
  exact .func f [] arr hs (fun j c hj=>by simp at hj)
 |map id hi=>exact .map (e:=e.cut kb) id hi
 |dR=>exact .dR
 |agg=>simp[rA]at hk
 |dy=>simp[rA]at hk
 |any v=>exact .any v
theorem VR.dN {x:V} {v:Value} (hv:VR N L e w x v) (kb:List Nat):VR N L (e.cut kb) w (Pv.dN kb x) v:=by
 cases x with
 |ptr s o=>
  simp only[Pv.dN]
  split
  .rename_i hk; exact hv.cut (by simpa [rA]using hk)
  .exact .any v
 |func f cap=>
  simp only[Pv.dN]
  split
  .rename_i hk
   cases hv with
   |func _ _ arr hs hvv=>exact .func f cap arr hs (fun j c hj=>(hvv j c hj).cut (Wu.1 hk c (Wa hj)))
  .exact .any v
 |agg cs=>
  simp only[Pv.dN]
  split
  .rename_i hk
   cases hv with
   |agg _ arr hs hvv=>exact .agg cs arr hs (fun j c hj=>(hvv j c hj).cut (Wu.1 hk c (Wa hj)))
  .exact .any v
 |dy vs=>exact .any v
 |pv p=>exact hv.cut rfl
 |tl r=>exact hv.cut rfl
 |own=>exact hv.cut rfl
 |du=>exact hv.cut rfl
 |map=>exact hv.cut rfl
 |dR=>exact hv.cut rfl
 |any=>exact hv.cut rfl
theorem xM {x:V} (hc:x.calm=true) (kb:List Nat):rA kb x=true:=by
 cases x with
 |pv p=>rfl
 |tl r=>rfl
 |own=>rfl
 |func f cap=>simpa [V.calm,rA]using hc
 |_=>simp[V.calm]at hc
theorem Cq {x:V} (hc:x.dF=true) (kb:List Nat):rA kb x=true:=by
 cases x with
 |ptr s o=>
  have:dE s=true:=hc
  simp[rA,this]
 |map=>rfl
 |dR=>rfl
 |pv p=>rfl
 |tl r=>rfl
 |own=>rfl
 |du=>rfl
 |func f cap=>exact xM (x:=.func f cap) hc kb
 |agg cs=>simp[V.dF,V.calm]at hc
 |dy cs=>simp[V.dF,V.calm]at hc
 |any=>rfl
theorem fz.cut {b off:Nat} {cs:List V} (hc:fz N L e w b off cs) (kb:List Nat):fz N L (e.cut kb) w b off cs:=by
 intro j c hj
 obtain⟨h1,v,h2,h3⟩:=hc j c hj
 exact⟨h1,v,h2,h3.cut (xM h1 kb)⟩
theorem kP.cut {b:Nat} {cs:List V} (hc:kP N L e w b cs) (kb:List Nat):kP N L (e.cut kb) w b cs:=by
 intro j c hj
 obtain⟨h1,v,h2,h3⟩:=hc j c hj
 exact⟨h1,v,h2,h3.cut (Cq h1 kb)⟩
theorem HR.cut (hr:HR N L e W h w) (kb:List Nat):HR N L (e.cut kb) W { h with bx:=gJ kb h.bx } w:=by
 refine⟨fun s=>?_,fun s cs hs=>?_,hr.na,hr.ax,fun id a ha hk=>?_,hr.nm,hr.mp,fun s hs=>hr.tL s hs.1,hr.mm,hr.vK,fun s s' hs hs'=>hr.zl s s' hs.1 hs'.1,fun s id hs=>hr.vL s id hs.1,hr.vM,hr.zq,hr.mE,hr.wide,hr.zm⟩
 .simp only[bh.cut,r8]
  by_cases hk:s∈kb∨dE s=true
  .simp only[hk,and_true,if_true,hr.sl s]
  .simp[hk]
 .simp only[r8]at hs
  by_cases hk:s∈kb∨dE s=true
  .simp only[hk,if_true]at hs
   obtain⟨h1,h2⟩:=hr.bx s cs hs
   exact⟨h1,h2.cut kb⟩
  .simp[hk]at hs
 .obtain⟨h1,h2,h3,h4,h5⟩:=hr.ar id a ha hk
  exact⟨h1,h2,h3,fun i r hi=>(h4 i r hi).cut kb,h5⟩
theorem SR.mask {nt:Nat} {s:St} {a:Act} (hs:SR N W L e nt s a w) (kt kb:List Nat):SR N W L (e.cut kb) nt (s.mask kt kb) a w:=by
 refine⟨hs.hr.cut kb,fun t=>?_,hs.size,hs.defers⟩
 simp only[St.mask,Eb]
 split
 .exact(hs.env t).dN kb
 .exact .any _
structure pq (L:Lx) (e:bh) (w:World) (L':Lx) (e':bh) (w':World):Prop where
 sub:∀t b,L t b→L' t b
 kept:∀t b,L t b→w'.heap[b]?=w.heap[b]?
 sl:∀s,dE s=true→e.sl s→e'.sl s∧e'.bx s=e.bx s
 na:e.na≤e'.na
 av:∀id,id<e.na→e.av id≤e'.av id∧(e'.av id=e.av id→e'.ar id=e.ar id∧e'.ad id=e.ad id∧e'.cap id=e.cap id∧e'.ak id=e.ak id∧e'.an id=e.an id)
 nm:e.nm≤e'.nm
 mp:∀id,id<e.nm→e'.mp id=e.mp id
theorem Ext.x (h:Ext L e w L' e' w'):pq L e w L' e' w':=⟨h.sub,h.kept,fun s _ hs=>h.sl s hs,h.na,h.av,h.nm,h.mp⟩
theorem pq.ext (h:pq L e w L' e' w') {e1 e2:bh} (h1:e1={ e with sl:=e1.sl,bx:=e1.bx }) (h2:e2={ e' with sl:=e2.sl,bx:=e2.bx }) (hs:∀s,e1.sl s→e2.sl s∧e2.bx s=e1.bx s):Ext L e1 w L' e2 w':=by
 have g1:e1.na=e.na∧e1.av=e.av∧e1.ar=e.ar∧e1.ad=e.ad∧e1.cap=e.cap∧e1.ak=e.ak∧e1.an=e.an∧e1.nm=e.nm∧e1.mp=e.mp:=by rw[h1]; exact⟨rfl,rfl,rfl,rfl,rfl,rfl,rfl,rfl,rfl⟩
 have g2:e2.na=e'.na∧e2.av=e'.av∧e2.ar=e'.ar∧e2.ad=e'.ad∧e2.cap=e'.cap∧e2.ak=e'.ak∧e2.an=e'.an∧e2.nm=e'.nm∧e2.mp=e'.mp:=by rw[h2]; exact⟨rfl,rfl,rfl,rfl,rfl,rfl,rfl,rfl,rfl⟩
 obtain⟨a1,a2,a3,a4,a5,a6,a7,a8,a9⟩:=g1
 obtain⟨b1,b2,b3,b4,b5,b6,b7,b8,b9⟩:=g2
 refine⟨h.sub,h.kept,hs,by rw[a1,b1]; exact h.na,?_,by rw[a8,b8]; exact h.nm,?_⟩
 .rw[a1,a2,a3,a4,a5,a6,a7,b2,b3,b4,b5,b6,b7]; exact h.av
 .rw[a8,a9,b9]; exact h.mp
theorem pq.trans {L'':Lx} {e'':bh} {w'':World} (h:pq L e w L' e' w') (k:pq L' e' w' L'' e'' w''):pq L e w L'' e'' w'':=by
 refine⟨fun t b hb=>k.sub _ _ (h.sub _ _ hb),fun t b hb=>(k.kept _ _ (h.sub _ _ hb)).trans (h.kept _ _ hb),fun s hp hs=>?_,WM h.na k.na,fun id hid=>?_,WM h.nm k.nm,fun id hid=>?_⟩
 .obtain⟨h1,h2⟩:=h.sl s hp hs
  obtain⟨h3,h4⟩:=k.sl s hp h1
  exact⟨h3,h4.trans h2⟩
 .obtain⟨h1,h2⟩:=h.av id hid
  obtain⟨h3,h4⟩:=k.av id (W6 hid h.na)
  refine⟨WM h1 h3,fun he=>?_⟩
  have e1:e'.av id=e.av id:=by omega
  have e2:e''.av id=e'.av id:=by omega
  obtain⟨a1,a2,a3,a4,a5⟩:=h2 e1
  obtain⟨b1,b2,b3,b4,b5⟩:=h4 e2
  exact⟨b1.trans a1,b2.trans a2,b3.trans a3,b4.trans a4,b5.trans a5⟩
 .exact(k.mp id (W6 hid h.nm)).trans (h.mp id hid)
theorem pq.cut (h:pq L e w L' e' w') (kb:List Nat):pq L e w L' (e'.cut kb) w':=
 ⟨h.sub,h.kept,fun s hp hs=>⟨⟨(h.sl s hp hs).1,.inr hp⟩,(h.sl s hp hs).2⟩,h.na,h.av,h.nm,h.mp⟩
def FrS (N:Nat→Nat) (W:Nat→Prop) (nt:Nat) (L0:Lx) (e0:bh) (w0:World) (s:St) (a:Act) (w:World):Prop:=
 ∃L e,SR N W L e nt s a w∧Fr W w0 w∧(∀t b,L0 t b→L t b)∧(∀t b,L t b→L0 t b∨(t=0∧W b))∧pq L0 e0 w0 L e w
theorem FrS.mask {nt:Nat} {L0:Lx} {e0:bh} {w0:World} {s:St} {a:Act} (hs:FrS N W nt L0 e0 w0 s a w) (kt kb:List Nat):FrS N W nt L0 e0 w0 (s.mask kt kb) a w:=by
 obtain⟨L,e,h1,h2,h3,h4,h5⟩:=hs
 exact⟨L,_,h1.mask kt kb,h2,h3,h4,h5.cut kb⟩
theorem FrS.step {nt:Nat} {L0:Lx} {e0:bh} {w0:World} {s':St} {a':Act} (hf:Fr W w0 w) (h1:∀t b,L0 t b→L t b) (h2:∀t b,L t b→L0 t b∨(t=0∧W b)) (hx:pq L0 e0 w0 L e w) (hn:Nx N W L e w L' e' s'.h w') (hs:SR N W L' e' nt s' a' w'):FrS N W nt L0 e0 w0 s' a' w':=by
 refine⟨L',e',hs,hf.trans hn.fr,fun t b hb=>hn.ext.sub _ _ (h1 t b hb),fun t b hb=>?_,hx.trans hn.ext.x⟩
 rcases hn.new t b hb with hb|hb
 .exact h2 t b hb
 .exact .inr hb
def Ec:Ex→Exit
 |.normal=>.normal
 |.exit id=>.exit id
 |.ret=>.ret
def QQ (N:Nat→Nat) (W:Nat→Prop) (nt:Nat) (L0:Lx) (e0:bh) (w0:World) (ex:Ex) (s':St):Exit→Act→World→Prop:=fun x a w=>x=Ec ex∧FrS N W nt L0 e0 w0 s' a w
def j5 (P:Program) (N M:Nat→Nat) (A:Nat→Option ae) (Pr:bm) (n:Nat):Prop:=
 ∀(nt:Nat) (code:Code) (an:DO) (ac:AC) (an':DO),dI P N M nt code an=some (ac,an')→∀(W:Nat→Prop) (L0:Lx) (e0:bh) (w0:World) (s:St) (ex:Ex) (s':St) (a:Act) (w:World),
  exec A Pr n ac s=some (ex,s')→FrS N W nt L0 e0 w0 s a w→code.wp P (QQ N W nt L0 e0 w0 ex s') a w
def Ed (P:Program) (N:Nat→Nat) (A:Nat→Option ae) (Pr:bm) (n:Nat):Prop:=∀f ps rs,cM A (exec A Pr n) f ps=some rs→uq P N f ps rs
theorem xN {A:Nat→Option ae} {nt:Nat} {code:Code} {an an':DO} {x:AC} {kt kb:List Nat} (htr:dI P N M nt code an=some (x,an')) {W:Nat→Prop} {L0:Lx} {e0:bh} {w0:World}:∀(k:Nat),(∀j,j<k→j5 P N M A Pr j)→∀(s:St) (ex:Ex) (s':St) (a:Act) (w:World),
  exec A Pr k (.loop (.mask kt kb x)) s=some (ex,s')→FrS N W nt L0 e0 w0 s a w→Code.rounds P code (QQ N W nt L0 e0 w0 ex s') k a w:=by
 intro k
 induction k with
 |zero=>intro _ s ex s' a w he _; simp[exec]at he
 |succ k ih=>
  intro hall s ex s' a w he hs
  have he':bQ A Pr (exec A Pr k) (.loop (.mask kt kb x)) s=some (ex,s'):=he
  simp only[bQ]at he'
  rw[rounds_succ]
  cases k with
  |zero=>simp[exec]at he'
  |succ j=>
   have hmask:exec A Pr (j+1) (.mask kt kb x) s=exec A Pr j x (s.mask kt kb):=rfl
   rw[hmask]at he'
   cases hx:exec A Pr j x (s.mask kt kb)with
   |none=>simp[hx]at he'
   |some r=>
    obtain⟨ex1,s1⟩:=r
    have hwp:=hall j (by omega) nt code an x an' htr W L0 e0 w0 _ ex1 s1 a w hx (hs.mask kt kb)
    refine wp_mono hwp fun xx a1 w1 hq=>?_
    obtain⟨rfl,hs1⟩:=hq
    cases ex1 with
    |normal=>
     simp only[hx]at he'
     exact ih (fun i hi=>hall i (by omega)) s1 ex s' a1 w1 he' hs1
    |exit id=>
     simp only[hx]at he'
     injection he' with he'; injection he' with e1 e2; subst e1; subst e2
     exact⟨rfl,hs1⟩
    |ret=>
     simp only[hx]at he'
     injection he' with he'; injection he' with e1 e2; subst e1; subst e2
     exact⟨rfl,hs1⟩
theorem Cr (hm:P.follows .mixedOrders=true) {A:Nat→Option ae} (n:Nat) (hPL:cI (bD A (exec A Pr n) Pr)) (hPr:dU P N (bD A (exec A Pr n) Pr)) (hall:∀j,j≤n→j5 P N M A Pr j) (hfn:Ed P N A Pr n):j5 P N M A Pr (n+1):=by
 intro nt code an ac an' htr W L0 e0 w0 s ex s' a w he hs
 have he':bQ A Pr (exec A Pr n) ac s=some (ex,s'):=he
 cases code with
 |skip=>
  simp only[dI]at htr
  injection htr with htr; injection htr with e1 e2; subst e1
  simp only[bQ]at he'
  injection he' with he'; injection he' with e1 e2; subst e1; subst e2
  exact wp_skip ⟨rfl,hs⟩
 |exit id=>
  simp only[dI]at htr
  injection htr with htr; injection htr with e1 e2; subst e1
  simp only[bQ]at he'
  injection he' with he'; injection he' with e1 e2; subst e1; subst e2
  exact wp_exit ⟨rfl,hs⟩
 |ret=>
  simp only[dI]at htr
  injection htr with htr; injection htr with e1 e2; subst e1
  simp only[bQ]at he'
  injection he' with he'; injection he' with e1 e2; subst e1; subst e2
  exact wp_ret ⟨rfl,hs⟩
 |seq x y=>
  simp only[dI]at htr
  split at htr<;>first|(cases htr; done)|skip
  rename_i x' an1 hx
  split at htr<;>first|(cases htr; done)|skip
  rename_i y' an2 hy
  injection htr with htr; injection htr with e1 e2; subst e1
  simp only[bQ]at he'
  refine wp_seq ?_
  cases hex:exec A Pr n x' s with
  |none=>simp[hex]at he'
  |some r=>
   obtain⟨ex1,s1⟩:=r
   refine wp_mono (hall n (Wj _) nt x an x' an1 hx W L0 e0 w0 s ex1 s1 a w hex hs) fun xx a1 w1 hq=>?_
   obtain⟨rfl,hs1⟩:=hq
   cases ex1 with
   |normal=>
    simp only[hex]at he'
    exact hall n (Wj _) nt y an1 y' an2 hy W L0 e0 w0 s1 ex s' a1 w1 he' hs1
   |exit id=>
    simp only[hex]at he'
    injection he' with he'; injection he' with e1 e2; subst e1; subst e2
    exact⟨rfl,hs1⟩
   |ret=>
    simp only[hex]at he'
    injection he' with he'; injection he' with e1 e2; subst e1; subst e2
    exact⟨rfl,hs1⟩
 |cond c x y=>
  simp only[dI]at htr
  split at htr<;>first|(cases htr; done)|skip
  rename_i c' x' an1 hc hx
  split at htr<;>first|(cases htr; done)|skip
  rename_i y' an2 hy
  injection htr with htr; injection htr with e1 e2; subst e1
  simp only[bQ]at he'
  obtain⟨L,e,hsr,hrest⟩:=hs
  have hv:=(hsr.or (M:=M)) c c' hc
  have hs:FrS N W nt L0 e0 w0 s a w:=⟨L,e,hsr,hrest⟩
  split at he'<;>first|(cases he'; done)|skip
  .rename_i hg
   rw[hg]at hv
   exact wp_cond_true hv.bool (hall n (Wj _) nt x an x' an1 hx W L0 e0 w0 s ex s' a w he' hs)
  .rename_i hg
   rw[hg]at hv
   exact wp_cond_false hv.bool (hall n (Wj _) nt y an1 y' an2 hy W L0 e0 w0 s ex s' a w he' hs)
 |block id x=>
  simp only[dI]at htr
  split at htr<;>first|(cases htr; done)|skip
  rename_i x' an1 hx
  injection htr with htr; injection htr with e1 e2; subst e1
  simp only[bQ]at he'
  refine wp_block ?_
  cases hex:exec A Pr n x' s with
  |none=>simp[hex]at he'
  |some r=>
   obtain⟨ex1,s1⟩:=r
   refine wp_mono (hall n (Wj _) nt x an x' an1 hx W L0 e0 w0 s ex1 s1 a w hex hs) fun xx a1 w1 hq=>?_
   obtain⟨rfl,hs1⟩:=hq
   cases ex1 with
   |normal=>
    simp only[hex]at he'
    injection he' with he'; injection he' with e1 e2; subst e1; subst e2
    exact⟨rfl,hs1⟩
   |exit j=>
    simp only[hex]at he'
    simp only[Ec,Exit.inBlock]
    split at he'
    .rename_i hj
     injection he' with he'; injection he' with e1 e2; subst e1; subst e2
     rw[if_pos hj]
     exact⟨rfl,hs1⟩
    .rename_i hj
     injection he' with he'; injection he' with e1 e2; subst e1; subst e2
     rw[if_neg hj]
     exact⟨rfl,hs1⟩
   |ret=>
    simp only[hex]at he'
    injection he' with he'; injection he' with e1 e2; subst e1; subst e2
    exact⟨rfl,hs1⟩
 |loop x=>
  simp only[dI]at htr
  split at htr<;>first|(cases htr; done)|skip
  rename_i kt kb r
  split at htr<;>first|(cases htr; done)|skip
  rename_i x' an1 hx
  injection htr with htr; injection htr with e1 e2; subst e1
  exact wp_loop_rounds (n+1) (xN hx (n+1) (fun j hj=>hall j (by omega)) s ex s' a w he hs)
 |region id ops draw=>
  simp only[dI]at htr
  split at htr<;>first|(cases htr; done)|skip
  rename_i kt kb r
  split at htr
  .injection htr with htr; injection htr with e1 e2; subst e1
   have hno:bQ A Pr (exec A Pr n) vR s=none:=rfl
   rw[hno]at he'
   cases he'
  split at htr<;>first|(cases htr; done)|skip
  rename_i l hl
  obtain⟨L,e,hsr,hf,h1,h2,hx⟩:=hs
  split at htr
  .rename_i hdraw
   subst hdraw
   split at htr<;>first|(cases htr; done)|skip
   rename_i hok
   split at htr
   .injection htr with htr; injection htr with e1 e2; subst e1
    simp only[bQ]at he'
    split at he'<;>first|(cases he'; done)|skip
    rename_i s1 hex
    injection he' with he'; injection he' with e1 e2; subst e1; subst e2
    exact xL (M:=M) hm hPL hfn hPr hl hok hsr (ie l 0).1 (ie l 0).2 hex fun a' w' L' e' hn hs'=>⟨rfl,(FrS.step hf h1 h2 hx hn hs').mask kt (gq kb)⟩
   split at htr
   .injection htr with htr; injection htr with e1 e2; subst e1
    simp only[bQ]at he'
    split at he'<;>first|(cases he'; done)|skip
    rename_i s1 hex
    injection he' with he'; injection he' with e1 e2; subst e1; subst e2
    exact xL (M:=M) hm hPL hfn hPr hl hok hsr (lQ l 0).1 (lQ l 0).2 hex fun a' w' L' e' hn hs'=>⟨rfl,(FrS.step hf h1 h2 hx hn hs').mask kt (gq kb)⟩
   injection htr with htr; injection htr with e1 e2; subst e1
   simp only[bQ]at he'
   split at he'<;>first|(cases he'; done)|skip
   rename_i s1 hex
   injection he' with he'; injection he' with e1 e2; subst e1; subst e2
   exact Ea (M:=M) hm hPL hfn hPr hl hok hsr hex fun a' w' L' e' hn hs'=>⟨rfl,(FrS.step hf h1 h2 hx hn hs').mask kt (gq kb)⟩
  .rename_i hdraw
   have hdraw':draw=false:=by simpa using hdraw
   subst hdraw'
   split at htr
   .injection htr with htr; injection htr with e1 e2; subst e1
    simp only[bQ]at he'
    split at he'<;>first|(cases he'; done)|skip
    rename_i s1 hex
    injection he' with he'; injection he' with e1 e2; subst e1; subst e2
    exact zS (M:=M) hfn hPr hl hsr (ie l 0).1 (ie l 0).2 hex fun a' w' L' e' hn hs'=>⟨rfl,(FrS.step hf h1 h2 hx hn hs').mask kt (gq kb)⟩
   injection htr with htr; injection htr with e1 e2; subst e1
   simp only[bQ]at he'
   split at he'<;>first|(cases he'; done)|skip
   rename_i s1 hex
   injection he' with he'; injection he' with e1 e2; subst e1; subst e2
   exact Cp (M:=M) hfn hPr hl hsr hex fun a' w' L' e' hn hs'=>⟨rfl,(FrS.step hf h1 h2 hx hn hs').mask kt (gq kb)⟩
 |_=>simp[dI]at htr
end Go.Pv
namespace Go.Pv
variable {P:Program} {N M:Nat→Nat} {W:Nat→Prop} {L L':Lx} {e e':bh} {h:aa} {w w':World} {Pr:bm}
def bh.empty:bh:=⟨fun _=>False,fun _=>0,0,fun _=>0,fun _=>0,fun _=>0,fun _=>0,fun _=>0,fun _=>0,0,fun _=>0⟩
theorem HR.start (hl:∀t b,L t b→b<w.heap.size) (ht:rF N L w) (hw:∀b,w.heap.size≤b→W b):HR N L .empty W aa.empty w:=by
 refine⟨fun s=>?_,fun s cs hs=>?_,rfl,fun id a ha=>?_,fun id a ha=>?_,rfl,fun id m hm=>?_,fun s hs=>hs.elim,fun id hi=>absurd hi (Xo _),fun id hi=>absurd hi (Xo _),
  fun s _ hs=>hs.elim,fun s _ hs=>hs.elim,fun i _ hi=>absurd hi (Xo _),fun i _ hi=>absurd hi (Xo _),hl,hw,ht⟩
 .simp[bh.empty,aa.empty,aE]
 .simp[aa.empty,aE]at hs
 .simp[aa.empty]at ha
 .simp[aa.empty]at ha
 .simp[aa.empty]at hm
theorem uB:∀(ps:List PV) (n t:Nat),get (entry n ps) t=if n≤t then (match ps[t - n]? with|some p=>V.i7 p|none=>.any) else .any
 |[],n,t=>by simp[entry,get,aE]
 |p::r,n,t=>by
  have ih:=uB r (n+1) t
  simp only[entry,get,aE]at ih ⊢
  by_cases hn:n=t
  .subst hn; simp
  .rw[if_neg hn,ih]
   by_cases hlt:n≤t
   .rw[if_pos (show n+1≤t by omega),if_pos hlt,show t - n=(t - (n+1))+1 by omega]
    simp
   .rw[if_neg (by omega),if_neg hlt]
theorem uC {p:PV} {v:Value} (hp:dw N L w p v):VR N L e w (V.i7 p) v:=by
 cases p with
 |agg cs=>
  cases hp with
  |agg _ arr hs hv _=>
   refine .agg _ arr (by simpa using hs) (fun j c hj=>?_)
   obtain⟨q,hq,rfl⟩:=cZ hj
   exact .pv _ _ (hv j q hq)
 |fr k rows=>cases hp
 |_=>exact .pv _ _ hp
theorem Jx {k:Nat} {rows:List (List PV)} {v:Value} (hp:dw N L w (.fr k rows) v):False:=by cases hp
theorem Cs {T:Option Nat} {ps:List PV} {args:Array Value} (hl:∀t b,L t b→b<w.heap.size) (ht:rF N L w) (ha:xz N L w T ps args.toList):
  ∃e,HR N L e (Wc w T) (cA ps) w∧∀(j:Nat) (p:PV),ps[j]?=some p→∃v,args.toList[j]?=some v∧VR N L e w (V.i7 p) v:=by
 generalize hargs:args.toList=al at ha
 cases ha with
 |plain _ _ hlen hv=>
  have h0:cA ps=aa.empty:=by
   cases ps with
   |nil=>rfl
   |cons p r=>
    cases p with
    |fr k rows=>
     obtain⟨v,_,h2⟩:=hv 0 _ rfl
     exact(Jx h2).elim
    |_=>rfl
  rw[h0]
  refine⟨.empty,HR.start hl ht (fun b hb=>.inl hb),fun j p hj=>?_⟩
  obtain⟨v,h1,h2⟩:=hv j p hj
  exact⟨v,h1,uC h2⟩
 |take b k rows v qs vs hf hlen hv=>
  have hst:HR N L .empty (Wc w (some b)) aa.empty w:=HR.start hl ht (fun b hb=>.inl hb)
  obtain⟨e,h1,h2,h3⟩:=hf.own hst (.inr rfl) (fun ho=>by
   rcases ho with⟨s,hs,_⟩|⟨id,hi,_⟩
   .exact hs
   .exact absurd hi (Xo _))
  refine⟨e,h1.hr,fun j p hj=>?_⟩
  match j,hj with
  |0,hj=>simp at hj; subst hj; exact⟨v,rfl,h2⟩
  |j+1,hj=>
   obtain⟨u,k1,k2⟩:=hv j p (by simpa using hj)
   exact⟨u,by simpa using k1,uC k2⟩
theorem zT {t:TypeId} {n:Nat} {ag:Bool} (hl:loadT P t=some (n,ag)) (hr:HR N L e W h w) {x:V} {xv:Value} (hx:VR N L e w x xv) {cs:List V} {tn:Tn} (hla:loadAt h n x=some (cs,tn)) {v:V} (hc:dY ag cs=some v):
  ∃a v',xv=.pointer (some a)∧(loadVar t a).run P w=.ok v' w∧VR N L e w v v':=by
 obtain⟨a1,a2,b,off,a3,a4⟩:=qb hr hx hla
 obtain⟨v',r1,r2⟩:=w9 (P:=P) hl a2 a4 hc
 exact⟨_,v',a3,r1,r2⟩
theorem nQ {nt:Nat} {s:St} {a:Act} (hs:SR N W L e nt s a w):∀(rs:List ResultVar) (rv:List nq) (vs:List V),ay (rE P) rs=some rv→ay (cL s) rv=some vs→
  ∃vals:List Value,(rs.mapM (fun r=>(match r with|.tmp t=>pure (a.tmps.getD t undef)|.cell x t=>do loadVar t (← asAddr (a.tmps.getD x undef)):Sem Value))).run P w=.ok vals w∧vals.length=vs.length∧
   ∀(j:Nat) (v:V),vs[j]?=some v→∃u,vals[j]?=some u∧VR N L e w v u
 |[],rv,vs,h1,h2=>by
  simp[ay]at h1
  subst h1
  simp[ay]at h2
  subst h2
  exact⟨[],by simp,rfl,fun j v hj=>by simp at hj⟩
 |r::rs,rv,vs,h1,h2=>by
  simp only[ay]at h1
  split at h1<;>first|(cases h1; done)|skip
  rename_i q qs hq hqs
  injection h1 with h1
  subst h1
  simp only[ay]at h2
  split at h2<;>first|(cases h2; done)|skip
  rename_i v vr hv hvr
  injection h2 with h2
  subst h2
  obtain⟨vals,g1,g2,g3⟩:=nQ hs rs qs vr hqs hvr
  have hone:∃u,(match r with|.tmp t=>pure (a.tmps.getD t undef)|.cell x t=>do loadVar t (← asAddr (a.tmps.getD x undef)):Sem Value).run P w=.ok u w∧VR N L e w v u:=by
   cases r with
   |tmp t=>
    simp[rE]at hq
    subst hq
    simp[cL]at hv
    subst hv
    exact⟨_,by simp,hs.env t⟩
   |cell x t=>
    simp only[rE]at hq
    split at hq<;>first|(cases hq; done)|skip
    rename_i n b hl
    injection hq with hq
    subst hq
    simp only[cL]at hv
    split at hv<;>first|(cases hv; done)|skip
    rename_i cs tn hla
    obtain⟨ad,u,k1,k2,k3⟩:=zT hl hs.hr (hs.env x) hla hv
    refine⟨u,?_,k3⟩
    simp only[Sem.run_bind]
    rw[k1]
    simpa [asAddr]using k2
  obtain⟨u,k1,k2⟩:=hone
  refine⟨u::vals,?_,by simp[g2],fun j x hj=>?_⟩
  .rw[List.mapM_cons]
   simp only[Sem.run_bind,k1,Result.andThen_ok,g1,Sem.run_pure]
  .match j,hj with
   |0,hj=>simp at hj; subst hj; exact⟨u,rfl,k2⟩
   |j+1,hj=>simpa using g3 j x (by simpa using hj)
theorem Ee (vs:Array Value):(if h:vs.size=1 then vs[0] else .tuple vs)=rS vs.toList:=by
 obtain⟨l⟩:=vs
 match l with
 |[]=>rfl
 |[v]=>rfl
 |_::_::_=>rfl
theorem qm {nt:Nat} {s:St} {a:Act} (hs:SR N W L e nt s a w) {go:Func} {rv:List nq} (hrv:ay (rE P) go.results.toList=some rv) {vs:List V} (hv:ay (cL s) rv=some vs):
  ∃vals:List Value,(results go a.tmps).run P w=.ok (rS vals) w∧vals.length=vs.length∧∀(j:Nat) (v:V),vs[j]?=some v→∃u,vals[j]?=some u∧VR N L e w v u:=by
 obtain⟨vals,h1,h2,h3⟩:=nQ hs go.results.toList rv vs hrv hv
 refine⟨vals,?_,h2,h3⟩
 unfold results
 rw[Array.mapM_eq_mapM_toList]
 have h1':((go.results.toList.mapM (fun r=>(match r with|.tmp t=>pure (a.tmps.getD t undef)|.cell x t=>do loadVar t (← asAddr (a.tmps.getD x undef)):Sem Value))).run P w)=.ok vals w:=h1
 simp only[Sem.run_bind,map_eq_pure_bind]
 have:∀(f:ResultVar→Sem Value),(∀r,f r=(match r with|.tmp t=>pure (a.tmps.getD t undef)|.cell x t=>do loadVar t (← asAddr (a.tmps.getD x undef)):Sem Value))→(go.results.toList.mapM f).run P w=.ok vals w:=by
  intro f hf
  have:f=_:=funext hf
  rw[this]
  exact h1'
 rw[this _ (fun r=>by cases r<;>rfl)]
 simp only[Result.andThen_ok,Sem.run_pure]
 rw[Ee]
theorem mQ (hr:HR N L e W h w) (hL:∀b,L 0 b→L' 0 b) (hown:∀id,id<e.na→e.ak id≠0→L' 0 (e.ar id)) {x:V} {p:PV} {v:Value} (hk:aY h 4 x=some p) (hv:VR N L e w x v):CR N L' w p v []:=by
 obtain⟨h1,h2⟩:=kX hr hL 4 x p v hk hv (fun _=>hown)
 exact .keep p v h2 h1
def db (e:bh) (cs:List V):List Nat:=(cs.filterMap fR).map e.ar
theorem lg (hr:HR N L e W h w) (hL:∀b,L 0 b→L' 0 b) {x:V} (hno:∀b∈db e [x],∀t,¬L' t b) {p:PV} {v:Value} (hk:eM h x=some p) (hv:VR N L e w x v):CR N L' w p v (db e [x])∧∀id,fR x=some id→id<e.na∧e.ak id≠0:=by
 unfold eM at hk
 split at hk
 .rename_i id ax len
  cases ho:aB h id ax with
  |none=>simp[ho]at hk
  |some a=>
   simp only[ho]at hk
   split at hk<;>first|(cases hk; done)|skip
   rename_i rows hb
   split at hk<;>first|(cases hk; done)|skip
   rename_i hk0
   injection hk with hk
   subst hk
   obtain⟨ho1,ho2⟩:=bn ho
   obtain⟨v1,v2,v3,v4⟩:=hr.ax id a ho1
   obtain⟨g1,g2,g3,g4,g5⟩:=hr.ar id a ho1 hk0
   have hid:id<e.na:=by rw[hr.na]; exact(V9.1 ho1).1
   refine⟨?_,fun j hj=>by simp[fR]at hj; subst hj; exact⟨hid,by rw[v2]; exact hk0⟩⟩
   have hbl:db e [.own id ax 0 len]=[e.ar id]:=rfl
   rw[hbl]at hno ⊢
   refine .fresh a.k (rows.take len) (e.ar id) v ?_
   obtain⟨A,cap,rfl⟩:=qZ hv
   cases hv with
   |own _ _ _ _ _ _ h0 h1 h2 h3=>
    obtain⟨q1,q2,q3,q4⟩:=h3 (by omega)
    have hsz:a.size=rows.length:=by simp[aL.size,hb]
    simp only[Nat.zero_mul,Nat.add_zero,Nat.zero_add]at q1 q3 q4
    have hlen:(rows.take len).length=len:=by simp; omega
    have hrows:a.rows=rows.map (·.map V.pv):=by simp[aL.rows,hb]
    refine⟨A,cap,e.ad id,e.cap id,by rw[hlen],hk0,by omega,q3,q4,g2,fun r hr'=>?_,hno (e.ar id) (by simp),fun i j c hcc=>?_⟩
    .have:=g3 (r.map V.pv) (by rw[hrows]; exact Wk.2 ⟨r,W2 hr',rfl⟩)
     simpa using this
    .unfold ff at hcc
     cases hi:(rows.take len)[i]? with
     |none=>simp[hi]at hcc
     |some r=>
      simp[hi]at hcc
      have hi':rows[i]?=some r:=by
       rw[Wy]at hi
       split at hi
       .exact hi
       .cases hi
      obtain⟨_,u,k1,k2⟩:=g4 i (r.map V.pv) (by rw[hrows]; exact jZ hi') j (.pv c) (by simp[hcc])
      have hperm:c.perm=true:=by
       rw[hb]at g5
       exact g5 r (Wa hi') c (Wa hcc)
      refine⟨hperm,u,by rw[← W0]; exact k1,?_⟩
      cases k2 with
      |pv _ _ hq=>exact hq.fT hperm (fun b hb=>⟨hL b hb,rfl⟩)
 .cases hk
 .rename_i hn1 hn2
  have hnone:fR x=none:=by
   cases x with
   |own id ax off len=>
    cases off with
    |zero=>exact absurd rfl (hn1 id ax len)
    |succ off=>exact absurd rfl (hn2 id ax (off+1) len)
   |_=>rfl
  have hb0:db e [x]=[]:=by simp[db,hnone]
  rw[hb0]
  obtain⟨k1,k2⟩:=kX hr hL 4 x p v hk hv (fun hne=>absurd hnone hne)
  exact⟨.keep p v k2 k1,fun id hid=>by rw[hnone]at hid; cases hid⟩
theorem xO (e:bh) (x:V) (cs:List V):db e (x::cs)=db e [x]++db e cs:=by
 cases hx:fR x<;>simp[db,hx]
theorem qn (hr:HR N L e W h w) (hL:∀b,L 0 b→L' 0 b):∀(cs:List V) (ps:List PV) (vs:List Value),(∀b∈db e cs,∀t,¬L' t b)→ay (eM h) cs=some ps→vs.length=cs.length→(∀(j:Nat) (x:V),cs[j]?=some x→∃u,vs[j]?=some u∧VR N L e w x u)→
  DK N L' w ps vs (db e cs)∧∀id∈cs.filterMap fR,id<e.na∧e.ak id≠0
 |[],ps,vs,_,hm,hl,_=>by
  simp[ay]at hm
  subst hm
  have:vs=[]:=List.eq_nil_of_length_eq_zero (by simpa using hl)
  subst this
  exact⟨.nil,by simp⟩
 |x::cs,ps,vs,hno,hm,hl,hv=>by
  simp only[ay]at hm
  split at hm<;>first|(cases hm; done)|skip
  rename_i p pr hp hpr
  injection hm with hm
  subst hm
  match vs,hl with
  |v::vs,hl=>
   obtain⟨u,h1,h2⟩:=hv 0 x rfl
   simp at h1
   subst h1
   rw[xO]at hno ⊢
   obtain⟨c1,c2⟩:=lg hr hL (fun b hb=>hno b (Xa _ hb)) hp h2
   obtain⟨d1,d2⟩:=qn hr hL cs pr vs (fun b hb=>hno b (List.mem_append_right _ hb)) hpr (by simpa using hl) (fun j y hj=>by simpa using hv (j+1) y (by simpa using hj))
   refine⟨.cons _ _ _ _ _ _ c1 d1,fun id hid=>?_⟩
   obtain⟨y,hy1,hy2⟩:=W4.1 hid
   rcases WG.1 hy1 with rfl|hy1
   .exact c2 id hy2
   .exact d2 id (W4.2 ⟨y,hy1,hy2⟩)
theorem r9 (hr:HR N L e W h w) (hL:∀b,L 0 b→L' 0 b) (hown:∀id,id<e.na→e.ak id≠0→L' 0 (e.ar id)):∀(cs:List V) (ps:List PV) (vs:List Value),ay (aY h 4) cs=some ps→vs.length=cs.length→(∀(j:Nat) (x:V),cs[j]?=some x→∃u,vs[j]?=some u∧VR N L e w x u)→DK N L' w ps vs []
 |[],ps,vs,hm,hl,_=>by
  simp[ay]at hm
  subst hm
  have:vs=[]:=List.eq_nil_of_length_eq_zero (by simpa using hl)
  subst this
  exact .nil
 |x::cs,ps,vs,hm,hl,hv=>by
  simp only[ay]at hm
  split at hm<;>first|(cases hm; done)|skip
  rename_i p pr hp hpr
  injection hm with hm
  subst hm
  match vs,hl with
  |v::vs,hl=>
   obtain⟨u,h1,h2⟩:=hv 0 x rfl
   simp at h1
   subst h1
   exact DK.cons _ _ [] _ _ [] (mQ hr hL hown hp h2) (r9 hr hL hown cs pr vs hpr (by simpa using hl) (fun j y hj=>by simpa using hv (j+1) y (by simpa using hj)))
end Go.Pv
namespace Go.Pv
variable {P:Program} {N M:Nat→Nat} {W:Nat→Prop} {L L':Lx} {e e':bh} {h:aa} {w w':World} {Pr:bm}
theorem fD:∀(r l:List Nat),l.Nodup→(bZ l r).Nodup
 |[],_,h=>h
 |s::r,l,h=>by
  simp only[bZ]
  split
  .exact fD r l h
  .rename_i hc
   refine fD r _ (List.nodup_append.2 ⟨h,by simp,fun a ha b hb=>?_⟩)
   have hb:b=s:=by simpa using hb
   subst hb
   rintro rfl
   exact hc (by simpa using ha)
theorem nR (bx:List (Nat×List V)):∀(n:Nat) (l:List Nat),l.Nodup→(dv bx n l).Nodup
 |0,_,h=>h
 |n+1,l,h=>nR bx n _ (fD _ l h)
def bh.on (e:bh) (sl:Nat→Prop) (bx:Nat→Nat):bh:={ e with sl:=sl,bx:=bx }
theorem Ct {c:V} (hc:c.calm=true) (f:Nat→Option Nat):fu f c=some c:=by
 cases c with
 |func k cap=>
  have:cap.isEmpty=true:=hc
  simp[fu,this]
 |ptr=>simp[V.calm]at hc
 |agg=>simp[V.calm]at hc
 |dy=>simp[V.calm]at hc
 |_=>rfl
theorem VR.fu {f:Nat→Option Nat} {c c':V} {v:Value} {sl:Nat→Prop} {bx:Nat→Nat} (hh:Pv.fu f c=some c') (hv:VR N L e w c v) (hf:∀s t,f s=some t→e.sl s→sl t∧bx t=e.bx s):VR N L (e.on sl bx) w c' v:=by
 cases c with
 |ptr s o=>
  simp only[Pv.fu]at hh
  split at hh<;>first|(cases hh; done)|skip
  rename_i t ht
  cases hh
  cases hv with
  |ptr _ _ hs=>
   obtain⟨h1,h2⟩:=hf s t ht hs
   rw[← h2]
   exact .ptr (e:=e.on sl bx) t o h1
 |func k cap=>
  simp only[Pv.fu]at hh
  split at hh<;>first|(cases hh; done)|skip
  rename_i hc
  cases hh
  cases hv with
  |func _ _ arr hs _=>
   refine .func k cap arr hs (fun j c hj=>?_)
   rw[XD.1 hc]at hj
   simp at hj
 |agg cs=>cases hh
 |dy cs=>cases hh
 |pv p=>cases hh; cases hv with|pv _ _ hp=>exact .pv p v hp
 |tl rows=>cases hh; cases hv with|tl _ a hp hs=>exact .tl rows a hp hs
 |own id ax off len=>cases hh; cases hv with|own _ _ _ _ a cap h0 h1 h2 h3=>exact .own (e:=e.on sl bx) id ax off len a cap h0 h1 h2 h3
 |du id ax row col=>cases hh; cases hv with|du _ _ _ _ a h1 h2 h3=>exact .du (e:=e.on sl bx) id ax row col a h1 h2 h3
 |map id=>cases hh; cases hv with|map _ hi=>exact .map (e:=e.on sl bx) id hi
 |dR=>cases hh; cases hv; exact .dR
 |any=>cases hh; exact .any v
theorem VR.kJ {f:Nat→Option Nat} {c c':V} {v:Value} {sl:Nat→Prop} {bx:Nat→Nat} (hh:Pv.kJ f c=some c') (hv:VR N L e w c v) (hf:∀s t,f s=some t→e.sl s→sl t∧bx t=e.bx s):VR N L (e.on sl bx) w c' v:=by
 cases c with
 |func k cap=>
  simp only[Pv.kJ]at hh
  split at hh<;>first|(cases hh; done)|skip
  rename_i l hm
  cases hh
  cases hv with
  |func _ _ arr hs hvv=>
   refine .func k l arr (by rw[hs,bH hm]) (fun j c hj=>?_)
   obtain⟨x,h1,h2⟩:=bq hm j c hj
   exact(hvv j x h1).fu h2 hf
 |agg cs=>
  simp only[Pv.kJ]at hh
  split at hh<;>first|(cases hh; done)|skip
  rename_i l hm
  cases hh
  cases hv with
  |agg _ arr hs hvv=>
   refine .agg l arr (by rw[hs,bH hm]) (fun j c hj=>?_)
   obtain⟨x,h1,h2⟩:=bq hm j c hj
   exact(hvv j x h1).fu h2 hf
 |pv p=>exact VR.fu (c:=.pv p) hh hv hf
 |tl rows=>exact VR.fu (c:=.tl rows) hh hv hf
 |own id ax off len=>exact VR.fu (c:=.own id ax off len) hh hv hf
 |ptr s o=>exact VR.fu (c:=.ptr s o) hh hv hf
 |du id ax row col=>exact VR.fu (c:=.du id ax row col) hh hv hf
 |map id=>exact VR.fu (c:=.map id) hh hv hf
 |dR=>exact VR.fu (c:=.dR) hh hv hf
 |dy cs=>exact VR.fu (c:=.dy cs) hh hv hf
 |any=>exact VR.fu (c:=.any) hh hv hf
theorem zU {f:Nat→Option Nat} {c c':V} (hh:fu f c=some c') (hc:c.dF=true) (hf:∀s t,f s=some t→dE t=true):c'.dF=true:=by
 cases c with
 |ptr s o=>
  simp only[fu]at hh
  split at hh<;>first|(cases hh; done)|skip
  rename_i t ht
  cases hh
  exact hf s t ht
 |func k cap=>
  simp only[fu]at hh
  split at hh<;>first|(cases hh; done)|skip
  cases hh
  exact hc
 |agg cs=>cases hh
 |dy cs=>cases hh
 |_=>cases hh; exact hc
theorem fz.on {b off:Nat} {cs:List V} (hc:fz N L e w b off cs) (sl:Nat→Prop) (bx:Nat→Nat):fz N L (e.on sl bx) w b off cs:=by
 intro j c hj
 obtain⟨h1,v,h2,h3⟩:=hc j c hj
 exact⟨h1,v,h2,h3.fu (Ct h1 fun _=>none) (fun s t ht=>by cases ht)⟩
theorem uD {f:Nat→Option Nat} {bx:List (Nat×List V)}:∀(ss:List Nat) (n:Nat) (b:List (Nat×List V)),rB f bx n ss=some b→
  (∀i s,ss[i]?=some s→∃cs l,aE s bx=some cs∧ay (fu f) cs=some l∧aE (n+i) b=some l)∧∀t,(t<n∨n+ss.length≤t)→aE t b=none
 |[],n,b,hh=>by
  cases hh
  exact⟨fun i s hi=>by simp at hi,fun t _=>rfl⟩
 |s::r,n,b,hh=>by
  simp only[rB]at hh
  split at hh<;>first|(cases hh; done)|skip
  rename_i cs hcs
  split at hh<;>first|(cases hh; done)|skip
  rename_i l b' hl hb'
  cases hh
  obtain⟨i1,i2⟩:=uD r (n+1) b' hb'
  refine⟨fun i s' hi=>?_,fun t ht=>?_⟩
  .cases i with
   |zero=>
    cases hi
    exact⟨cs,l,hcs,hl,by simp[aE]⟩
   |succ i=>
    obtain⟨cs',l',g1,g2,g3⟩:=i1 i s' (by simpa using hi)
    refine⟨cs',l',g1,g2,?_⟩
    simp only[aE]
    rw[if_neg (by omega),show n+(i+1)=n+1+i by omega]
    exact g3
  .simp only[aE,List.length_cons]at ht ⊢
   rw[if_neg (by omega)]
   exact i2 t (by omega)
theorem sf {f:Nat→Option Nat} {bx:List (Nat×List V)}:∀(ss:List Nat) (n:Nat) (bs:List (Nat×List V)),kK f bx n ss=some bs→ss.Nodup→∀b0:List (Nat×List V),
  (∀i s,ss[i]?=some s→∃cs l,aE (n+i) bx=some cs∧ay (fu f) cs=some l∧l.all V.dF=true∧aE s (eN bs b0)=some l)∧∀t,t∉ss→aE t (eN bs b0)=aE t b0
 |[],n,bs,hh,_,b0=>by
  cases hh
  exact⟨fun i s hi=>by simp at hi,fun t _=>rfl⟩
 |s::r,n,bs,hh,hn,b0=>by
  simp only[kK]at hh
  split at hh<;>first|(cases hh; done)|skip
  rename_i cs hcs
  split at hh<;>first|(cases hh; done)|skip
  rename_i l b' hl hb'
  split at hh<;>first|(cases hh; done)|skip
  rename_i hcalm
  cases hh
  obtain⟨h1,h2⟩:=List.nodup_cons.1 hn
  obtain⟨i1,i2⟩:=sf r (n+1) b' hb' h2 (dM s l b0)
  have hset:∀t,aE t (dM s l b0)=if s=t then some l else aE t b0:=fun t=>dB (α:=Unit) s t l b0
  refine⟨fun i s' hi=>?_,fun t ht=>?_⟩
  .cases i with
   |zero=>
    cases hi
    refine⟨cs,l,hcs,hl,hcalm,?_⟩
    show aE s (eN b' (dM s l b0))=some l
    rw[i2 s h1,hset,if_pos rfl]
   |succ i=>
    obtain⟨cs',l',g1,g2,g3,g4⟩:=i1 i s' (by simpa using hi)
    exact⟨cs',l',by rw[show n+(i+1)=n+1+i by omega]; exact g1,g2,g3,g4⟩
  .show aE t (eN b' (dM s l b0))=aE t b0
   simp only[List.mem_cons,not_or]at ht
   rw[i2 t ht.2,hset,if_neg (fun he=>ht.1 he.symm)]
theorem pw {ss:List Nat} {s t:Nat} (hh:oY ss s=some t):∃i,ss[i]?=some s∧t=outer+i:=by
 unfold oY at hh
 obtain⟨i,h1,rfl⟩:=Wx.1 hh
 rw[Ww]at h1
 obtain⟨h2,h3,_⟩:=h1
 refine⟨i,?_,rfl⟩
 rw[Wb h2]
 simpa using h3
theorem sg {ss:List Nat} {s t:Nat} (hh:fS ss t=some s):∃i,ss[i]?=some s∧t=outer+i:=by
 unfold fS at hh
 split at hh
 .exact⟨t - outer,hh,by omega⟩
 .cases hh
theorem px (i:Nat):dE (outer+i)=true:=by
 unfold dE outer
 rw[Nat.ble_eq]
 omega
def Iw (e:bh) (W:Nat→Prop) (ss:List Nat) (b:Nat):Prop:=W b∧∀s,e.sl s→s∉ss→e.bx s≠b
def Cu (ss:List Nat) (t:Nat):Prop:=∃i s,ss[i]?=some s∧t=outer+i
def zV (e:bh) (ss:List Nat) (t:Nat):Nat:=e.bx (ss.getD (t - outer) 0)
theorem j6 (e:bh) {ss:List Nat} {i s:Nat} (h:ss[i]?=some s):zV e ss (outer+i)=e.bx s:=by
 unfold zV
 rw[Nat.add_sub_cancel_left]
 simp[h]
theorem HR.zW (hr:HR N L e W h w) {s id:Nat} (hs:e.sl s) (hi:id<e.nm):e.bx s≠e.mp id:=by
 obtain⟨m,hm⟩:=hr.zu hi
 obtain⟨es,cl,k1,_⟩:=hr.mp id m hm
 have hl:=(hr.sl s).1 hs
 cases hc:aE s h.bx with
 |none=>simp[hc]at hl
 |some cs=>
  obtain⟨⟨arr,ty,k2,_⟩,_⟩:=hr.bx s cs hc
  exact(fg k1 k2).symm
theorem HR.VD (hr:HR N L e W h w) {ss:List Nat} (hnd:ss.Nodup) {b:List (Nat×List V)} (hb:rB (oY ss) h.bx outer ss=some b):
  HR N L (e.on (Cu ss) (zV e ss)) (Iw e W ss) ⟨b,h.ar,h.mp⟩ w∧∀s∈ss,e.sl s:=by
 obtain⟨b1,b2⟩:=uD ss outer b hb
 have hsl:∀s∈ss,e.sl s:=fun s hs=>by
  obtain⟨i,hi⟩:=Wd.1 hs
  obtain⟨cs,l,g1,_⟩:=b1 i s hi
  exact(hr.sl s).2 (by rw[g1]; rfl)
 have hf:∀s t,oY ss s=some t→e.sl s→Cu ss t∧zV e ss t=e.bx s:=fun s t ht _=>by
  obtain⟨i,h1,rfl⟩:=pw ht
  exact⟨⟨i,s,h1,rfl⟩,j6 e h1⟩
 have hlook:∀t,(aE t b).isSome=true→∃i s,ss[i]?=some s∧t=outer+i:=fun t ht=>by
  rcases Wh t outer with h1|h1
  .rw[b2 t (.inl h1)]at ht; cases ht
  .rcases Wh t (outer+ss.length)with h2|h2
   .exact⟨t - outer,ss[t - outer]'(by omega),Wb (by omega),by omega⟩
   .rw[b2 t (.inr h2)]at ht; cases ht
 refine⟨⟨fun t=>⟨?_,hlook t⟩,fun t cs ht=>?_,hr.na,hr.ax,fun id a ha hk=>?_,hr.nm,hr.mp,?_,fun id hi hk=>?_,fun id hi=>?_,?_,?_,hr.vM,hr.zq,hr.mE,fun g hg=>?_,hr.zm⟩,hsl⟩
 .rintro ⟨i,s,h1,rfl⟩
  obtain⟨cs,l,_,_,g3⟩:=b1 i s h1
  show (aE (outer+i) b).isSome=true
  rw[g3]
  rfl
 .obtain⟨i,s,h1,rfl⟩:=hlook t (by rw[ht]; rfl)
  obtain⟨cs0,l,g1,g2,g3⟩:=b1 i s h1
  rw[show aE (outer+i) (⟨b,h.ar,h.mp⟩:aa).bx=aE (outer+i) b from rfl,g3]at ht
  cases ht
  obtain⟨k1,k2⟩:=hr.bx s cs0 g1
  show Block w (zV e ss (outer+i)) _∧kP N L _ w (zV e ss (outer+i)) _
  rw[j6 e h1]
  refine⟨by rw[bH g2]; exact k1,fun j c hj=>?_⟩
  obtain⟨x,p1,p2⟩:=bq g2 j c hj
  obtain⟨q1,v,q2,q3⟩:=k2 j x p1
  refine⟨zU p2 q1 (fun s t ht=>?_),v,q2,q3.fu p2 hf⟩
  obtain⟨i',_,rfl⟩:=pw ht
  exact px i'
 .obtain⟨g1,g2,g3,g4,g5⟩:=hr.ar id a ha hk
  exact⟨g1,g2,g3,fun i r hi=>(g4 i r hi).on _ _,g5⟩
 .rintro t ⟨i,s,h1,rfl⟩
  show Iw e W ss (zV e ss (outer+i))∧∀t,¬L t (zV e ss (outer+i))
  rw[j6 e h1]
  have hs:=Wa h1
  refine⟨⟨(hr.tL s (hsl s hs)).1,fun s' hs' hn he=>?_⟩,(hr.tL s (hsl s hs)).2⟩
  exact hn (hr.zl s' s hs' (hsl s hs) he ▸ hs)
 .exact⟨⟨(hr.mm id hi hk).1,fun s' hs' _=>hr.vL s' id hs' hi hk⟩,(hr.mm id hi hk).2⟩
 .exact⟨⟨(hr.vK id hi).1,fun s' hs' _=>hr.zW hs' hi⟩,(hr.vK id hi).2⟩
 .rintro t t' ⟨i,s,h1,rfl⟩ ⟨i',s',h2,rfl⟩ he
  change zV e ss (outer+i)=zV e ss (outer+i')at he
  rw[j6 e h1,j6 e h2]at he
  have:=hr.zl s s' (hsl s (Wa h1)) (hsl s' (Wa h2)) he
  subst this
  have:=(List.getElem?_inj (V9.1 h1).1 hnd).1 (h1.trans h2.symm)
  rw[this]
 .rintro t id ⟨i,s,h1,rfl⟩ hi hk
  show zV e ss (outer+i)≠_
  rw[j6 e h1]
  exact hr.vL s id (hsl s (Wa h1)) hi hk
 .exact⟨hr.wide g hg,fun s' hs' _ he=>by have:=hr.ky hs'; omega⟩
theorem Nx.out (hr:HR N L e W h w) {ss:List Nat} (hnd:ss.Nodup) (hsl:∀s∈ss,e.sl s) {h1:aa} (hr1:HR N L' e' (Iw e W ss) h1 w') (hx:pq L (e.on (Cu ss) (zV e ss)) w L' e' w')
  (hf:Fr (Iw e W ss) w w') (hnew:∀t b,L' t b→L t b∨(t=0∧Iw e W ss b)) {bs:List (Nat×List V)} (ho:kK (fS ss) h1.bx outer ss=some bs):
  Nx N W L e w L' (e'.on e.sl e.bx) ⟨eN bs h.bx,h1.ar,h1.mp⟩ w':=by
 obtain⟨o1,o2⟩:=sf ss outer bs ho hnd h.bx
 have hat:∀i s,ss[i]?=some s→e'.sl (outer+i)∧e'.bx (outer+i)=e.bx s:=fun i s hi=>by
  obtain⟨g1,g2⟩:=hx.sl (outer+i) (px i) ⟨i,s,hi,rfl⟩
  exact⟨g1,g2.trans (j6 e hi)⟩
 have hext:Ext L e w L' (e'.on e.sl e.bx) w':=hx.ext rfl rfl (fun s hs=>⟨hs,rfl⟩)
 have hfo:∀t u,fS ss t=some u→e'.sl t→e.sl u∧e.bx u=e'.bx t:=fun t u ht _=>by
  obtain⟨i,g1,rfl⟩:=sg ht
  exact⟨hsl u (Wa g1),(hat i u g1).2.symm⟩
 have hframe:∀s,e.sl s→s∉ss→¬Iw e W ss (e.bx s):=fun s hs hn hw=>hw.2 s hs hn rfl
 refine⟨⟨fun s=>?_,fun s cs hs=>?_,hr1.na,hr1.ax,fun id a ha hk=>?_,hr1.nm,hr1.mp,fun s hs=>?_,fun id hi hk=>?_,fun id hi=>?_,hr.zl,fun s id hs hi hk=>?_,hr1.vM,hr1.zq,hr1.mE,fun g hg=>?_,hr1.zm⟩,hext,?_,fun t b hb=>?_⟩
 .show e.sl s↔(aE s (eN bs h.bx)).isSome=true
  by_cases hm:s∈ss
  .obtain⟨i,hi⟩:=Wd.1 hm
   obtain⟨cs,l,_,_,_,g4⟩:=o1 i s hi
   rw[g4]
   exact⟨fun _=>rfl,fun _=>hsl s hm⟩
  .rw[o2 s hm]
   exact hr.sl s
 .change aE s (eN bs h.bx)=some cs at hs
  show Block w' (e.bx s) cs.length∧kP N L' (e'.on e.sl e.bx) w' (e.bx s) cs
  by_cases hm:s∈ss
  .obtain⟨i,hi⟩:=Wd.1 hm
   obtain⟨cs0,l,g1,g2,g3,g4⟩:=o1 i s hi
   rw[g4]at hs
   cases hs
   obtain⟨k1,k2⟩:=hr1.bx (outer+i) cs0 g1
   rw[(hat i s hi).2]at k1 k2
   refine⟨by rw[bH g2]; exact k1,fun j c hj=>?_⟩
   obtain⟨x,p1,p2⟩:=bq g2 j c hj
   obtain⟨_,v,q2,q3⟩:=k2 j x p1
   exact⟨Wu.1 g3 c (Wa hj),v,q2,q3.fu p2 hfo⟩
  .rw[o2 s hm]at hs
   obtain⟨k1,k2⟩:=hr.bx s cs hs
   have hse:=(hr.sl s).2 (by rw[hs]; rfl)
   have hsame:=hf.kept (e.bx s) k1.lt (hframe s hse hm)
   exact⟨k1.same hsame,k2.mono hext hsame⟩
 .obtain⟨g1,g2,g3,g4,g5⟩:=hr1.ar id a ha hk
  exact⟨g1,g2,g3,fun i r hi=>(g4 i r hi).on _ _,g5⟩
 .refine⟨(hr.tL s hs).1,fun t ht=>?_⟩
  by_cases hm:s∈ss
  .obtain⟨i,hi⟩:=Wd.1 hm
   obtain⟨g1,g2⟩:=hat i s hi
   exact(hr1.tL (outer+i) g1).2 t (by rw[g2]; exact ht)
  .rcases hnew t _ ht with h2|⟨_,h2⟩
   .exact(hr.tL s hs).2 t h2
   .exact hframe s hs hm h2
 .exact⟨(hr1.mm id hi hk).1.1,(hr1.mm id hi hk).2⟩
 .exact⟨(hr1.vK id hi).1.1,(hr1.vK id hi).2⟩
 .show e.bx s≠e'.ar id
  by_cases hm:s∈ss
  .obtain⟨i,hi'⟩:=Wd.1 hm
   obtain⟨g1,g2⟩:=hat i s hi'
   rw[← g2]
   exact hr1.vL (outer+i) id g1 hi hk
  .exact(hr1.mm id hi hk).1.2 s hs hm
 .exact hr.wide g (WM hf.size hg)
 .exact⟨hf.os,hf.tape,hf.output,hf.size,fun b hb hw=>hf.kept b hb (fun hc=>hw hc.1),hf.drawn⟩
 .rcases hnew t b hb with h2|⟨h2,h3⟩
  .exact .inl h2
  .exact .inr ⟨h2,h3.1⟩
theorem sh:∀(vs:List V) (n t:Nat),get (kL n vs) t=if n≤t then (vs[t - n]?).getD .any else .any
 |[],n,t=>by simp[kL,get,aE]
 |p::r,n,t=>by
  have ih:=sh r (n+1) t
  simp only[kL,get,aE]at ih ⊢
  by_cases hn:n=t
  .subst hn; simp
  .rw[if_neg hn,ih]
   by_cases hlt:n≤t
   .rw[if_pos (show n+1≤t by omega),if_pos hlt,show t - n=(t - (n+1))+1 by omega]
    simp
   .rw[if_neg (by omega),if_neg hlt]
theorem lh {fn:ae} {ss:List Nat} {s:St} {v:V} {tn:Tn} (hh:mF fn ss s=some (v,tn)):∃rs ws bs,ay (cL s) fn.results=some rs∧ay (kJ (fS ss)) rs=some ws∧kK (fS ss) s.h.bx outer ss=some bs∧v=eD ws∧tn={ all:=some (bs,s.h.ar,s.h.mp) }:=by
 unfold mF at hh
 split at hh<;>first|(cases hh; done)|skip
 rename_i rs h1
 split at hh<;>first|(cases hh; done)|skip
 rename_i ws bs h2 h3
 cases hh
 exact⟨rs,ws,bs,h1,h2,h3,rfl,rfl⟩
theorem lj {E:AC→St→Option (Ex×St)} {fn:ae} {vs:List V} {h:aa} {r:V×Tn} (hh:fy E fn vs h=some r):∃ss us bx ex s,ss=dv h.bx 2 (bZ [] (vs.flatMap slotsOf))∧ss.Nodup∧vs.length=fn.oU∧ay (kJ (oY ss)) vs=some us∧rB (oY ss) h.bx outer ss=some bx∧
  E fn.body ⟨kL 0 us,⟨bx,h.ar,h.mp⟩⟩=some (ex,s)∧(ex=.normal∨ex=.ret)∧mF fn ss s=some r:=by
 unfold fy at hh
 split at hh<;>first|(cases hh; done)|skip
 rename_i hn
 split at hh<;>first|(cases hh; done)|skip
 rename_i us bx h1 h2
 have hnd:=nR h.bx 2 (bZ [] (vs.flatMap slotsOf)) (fD _ [] List.nodup_nil)
 split at hh<;>first|(cases hh; done)|skip
 .rename_i s h3
  exact⟨_,us,bx,.normal,s,rfl,hnd,hn,h1,h2,h3,.inl rfl,hh⟩
 .rename_i s h3
  exact⟨_,us,bx,.ret,s,rfl,hnd,hn,h1,h2,h3,.inr rfl,hh⟩
theorem Cv {A:Nat→Option ae} {n:Nat} (hcode:j5 P N M A Pr n) {f:Nat} {fn:ae} {an:DO} (hfn:w5 P N M (N f) an fn) {vs:List V} {args:Array Value} {v:V} {tn:Tn} (hh:fy (exec A Pr n) fn vs h=some (v,tn)) (hr:HR N L e W h w)
  (hs:args.size=vs.length) (hv:∀(j:Nat) (x:V),vs[j]?=some x→VR N L e w x (args.getD j undef)):
  da P (N f) args w fun v' w'=>∃L' e',Nx N W L e w L' e' (tn.apply h) w'∧VR N L' e' w' v v':=by
 obtain⟨ss,us,bx,ex,s',_,hnd,hn,hus,hbx,hex,hex2,hend⟩:=lj hh
 obtain⟨rs,ws,bs,hrs,hws,hbs,rfl,rfl⟩:=lh hend
 obtain⟨go,code,f1,f2,f3,f4,f5,f6⟩:=hfn
 refine .inr ⟨by simp only[beq_eq_false_iff_ne,ne_eq]at f3; simp[callFunc,f1,f2,f3],?_⟩
 refine calls_of_wp f1 f2 ?_
 obtain⟨hri,hsl⟩:=hr.VD hnd hbx
 have hfi:∀s t,oY ss s=some t→e.sl s→Cu ss t∧zV e ss t=e.bx s:=fun s t ht _=>by
  obtain⟨i,h1,rfl⟩:=pw ht
  exact⟨⟨i,s,h1,rfl⟩,j6 e h1⟩
 have hlen:us.length=vs.length:=bH hus
 have hst:FrS N (Iw e W ss) go.ntmps L (e.on (Cu ss) (zV e ss)) w ⟨kL 0 us,⟨bx,h.ar,h.mp⟩⟩ { tmps:=args++Array.replicate (go.ntmps - args.size) undef,defers:=[] } w:=by
  refine⟨L,_,⟨hri,fun t=>?_,?_,rfl⟩,Fr.refl _ _,fun _ _ hb=>hb,fun _ _ hb=>.inl hb,(Ext.refl _ _ _).x⟩
  .rw[sh]
   simp only[Nat.zero_le,if_true,Nat.sub_zero]
   cases hp:us[t]? with
   |none=>exact .any _
   |some u=>
    obtain⟨x,h1,h2⟩:=bq hus t u hp
    have hlt:t<args.size:=by rw[hs]; exact(V9.1 h1).1
    have:(args++Array.replicate (go.ntmps - args.size) undef).getD t undef=args.getD t undef:=by
     apply bW
     rw[Array.toList_append,List.getElem?_append_left (by simpa using hlt),Array.getElem?_toList]
     exact bf hlt
    rw[this]
    exact(hv t x h1).kJ h2 hfi
  .simp
   omega
 have key:∀a1 w1,FrS N (Iw e W ss) go.ntmps L (e.on (Cu ss) (zV e ss)) w s' a1 w1→a1.defers=[]∧∃v',(results go a1.tmps).run P w1=.ok v' w1∧∃L' e',Nx N W L e w L' e' (Tn.apply { all:=some (bs,s'.h.ar,s'.h.mp) } h) w1∧VR N L' e' w1 (eD ws) v':=by
  rintro a1 w1 ⟨L1,e1,hsr,hf,_,hnew,hx⟩
  obtain⟨vals,r1,r2,r3⟩:=qm hsr f6 hrs
  refine⟨hsr.defers,_,r1,L1,e1.on e.sl e.bx,Nx.out hr hnd hsl hsr.hr hx hf hnew hbs,?_⟩
  refine uu (by rw[r2,bH hws]) (fun j x hj=>?_)
  obtain⟨y,h1,h2⟩:=bq hws j x hj
  obtain⟨u,h3,h4⟩:=r3 j y h1
  refine⟨u,h3,h4.kJ h2 fun t q ht _=>?_⟩
  obtain⟨i,g1,rfl⟩:=sg ht
  obtain⟨_,k2⟩:=hx.sl (outer+i) (px i) ⟨i,q,g1,rfl⟩
  exact⟨hsl q (Wa g1),(k2.trans (j6 e g1)).symm⟩
 refine wp_mono (hcode go.ntmps code an fn.body [] f5 _ L _ w _ ex s' _ w hex hst) fun xx a1 w1 hq=>?_
 obtain⟨rfl,hs1⟩:=hq
 obtain⟨k1,v',k2,k3⟩:=key a1 w1 hs1
 rcases hex2 with rfl|rfl
 .exact⟨k1,v',k2,k3⟩
 .exact⟨k1,v',k2,k3⟩
theorem xP {f:Nat→Option Nat} {b1 b2:List (Nat×List V)} (hb:∀s,aE s b1=aE s b2):∀(ss:List Nat) (n:Nat),rB f b1 n ss=rB f b2 n ss
 |[],_=>rfl
 |s::r,n=>by simp only[rB,hb s,xP hb r (n+1)]
theorem si {b1 b2:List (Nat×List V)} (hb:∀s,aE s b1=aE s b2):∀(n:Nat) (l:List Nat),dv b1 n l=dv b2 n l
 |0,_=>rfl
 |n+1,l=>by
  have:qW b1=qW b2:=funext fun s=>by simp only[qW,hb s]
  simp only[dv,this]
  exact si hb n _
theorem zX {E:AC→St→Option (Ex×St)} {fn:ae} {vs:List V} {h1 h2:aa} (k:ph h1 h2):fy E fn vs h1=fy E fn vs h2:=by
 unfold fy
 rw[si k.bx,xP k.bx,k.ar,k.mp]
theorem mR {E:AC→St→Option (Ex×St)} {fn:ae} {vs:List V} {h:aa} {v:V} {t:Tn} (hh:fy E fn vs h=some (v,t)):∃x,t={ all:=some x }:=by
 obtain⟨ss,us,bx,ex,s',_,_,_,_,_,_,_,hend⟩:=lj hh
 obtain⟨rs,ws,bs,_,_,_,_,rfl⟩:=lh hend
 exact⟨_,rfl⟩
theorem xQ (A:Nat→Option ae) (E:AC→St→Option (Ex×St)) (hPL:cI Pr):cI (bD A E Pr):=by
 have two:∀fn pr,bD A E Pr fn=some pr→Pr fn=some pr∨∃g,pr=fy E g:=by
  intro fn pr hf
  unfold bD at hf
  split at hf
  .split at hf
   .cases hf
    exact .inr ⟨_,rfl⟩
   .exact .inl hf
  .exact .inl hf
 refine⟨fun fn pr hf vs h1 h2 v t he ha=>?_,fun fn pr hf vs h v t he=>?_,fun fn pr hf vs h v t he=>?_⟩
 .rcases two fn pr hf with h|⟨g,rfl⟩
  .exact hPL.loc fn pr h vs h1 h2 v t he ha
  .obtain⟨x,rfl⟩:=mR he
   rw[← zX (ha.whole rfl)]
   exact he
 .rcases two fn pr hf with h'|⟨g,rfl⟩
  .exact hPL.fit fn pr h' vs h v t he
  .obtain⟨x,rfl⟩:=mR he
   exact⟨fun hp=>absurd rfl hp,fun i a hia=>by cases hia⟩
 .rcases two fn pr hf with h'|⟨g,rfl⟩
  .exact hPL.gl fn pr h' vs h v t he
  .obtain⟨x,rfl⟩:=mR he
   rfl
theorem zY {A:Nat→Option ae} {n:Nat} (hPr:dU P N Pr) (hcode:j5 P N M A Pr n) (hA:∀f fn,A f=some fn→∃an,w5 P N M (N f) an fn):dU P N (bD A (exec A Pr n) Pr):=by
 intro f pr hf L e W h w vs args v tn he hr hs hv
 unfold bD at hf
 split at hf
 .rename_i fn hfn
  split at hf
  .cases hf
   obtain⟨an,hok⟩:=hA f fn hfn
   exact Cv hcode hok he hr hs hv
  .exact hPr f pr hf L e W h w vs args v tn he hr hs hv
 .exact hPr f pr hf L e W h w vs args v tn he hr hs hv
end Go.Pv
namespace Go.Pv
variable {P:Program} {N M:Nat→Nat} {W:Nat→Prop} {L L':Lx} {e e':bh} {h:aa} {w w':World} {Pr:bm}
theorem uE {cs:List V} {v:Value} (hv:VR N L e w (.agg cs) v):∃arr:Array Value,v=.agg arr∧arr.toList.length=cs.length∧∀(j:Nat) (x:V),cs[j]?=some x→∃u,arr.toList[j]?=some u∧VR N L e w x u:=by
 cases hv with
 |agg _ arr hs hvv=>
  refine⟨arr,rfl,by simpa using hs,fun j x hj=>?_⟩
  have hlt:j<arr.size:=by rw[hs]; exact(V9.1 hj).1
  exact⟨arr.getD j undef,by rw[Wo]; exact bf hlt,hvv j x hj⟩
theorem Ef (hr:HR N L e W h w) (hL:∀b,L 0 b→L' 0 b) (hown:∀id,id<e.na→e.ak id≠0→L' 0 (e.ar id)) (hbox:∀s,e.sl s→L' 0 (e.bx s)) {slot off:Nat} {cs:List V} {l:List PV} (hs:aE slot h.bx=some cs) (hm:ay (aY h 4) (cs.drop off)=some l) {v:Value} (hv:VR N L e w (.ptr slot off) v):CR N L' w (.ro 0 l) v []:=by
 cases hv with
 |ptr _ _ hsl=>
  have hcell:∀(j:Nat) (c:PV),l[j]?=some c→c.perm=true∧∃v,w.cell? ⟨e.bx slot,off+j,none⟩=some v∧dw N L' w c v:=by
   intro j c hj
   obtain⟨x,k1,k2⟩:=bq hm j c hj
   rw[WQ]at k1
   obtain⟨_,v,k3,k4⟩:=(hr.bx slot cs hs).2 (off+j) x k1
   obtain⟨i1,i2⟩:=kX hr hL 4 x c v k2 k4 (fun _=>hown)
   exact⟨i2,v,k3,i1⟩
  refine .ro l _ (fun c hc=>?_) (.ro 0 l (e.bx slot) off (fun j=>(w.cell? ⟨e.bx slot,off+j,none⟩).getD undef) (fun _=>.inl (hbox slot hsl)) (fun j c hj=>?_) (fun j c hj=>?_) (fun c hc=>?_))
  .obtain⟨j,hj⟩:=Wd.1 hc
   exact(hcell j c hj).1
  .obtain⟨_,v,k1,_⟩:=hcell j c hj
   simp[k1]
  .obtain⟨_,v,k1,k2⟩:=hcell j c hj
   simp only[k1,Option.getD_some]
   exact k2
  .obtain⟨j,hj⟩:=Wd.1 hc
   exact PV.w6 (hcell j c hj).1
theorem Cw (hr:HR N L e W h w) (hL:∀b,L 0 b→L' 0 b) {x:V} {p:PV} {v:Value} (hno:∀b∈db e x.cells,∀t,¬L' t b) (hk:keep h true x=some p) (hv:VR N L e w x v):
  RR N L' w p v (db e x.cells)∧∀id∈x.cells.filterMap fR,id<e.na∧e.ak id≠0:=by
 cases x with
 |agg cs=>
  simp only[keep,if_true]at hk
  cases hm:ay (eM h) cs with
  |none=>simp[hm]at hk
  |some l=>
   simp[hm]at hk
   subst hk
   obtain⟨arr,rfl,h1,h2⟩:=uE hv
   obtain⟨k1,k2⟩:=qn hr hL cs l arr.toList hno hm h1 h2
   exact⟨.agg l arr _ k1,k2⟩
 |pv q=>
  cases q with
  |ro t cs=>
   simp only[keep]at hk
   rw[if_neg (fun hh=>by cases hh.1)]at hk
   cases hk
  |_=>
   simp only[keep,if_true]at hk
   obtain⟨k1,k2⟩:=lg hr hL hno hk hv
   refine⟨.cell _ _ _ k1,fun id hid=>?_⟩
   obtain⟨y,hy1,hy2⟩:=W4.1 hid
   simp[V.cells]at hy1
   subst hy1
   exact k2 id hy2
 |_=>
  simp only[keep,if_true]at hk
  obtain⟨k1,k2⟩:=lg hr hL hno hk hv
  refine⟨.cell _ _ _ k1,fun id hid=>?_⟩
  obtain⟨y,hy1,hy2⟩:=W4.1 hid
  simp[V.cells]at hy1
  subst hy1
  exact k2 id hy2
theorem Eg (hr:HR N L e W h w) (hL:∀b,L 0 b→L' 0 b) (hown:∀id,id<e.na→e.ak id≠0→L' 0 (e.ar id)) (hbox:∀s,e.sl s→L' 0 (e.bx s)) {x:V} {p:PV} {v:Value} (hk:keep h false x=some p) (hv:VR N L e w x v):RR N L' w p v []:=by
 cases x with
 |agg cs=>
  simp only[keep,Bool.false_eq_true,if_false]at hk
  cases hm:ay (aY h 4) cs with
  |none=>simp[hm]at hk
  |some l=>
   simp[hm]at hk
   subst hk
   obtain⟨arr,rfl,h1,h2⟩:=uE hv
   exact .agg l arr _ (r9 hr hL hown cs l arr.toList hm h1 h2)
 |ptr slot off=>
  simp only[keep,Bool.false_eq_true,if_false]at hk
  cases hs:aE slot h.bx with
  |none=>simp[hs]at hk
  |some cs=>
   simp only[hs]at hk
   cases hm:ay (aY h 4) (cs.drop off)with
   |none=>simp[hm]at hk
   |some l=>
    simp only[hm]at hk
    cases hk
    exact .cell _ _ _ (Ef hr hL hown hbox hs hm hv)
 |pv q=>
  cases q with
  |ro t cs=>
   simp only[keep]at hk
   split at hk<;>first|(cases hk; done)|skip
   rename_i hc
   obtain⟨_,rfl,hp⟩:=hc
   cases hk
   have hp:∀c∈cs,c.perm=true:=fun c hc=>Wu.1 hp c hc
   cases hv with
   |pv _ _ hq=>exact .cell _ _ _ (.ro cs _ hp (dw.Vp hp hq fun b hb=>⟨hL b hb,rfl⟩))
  |_=>
   simp only[keep,Bool.false_eq_true,if_false]at hk
   exact .cell _ _ _ (mQ hr hL hown hk hv)
 |_=>
  simp only[keep,Bool.false_eq_true,if_false]at hk
  exact .cell _ _ _ (mQ hr hL hown hk hv)
theorem sj (hr:HR N L e W h w) (hL:∀b,L 0 b→L' 0 b):∀(xs:List V) (rs:List PV) (vals:List Value),(∀b∈(dT xs).map e.ar,∀t,¬L' t b)→ay (keep h true) xs=some rs→vals.length=xs.length→(∀(j:Nat) (x:V),xs[j]?=some x→∃u,vals[j]?=some u∧VR N L e w x u)→
  DL N L' w rs vals ((dT xs).map e.ar)∧∀id∈dT xs,id<e.na∧e.ak id≠0
 |[],rs,vals,_,hm,hl,_=>by
  simp[ay]at hm
  subst hm
  have:vals=[]:=List.eq_nil_of_length_eq_zero (by simpa using hl)
  subst this
  exact⟨.nil,by simp[dT]⟩
 |x::xs,rs,vals,hno,hm,hl,hv=>by
  simp only[ay]at hm
  split at hm<;>first|(cases hm; done)|skip
  rename_i p pr hp hpr
  injection hm with hm
  subst hm
  match vals,hl with
  |v::vals,hl=>
   obtain⟨u,h1,h2⟩:=hv 0 x rfl
   simp at h1
   subst h1
   have hsplit:(dT (x::xs)).map e.ar=db e x.cells++(dT xs).map e.ar:=by simp[dT,db]
   rw[hsplit]at hno ⊢
   obtain⟨c1,c2⟩:=Cw hr hL (fun b hb=>hno b (Xa _ hb)) hp h2
   obtain⟨d1,d2⟩:=sj hr hL xs pr vals (fun b hb=>hno b (List.mem_append_right _ hb)) hpr (by simpa using hl) (fun j y hj=>by simpa using hv (j+1) y (by simpa using hj))
   refine⟨.cons _ _ _ _ _ _ c1 d1,fun id hid=>?_⟩
   simp only[dT,List.mem_append]at hid
   rcases hid with hid|hid
   .exact c2 id hid
   .exact d2 id hid
theorem uF (hr:HR N L e W h w) (hL:∀b,L 0 b→L' 0 b) (hown:∀id,id<e.na→e.ak id≠0→L' 0 (e.ar id)) (hbox:∀s,e.sl s→L' 0 (e.bx s)):∀(xs:List V) (rs:List PV) (vals:List Value),ay (keep h false) xs=some rs→vals.length=xs.length→(∀(j:Nat) (x:V),xs[j]?=some x→∃u,vals[j]?=some u∧VR N L e w x u)→DL N L' w rs vals []
 |[],rs,vals,hm,hl,_=>by
  simp[ay]at hm
  subst hm
  have:vals=[]:=List.eq_nil_of_length_eq_zero (by simpa using hl)
  subst this
  exact .nil
 |x::xs,rs,vals,hm,hl,hv=>by
  simp only[ay]at hm
  split at hm<;>first|(cases hm; done)|skip
  rename_i p pr hp hpr
  injection hm with hm
  subst hm
  match vals,hl with
  |v::vals,hl=>
   obtain⟨u,h1,h2⟩:=hv 0 x rfl
   simp at h1
   subst h1
   exact DL.cons _ _ [] _ _ [] (Eg hr hL hown hbox hp h2) (uF hr hL hown hbox xs pr vals hpr (by simpa using hl) (fun j y hj=>by simpa using hv (j+1) y (by simpa using hj)))
theorem lk:∀{l:List Nat},distinct l=true→l.Nodup
 |[],_=>List.nodup_nil
 |x::r,hd=>by
  simp only[distinct,Bool.and_eq_true,Bool.not_eq_true']at hd
  refine List.nodup_cons.2 ⟨fun hx=>?_,lk hd.2⟩
  have:=XF.2 hx
  rw[hd.1]at this
  cases this
theorem uG {f:Nat→Nat}:∀{l:List Nat},l.Nodup→(∀a∈l,∀b∈l,f a=f b→a=b)→(l.map f).Nodup
 |[],_,_=>List.nodup_nil
 |x::r,hn,hf=>by
  obtain⟨h1,h2⟩:=List.nodup_cons.1 hn
  rw[XQ]
  refine List.nodup_cons.2 ⟨fun hx=>?_,uG h2 (fun a ha b hb=>hf a (by simp[ha]) b (by simp[hb]))⟩
  obtain⟨y,hy1,hy2⟩:=Wk.1 hx
  have:=hf y (by simp[hy1]) x (by simp) hy2
  subst this
  exact h1 hy1
theorem GQ (hr:HR N L e W h w):∀{xs:List V} {rs:List PV},ay (keep h true) xs=some rs→∀id∈dT xs,id<e.na∧e.ak id≠0:=by
 have hc:∀{x:V} {p:PV},eM h x=some p→∀id,fR x=some id→id<e.na∧e.ak id≠0:=by
  intro x p hk id hid
  cases x with
  |own id' ax off len=>
   simp[fR]at hid
   subst hid
   cases off with
   |succ off=>simp[eM]at hk
   |zero=>
    simp only[eM]at hk
    cases ho:aB h id' ax with
    |none=>simp[ho]at hk
    |some a=>
     simp only[ho]at hk
     split at hk<;>first|(cases hk; done)|skip
     split at hk<;>first|(cases hk; done)|skip
     rename_i hk0
     obtain⟨ho1,_⟩:=bn ho
     exact⟨by rw[hr.na]; exact(V9.1 ho1).1,by rw[(hr.ax id' a ho1).2.1]; exact hk0⟩
  |_=>simp[fR]at hid
 intro xs
 induction xs with
 |nil=>intro rs _ id hid; simp[dT]at hid
 |cons x xs ih=>
  intro rs hm id hid
  simp only[ay]at hm
  split at hm<;>first|(cases hm; done)|skip
  rename_i p pr hp hpr
  simp only[dT,List.mem_append]at hid
  rcases hid with hid|hid
  .obtain⟨y,hy1,hy2⟩:=W4.1 hid
   cases x with
   |agg cs=>
    simp only[keep,if_true]at hp
    cases hmm:ay (eM h) cs with
    |none=>simp[hmm]at hp
    |some l=>
     obtain⟨j,hj⟩:=Wd.1 (show y∈cs from hy1)
     obtain⟨q,_,hq⟩:=ny hmm j y hj
     exact hc hq id hy2
   |ptr s o=>simp[keep]at hp
   |pv q=>
    simp[V.cells]at hy1
    subst hy1
    simp[fR]at hy2
   |_=>
    simp only[keep,if_true]at hp
    simp[V.cells]at hy1
    subst hy1
    exact hc hp id hy2
  .exact ih hpr id hid
theorem qo {T:Option Nat} {nt:Nat} {L0:Lx} {e0:bh} {w0:World} {s:St} {a:Act} {fn:ae} {go:Func} (hs:FrS N (Wc w0 T) nt L0 e0 w0 s a w) (hrv:ay (rE P) go.results.toList=some fn.results) {rs:List PV} (hl:leave fn s=some rs):
  ∃v,(results go a.tmps).run P w=.ok v w∧DZ N L0 w0 T rs v w:=by
 obtain⟨L,e,hsr,hf,h1,h2,_⟩:=hs
 unfold leave at hl
 split at hl<;>first|(cases hl; done)|skip
 rename_i xs hxs
 split at hl<;>first|(cases hl; done)|skip
 rename_i hcond
 obtain⟨vals,r1,r2,r3⟩:=qm hsr hrv hxs
 refine⟨rS vals,r1,?_⟩
 have hr:=hsr.hr
 cases hfr:fn.fresh with
 |false=>
  rw[hfr]at hl
  let L1:Lx:=fun t b=>L t b∨(t=0∧Wc w0 T b∧b<w.heap.size)
  refine⟨L1,[],vals,hf,fun t b hb=>.inl (h1 t b hb),fun t b hb=>?_,fun t b hb=>?_,?_,List.nodup_nil,by simp,rfl⟩
  .rcases hb with hb|⟨h3,h4,_⟩
   .exact h2 t b hb
   .exact .inr ⟨h3,h4⟩
  .rcases hb with hb|⟨_,_,h5⟩
   .exact hr.mE t b hb
   .exact h5
  .exact uF (L':=L1) hr (fun b hb=>.inl hb) (fun id hi hk=>.inr ⟨rfl,(hr.mm id hi hk).1,hr.gP hi hk⟩) (fun s hs=>.inr ⟨rfl,(hr.tL s hs).1,hr.ky hs⟩) xs rs vals hl r2 r3
 |true=>
  rw[hfr]at hl hcond
  simp only[Bool.not_true,Bool.false_or]at hcond
  let bs:List Nat:=(dT xs).map e.ar
  let L1:Lx:=fun t b=>(L t b∨(t=0∧Wc w0 T b∧b<w.heap.size))∧b∉bs
  -- the blocks of what is given away are no one's
  have hids:∀id∈dT xs,id<e.na∧e.ak id≠0:=GQ hr hl
  have hfree:∀b∈bs,Wc w0 T b∧∀t,¬L t b:=fun b hb=>by
   obtain⟨id,hid,rfl⟩:=Wk.1 hb
   exact⟨(hr.mm id (hids id hid).1 (hids id hid).2).1,(hr.mm id (hids id hid).1 (hids id hid).2).2⟩
  refine⟨L1,bs,vals,hf,fun t b hb=>⟨.inl (h1 t b hb),fun hbb=>(hfree b hbb).2 t (h1 t b hb)⟩,fun t b hb=>?_,fun t b hb=>?_,?_,?_,fun b hb=>(hfree b hb).1,rfl⟩
  .rcases hb.1 with hb|⟨h3,h4,_⟩
   .exact h2 t b hb
   .exact .inr ⟨h3,h4⟩
  .rcases hb.1 with hb|⟨_,_,h5⟩
   .exact hr.mE t b hb
   .exact h5
  .exact(sj (L':=L1) hr (fun b hb=>⟨.inl hb,fun hbb=>(hfree b hbb).2 0 hb⟩) xs rs vals (fun b hb t ht=>ht.2 hb) hl r2 r3).1
  .exact uG (lk hcond) (fun i hi j hj heq=>hr.vM i j (hids i hi).1 (hids j hj).1 (hids i hi).2 (hids j hj).2 heq)
theorem xR {A:Nat→Option ae} {n:Nat} (hcode:j5 P N M A Pr n) (hA:∀f fn,A f=some fn→∃an,w5 P N M (N f) an fn):Ed P N A Pr n:=by
 intro f ps rs hcall
 unfold cM at hcall
 split at hcall<;>first|(cases hcall; done)|skip
 rename_i fn hfn
 obtain⟨an,go,code,f1,f2,f3,f4,f5,f6⟩:=hA f fn hfn
 unfold Bj at hcall
 split at hcall<;>first|(cases hcall; done)|skip
 rename_i hargs
 intro L w T args hlsz htab har
 refine .inr ⟨by simp only[beq_eq_false_iff_ne,ne_eq]at f3; simp[callFunc,f1,f2,f3],?_⟩
 refine calls_of_wp f1 f2 ?_
 obtain⟨e,e1,e2⟩:=Cs hlsz htab har
 have hlen:args.size=ps.length:=by
  have:args.toList.length=ps.length:=by
   generalize args.toList=al at har
   cases har with
   |plain _ _ hl _=>exact hl
   |take _ _ _ _ _ _ _ hl _=>simp[hl]
  simpa using this
 have hst:FrS N (Wc w T) go.ntmps L e w ⟨entry 0 ps,cA ps⟩ { tmps:=args++Array.replicate (go.ntmps - args.size) undef,defers:=[] } w:=by
  refine⟨L,e,⟨e1,fun t=>?_,?_,rfl⟩,Fr.refl _ _,fun _ _ hb=>hb,fun _ _ hb=>.inl hb,(Ext.refl _ _ _).x⟩
  .rw[uB]
   simp only[Nat.zero_le,if_true,Nat.sub_zero]
   cases hp:ps[t]? with
   |none=>exact .any _
   |some p=>
    obtain⟨v,h1,h2⟩:=e2 t p hp
    have hlt:t<args.size:=by rw[hlen]; exact(V9.1 hp).1
    have:(args++Array.replicate (go.ntmps - args.size) undef).getD t undef=v:=by
     apply bW
     rw[Array.toList_append,List.getElem?_append_left (by simpa using hlt)]
     exact h1
    show VR N L e w (V.i7 p) _
    rw[this]
    exact h2
  .simp
   omega
 split at hcall<;>first|(cases hcall; done)|skip
 .rename_i s' hex
  refine wp_mono (hcode go.ntmps code an fn.body [] f5 (Wc w T) L e w _ _ s' _ w hex hst) fun xx a1 w1 hq=>?_
  obtain⟨rfl,hs1⟩:=hq
  obtain⟨v,r1,r2⟩:=qo hs1 f6 hcall
  exact⟨hs1.choose_spec.choose_spec.1.defers,v,r1,r2⟩
 .rename_i s' hex
  refine wp_mono (hcode go.ntmps code an fn.body [] f5 (Wc w T) L e w _ _ s' _ w hex hst) fun xx a1 w1 hq=>?_
  obtain⟨rfl,hs1⟩:=hq
  obtain⟨v,r1,r2⟩:=qo hs1 f6 hcall
  exact⟨hs1.choose_spec.choose_spec.1.defers,v,r1,r2⟩
theorem sound (hm:P.follows .mixedOrders=true) (hPL:cI Pr) (hPr:dU P N Pr) {A:Nat→Option ae} (hA:∀f fn,A f=some fn→∃an,w5 P N M (N f) an fn):∀n,(∀j,j≤n→j5 P N M A Pr j)∧Ed P N A Pr n:=by
 have zero:j5 P N M A Pr 0:=fun nt code an ac an' _ W L0 e0 w0 s ex s' a w he _=>by simp[exec]at he
 intro n
 induction n with
 |zero=>
  have hall:∀j,j≤0→j5 P N M A Pr j:=fun j hj=>by
   obtain rfl:j=0:=by omega
   exact zero
  exact⟨hall,xR zero hA⟩
 |succ n ih=>
  have hstep:=Cr hm n (xQ A _ hPL) (zY hPr (ih.1 n (Wj _)) hA) ih.1 ih.2
  refine⟨fun j hj=>?_,xR hstep hA⟩
  rcases Wh j (n+1)with h1|h1
  .exact ih.1 j (by omega)
  .obtain rfl:j=n+1:=by omega
   exact hstep
end Go.Pv
namespace Go.Pv
variable {A:Nat→Option ae} {Pr:bm}
def PD (Φ Φ':Nat→List PV→Option (List PV)):Prop:=∀f ps rs,Φ f ps=some rs→Φ' f ps=some rs
def GR (Pr Pr':bm):Prop:=∀f,match Pr f with
 |some pr=>∃pr',Pr' f=some pr'∧∀vs h r,pr vs h=some r→pr' vs h=some r
 |none=>Pr' f=none
theorem GR.refl (Pr:bm):GR Pr Pr:=fun f=>by
 cases h:Pr f with
 |none=>rfl
 |some pr=>exact⟨pr,rfl,fun _ _ _ hh=>hh⟩
theorem wh {Φ Φ':Nat→List PV→Option (List PV)} {Pr':bm} (hle:PD Φ Φ') (hp:GR Pr Pr') {Tk:Nat→Bool} {g:bJ→V} {h:aa} {q:dL} {r:V×Tn} (he:evalOp Φ Pr Tk g h q=some r):evalOp Φ' Pr' Tk g h q=some r:=by
 cases q with
 |call f args=>
  simp only[evalOp]at he ⊢
  split at he<;>first|(cases he; done)|skip
  rename_i fn cap _
  have hf:=hp fn
  split at he
  .rename_i pr hpr
   rw[hpr]at hf
   obtain⟨pr',h1,h2⟩:=hf
   rw[h1]
   exact h2 _ _ _ he
  .rename_i hpr
   rw[hpr]at hf
   rw[hf]
   split at he<;>first|(cases he; done)|skip
   split at he<;>first|(cases he; done)|skip
   rename_i rs hrs
   rw[hle _ _ _ hrs]
   exact he
 |_=>exact he
theorem rf {Φ Φ':Nat→List PV→Option (List PV)} {Pr':bm} (hle:PD Φ Φ') (hp:GR Pr Pr') {Tk:Nat→Bool} {o:aC} {s:St} {r:St×Tn} (he:bp Φ Pr Tk o s=some r):bp Φ' Pr' Tk o s=some r:=by
 unfold bp at he ⊢
 split at he
 .cases he
 .exact he
 .split at he<;>first|(cases he; done)|skip
  rename_i v t hev
  rw[wh hle hp hev]
  exact he
theorem zZ {Φ Φ':Nat→List PV→Option (List PV)} {Pr':bm} (hle:PD Φ Φ') (hp:GR Pr Pr') {Tk:Nat→Bool}:∀{l:List aC} {s s':St},dH Φ Pr Tk l s=some s'→dH Φ' Pr' Tk l s=some s'
 |[],s,s',he=>he
 |o::r,s,s',he=>by
  simp only[dH]at he ⊢
  split at he<;>first|(cases he; done)|skip
  rename_i hst
  rw[rf hle hp hst]
  exact zZ hle hp he
theorem rh {Φ Φ':Nat→List PV→Option (List PV)} {Pr':bm} (hle:PD Φ Φ') (hp:GR Pr Pr') {Tk:Nat→Bool}:∀{l:List (aC×List Nat)} {done:List Tn} {s s':St},cx Φ Pr Tk l done s=some s'→cx Φ' Pr' Tk l done s=some s'
 |[],_,s,s',he=>he
 |(o,un)::r,done,s,s',he=>by
  simp only[cx]at he ⊢
  split at he<;>first|(cases he; done)|skip
  rename_i hst
  rw[rf hle hp hst]
  simp only
  split at he<;>first|(cases he; done)|skip
  rename_i hh
  rw[if_pos hh]
  exact rh hle hp he
def Nr (E E':AC→St→Option (Ex×St)):Prop:=∀c s r,E c s=some r→E' c s=some r
theorem j7 {E E':AC→St→Option (Ex×St)} (hle:Nr E E'):GR (bD A E Pr) (bD A E' Pr):=by
 intro f
 unfold bD
 cases hf:A f with
 |none=>exact GR.refl Pr f
 |some fn=>
  simp only
  by_cases hi:fn.inl=true
  .rw[if_pos hi,if_pos hi]
   refine⟨_,rfl,fun vs h r he=>?_⟩
   unfold fy at he ⊢
   split at he<;>first|(cases he; done)|skip
   rename_i hn
   rw[if_pos hn]
   split at he<;>first|(cases he; done)|skip
   split at he<;>first|(cases he; done)|skip
   all_goals
    rename_i hex
    rw[hle _ _ _ hex]
    exact he
  .rw[if_neg hi,if_neg hi]
   exact GR.refl Pr f
theorem fE {E E':AC→St→Option (Ex×St)} (hle:Nr E E'):PD (cM A E) (cM A E'):=by
 intro f ps rs he
 unfold cM at he ⊢
 split at he<;>first|(cases he; done)|skip
 rename_i fn hfn
 unfold Bj at he ⊢
 split at he<;>first|(cases he; done)|skip
 rename_i hc
 rw[if_pos hc]
 split at he<;>first|(cases he; done)|skip
 all_goals
  rename_i hex
  rw[hle _ _ _ hex]
  exact he
theorem Eh {E E':AC→St→Option (Ex×St)} (hle:Nr E E'):Nr (bQ A Pr E) (bQ A Pr E'):=by
 intro c s r he
 cases c with
 |skip=>exact he
 |exit id=>exact he
 |ret=>exact he
 |mask kt kb a=>exact hle _ _ _ he
 |region ops kt kb=>
  simp only[bQ]at he ⊢
  split at he<;>first|(cases he; done)|skip
  rename_i hex
  rw[zZ (fE hle) (j7 hle) hex]
  exact he
 |draw ops kt kb=>
  simp only[bQ]at he ⊢
  split at he<;>first|(cases he; done)|skip
  rename_i hex
  rw[rh (fE hle) (j7 hle) hex]
  exact he
 |qK n ops kt kb=>
  simp only[bQ]at he ⊢
  split at he<;>first|(cases he; done)|skip
  rename_i hex
  rw[rh (fE hle) (j7 hle) hex]
  exact he
 |cond x a b=>
  simp only[bQ]at he ⊢
  split at he<;>first|(cases he; done)|exact hle _ _ _ he
 |seq a b=>
  simp only[bQ]at he ⊢
  cases ha:E a s with
  |none=>simp[ha]at he
  |some q=>
   obtain⟨ex,s1⟩:=q
   rw[hle _ _ _ ha]
   rw[ha]at he
   cases ex with
   |normal=>exact hle _ _ _ he
   |exit id=>exact he
   |ret=>exact he
 |block id a=>
  simp only[bQ]at he ⊢
  cases ha:E a s with
  |none=>simp[ha]at he
  |some q=>
   rw[hle _ _ _ ha]
   rw[ha]at he
   exact he
 |loop a=>
  simp only[bQ]at he ⊢
  cases ha:E a s with
  |none=>simp[ha]at he
  |some q=>
   obtain⟨ex,s1⟩:=q
   rw[hle _ _ _ ha]
   rw[ha]at he
   cases ex with
   |normal=>exact hle _ _ _ he
   |exit id=>exact he
   |ret=>exact he
theorem Cx (n:Nat):Nr (exec A Pr n) (exec A Pr (n+1)):=by
 induction n with
 |zero=>intro c s r he; simp[exec]at he
 |succ n ih=>exact Eh ih
theorem cP {m n:Nat} (hmn:m≤n):Nr (exec A Pr m) (exec A Pr n):=by
 induction hmn with
 |refl=>exact fun _ _ _ h=>h
 |step _ ih=>exact fun c s r h=>Cx _ c s r (ih c s r h)
def cc (A:Nat→Option ae) (Pr:bm) (c:AC) (s:St) (ex:Ex) (s':St):Prop:=∃n,exec A Pr n c s=some (ex,s')
def fV (A:Nat→Option ae) (Pr:bm) (f:Nat) (ps rs:List PV):Prop:=∃n,cM A (exec A Pr n) f ps=some rs
def gZ (A:Nat→Option ae) (Pr:bm) (ops:List aC) (s s':St):Prop:=∃n,dH (cM A (exec A Pr n)) (bD A (exec A Pr n) Pr) (dx A) ops s=some s'
def fF (A:Nat→Option ae) (Pr:bm) (ops:List (aC×List Nat)) (done:List Tn) (s s':St):Prop:=∃n,cx (cM A (exec A Pr n)) (bD A (exec A Pr n) Pr) (dx A) ops done s=some s'
theorem cc.skip (s:St):cc A Pr .skip s .normal s:=⟨1,rfl⟩
theorem cc.exit (id:Nat) (s:St):cc A Pr (.exit id) s (.exit id) s:=⟨1,rfl⟩
theorem cc.ret (s:St):cc A Pr .ret s .ret s:=⟨1,rfl⟩
theorem cc.mask {kt kb:List Nat} {a:AC} {s s':St} {ex:Ex} (h:cc A Pr a (s.mask kt kb) ex s'):cc A Pr (.mask kt kb a) s ex s':=by
 obtain⟨n,hn⟩:=h
 exact⟨n+1,hn⟩
theorem cc.seq {a b:AC} {s s1 s':St} {ex:Ex} (h1:cc A Pr a s .normal s1) (h2:cc A Pr b s1 ex s'):cc A Pr (.seq a b) s ex s':=by
 obtain⟨n,hn⟩:=h1
 obtain⟨m,hm⟩:=h2
 refine⟨max n m+1,?_⟩
 show bQ A Pr (exec A Pr (max n m)) (.seq a b) s=_
 simp only[bQ,cP (Nat.le_max_left n m) _ _ _ hn,cP (Nat.le_max_right n m) _ _ _ hm]
theorem cc.Bv {a b:AC} {s s1:St} {ex:Ex} (h1:cc A Pr a s ex s1) (hx:ex≠.normal):cc A Pr (.seq a b) s ex s1:=by
 obtain⟨n,hn⟩:=h1
 refine⟨n+1,?_⟩
 show bQ A Pr (exec A Pr n) (.seq a b) s=_
 cases ex<;>simp_all [bQ]
theorem cc.cond {c:bJ} {a b:AC} {s s':St} {ex:Ex} {t:Bool} (hc:bk s.env c=.pv (.bool t)) (h:cc A Pr (if t then a else b) s ex s'):cc A Pr (.cond c a b) s ex s':=by
 obtain⟨n,hn⟩:=h
 refine⟨n+1,?_⟩
 show bQ A Pr (exec A Pr n) (.cond c a b) s=_
 cases t<;>simpa [bQ,hc]using hn
theorem cc.block {id:Nat} {a:AC} {s s':St} {ex:Ex} (h:cc A Pr a s ex s'):cc A Pr (.block id a) s (match ex with|.exit j=>if j=id then .normal else .exit j|e=>e) s':=by
 obtain⟨n,hn⟩:=h
 refine⟨n+1,?_⟩
 show bQ A Pr (exec A Pr n) (.block id a) s=_
 cases ex with
 |exit j=>
  simp only[bQ,hn]
  by_cases hj:j=id<;>simp[hj]
 |_=>simp[bQ,hn]
theorem cc.uH {a:AC} {s s1 s':St} {ex:Ex} (h1:cc A Pr a s .normal s1) (h2:cc A Pr (.loop a) s1 ex s'):cc A Pr (.loop a) s ex s':=by
 obtain⟨n,hn⟩:=h1
 obtain⟨m,hm⟩:=h2
 refine⟨max n m+1,?_⟩
 show bQ A Pr (exec A Pr (max n m)) (.loop a) s=_
 simp only[bQ,cP (Nat.le_max_left n m) _ _ _ hn,cP (Nat.le_max_right n m) _ _ _ hm]
theorem cc.gz {a:AC} {s s':St} {ex:Ex} (h:cc A Pr a s ex s') (hx:ex≠.normal):cc A Pr (.loop a) s ex s':=by
 obtain⟨n,hn⟩:=h
 refine⟨n+1,?_⟩
 show bQ A Pr (exec A Pr n) (.loop a) s=_
 cases ex<;>simp_all [bQ]
theorem cc.region {ops:List aC} {kt kb:List Nat} {s s':St} (h:gZ A Pr ops s s'):cc A Pr (.region ops kt kb) s .normal (s'.mask kt kb):=by
 obtain⟨n,hn⟩:=h
 exact⟨n+1,by show bQ A Pr (exec A Pr n) _ _=_; simp only[bQ,hn]⟩
theorem cc.draw {ops:List (aC×List Nat)} {kt kb:List Nat} {s s':St} (h:fF A Pr ops [] s s'):cc A Pr (.draw ops kt kb) s .normal (s'.mask kt kb):=by
 obtain⟨n,hn⟩:=h
 exact⟨n+1,by show bQ A Pr (exec A Pr n) _ _=_; simp only[bQ,hn]⟩
theorem fV.of {f:Nat} {fn:ae} {ps rs:List PV} {ex:Ex} {s':St} (hf:A f=some fn) (hl:ps.length=fn.oU) (ha:oX fn.take ps=true) (hr:cc A Pr fn.body ⟨entry 0 ps,cA ps⟩ ex s') (hx:ex=.normal∨ex=.ret) (hv:leave fn s'=some rs):fV A Pr f ps rs:=by
 obtain⟨n,hn⟩:=hr
 refine⟨n,?_⟩
 simp only[cM,hf,Bj,hl,ha,and_self,if_true,hn]
 rcases hx with rfl|rfl<;>exact hv
theorem fV.sound {P:Program} {N M:Nat→Nat} (hm:P.follows .mixedOrders=true) (hPL:cI Pr) (hPr:dU P N Pr) (hA:∀f fn,A f=some fn→∃an,w5 P N M (N f) an fn) {f:Nat} {ps rs:List PV} (h:fV A Pr f ps rs):uq P N f ps rs:=by
 obtain⟨n,hn⟩:=h
 exact(Pv.sound hm hPL hPr hA n).2 f ps rs hn
theorem gZ.nil (s:St):gZ A Pr [] s s:=⟨0,rfl⟩
theorem gZ.cons {o:aC} {r:List aC} {s s1 s':St} {t:Tn} {n:Nat} (h1:bp (cM A (exec A Pr n)) (bD A (exec A Pr n) Pr) (dx A) o s=some (s1,t)) (h2:gZ A Pr r s1 s'):gZ A Pr (o::r) s s':=by
 obtain⟨m,hm⟩:=h2
 refine⟨max n m,?_⟩
 simp only[dH,rf (fE (cP (Nat.le_max_left n m))) (j7 (cP (Nat.le_max_left n m))) h1]
 exact zZ (fE (cP (Xs n m))) (j7 (cP (Xs n m))) hm
theorem fF.nil (done:List Tn) (s:St):fF A Pr [] done s s:=⟨0,rfl⟩
theorem fF.cons {o:aC} {un:List Nat} {r:List (aC×List Nat)} {done:List Tn} {s s1 s':St} {t:Tn} {n:Nat} (h1:bp (cM A (exec A Pr n)) (bD A (exec A Pr n) Pr) (dx A) o s=some (s1,t)) (hh:dZ un t done=true) (h2:fF A Pr r (done++[t]) s1 s'):fF A Pr ((o,un)::r) done s s':=by
 obtain⟨m,hm⟩:=h2
 refine⟨max n m,?_⟩
 simp only[cx,rf (fE (cP (Nat.le_max_left n m))) (j7 (cP (Nat.le_max_left n m))) h1,hh,if_true]
 exact rh (fE (cP (Xs n m))) (j7 (cP (Xs n m))) hm
end Go.Pv
namespace Go.Pv
variable {P:Program} {N:Nat→Nat} {w:World}
def Ei (N:Nat→Nat) (w:World):Prop:=∀g,N 1000000=100000+g→∃ty z,w.heap[g]?=some (.cells w7 ty z)
theorem Ei.none {N:Nat→Nat} {w:World} (h:N 1000000<100000):Ei N w:=fun g hg=>by omega
def py (w:World):Lx:=fun t b=>(t=0∨t=7777)∧b<w.heap.size
theorem Ei.py {N:Nat→Nat} {w:World} (h:Ei N w):rF N (py w) w:=fun g hg=>by
 obtain⟨ty,z,h1⟩:=h g hg
 exact⟨⟨.inr rfl,(Wr.1 h1).1⟩,ty,z,h1⟩
def plainData (P:Program):Nat→TypeId→Bool
 |0,_=>false
 |n+1,t=>match P.underlying t with
  |some .bool=>true
  |some (.int _)=>true
  |some .string=>true
  |some (.slice e)=>plainData P n e&&decide (0<P.cellsOf e)
  |some (.struct fs)=>jn P 0 fs.toList&&(fs.toList.all fun f=>plainData P n f.type&&(cG P f.type).isSome)&&((fs.toList.map fun f=>P.cellsOf f.type).sum==P.cellsOf t)
  |some (.array m e)=>plainData P n e&&m*P.cellsOf e==P.cellsOf t
  |_=>false
def typed (P:Program):Nat→TypeId→List PV→Prop
 |0,_,_=>False
 |n+1,t,cs=>match P.underlying t with
  |some .bool=>∃b,cs=[.bool b]
  |some (.int k)=>∃x,cs=[.int k x]∧k.min≤x∧x≤k.max
  |some .string=>∃s,cs=[.str s]∧s.size≤maxLen
  |some (.slice e)=>∃rows,cs=[.aq 0 rows]∧rows.length≤maxLen∧∀r∈rows,typed P n e r
  |some (.struct fs)=>∃parts:List (List PV),parts.length=fs.size∧cs=parts.flatten∧∀(i:Nat) (f:Field) (r:List PV),fs[i]?=some f→parts[i]?=some r→typed P n f.type r
  |some (.array m e)=>∃parts:List (List PV),parts.length=m∧cs=parts.flatten∧∀r∈parts,typed P n e r
  |_=>False
def gA (N:Nat→Nat) (w:World) (ps:List PV) (cs:List Value):Prop:=ps.length=cs.length∧∀(j:Nat) (c:PV) (v:Value),ps[j]?=some c→cs[j]?=some v→dw N (py w) w c v∧c.perm=true
theorem gA.nil:gA N w [] []:=⟨rfl,fun j c v hj=>by simp at hj⟩
theorem gA.one {c:PV} {v:Value} (h:dw N (py w) w c v) (hp:c.perm=true):gA N w [c] [v]:=by
 refine⟨rfl,fun j c' v' hj hv=>?_⟩
 match j,hj with
 |0,hj=>simp at hj hv; subst hj; subst hv; exact⟨h,hp⟩
 |j+1,hj=>simp at hj
theorem gA.append {p q:List PV} {a b:List Value} (h:gA N w p a) (k:gA N w q b):gA N w (p++q) (a++b):=by
 refine⟨by simp[h.1,k.1],fun j c v hj hv=>?_⟩
 rcases Wh j p.length with h1|h1
 .rw[We h1]at hj
  rw[We (by rw[← h.1]; exact h1)]at hv
  exact h.2 j c v hj hv
 .rw[Wn h1]at hj
  rw[Wn (by rw[← h.1]; exact h1)]at hv
  rw[← h.1]at hv
  exact k.2 _ c v hj hv
theorem z6 {t:TypeId} (_hs:(cG P t).isSome=true):(cG P t).getD 0=P.cellsOf t:=by
 unfold cG at _hs ⊢
 unfold Program.cellsOf
 rfl
theorem pz {base:Nat} {a:Addr} {n:Nat} {cs:List Value} (hc:w.cells? base a n=some cs):cs.length=n∧∀(j:Nat) (v:Value),cs[j]?=some v→w.cell? (a.add j)=some v:=by
 unfold World.cells? at hc
 split at hc<;>first|(cases hc; done)|skip
 have gen:∀(l:List Nat) (cs:List Value),l.mapM (fun i=>w.cell? (a.add i))=some cs→cs.length=l.length∧∀(j:Nat) (v:Value) (i:Nat),cs[j]?=some v→l[j]?=some i→w.cell? (a.add i)=some v:=by
  intro l
  induction l with
  |nil=>intro cs h; simp at h; subst h; exact⟨rfl,fun j v i hj=>by simp at hj⟩
  |cons x l ih=>
   intro cs h
   rw[List.mapM_cons]at h
   simp only[bind,Option.bind_eq_some_iff,pure,Option.some.injEq]at h
   obtain⟨y,h1,ys,h2,rfl⟩:=h
   obtain⟨k1,k2⟩:=ih ys h2
   refine⟨by simp[k1],fun j v i hj hi=>?_⟩
   match j,hj,hi with
   |0,hj,hi=>simp at hj hi; subst hj; subst hi; exact h1
   |j+1,hj,hi=>exact k2 j v i (by simpa using hj) (by simpa using hi)
 obtain⟨k1,k2⟩:=gen _ _ hc
 refine⟨by simpa using k1,fun j v hj=>k2 j v j hj ?_⟩
 have hlt:j<n:=by have:=(List.getElem?_eq_some_iff.1 hj).1; rw[k1]at this; simpa using this
 simp[hlt]
theorem add_add (a:Addr) (ha:a.spot=none) (n j:Nat):(a.add n).add j=⟨a.block,a.off+(n+j),none⟩:=by
 obtain⟨b,o,s⟩:=a
 simp only at ha
 subst ha
 rw[dm,dm,W0]
theorem nS {α β:Type} {f:α→Option β}:∀{l:List α} {r:List β},l.mapM f=some r→r.length=l.length∧∀(j:Nat) (x:α),l[j]?=some x→∃y,r[j]?=some y∧f x=some y
 |[],r,h=>by simp at h; subst h; exact⟨rfl,fun j x hj=>by simp at hj⟩
 |a::l,r,h=>by
  rw[List.mapM_cons]at h
  simp only[bind,Option.bind_eq_some_iff,pure,Option.some.injEq]at h
  obtain⟨y,h1,ys,h2,rfl⟩:=h
  obtain⟨k1,k2⟩:=nS h2
  refine⟨by simp[k1],fun j x hj=>?_⟩
  match j,hj with
  |0,hj=>simp at hj; subst hj; exact⟨y,rfl,h1⟩
  |j+1,hj=>simpa using k2 j x (by simpa using hj)
theorem je {α β:Type} (Q:Nat→α→β→Prop):∀(l:List α),(∀(j:Nat) (x:α),l[j]?=some x→∃y,Q j x y)→∃r:List β,r.length=l.length∧∀(j:Nat) (x:α) (y:β),l[j]?=some x→r[j]?=some y→Q j x y
 |[],_=>⟨[],rfl,fun j x y hj=>by simp at hj⟩
 |a::l,h=>by
  obtain⟨y,hy⟩:=h 0 a rfl
  obtain⟨r,h1,h2⟩:=je (fun j=>Q (j+1)) l (fun j x hj=>h (j+1) x (by simpa using hj))
  refine⟨y::r,by simp[h1],fun j x z hj hz=>?_⟩
  match j,hj,hz with
  |0,hj,hz=>simp at hj hz; subst hj; subst hz; exact hy
  |j+1,hj,hz=>exact h2 j x z (by simpa using hj) (by simpa using hz)
theorem sk {cs:List Value}:∀(fs:List Field) (o:Nat) (parts:List (List PV)),jn P o fs=true→(∀f∈fs,(cG P f.type).isSome=true)→parts.length=fs.length→o+(fs.map fun f=>P.cellsOf f.type).sum=cs.length→
  (∀(i:Nat) (f:Field) (r:List PV),fs[i]?=some f→parts[i]?=some r→gA N w r ((cs.drop f.offset).take (P.cellsOf f.type)))→gA N w parts.flatten (cs.drop o)
 |[],o,parts,_,_,hl,hsum,_=>by
  have:parts=[]:=List.eq_nil_of_length_eq_zero (by simpa using hl)
  subst this
  simp only[List.map_nil,List.sum_nil,Nat.add_zero]at hsum
  rw[hsum,List.drop_length]
  exact gA.nil
 |f::fs,o,parts,ho,hs,hl,hsum,hr=>by
  match parts,hl with
  |p::parts,hl=>
   simp only[jn,Bool.and_eq_true,beq_iff_eq]at ho
   obtain⟨rfl,ho2⟩:=ho
   rw[z6 (hs f (by simp))]at ho2
   simp only[List.map_cons,List.sum_cons]at hsum
   have h1:=hr 0 f p rfl rfl
   have h2:=sk fs (f.offset+P.cellsOf f.type) parts ho2 (fun q hq=>hs q (by simp[hq])) (by simpa using hl) (by omega) (fun i f' r hf hp=>hr (i+1) f' r (by simpa using hf) (by simpa using hp))
   have h3:=h1.append h2
   rw[← List.drop_drop,XG]at h3
   exact h3
theorem uI {cs:List Value} {k:Nat}:∀(m o:Nat) (parts:List (List PV)),parts.length=m→(o+m)*k=cs.length→(∀(i:Nat) (r:List PV),parts[i]?=some r→gA N w r ((cs.drop ((o+i)*k)).take k))→gA N w parts.flatten (cs.drop (o*k))
 |0,o,parts,hl,hsum,_=>by
  have:parts=[]:=Wp hl
  subst this
  rw[Nat.add_zero]at hsum
  rw[hsum,List.drop_length]
  exact gA.nil
 |m+1,o,parts,hl,hsum,hr=>by
  match parts,hl with
  |p::parts,hl=>
   have h1:=hr 0 p rfl
   have h2:=uI (cs:=cs) (k:=k) m (o+1) parts (by simpa using hl) (by rw[← hsum]; congr 1; omega) (fun i r hi=>by
    have:=hr (i+1) r (by simpa using hi)
    rw[show o+1+i=o+(i+1) by omega]
    exact this)
   rw[Nat.add_zero]at h1
   have h3:=h1.append h2
   rw[Nat.succ_mul,← List.drop_drop,XG]at h3
   exact h3
theorem z7 {a:Addr} {v:Value} (hc:w.cell? a=some v):a.spot=none∧a.block<w.heap.size:=by
 unfold World.cell? at hc
 split at hc<;>first|(cases hc; done)|skip
 rename_i c x y hh
 split at hc<;>first|(cases hc; done)|skip
 rename_i hs
 exact⟨by simpa using hs,(Array.getElem?_eq_some_iff.1 hh).1⟩
theorem Jy {a:Addr} {len cap k base:Nat} (hk:0<k) (hlc:len≤cap) {Ty:List PV→Prop}
  (he:∀i,i<len→∃cs,w.cells? base (a.add (i*k)) k=some cs∧∃ps,Ty ps∧gA N w ps cs):
  ∃rows:List (List PV),rows.length=len∧(∀r∈rows,Ty r)∧dw N (py w) w (.aq 0 rows) (.slice (some a) rows.length cap):=by
 obtain⟨rows,h1,h2⟩:=je (fun i (_:Nat) (ps:List PV)=>∃cs,w.cells? base (a.add (i*k)) k=some cs∧Ty ps∧gA N w ps cs) (List.range len) (fun j x hj=>by
  have hjl:j<len:=by have:=(List.getElem?_eq_some_iff.1 hj).1; simpa using this
  obtain⟨cs,k1,ps,k2,k3⟩:=he j hjl
  exact⟨ps,cs,k1,k2,k3⟩)
 have hrl:rows.length=len:=by simpa using h1
 have hrow:∀(i:Nat) (r:List PV),rows[i]?=some r→∃cs,w.cells? base (a.add (i*k)) k=some cs∧Ty r∧gA N w r cs:=fun i r hi=>by
  have hlt:i<len:=by rw[← hrl]; exact(V9.1 hi).1
  exact h2 i i r (by simp[hlt]) hi
 have hsp:0<rows.length→a.spot=none∧a.block<w.heap.size:=fun hpos=>by
  obtain⟨cs,k1,_,_⟩:=hrow 0 rows[0] (Wb hpos)
  obtain⟨c1,c2⟩:=pz k1
  have:=c2 0 (cs[0]'(by omega)) (Wb (by omega))
  rw[Nat.zero_mul]at this
  have h0:(a.add 0).add 0=a:=by simp[Addr.add]
  rw[h0]at this
  exact z7 this
 have hcell:∀(i j:Nat) (c:PV),ff rows i j=some c→∃v,w.cell? ⟨a.block,a.off+(i*k+j),none⟩=some v∧dw N (py w) w c v∧c.perm=true:=by
  intro i j c hc
  unfold ff at hc
  cases hi:rows[i]? with
  |none=>simp[hi]at hc
  |some r=>
   simp[hi]at hc
   obtain⟨cs,k1,_,k3⟩:=hrow i r hi
   obtain⟨c1,c2⟩:=pz k1
   have hjl:j<cs.length:=by rw[← k3.1]; exact(V9.1 hc).1
   have hv:=c2 j cs[j] (Wb hjl)
   rw[add_add a (hsp (by have:=(V9.1 hi).1; omega)).1]at hv
   obtain⟨q1,q2⟩:=k3.2 j c cs[j] hc (Wb hjl)
   exact⟨_,hv,q1,q2⟩
 refine⟨rows,hrl,fun r hr=>?_,.aq 0 rows (some a) a cap k (fun i j=>(w.cell? ⟨a.block,a.off+(i*k+j),none⟩).getD undef) (fun r hr=>?_) (by omega) (fun hpos=>⟨rfl,(hsp hpos).1,.inl ⟨.inl rfl,(hsp hpos).2⟩⟩) (fun i j c hc=>?_) (fun i j c hc=>?_) (fun _ i j c hc=>?_) (fun i j c hc=>?_)⟩
 .obtain⟨i,hi⟩:=Wd.1 hr
  exact(hrow i r hi).choose_spec.2.1
 .obtain⟨i,hi⟩:=Wd.1 hr
  obtain⟨cs,k1,_,k3⟩:=hrow i r hi
  rw[k3.1]; exact(pz k1).1
 .obtain⟨v,q1,_⟩:=hcell i j c hc
  simp[q1]
 .obtain⟨v,q1,q2,_⟩:=hcell i j c hc
  simp only[q1,Option.getD_some]; exact q2
 .exact(hcell i j c hc).choose_spec.2.2
 .exact jY (hcell i j c hc).choose_spec.2.2
end Go.Pv
namespace Go.Pv
open Go.RowKit
variable {P:Program} {N:Nat→Nat} {w:World}
def gQ (P:Program) (t:TypeId) (cs:List PV):PV:=if cR P t=some true then .agg cs else cs.headD .nn
end Go.Pv
namespace Go.Pv
open Go.RowKit Go.ChangeShapes
variable {H:Type} {enc:TypeId×Value→H} {P:Program}
theorem sq (hl:laidOutB P=true) {W W':World} (hb:Below W.heap.size W W'):∀(ts:List TypeId) (vs:List Value) (ds:List (DataW H)) (ps:List MemPlace),(∀t∈ts,P.readableRec t=true∧t<P.types.size)→
  DataW.TrodAll enc P W 0 (fun _=>true) true ts vs ds ps→(∀x∈ps,x.block<W.heap.size)→DataW.TrodAll enc P W' 0 (fun b=>decide (b<W.heap.size)) true ts vs ds ps
 |[],_,_,_,_,h,_=>by
  obtain⟨rfl,rfl,rfl⟩:=trodAll_nil h
  exact h
 |t::ts,vs,ds,ps,hr,h,hp=>by
  obtain⟨v,vs',d,ds',p,q,rfl,rfl,rfl,h1,h2⟩:=trodAll_cons h
  obtain⟨r1,r2⟩:=hr t (by simp)
  exact⟨p,q,Below.trod hl r1 r2 h1 hb (fun x hx=>hp x (by simp[hx])),sq hl hb ts vs' ds' q (fun u hu=>hr u (by simp[hu])) h2 (fun x hx=>hp x (by simp[hx])),rfl⟩
theorem Cy {W:World} {b:Nat} {sp:Nat→Bool} {hd:Bool} {t:TypeId} (ht:P.underlying t=some .bool) (x:Bool):DataW.TrodAll enc P W b sp hd [t] [.bool x] [.lit (.bool x)] []:=
 trodAll_mk1 ⟨1,by simp[DataW.trod,Value.cells,ht]⟩
theorem Ej {f:Func} {s:ChangeSpec} {W W':World} {args:Array Value} {ds gs:List (DataW H)} {before:List MemPlace} (hl:laidOutB P=true)
  (hW:DataW.Whole enc P f.params.toList s.vars false W args.toList ds gs before) (hsv:s.vars=[]) {tb:TypeId} (hres:f.resultTypes=#[tb]) (htb:P.underlying tb=some .bool)
  (hsf:s.fn H (ds++gs)={ results:=[.lit (.bool true)],args:=ds }) (hr:∀t∈f.params.toList,P.readableRec t=true∧t<P.types.size) (hb:Below W.heap.size W W'):
  s.post enc P f false true false false W args (.bool true) W':=by
 have hlt:∀p∈before,p.block<W.heap.size:=fun p hp=>hW.lt p hp
 obtain⟨p,q,h1,h2,h3,h4,h5⟩:=hW
 have hq:q=[]∧gs=[]:=by
  rw[hsv]at h2
  obtain⟨rfl,rfl⟩:=trodVars_none h2
  exact⟨rfl,rfl⟩
 obtain⟨rfl,rfl⟩:=hq
 have hp:before=p:=by rw[h3,Xh]
 refine⟨ds,[],before,[],p,[],⟨p,[],h1,h2,h3,h4,h5⟩,?_,?_,?_,?_,?_⟩
 .rw[hsf,hres]
  exact Cy htb true
 .rw[hsf]
  exact sq hl hb _ _ _ _ hr h1 (fun x hx=>hlt x (by rw[hp]; exact hx))
 .rw[hsf]
  rw[hsv]at h2 ⊢
  exact h2
 .exact Below.frame hb _
 .intro hh
  cases hh
end Go.Pv
namespace Go.Pv
open Go.RowKit Go.ChangeShapes
variable {P:Program} {N:Nat→Nat} {w:World}
def lR (P:Program) (S:List TypeId) (t:TypeId):Bool:=
 match P.underlying t with
  |some .bool=>true
  |some (.int _)=>true
  |some .string=>true
  |some (.slice e)=>S.contains e&&decide (0<P.cellsOf e)
  |some (.struct fs)=>jn P 0 fs.toList&&(fs.toList.all fun f=>S.contains f.type&&(cG P f.type).isSome)&&((fs.toList.map fun f=>P.cellsOf f.type).sum==P.cellsOf t)
  |some (.array m e)=>S.contains e&&m*P.cellsOf e==P.cellsOf t
  |_=>false
def lS (P:Program) (S:List TypeId):Bool:=S.all (lR P S)
theorem xS {S:List TypeId} (h:lS P S=true) {t:TypeId} (ht:t∈S):lR P S t=true:=Wu.1 h t ht
theorem nT {S:List TypeId} (hS:lS P S=true) {H:Type} {enc:TypeId×Value→H} {base:Nat} {spare:Nat→Bool} {held:Bool}:∀(fuel:Nat) (t:TypeId),t∈S→∀(cs:List Value) (r:DataW H×List MemPlace),DataW.trod enc P w base spare held fuel t cs=some r→
  ∃ps,typed P fuel t ps∧gA N w ps cs
 |0,t,_,cs,r,ht=>by simp[DataW.trod]at ht
 |fuel+1,t,hp,cs,r,ht=>by
   have hp:=xS hS hp
   unfold lR at hp
   cases hu:P.underlying t with
   |none=>simp[hu]at hp
   |some de=>
    simp only[hu]at hp
    cases de with
    |bool=>
     rcases cs with _|⟨v,_|⟨v2,l⟩⟩
     .simp[DataW.trod,hu]at ht
     .cases v<;>simp[DataW.trod,hu]at ht
      rename_i b
      exact⟨[.bool b],by simp only[typed,hu]; exact⟨b,rfl⟩,gA.one (.bool b) rfl⟩
     .simp[DataW.trod,hu]at ht
    |int k=>
     rcases cs with _|⟨v,_|⟨v2,l⟩⟩
     .simp[DataW.trod,hu]at ht
     .cases v<;>simp[DataW.trod,hu]at ht
      rename_i k' x
      obtain⟨⟨rfl,hwf⟩,_⟩:=ht
      simp[Lit.wf]at hwf
      exact⟨[.int k' x],by simp only[typed,hu]; exact⟨x,rfl,hwf.1,hwf.2⟩,gA.one (.int k' x) rfl⟩
     .simp[DataW.trod,hu]at ht
    |string=>
     rcases cs with _|⟨v,_|⟨v2,l⟩⟩
     .simp[DataW.trod,hu]at ht
     .cases v<;>simp[DataW.trod,hu]at ht
      rename_i x
      exact⟨[.str x],by simp only[typed,hu]; exact⟨x,rfl,ht.1⟩,gA.one (.str x) rfl⟩
     .simp[DataW.trod,hu]at ht
    |slice el=>
     simp only[Bool.and_eq_true,decide_eq_true_eq]at hp
     obtain⟨hpe,hk⟩:=hp
     rcases cs with _|⟨v,_|⟨v2,l⟩⟩
     .simp[DataW.trod,hu]at ht
     .cases v with
      |slice A len cap=>
       cases A with
       |none=>
        rcases len with _|len<;>rcases cap with _|cap<;>simp[DataW.trod,hu]at ht
        refine⟨[.aq 0 []],by simp only[typed,hu]; exact⟨[],rfl,by simp,by simp⟩,gA.one (.aq 0 [] none default 0 0 (fun _ _=>undef) (by simp) (by simp) (by simp) (by simp[ff]) (by simp[ff]) (by simp[ff]) (by simp[ff])) rfl⟩
       |some a=>
        simp only[DataW.trod,hu]at ht
        split at ht<;>first|(cases ht; done)|skip
        rename_i hc
        rw[XP]at ht
        obtain⟨elems,hel,_⟩:=ht
        obtain⟨k1,k2⟩:=nS hel
        obtain⟨rows,q1,q2,q3⟩:=Jy (N:=N) (w:=w) (a:=a) (len:=len) (cap:=cap) (base:=base) (Ty:=typed P fuel el) hk hc.2.1 (fun i hi=>by
         obtain⟨y,_,hy⟩:=k2 i i (by simp[hi])
         rw[XP]at hy
         obtain⟨ci,hci,htr⟩:=hy
         exact⟨ci,hci,nT hS fuel el (XF.1 hpe) ci y htr⟩)
        refine⟨[.aq 0 rows],by simp only[typed,hu]; exact⟨rows,rfl,by omega,q2⟩,?_⟩
        rw[q1]at q3
        exact gA.one q3 rfl
      |_=>simp[DataW.trod,hu]at ht
     .simp[DataW.trod,hu]at ht
    |struct fs=>
     simp only[Bool.and_eq_true,List.all_eq_true,beq_iff_eq]at hp
     obtain⟨⟨ho,hf⟩,hsum⟩:=hp
     simp only[DataW.trod,hu]at ht
     split at ht<;>first|(cases ht; done)|skip
     rename_i hlen
     obtain⟨xs,hxs,_⟩:=Wx.1 ht
     obtain⟨k1,k2⟩:=nS hxs
     obtain⟨parts,p1,p2⟩:=je (fun(_:Nat) (f:Field) (ps:List PV)=>typed P fuel f.type ps∧gA N w ps ((cs.drop f.offset).take (P.cellsOf f.type))) fs.toList (fun j f hj=>by
      obtain⟨y,_,hy⟩:=k2 j f hj
      exact nT hS fuel f.type (XF.1 (hf f (Wa hj)).1) _ y hy)
     refine⟨parts.flatten,by simp only[typed,hu]; exact⟨parts,by simpa using p1,rfl,fun i f r hi hr=>(p2 i f r (by simpa using hi) hr).1⟩,?_⟩
     have:=sk (N:=N) (w:=w) (cs:=cs) fs.toList 0 parts ho (fun f hff=>(hf f hff).2) p1 (by rw[XN,hsum,hlen]) (fun i f r hi hr=>(p2 i f r hi hr).2)
     simpa using this
    |array m el=>
     simp only[Bool.and_eq_true,beq_iff_eq]at hp
     simp only[DataW.trod,hu]at ht
     split at ht<;>first|(cases ht; done)|skip
     rename_i hlen
     obtain⟨xs,hxs,_⟩:=Wx.1 ht
     obtain⟨k1,k2⟩:=nS hxs
     obtain⟨parts,p1,p2⟩:=je (fun(i:Nat) (_:Nat) (ps:List PV)=>typed P fuel el ps∧gA N w ps ((cs.drop (i*P.cellsOf el)).take (P.cellsOf el))) (List.range m) (fun j x hj=>by
      obtain⟨y,_,hy⟩:=k2 j x hj
      have hjx:x=j:=by
       have hlt:j<m:=by have:=(List.getElem?_eq_some_iff.1 hj).1; simpa using this
       simp[hlt]at hj; exact hj.symm
      subst hjx
      exact nT hS fuel el (XF.1 hp.1) _ y hy)
     have hpl:parts.length=m:=by simpa using p1
     refine⟨parts.flatten,by simp only[typed,hu]; exact⟨parts,hpl,rfl,fun r hr=>by
      obtain⟨i,hi⟩:=Wd.1 hr
      have hlt:i<m:=by rw[← hpl]; exact(V9.1 hi).1
      exact(p2 i i r (by simp[hlt]) hi).1⟩,?_⟩
     have:=uI (N:=N) (w:=w) (cs:=cs) (k:=P.cellsOf el) m 0 parts hpl (by rw[XN,hp.2,hlen]) (fun i r hi=>by
      have hlt:i<m:=by rw[← hpl]; exact(V9.1 hi).1
      rw[XN]
      exact(p2 i i r (by simp[hlt]) hi).2)
     simpa using this
    |_=>simp at hp
theorem GS {n:Nat} {S:List TypeId} {t:TypeId} (hp:lR P S t=true) {r:Reach} {base:Nat} {v:Value} (hv:Value.okWide P w r base t v) {ps:List PV} (ht:typed P n t ps) (hr:gA N w ps v.cells.toList):dw N (py w) w (gQ P t ps) v:=by
  cases hu:P.underlying t with
  |none=>simp[lR,hu]at hp
  |some de=>
   have agg:cR P t=some true→(∃cs,v=.agg cs)→dw N (py w) w (gQ P t ps) v:=by
    rintro hag ⟨cs,rfl⟩
    simp only[gQ,hag,if_true]
    refine .agg ps cs (by have:=hr.1; simpa [Value.cells]using this.symm) (fun j c hj=>?_) (fun c hc=>?_)
    .have hlt:j<cs.size:=by
      have:=hr.1
      simp only[Value.cells,Array.length_toList]at this
      rw[← this]
      exact(V9.1 hj).1
     exact(hr.2 j c _ hj (by simp only[Value.cells,Array.getElem?_toList]; exact bf hlt)).1
    .obtain⟨j,hj⟩:=Wd.1 hc
     have hlt':j<cs.size:=by
      have:=hr.1
      simp only[Value.cells,Array.length_toList]at this
      rw[← this]
      exact(V9.1 hj).1
     exact PV.w6 (hr.2 j c _ hj (by simp only[Value.cells,Array.getElem?_toList]; exact bf hlt')).2
   have one:cR P t=some false→v.cells=#[v]→dw N (py w) w (gQ P t ps) v:=by
    intro hag hc
    simp only[gQ,hag]
    have hl:=hr.1
    rw[hc]at hl hr
    match ps,hl with
    |[c],_=>exact(hr.2 0 c v rfl rfl).1
   cases de with
   |bool=>
    refine one (by simp[cR,hu]) ?_
    simp only[Value.okWide,hu,Cell.okWide,Cell.ok]at hv
    cases v<;>first|rfl|(simp at hv)
   |int k=>
    refine one (by simp[cR,hu]) ?_
    simp only[Value.okWide,hu,Cell.okWide,Cell.ok]at hv
    cases v<;>first|rfl|(simp at hv)
   |string=>
    refine one (by simp[cR,hu]) ?_
    simp only[Value.okWide,hu,Cell.okWide,Cell.ok]at hv
    cases v<;>first|rfl|(simp at hv)
   |slice el=>
    refine one (by simp[cR,hu]) ?_
    simp only[Value.okWide,hu,Cell.okWide,Cell.ok]at hv
    cases v<;>first|rfl|(simp at hv)
   |struct fs=>
    refine agg (by simp[cR,hu]) ?_
    simp only[Value.okWide,hu]at hv
    obtain⟨cs,rfl,_⟩:=hv
    exact⟨cs,rfl⟩
   |array m el=>
    refine agg (by simp[cR,hu]) ?_
    simp only[Value.okWide,hu]at hv
    obtain⟨cs,rfl,_⟩:=hv
    exact⟨cs,rfl⟩
   |_=>simp[lR,hu]at hp
theorem xT {S:List TypeId} (hS:lS P S=true) {H:Type} {enc:TypeId×Value→H} {base b0:Nat} {spare:Nat→Bool} {held:Bool} {r:Reach}:∀(ts:List TypeId) (vs:List Value) (ds:List (DataW H)) (pl:List MemPlace),DataW.TrodAll enc P w base spare held ts vs ds pl→(∀t∈ts,t∈S)→
  (∀(j:Nat) (t:TypeId) (v:Value),ts[j]?=some t→vs[j]?=some v→Value.okWide P w r b0 t v)→
  ∃css:List (List PV),css.length=ts.length∧vs.length=ts.length∧(∀(j:Nat) (t:TypeId) (cs:List PV),ts[j]?=some t→css[j]?=some cs→∃n,typed P n t cs)∧
   ∀(j:Nat) (p:PV),(List.zipWith (gQ P) ts css)[j]?=some p→∃v,vs[j]?=some v∧dw N (py w) w p v
 |[],[],[],pl,_,_,_=>⟨[],rfl,rfl,fun j t cs hj=>by simp at hj,fun j p hj=>by simp at hj⟩
 |t::ts,v::vs,d::ds,pl,h,hp,hv=>by
  obtain⟨p,q,⟨fuel,h1⟩,h2,_⟩:=h
  obtain⟨ps,k1,k2⟩:=nT (N:=N) hS fuel t (hp t (by simp)) _ _ h1
  have hone:=GS (xS hS (hp t (by simp))) (hv 0 t v rfl rfl) k1 k2
  obtain⟨css,g1,g2,g3,g4⟩:=xT hS ts vs ds q h2 (fun u hu=>hp u (by simp[hu])) (fun j u x hj hx=>hv (j+1) u x (by simpa using hj) (by simpa using hx))
  refine⟨ps::css,by simp[g1],by simp[g2],fun j u cs hj hc=>?_,fun j p hj=>?_⟩
  .match j,hj,hc with
   |0,hj,hc=>simp at hj hc; subst hj; subst hc; exact⟨_,k1⟩
   |j+1,hj,hc=>exact g3 j u cs (by simpa using hj) (by simpa using hc)
  .match j,hj with
   |0,hj=>simp at hj; subst hj; exact⟨v,rfl,hone⟩
   |j+1,hj=>simpa using g4 j p (by simpa using hj)
theorem tT {S : List TypeId} (hS : lS P S = true) {H : Type} {enc : TypeId × Value → H} {base b0 : Nat} {spare : Nat → Bool} {held : Bool} {r : Reach} {f : Nat} {ts : List TypeId} (hF : ∀ css : List (List PV),css.length = ts.length → (∀ (j : Nat) (t : TypeId) (cs : List PV),ts[j]? = some t → css[j]? = some cs → ∃ n,typed P n t cs) →
   uq P N f (List.zipWith (gQ P) ts css) [.bool true]) (htab : Ei N w) {go : Func} {code : Code} (h1 : P.funcs[N f]? = some go) (h2 : go.body = some code) (h3 : (go.name == "runtime.NumGoroutine") = false)
  {args : Array Value} {ds : List (DataW H)} {pl : List MemPlace} (hA : DataW.TrodAll enc P w base spare held ts args.toList ds pl) (hp : ∀ t ∈ ts,t ∈ S)
  (hv : ∀ (j : Nat) (t : TypeId) (v : Value),ts[j]? = some t → args.toList[j]? = some v → Value.okWide P w r b0 t v) :
  Calls P (N f) args w fun e w' => e = .returned (.bool true) ∧ Below w.heap.size w w' := by
 obtain ⟨css,g1,g2,g3,g4⟩ := xT (N := N) hS ts args.toList ds pl hA hp hv
 have hlen : args.toList.length = (List.zipWith (gQ P) ts css).length := by rw [g2,List.length_zipWith,g1]; simp
 have hcg := hF css g1 g3 (py w) w none args (fun t b hb => hb.2) htab.py (.plain _ _ hlen g4)
 have hpost : ∀ v w',DZ N (py w) w none [.bool true] v w' → v = .bool true ∧ Below w.heap.size w w' := by
  rintro v w' ⟨L1,bs,vals,f1,f2,f3,f4,f5,f6,f7,rfl⟩
  refine ⟨?_,f1.os,f1.tape,f1.output,f1.size,fun k hk => f1.kept k hk (fun hc => by
   rcases hc with hc | hc
   .omega
   .cases hc)⟩
  cases f5 with
  | cons p u b1 ps vs b2 q1 q2 =>
   cases q2
   cases q1 with
   | cell _ _ _ q =>
    cases q with
    | keep _ _ _ q => cases q; rfl
 rcases hcg with ⟨v,w',k1,k2⟩ | ⟨k1,k2⟩
 .exfalso
  have : (callFunc (N f) args).run P w = .ok (.enter (N f) args) w := by simp only [beq_eq_false_iff_ne,ne_eq] at h3; simp [callFunc,h1,h2,h3]
  rw [this] at k1
  cases k1
 .refine k2.mono fun e w' hh => ?_
  cases e with
  | returned v =>
   obtain ⟨rfl,hb⟩ := hpost v w' hh
   exact ⟨rfl,hb⟩
  | panicked => exact hh.elim
  | outgrown => exact hh.elim
theorem sr {H:Type} {S:List TypeId} {C:Checked} {os:Os} {N:Nat→Nat} {f:Nat} {fn:Func} {s:ChangeSpec} {code:Code} {tb:TypeId} (enc:TypeId×Value→H)
  (hF:∀css:List (List PV),css.length=fn.params.toList.length→(∀(j:Nat) (t:TypeId) (cs:List PV),fn.params.toList[j]?=some t→css[j]?=some cs→∃n,typed C.prog n t cs)→uq C.prog N f (List.zipWith (gQ C.prog) fn.params.toList css) [.bool true])
  (hN:N 1000000<100000:=by decide) (own:ownKnob C.prog.godebug=none) (hl:laidOutB C.prog=true) (started:os.Started) (noInit:C.prog.inits.idxOf? (N f)=none) (hfn:C.prog.funcs[N f]?=some fn) (hcode:fn.body=some code) (hname:(fn.name== "runtime.NumGoroutine")=false)
  (wit:∃(w:World) (tape:Tape) (i:Input),w.os=os∧(w.forCall tape i).Shaped C.prog∧i.vars=[]∧Input.okWide C.prog (w.forCall tape i) .any w.heap.size (N f) i∧
   s.pre6 enc C.prog fn [] false (w.forCall tape i).memory i.args∧({}:Assume).holds C.prog (lone (Frame.enter C.prog (N f) i.args .normal) [] (w.forCall tape i)))
  (hres:fn.resultTypes=#[tb]) (htb:C.prog.underlying tb=some .bool) (hsv:s.vars=[]) (hsf:∀ds:List (DataW H),ds.length=fn.params.toList.length→s.fn H ds={ results:=[.lit (.bool true)],args:=ds })
  (hr:∀t∈fn.params.toList,C.prog.readableRec t=true∧t<C.prog.types.size) (hS:lS C.prog S=true) (hp:∀t∈fn.params.toList,t∈S):
  ReturnsInHanded {} C os (N f) .any (s.pre6 enc C.prog fn [] false) (s.post enc C.prog fn false true false false):=by
 refine returnsInHanded_of_change own started noInit hfn wit ?_
 intro W base args ds gs before hval hW _ _
 have hW':=hW
 obtain⟨p,q,h1,h2,h3,h4,h5⟩:=hW
 have hlen:ds.length=fn.params.toList.length:=by
  have key:∀(ts:List TypeId) (vs:List Value) (ds:List (DataW H)) (ps:List MemPlace),DataW.TrodAll enc C.prog W 0 (fun _=>true) true ts vs ds ps→ds.length=ts.length:=by
   intro ts
   induction ts with
   |nil=>intro vs ds ps h; obtain⟨rfl,rfl,rfl⟩:=trodAll_nil h; rfl
   |cons t ts ih=>
    intro vs ds ps h
    obtain⟨v,vs',d,ds',p,q,rfl,rfl,rfl,_,g2⟩:=trodAll_cons h
    simp[ih _ _ _ g2]
  exact key _ _ _ _ h1
 have hgs:gs=[]:=by
  rw[hsv]at h2
  obtain⟨g1,g2⟩:=trodVars_none h2
  first|exact g2|exact g1
 refine(tT hS hF (.none hN) hfn hcode hname h1 hp (fun j t v hj hv=>hval j t v (by simpa using hj) (by simpa using hv))).mono fun e W' ⟨he,hb⟩=>?_
 subst he
 exact⟨_,rfl,Ej hl hW' hsv hres htb (by rw[hgs,Xh]; exact hsf ds hlen) hr hb⟩
end Go.Pv
namespace Go.Pv
variable {A:Nat→Option ae} {Pr:bm}
inductive nU {α:Sort _} (a:α):Type
 |mk
def bM {α:Type} (o:Option α) (K:α→Prop) (_t:nU K:=.mk):Prop:=∃v,o=some v∧K v
@[congr] theorem Jz {α:Type} {o o':Option α} {K:α→Prop} (h:o=o'):bM o K=bM o' K:=by rw[h]
@[go_sem] theorem Ns {α:Type} (v:α) (K:α→Prop):bM (some v) K=K v:=by simp[bM]
def Br (c:Bool) (X Y:Prop) (_t:nU (X∧Y):=.mk):Prop:=if c=true then X else Y
@[congr] theorem PE {c c':Bool} {X Y:Prop} (h:c=c'):Br c X Y=Br c' X Y:=by rw[h]
@[go_sem] theorem ri (X Y:Prop):Br true X Y=X:=rfl
@[go_sem] theorem nV (X Y:Prop):Br false X Y=Y:=by simp[Br]
theorem Br.of {c:Bool} {X Y:Prop} (h1:c=true→X) (h2:c=false→Y):Br c X Y:=by
 cases c
 .simpa [Br]using h2 rfl
 .simpa [Br]using h1 rfl
theorem Br.aJ {p:Prop} {i:Decidable p} {X Y:Prop} (h1:p→X) (h2:¬p→Y):Br (@decide p i) X Y:=by
 by_cases h:p<;>simp[Br,h,h1,h2]
def Bw (v:V) (K:Bool→Prop) (_t:nU K:=.mk):Prop:=∃b,v=.pv (.bool b)∧K b
@[go_sem] theorem PF (b:Bool) (K:Bool→Prop):Bw (.pv (.bool b)) K=K b:=by simp[Bw]
open Classical in
noncomputable def res (A:Nat→Option ae) (Pr:bm) (f:Nat) (ps:List PV):Option (List PV):=if h:∃rs,fV A Pr f ps rs then some h.choose else none
theorem fV.uniq {f:Nat} {ps rs rs':List PV} (h:fV A Pr f ps rs) (h':fV A Pr f ps rs'):rs=rs':=by
 obtain⟨n,hn⟩:=h
 obtain⟨m,hm⟩:=h'
 have h1:=fE (cP (A:=A) (Pr:=Pr) (Nat.le_max_left n m)) _ _ _ hn
 have h2:=fE (cP (A:=A) (Pr:=Pr) (Xs n m)) _ _ _ hm
 rw[h1]at h2
 exact Option.some.inj h2
theorem jz {f:Nat} {ps rs:List PV}:res A Pr f ps=some rs↔fV A Pr f ps rs:=by
 unfold res
 constructor
 .intro h
  split at h
  .rename_i hh
   cases h
   exact hh.choose_spec
  .cases h
 .intro h
  have hh:∃rs,fV A Pr f ps rs:=⟨rs,h⟩
  rw[dif_pos hh]
  rw[fV.uniq hh.choose_spec h]
def W (A:Nat→Option ae) (Pr:bm) (c:AC) (s:St) (Q:Ex→St→Prop) (_t:nU (c,Q):=.mk):Prop:=∃ex s',cc A Pr c s ex s'∧Q ex s'
def WO (A:Nat→Option ae) (Pr:bm) (l:List aC) (s:St) (K:St→Prop) (_t:nU (l,K):=.mk):Prop:=∃s',gZ A Pr l s s'∧K s'
def WD (A:Nat→Option ae) (Pr:bm) (l:List (aC×List Nat)) (done:List Tn) (s:St) (K:St→Prop) (_t:nU (l,K):=.mk):Prop:=∃s',fF A Pr l done s s'∧K s'
def GU (A:Nat→Option ae) (Pr:bm) (b:AC) (Q:Ex→St→Prop) (_t:nU (b,Q):=.mk):Ex→St→Prop
 |.normal,s=>W A Pr b s Q
 |.exit i,s=>Q (.exit i) s
 |.ret,s=>Q .ret s
def pA (id:Nat) (Q:Ex→St→Prop) (_t:nU Q:=.mk):Ex→St→Prop
 |.normal,s=>Q .normal s
 |.exit i,s=>if i=id then Q .normal s else Q (.exit i) s
 |.ret,s=>Q .ret s
@[go_sem] theorem Ix (b:AC) (Q:Ex→St→Prop) (s:St):GU A Pr b Q .mk .normal s=W A Pr b s Q:=rfl
@[go_sem] theorem Nt (b:AC) (Q:Ex→St→Prop) (i:Nat) (s:St):GU A Pr b Q .mk (.exit i) s=Q (.exit i) s:=rfl
@[go_sem] theorem PG (b:AC) (Q:Ex→St→Prop) (s:St):GU A Pr b Q .mk .ret s=Q .ret s:=rfl
@[go_sem] theorem Gr (i:Nat) (Q:Ex→St→Prop) (s:St):pA i Q .mk .normal s=Q .normal s:=rfl
@[go_sem] theorem Iy (i j:Nat) (Q:Ex→St→Prop) (s:St):pA i Q .mk (.exit j) s=if j=i then Q .normal s else Q (.exit j) s:=rfl
@[go_sem] theorem JA (i:Nat) (Q:Ex→St→Prop) (s:St):pA i Q .mk .ret s=Q .ret s:=rfl
theorem cc.uniq {c:AC} {s s1 s2:St} {e1 e2:Ex} (h1:cc A Pr c s e1 s1) (h2:cc A Pr c s e2 s2):e1=e2∧s1=s2:=by
 obtain⟨n,hn⟩:=h1
 obtain⟨m,hm⟩:=h2
 have h1:=cP (A:=A) (Pr:=Pr) (Nat.le_max_left n m) _ _ _ hn
 have h2:=cP (A:=A) (Pr:=Pr) (Xs n m) _ _ _ hm
 rw[h1]at h2
 cases h2
 exact⟨rfl,rfl⟩
theorem W.uniq {c:AC} {s s':St} {ex:Ex} {Q:Ex→St→Prop} (h:cc A Pr c s ex s'):W A Pr c s Q=Q ex s':=by
 apply propext
 constructor
 .rintro ⟨e2,s2,h1,h2⟩
  obtain⟨rfl,rfl⟩:=cc.uniq h h1
  exact h2
 .exact fun hq=>⟨_,_,h,hq⟩
@[go_sem] theorem TF (s:St) (Q:Ex→St→Prop):W A Pr .skip s Q=Q .normal s:=W.uniq (cc.skip s)
@[go_sem] theorem TG (i:Nat) (s:St) (Q:Ex→St→Prop):W A Pr (.exit i) s Q=Q (.exit i) s:=W.uniq (cc.exit i s)
@[go_sem] theorem Vq (s:St) (Q:Ex→St→Prop):W A Pr .ret s Q=Q .ret s:=W.uniq (cc.ret s)
theorem lT {c:AC} {s s':St} {ex:Ex} (h:cc A Pr c s ex s'):∃n,bQ A Pr (exec A Pr n) c s=some (ex,s'):=by
 obtain⟨n,hn⟩:=h
 cases n with
 |zero=>simp[exec]at hn
 |succ n=>exact⟨n,hn⟩
@[go_sem] theorem Vr (a b:AC) (s:St) (Q:Ex→St→Prop):W A Pr (.seq a b) s Q=W A Pr a s (GU A Pr b Q):=by
 apply propext
 constructor
 .rintro ⟨ex,s',h,hq⟩
  obtain⟨n,hn⟩:=lT h
  simp only[bQ]at hn
  cases ha:exec A Pr n a s with
  |none=>simp[ha]at hn
  |some r=>
   obtain⟨e1,s1⟩:=r
   rw[ha]at hn
   refine⟨e1,s1,⟨n,ha⟩,?_⟩
   cases e1 with
   |normal=>exact⟨ex,s',⟨n,hn⟩,hq⟩
   |exit i=>cases hn; exact hq
   |ret=>cases hn; exact hq
 .rintro ⟨ex,s',h,hq⟩
  cases ex with
  |normal=>
   obtain⟨e2,s2,h2,hq2⟩:=hq
   exact⟨e2,s2,cc.seq h h2,hq2⟩
  |exit i=>exact⟨_,_,cc.Bv h (by simp),hq⟩
  |ret=>exact⟨_,_,cc.Bv h (by simp),hq⟩
@[go_sem] theorem Sx (id:Nat) (a:AC) (s:St) (Q:Ex→St→Prop):W A Pr (.block id a) s Q=W A Pr a s (pA id Q):=by
 apply propext
 constructor
 .rintro ⟨ex,s',h,hq⟩
  obtain⟨n,hn⟩:=lT h
  simp only[bQ]at hn
  cases ha:exec A Pr n a s with
  |none=>simp[ha]at hn
  |some r=>
   obtain⟨e1,s1⟩:=r
   rw[ha]at hn
   refine⟨e1,s1,⟨n,ha⟩,?_⟩
   cases e1 with
   |normal=>cases hn; exact hq
   |exit i=>
    simp only[pA]
    split
    .rename_i hi
     simp only[hi,if_true]at hn
     cases hn
     exact hq
    .rename_i hi
     simp only[hi,if_false]at hn
     cases hn
     exact hq
   |ret=>cases hn; exact hq
 .rintro ⟨ex,s',h,hq⟩
  have hb:=cc.block (id:=id) h
  cases ex with
  |normal=>exact⟨_,_,hb,hq⟩
  |exit i=>
   simp only[pA]at hq
   refine⟨_,_,hb,?_⟩
   show Q (if i=id then Ex.normal else Ex.exit i) s'
   by_cases hi:i=id
   .rw[if_pos hi]at hq ⊢; exact hq
   .rw[if_neg hi]at hq ⊢; exact hq
  |ret=>exact⟨_,_,hb,hq⟩
@[go_sem] theorem TH (kt kb:List Nat) (a:AC) (s:St) (Q:Ex→St→Prop):W A Pr (.mask kt kb a) s Q=W A Pr a (s.mask kt kb) Q:=by
 apply propext
 constructor
 .rintro ⟨ex,s',h,hq⟩
  obtain⟨n,hn⟩:=lT h
  exact⟨ex,s',⟨n,hn⟩,hq⟩
 .rintro ⟨ex,s',h,hq⟩
  exact⟨ex,s',cc.mask h,hq⟩
@[go_sem] theorem TI (c:bJ) (a b:AC) (s:St) (Q:Ex→St→Prop):W A Pr (.cond c a b) s Q=Bw (bk s.env c) fun t=>Br t (W A Pr a s Q) (W A Pr b s Q):=by
 apply propext
 constructor
 .rintro ⟨ex,s',h,hq⟩
  obtain⟨n,hn⟩:=lT h
  simp only[bQ]at hn
  split at hn
  .rename_i he
   exact⟨true,he,ex,s',⟨n,hn⟩,hq⟩
  .rename_i he
   exact⟨false,he,by simpa [Br]using ⟨ex,s',⟨n,hn⟩,hq⟩⟩
  .cases hn
 .rintro ⟨t,ht,hb⟩
  cases t with
  |true=>
   obtain⟨ex,s',h,hq⟩:W A Pr a s Q:=hb
   exact⟨ex,s',cc.cond ht h,hq⟩
  |false=>
   have hb':W A Pr b s Q:=by simpa [Br]using hb
   obtain⟨ex,s',h,hq⟩:=hb'
   exact⟨ex,s',cc.cond ht h,hq⟩
@[go_sem] theorem PH (ops:List aC) (kt kb:List Nat) (s:St) (Q:Ex→St→Prop):W A Pr (.region ops kt kb) s Q=WO A Pr ops s fun s'=>Q .normal (s'.mask kt kb):=by
 apply propext
 constructor
 .rintro ⟨ex,s',h,hq⟩
  obtain⟨n,hn⟩:=lT h
  simp only[bQ]at hn
  split at hn
  .rename_i s1 he
   cases hn
   exact⟨s1,⟨n,he⟩,hq⟩
  .cases hn
 .rintro ⟨s',h,hq⟩
  exact⟨_,_,cc.region h,hq⟩
@[go_sem] theorem TJ (ops:List (aC×List Nat)) (kt kb:List Nat) (s:St) (Q:Ex→St→Prop):W A Pr (.draw ops kt kb) s Q=WD A Pr ops [] s fun s'=>Q .normal (s'.mask kt kb):=by
 apply propext
 constructor
 .rintro ⟨ex,s',h,hq⟩
  obtain⟨n,hn⟩:=lT h
  simp only[bQ]at hn
  split at hn
  .rename_i s1 he
   cases hn
   exact⟨s1,⟨n,he⟩,hq⟩
  .cases hn
 .rintro ⟨s',h,hq⟩
  exact⟨_,_,cc.draw h,hq⟩
def WE (A:Nat→Option ae) (Pr:bm) (env:List (Nat×V)) (h:aa) (q:dL) (K:V→Tn→Prop) (_t:nU (q,K):=.mk):Prop:=∃n v t,evalOp (cM A (exec A Pr n)) (bD A (exec A Pr n) Pr) (dx A) (bk env) h q=some (v,t)∧K v t
theorem WE.uniq {env:List (Nat×V)} {h:aa} {q:dL} {K:V→Tn→Prop} {n:Nat} {v:V} {t:Tn} (he:evalOp (cM A (exec A Pr n)) (bD A (exec A Pr n) Pr) (dx A) (bk env) h q=some (v,t)):WE A Pr env h q K=K v t:=by
 apply propext
 constructor
 .rintro ⟨m,v',t',h1,hk⟩
  have e1:=wh (fE (cP (A:=A) (Pr:=Pr) (Nat.le_max_left n m))) (j7 (cP (A:=A) (Pr:=Pr) (Nat.le_max_left n m))) he
  have e2:=wh (fE (cP (A:=A) (Pr:=Pr) (Xs n m))) (j7 (cP (A:=A) (Pr:=Pr) (Xs n m))) h1
  rw[e1]at e2
  cases e2
  exact hk
 .exact fun hk=>⟨n,v,t,he,hk⟩
def wi:dL→Bool
 |.call _ _=>false
 |_=>true
def ev (env:List (Nat×V)) (h:aa) (q:dL):Option (V×Tn):=evalOp (fun _ _=>none) (fun _=>none) (fun _=>false) (bk env) h q
theorem xU {Φ:Nat→List PV→Option (List PV)} {Tk:Nat→Bool} {env:List (Nat×V)} {h:aa} {q:dL} (hq:wi q=true):evalOp Φ Pr Tk (bk env) h q=ev env h q:=by
 cases q<;>first|rfl|(simp[wi]at hq)
theorem bI {env:List (Nat×V)} {h:aa} {q:dL} {K:V→Tn→Prop} (hq:wi q=true):WE A Pr env h q K=bM (ev env h q) fun r=>K r.1 r.2:=by
 apply propext
 constructor
 .rintro ⟨n,v,t,h1,hk⟩
  rw[xU hq]at h1
  exact⟨_,h1,hk⟩
 .rintro ⟨⟨v,t⟩,h1,hk⟩
  exact⟨0,v,t,by rw[xU hq]; exact h1,hk⟩
def pB (A:Nat→Option ae) (fn:Nat):Bool:=
 match A fn with
 |some g=>g.inl
 |none=>false
def Cz (rv:List nq) (ss:List Nat) (K:V→Tn→Prop) (_t:nU (rv,K):=.mk):Ex→St→Prop
 |.exit _,_=>False
 |_,s=>bM (ay (cL s) rv) fun rs=>bM (ay (kJ (fS ss)) rs) fun ws=>bM (kK (fS ss) s.h.bx outer ss) fun bs=>K (eD ws) { all:=some (bs,s.h.ar,s.h.mp) }
@[go_sem] theorem Iz (rv:List nq) (ss:List Nat) (K:V→Tn→Prop) (s:St):Cz rv ss K .mk .normal s=bM (ay (cL s) rv) fun rs=>bM (ay (kJ (fS ss)) rs) fun ws=>bM (kK (fS ss) s.h.bx outer ss) fun bs=>K (eD ws) { all:=some (bs,s.h.ar,s.h.mp) }:=rfl
@[go_sem] theorem PI (rv:List nq) (ss:List Nat) (K:V→Tn→Prop) (s:St):Cz rv ss K .mk .ret s=bM (ay (cL s) rv) fun rs=>bM (ay (kJ (fS ss)) rs) fun ws=>bM (kK (fS ss) s.h.bx outer ss) fun bs=>K (eD ws) { all:=some (bs,s.h.ar,s.h.mp) }:=rfl
def rj (vs:List V) (bx:List (Nat×List V)):List Nat:=dv bx 2 (bZ [] (vs.flatMap slotsOf))
def IW (A:Nat→Option ae) (Pr:bm) (fn:Nat) (vs:List V) (h:aa) (K:V→Tn→Prop) (_t:nU K:=.mk):Prop:=
 ∃g n v t,A fn=some g∧fy (exec A Pr n) g vs h=some (v,t)∧K v t
def CW (A:Nat→Option ae) (Pr:bm) (fn:Nat) (vs:List V) (h:aa) (K:V→Tn→Prop) (_t:nU K:=.mk):Prop:=
 if pB A fn=true then IW A Pr fn vs h K else
 match Pr fn with
 |some pr=>bM (pr vs h) fun r=>K r.1 r.2
 |none=>bM (ca h (dx A fn) vs) fun q=>bM (res A Pr fn q.1) fun rs=>K (eD (bw h.ar.length rs).1) { ar:=q.2,push:=(bw h.ar.length rs).2,eK:=!(vs.all V.jm),base:=if (bw h.ar.length rs).2.isEmpty then 0 else h.ar.length }
theorem Bx {fn:Nat} (hi:pB A fn=false) (hp:Pr fn=none) {t:Bool} (ht:dx A fn=t) (vs:List V) (h:aa) (K:V→Tn→Prop):CW A Pr fn vs h K=bM (ca h t vs) fun q=>bM (res A Pr fn q.1) fun rs=>K (eD (bw h.ar.length rs).1) { ar:=q.2,push:=(bw h.ar.length rs).2,eK:=!(vs.all V.jm),base:=if (bw h.ar.length rs).2.isEmpty then 0 else h.ar.length }:=by
 unfold CW
 rw[hi,hp,ht]
 rfl
theorem ew {fn:Nat} {pr:List V→aa→Option (V×Tn)} (hi:pB A fn=false) (hp:Pr fn=some pr) (vs:List V) (h:aa) (K:V→Tn→Prop):CW A Pr fn vs h K=bM (pr vs h) fun r=>K r.1 r.2:=by
 unfold CW
 rw[hi,hp]
 rfl
theorem JB {fn:Nat} (hi:pB A fn=true) (vs:List V) (h:aa) (K:V→Tn→Prop):CW A Pr fn vs h K=IW A Pr fn vs h K:=if_pos hi
theorem IA {fn:Nat} {g:ae} (hg:A fn=some g) (vs:List V) (h:aa) (K:V→Tn→Prop):IW A Pr fn vs h K=(vs.length=g.oU∧bM (ay (kJ (oY (rj vs h.bx))) vs) fun us=>bM (rB (oY (rj vs h.bx)) h.bx outer (rj vs h.bx)) fun bx=>
  W A Pr g.body ⟨kL 0 us,⟨bx,h.ar,h.mp⟩⟩ (Cz g.results (rj vs h.bx) K)):=by
 apply propext
 constructor
 .rintro ⟨g',n,v,t,h1,h2,hk⟩
  rw[hg]at h1
  cases h1
  obtain⟨ss,us,bx,ex,s',hss,_,h3,h4,h5,h6,h7,h8⟩:=lj h2
  subst hss
  obtain⟨rs,ws,bs,g1,g2,g3,rfl,rfl⟩:=lh h8
  refine⟨h3,us,h4,bx,h5,ex,s',⟨n,h6⟩,?_⟩
  rcases h7 with rfl|rfl
  .exact⟨rs,g1,ws,g2,bs,g3,hk⟩
  .exact⟨rs,g1,ws,g2,bs,g3,hk⟩
 .rintro ⟨h3,us,h4,bx,h5,ex,s',⟨n,h6⟩,hq⟩
  have h4:ay (kJ (oY (dv h.bx 2 (bZ [] (vs.flatMap slotsOf))))) vs=some us:=h4
  have h5:rB (oY (dv h.bx 2 (bZ [] (vs.flatMap slotsOf)))) h.bx outer (dv h.bx 2 (bZ [] (vs.flatMap slotsOf)))=some bx:=h5
  cases ex with
  |exit i=>exact hq.elim
  |normal=>
   obtain⟨rs,g1,ws,g2,bs,g3,hk⟩:=hq
   have g2:ay (kJ (fS (dv h.bx 2 (bZ [] (vs.flatMap slotsOf))))) rs=some ws:=g2
   have g3:kK (fS (dv h.bx 2 (bZ [] (vs.flatMap slotsOf)))) s'.h.bx outer (dv h.bx 2 (bZ [] (vs.flatMap slotsOf)))=some bs:=g3
   refine⟨g,n,_,_,hg,?_,hk⟩
   simp only[fy,h3,if_true,h4,h5,h6,mF,g1,g2,g3]
  |ret=>
   obtain⟨rs,g1,ws,g2,bs,g3,hk⟩:=hq
   have g2:ay (kJ (fS (dv h.bx 2 (bZ [] (vs.flatMap slotsOf))))) rs=some ws:=g2
   have g3:kK (fS (dv h.bx 2 (bZ [] (vs.flatMap slotsOf)))) s'.h.bx outer (dv h.bx 2 (bZ [] (vs.flatMap slotsOf)))=some bs:=g3
   refine⟨g,n,_,_,hg,?_,hk⟩
   simp only[fy,h3,if_true,h4,h5,h6,mF,g1,g2,g3]
theorem mS {fn:Nat} (hi:pB A fn=false) (E:AC→St→Option (Ex×St)):bD A E Pr fn=Pr fn:=by
 unfold pB at hi
 unfold bD
 cases hf:A fn with
 |none=>rfl
 |some g=>
  rw[hf]at hi
  simp only at hi ⊢
  rw[hi]
  simp
theorem qp {fn:Nat} (hi:pB A fn=true) (E:AC→St→Option (Ex×St)):∃g,A fn=some g∧bD A E Pr fn=some (fy E g):=by
 unfold pB at hi
 unfold bD
 cases hf:A fn with
 |none=>rw[hf]at hi; cases hi
 |some g=>
  rw[hf]at hi
  simp only at hi ⊢
  rw[hi]
  exact⟨g,rfl,rfl⟩
@[go_sem] theorem Sy (env:List (Nat×V)) (h:aa) (f:bJ) (args:List bJ) (K:V→Tn→Prop):WE A Pr env h (.call f args) K=bM (funcOf (bk env f)) fun fc=>CW A Pr fc.1 (args.map (bk env)++fc.2) h K:=by
 apply propext
 constructor
 .rintro ⟨n,v,t,h1,hk⟩
  simp only[evalOp]at h1
  split at h1<;>first|(cases h1; done)|skip
  rename_i fn cap hf
  refine⟨(fn,cap),hf,?_⟩
  unfold CW
  cases hi:pB A fn with
  |true=>
   obtain⟨g,g1,g2⟩:=qp (Pr:=Pr) hi (exec A Pr n)
   rw[g2]at h1
   dsimp only
   rw[if_pos hi]
   exact⟨g,n,v,t,g1,h1,hk⟩
  |false=>
   rw[mS hi]at h1
   dsimp only
   rw[if_neg (by rw[hi]; simp)]
   cases hp:Pr fn with
   |some pr=>
    simp only[hp]at h1 ⊢
    exact⟨_,h1,hk⟩
   |none=>
    simp only[hp]at h1 ⊢
    split at h1<;>first|(cases h1; done)|skip
    rename_i ps a hl
    split at h1<;>first|(cases h1; done)|skip
    rename_i rs hrs
    cases h1
    exact⟨(ps,a),hl,⟨rs,jz.2 ⟨n,hrs⟩,hk⟩⟩
 .rintro ⟨⟨fn,cap⟩,hf,hc⟩
  unfold CW at hc
  cases hi:pB A fn with
  |true=>
   simp only at hc
   rw[hi,if_pos rfl]at hc
   obtain⟨g,n,v,t,g1,g2,hk⟩:=hc
   obtain⟨g',k1,k2⟩:=qp (Pr:=Pr) hi (exec A Pr n)
   rw[g1]at k1
   cases k1
   refine⟨n,v,t,?_,hk⟩
   simp only[evalOp,hf,k2]
   exact g2
  |false=>
   simp only at hc
   rw[hi,if_neg (by simp)]at hc
   cases hp:Pr fn with
   |some pr=>
    simp only[hp]at hc
    obtain⟨⟨v,t⟩,h1,hk⟩:=hc
    refine⟨0,v,t,?_,hk⟩
    simp only[evalOp,hf,mS hi,hp]
    exact h1
   |none=>
    simp only[hp]at hc
    obtain⟨⟨ps,a⟩,hl,rs,hrs,hk⟩:=hc
    obtain⟨n,hn⟩:=jz.1 hrs
    refine⟨n,_,_,?_,hk⟩
    simp only[evalOp,hf,mS hi,hp,hl,hn]
@[go_sem] theorem TK (s:St) (K:St→Prop):WO A Pr [] s K=K s:=by
 apply propext
 constructor
 .rintro ⟨s',⟨n,hn⟩,hk⟩
  simp only[dH]at hn
  cases hn
  exact hk
 .exact fun hk=>⟨s,gZ.nil s,hk⟩
theorem nW {o:aC} {r:List aC} {s:St} {K:St→Prop}:WO A Pr (o::r) s K=∃n s1 t,bp (cM A (exec A Pr n)) (bD A (exec A Pr n) Pr) (dx A) o s=some (s1,t)∧WO A Pr r s1 K:=by
 apply propext
 constructor
 .rintro ⟨s',⟨n,hn⟩,hk⟩
  simp only[dH]at hn
  split at hn
  .rename_i s1 t h1
   exact⟨n,s1,t,h1,s',⟨n,hn⟩,hk⟩
  .cases hn
 .rintro ⟨n,s1,t,h1,s',h2,hk⟩
  exact⟨s',gZ.cons h1 h2,hk⟩
@[go_sem] theorem GV (d:Option Nat) (q:dL) (r:List aC) (env:List (Nat×V)) (h:aa) (K:St→Prop):WO A Pr (⟨d,q,none⟩::r) ⟨env,h⟩ K=WE A Pr env h q fun v t=>WO A Pr r ⟨put env d v,t.apply h⟩ K:=by
 rw[nW]
 apply propext
 constructor
 .rintro ⟨n,s1,t,h1,hk⟩
  simp only[bp,wanted]at h1
  split at h1
  .rename_i v t' he
   cases h1
   exact⟨n,v,t,he,hk⟩
  .cases h1
 .rintro ⟨n,v,t,he,hk⟩
  exact⟨n,_,t,by simp only[bp,wanted,he],hk⟩
def bare (t:Nat) (b:Bool):List aC→List aC
 |[]=>[]
 |o::r=>if o.guard=some (t,b)∧o.dst≠some t then ⟨o.dst,o.op,none⟩::bare t b r else o::r
def qM (t:Nat) (b:Bool):List aC→List (Nat×V)→List (Nat×V)×List aC
 |[],env=>(env,[])
 |o::r,env=>if o.guard=some (t,b)∧o.dst≠some t then qM t b r (put env o.dst (.dy [])) else (env,o::r)
theorem Ek {env:List (Nat×V)} {d:Option Nat} {v:V} {t:Nat} (h:d≠some t):get (put env d v) t=get env t:=by
 cases d with
 |none=>rfl
 |some d=>
  simp only[put,get,aE]
  rw[if_neg (by intro he; exact h (by rw[he]))]
theorem wanted_put {env:List (Nat×V)} {d:Option Nat} {v:V} {t:Nat} {b:Bool} (h:d≠some t):wanted (put env d v) (some (t,b))=wanted env (some (t,b)):=by
 simp only[wanted,Ek h]
theorem wj {t:Nat} {b:Bool}:∀(l:List aC) (s:St) (K:St→Prop),wanted s.env (some (t,b))=some true→WO A Pr l s K=WO A Pr (bare t b l) s K
 |[],s,K,_=>rfl
 |o::r,s,K,he=>by
  by_cases hg:o.guard=some (t,b)∧o.dst≠some t
  .rw[show bare t b (o::r)=⟨o.dst,o.op,none⟩::bare t b r from if_pos hg]
   obtain⟨env,h⟩:=s
   rw[nW,nW]
   have:∀n,bp (cM A (exec A Pr n)) (bD A (exec A Pr n) Pr) (dx A) o ⟨env,h⟩=bp (cM A (exec A Pr n)) (bD A (exec A Pr n) Pr) (dx A) ⟨o.dst,o.op,none⟩ ⟨env,h⟩:=by
    intro n
    have e1:wanted env o.guard=some true:=by rw[hg.1]; exact he
    have e2:wanted env (none:Option (Nat×Bool))=some true:=rfl
    simp only[bp,e1,e2]
   simp only[this]
   apply propext
   have hr:∀n s1 tn,bp (cM A (exec A Pr n)) (bD A (exec A Pr n) Pr) (dx A) ⟨o.dst,o.op,none⟩ ⟨env,h⟩=some (s1,tn)→wanted s1.env (some (t,b))=some true:=by
    intro n s1 tn h1
    have e2:wanted env (none:Option (Nat×Bool))=some true:=rfl
    simp only[bp,e2]at h1
    split at h1
    .cases h1
     exact(wanted_put hg.2).trans he
    .cases h1
   constructor
   .rintro ⟨n,s1,tn,h1,hk⟩
    exact⟨n,s1,tn,h1,by rw[← wj r s1 K (hr _ _ _ h1)]; exact hk⟩
   .rintro ⟨n,s1,tn,h1,hk⟩
    exact⟨n,s1,tn,h1,by rw[wj r s1 K (hr _ _ _ h1)]; exact hk⟩
  .rw[show bare t b (o::r)=o::r from if_neg hg]
theorem By {t:Nat} {b:Bool}:∀(l:List aC) (env:List (Nat×V)) (h:aa) (K:St→Prop),wanted env (some (t,b))=some false→WO A Pr l ⟨env,h⟩ K=WO A Pr (qM t b l env).2 ⟨(qM t b l env).1,h⟩ K
 |[],env,h,K,_=>rfl
 |o::r,env,h,K,he=>by
  by_cases hg:o.guard=some (t,b)∧o.dst≠some t
  .rw[show qM t b (o::r) env=qM t b r (put env o.dst (.dy [])) from if_pos hg]
   rw[nW,← By r (put env o.dst (.dy [])) h K ((wanted_put hg.2).trans he)]
   have:∀n,bp (cM A (exec A Pr n)) (bD A (exec A Pr n) Pr) (dx A) o ⟨env,h⟩=some (⟨put env o.dst (.dy []),h⟩,{}):=by
    intro n
    have e1:wanted env o.guard=some false:=by rw[hg.1]; exact he
    simp only[bp,e1]
   simp only[this]
   apply propext
   constructor
   .rintro ⟨n,s1,tn,h1,hk⟩
    cases h1
    exact hk
   .exact fun hk=>⟨0,_,_,rfl,hk⟩
  .rw[show qM t b (o::r) env=(env,o::r) from if_neg hg]
def PJ (v:V) (b:Bool) (X Y:Prop) (_t:nU (X∧Y):=.mk):Prop:=
 match v with
 |.pv (.bool c)=>Br (c==b) X Y
 |.dy _=>Y
 |_=>False
@[go_sem] theorem El (c b:Bool) (X Y:Prop):PJ (.pv (.bool c)) b X Y=Br (c==b) X Y:=rfl
@[go_sem] theorem GW (l:List V) (b:Bool) (X Y:Prop):PJ (.dy l) b X Y=Y:=rfl
theorem Bz {env:List (Nat×V)} {t:Nat} {b:Bool} {X Y Z:Prop} (h0:Z→∃c,wanted env (some (t,b))=some c) (h1:wanted env (some (t,b))=some true→Z=X) (h2:wanted env (some (t,b))=some false→Z=Y):Z=PJ (get env t) b X Y:=by
 simp only[wanted]at h0 h1 h2
 apply propext
 cases hv:get env t with
 |pv p=>
  cases p with
  |bool c=>
   simp only[hv,Option.some.injEq]at h1 h2
   rw[El]
   cases hcb:(c==b)with
   |true=>rw[ri,h1 hcb]
   |false=>rw[nV,h2 hcb]
  |_=>
   simp only[hv]at h0
   exact⟨fun hz=>(h0 hz).elim (fun _ h=>by cases h),fun h=>h.elim⟩
 |dy l=>
  simp only[hv]at h2
  rw[GW,h2 trivial]
 |_=>
  simp only[hv]at h0
  exact⟨fun hz=>(h0 hz).elim (fun _ h=>by cases h),fun h=>h.elim⟩
def WB (A:Nat→Option ae) (Pr:bm) (t:Nat) (b:Bool) (l:List aC) (s:St) (K:St→Prop) (_t:nU (l,K):=.mk):Prop:=WO A Pr (bare t b l) s K
def WN (A:Nat→Option ae) (Pr:bm) (t:Nat) (b:Bool) (l:List aC) (s:St) (K:St→Prop) (_t:nU (l,K):=.mk):Prop:=WO A Pr (qM t b l s.env).2 ⟨(qM t b l s.env).1,s.h⟩ K
def mh (t:Nat):Option Nat→Bool
 |some d=>!(d==t)
 |none=>true
@[go_sem] theorem Nu (t d:Nat):mh t (some d)=!(d==t):=rfl
@[go_sem] theorem Nv (t:Nat):mh t none=true:=rfl
theorem jA {t:Nat} {d:Option Nat}:mh t d=true↔d≠some t:=by
 cases d<;>simp[mh]
@[congr] theorem PK {t:Nat} {b:Bool} {l:List aC} {s s':St} {K:St→Prop} (h:s=s'):WB A Pr t b l s K=WB A Pr t b l s' K:=by rw[h]
@[congr] theorem PL {t:Nat} {b:Bool} {l:List aC} {s s':St} {K:St→Prop} (h:s=s'):WN A Pr t b l s K=WN A Pr t b l s' K:=by rw[h]
@[go_sem] theorem Sz (t:Nat) (b:Bool) (d:Option Nat) (q:dL) (r:List aC) (s:St) (K:St→Prop):WB A Pr t b (⟨d,q,none⟩::r) s K=WO A Pr (⟨d,q,none⟩::r) s K:=by
 simp[WB,bare]
@[go_sem] theorem SA (t:Nat) (b:Bool) (d:Option Nat) (q:dL) (r:List aC) (s:St) (K:St→Prop):WN A Pr t b (⟨d,q,none⟩::r) s K=WO A Pr (⟨d,q,none⟩::r) s K:=by
 simp[WN,qM]
@[go_sem] theorem SB (t:Nat) (b:Bool) (d:Option Nat) (q:dL) (t':Nat) (b':Bool) (r:List aC) (env:List (Nat×V)) (h:aa) (K:St→Prop):WB A Pr t b (⟨d,q,some (t',b')⟩::r) ⟨env,h⟩ K=Br (t'==t&&b'==b&&mh t d) (WE A Pr env h q fun v tn=>WB A Pr t b r ⟨put env d v,tn.apply h⟩ K) (WO A Pr (⟨d,q,some (t',b')⟩::r) ⟨env,h⟩ K):=by
 by_cases hc:t'=t∧b'=b∧d≠some t
 .obtain⟨rfl,rfl,hd⟩:=hc
  rw[show (t'==t'&&b'==b'&&mh t' d)=true by simp[jA.2 hd],ri]
  unfold WB
  rw[← GV,show bare t' b' (⟨d,q,some (t',b')⟩::r)=⟨d,q,none⟩::bare t' b' r from if_pos ⟨rfl,hd⟩]
 .rw[show (t'==t&&b'==b&&mh t d)=false by
   cases hx:(t'==t&&b'==b&&mh t d)with
   |false=>rfl
   |true=>
    simp only[Bool.and_eq_true,beq_iff_eq]at hx
    exact(hc ⟨hx.1.1,hx.1.2,jA.1 hx.2⟩).elim,nV]
  have:¬(some (t',b')=some (t,b)∧d≠some t):=fun⟨h1,h2⟩=>hc ⟨by cases h1; rfl,by cases h1; rfl,h2⟩
  unfold WB
  rw[show bare t b (⟨d,q,some (t',b')⟩::r)=⟨d,q,some (t',b')⟩::r from if_neg this]
@[go_sem] theorem SC (t:Nat) (b:Bool) (d:Option Nat) (q:dL) (t':Nat) (b':Bool) (r:List aC) (env:List (Nat×V)) (h:aa) (K:St→Prop):WN A Pr t b (⟨d,q,some (t',b')⟩::r) ⟨env,h⟩ K=Br (t'==t&&b'==b&&mh t d) (WN A Pr t b r ⟨put env d (.dy []),h⟩ K) (WO A Pr (⟨d,q,some (t',b')⟩::r) ⟨env,h⟩ K):=by
 by_cases hc:t'=t∧b'=b∧d≠some t
 .obtain⟨rfl,rfl,hd⟩:=hc
  rw[show (t'==t'&&b'==b'&&mh t' d)=true by simp[jA.2 hd],ri]
  unfold WN
  dsimp only
  rw[show qM t' b' (⟨d,q,some (t',b')⟩::r) env=qM t' b' r (put env d (.dy [])) from if_pos ⟨rfl,hd⟩]
 .rw[show (t'==t&&b'==b&&mh t d)=false by
   cases hx:(t'==t&&b'==b&&mh t d)with
   |false=>rfl
   |true=>
    simp only[Bool.and_eq_true,beq_iff_eq]at hx
    exact(hc ⟨hx.1.1,hx.1.2,jA.1 hx.2⟩).elim,nV]
  have:¬(some (t',b')=some (t,b)∧d≠some t):=fun⟨h1,h2⟩=>hc ⟨by cases h1; rfl,by cases h1; rfl,h2⟩
  unfold WN
  dsimp only
  rw[show qM t b (⟨d,q,some (t',b')⟩::r) env=(env,⟨d,q,some (t',b')⟩::r) from if_neg this]
@[go_sem] theorem PM (d:Option Nat) (q:dL) (t:Nat) (b:Bool) (r:List aC) (env:List (Nat×V)) (h:aa) (K:St→Prop):WO A Pr (⟨d,q,some (t,b)⟩::r) ⟨env,h⟩ K=PJ (get env t) b (WB A Pr t b (⟨d,q,some (t,b)⟩::r) ⟨env,h⟩ K) (WN A Pr t b (⟨d,q,some (t,b)⟩::r) ⟨env,h⟩ K):=by
 refine Bz (fun hw=>?_) (fun hw=>wj _ ⟨env,h⟩ K hw) (fun hw=>By _ env h K hw)
 rw[nW]at hw
 obtain⟨n,s1,tn,h1,_⟩:=hw
 cases hx:wanted env (some (t,b))with
 |none=>simp only[bp,hx]at h1; cases h1
 |some c=>exact⟨c,rfl⟩
@[go_sem] theorem TL (done:List Tn) (s:St) (K:St→Prop):WD A Pr [] done s K=K s:=by
 apply propext
 constructor
 .rintro ⟨s',⟨n,hn⟩,hk⟩
  simp only[cx]at hn
  cases hn
  exact hk
 .exact fun hk=>⟨s,fF.nil done s,hk⟩
theorem nX {o:aC} {un:List Nat} {r:List (aC×List Nat)} {done:List Tn} {s:St} {K:St→Prop}:WD A Pr ((o,un)::r) done s K=∃n s1 t,bp (cM A (exec A Pr n)) (bD A (exec A Pr n) Pr) (dx A) o s=some (s1,t)∧dZ un t done=true∧WD A Pr r (done++[t]) s1 K:=by
 apply propext
 constructor
 .rintro ⟨s',⟨n,hn⟩,hk⟩
  simp only[cx]at hn
  split at hn
  .rename_i s1 t h1
   split at hn
   .rename_i hh
    exact⟨n,s1,t,h1,hh,s',⟨n,hn⟩,hk⟩
   .cases hn
  .cases hn
 .rintro ⟨n,s1,t,h1,hh,s',h2,hk⟩
  exact⟨s',fF.cons h1 hh h2,hk⟩
def held (un:List Nat) (t:Tn) (done:List Tn) (X:Prop) (_t:nU X:=.mk):Prop:=dZ un t done=true∧X
@[congr] theorem JC {un:List Nat} {t t':Tn} {done done':List Tn} {X:Prop} (h:t=t') (h':done=done'):held un t done X=held un t' done' X:=by rw[h,h']
@[go_sem] theorem PN (t:Tn) (done:List Tn) (X:Prop):held [] t done X=X:=by simp[held,dZ]
@[go_sem] theorem GX (d:Option Nat) (q:dL) (un:List Nat) (r:List (aC×List Nat)) (done:List Tn) (env:List (Nat×V)) (h:aa) (K:St→Prop):WD A Pr ((⟨d,q,none⟩,un)::r) done ⟨env,h⟩ K=WE A Pr env h q fun v t=>held un t done (WD A Pr r (done++[t]) ⟨put env d v,t.apply h⟩ K):=by
 rw[nX]
 apply propext
 constructor
 .rintro ⟨n,s1,t,h1,hh,hk⟩
  simp only[bp,wanted]at h1
  split at h1
  .rename_i v t' he
   cases h1
   exact⟨n,v,t,he,hh,hk⟩
  .cases h1
 .rintro ⟨n,v,t,he,hh,hk⟩
  exact⟨n,_,t,by simp only[bp,wanted,he],hh,hk⟩
def mr (t:Nat) (b:Bool):List (aC×List Nat)→List (aC×List Nat)
 |[]=>[]
 |(o,un)::r=>if o.guard=some (t,b)∧o.dst≠some t then (⟨o.dst,o.op,none⟩,un)::mr t b r else (o,un)::r
theorem wk {t:Nat} {b:Bool}:∀(l:List (aC×List Nat)) (done:List Tn) (s:St) (K:St→Prop),wanted s.env (some (t,b))=some true→WD A Pr l done s K=WD A Pr (mr t b l) done s K
 |[],_,s,K,_=>rfl
 |(o,un)::r,done,s,K,he=>by
  by_cases hg:o.guard=some (t,b)∧o.dst≠some t
  .rw[show mr t b ((o,un)::r)=(⟨o.dst,o.op,none⟩,un)::mr t b r from if_pos hg]
   obtain⟨env,h⟩:=s
   rw[nX,nX]
   have:∀n,bp (cM A (exec A Pr n)) (bD A (exec A Pr n) Pr) (dx A) o ⟨env,h⟩=bp (cM A (exec A Pr n)) (bD A (exec A Pr n) Pr) (dx A) ⟨o.dst,o.op,none⟩ ⟨env,h⟩:=by
    intro n
    have e1:wanted env o.guard=some true:=by rw[hg.1]; exact he
    have e2:wanted env (none:Option (Nat×Bool))=some true:=rfl
    simp only[bp,e1,e2]
   simp only[this]
   apply propext
   have hr:∀n s1 tn,bp (cM A (exec A Pr n)) (bD A (exec A Pr n) Pr) (dx A) ⟨o.dst,o.op,none⟩ ⟨env,h⟩=some (s1,tn)→wanted s1.env (some (t,b))=some true:=by
    intro n s1 tn h1
    have e2:wanted env (none:Option (Nat×Bool))=some true:=rfl
    simp only[bp,e2]at h1
    split at h1
    .cases h1
     exact(wanted_put hg.2).trans he
    .cases h1
   constructor
   .rintro ⟨n,s1,tn,h1,hh,hk⟩
    exact⟨n,s1,tn,h1,hh,by rw[← wk r _ s1 K (hr _ _ _ h1)]; exact hk⟩
   .rintro ⟨n,s1,tn,h1,hh,hk⟩
    exact⟨n,s1,tn,h1,hh,by rw[wk r _ s1 K (hr _ _ _ h1)]; exact hk⟩
  .rw[show mr t b ((o,un)::r)=(o,un)::r from if_neg hg]
theorem Em {o:aC} {un:List Nat} {r:List (aC×List Nat)} {done:List Tn} {env:List (Nat×V)} {h:aa} {K:St→Prop} (he:wanted env o.guard=some false):WD A Pr ((o,un)::r) done ⟨env,h⟩ K=held un ({}:Tn) done (WD A Pr r (done++[({}:Tn)]) ⟨put env o.dst (.dy []),h⟩ K):=by
 rw[nX]
 have:∀n,bp (cM A (exec A Pr n)) (bD A (exec A Pr n) Pr) (dx A) o ⟨env,h⟩=some (⟨put env o.dst (.dy []),h⟩,{}):=by
  intro n
  simp only[bp,he]
 simp only[this]
 apply propext
 constructor
 .rintro ⟨n,s1,tn,h1,hh,hk⟩
  cases h1
  exact⟨hh,hk⟩
 .rintro ⟨hh,hk⟩
  exact⟨0,_,_,rfl,hh,hk⟩
def GY (A:Nat→Option ae) (Pr:bm) (t:Nat) (b:Bool) (l:List (aC×List Nat)) (done:List Tn) (s:St) (K:St→Prop) (_t:nU (l,K):=.mk):Prop:=WD A Pr (mr t b l) done s K
@[congr] theorem Nw {t:Nat} {b:Bool} {l:List (aC×List Nat)} {done done':List Tn} {s s':St} {K:St→Prop} (h':done=done') (h:s=s'):GY A Pr t b l done s K=GY A Pr t b l done' s' K:=by rw[h,h']
@[go_sem] theorem PO (t:Nat) (b:Bool) (d:Option Nat) (q:dL) (un:List Nat) (r:List (aC×List Nat)) (done:List Tn) (s:St) (K:St→Prop):GY A Pr t b ((⟨d,q,none⟩,un)::r) done s K=WD A Pr ((⟨d,q,none⟩,un)::r) done s K:=by
 simp[GY,mr]
@[go_sem] theorem PQ (t:Nat) (b:Bool) (d:Option Nat) (q:dL) (t':Nat) (b':Bool) (un:List Nat) (r:List (aC×List Nat)) (done:List Tn) (env:List (Nat×V)) (h:aa) (K:St→Prop):GY A Pr t b ((⟨d,q,some (t',b')⟩,un)::r) done ⟨env,h⟩ K=Br (t'==t&&b'==b&&mh t d) (WE A Pr env h q fun v tn=>held un tn done (GY A Pr t b r (done++[tn]) ⟨put env d v,tn.apply h⟩ K)) (WD A Pr ((⟨d,q,some (t',b')⟩,un)::r) done ⟨env,h⟩ K):=by
 by_cases hc:t'=t∧b'=b∧d≠some t
 .obtain⟨rfl,rfl,hd⟩:=hc
  rw[show (t'==t'&&b'==b'&&mh t' d)=true by simp[jA.2 hd],ri]
  unfold GY
  rw[← GX,show mr t' b' ((⟨d,q,some (t',b')⟩,un)::r)=(⟨d,q,none⟩,un)::mr t' b' r from if_pos ⟨rfl,hd⟩]
 .rw[show (t'==t&&b'==b&&mh t d)=false by
   cases hx:(t'==t&&b'==b&&mh t d)with
   |false=>rfl
   |true=>
    simp only[Bool.and_eq_true,beq_iff_eq]at hx
    exact(hc ⟨hx.1.1,hx.1.2,jA.1 hx.2⟩).elim,nV]
  have:¬(some (t',b')=some (t,b)∧d≠some t):=fun⟨h1,h2⟩=>hc ⟨by cases h1; rfl,by cases h1; rfl,h2⟩
  unfold GY
  rw[show mr t b ((⟨d,q,some (t',b')⟩,un)::r)=(⟨d,q,some (t',b')⟩,un)::r from if_neg this]
@[go_sem] theorem PR (d:Option Nat) (q:dL) (t:Nat) (b:Bool) (un:List Nat) (r:List (aC×List Nat)) (done:List Tn) (env:List (Nat×V)) (h:aa) (K:St→Prop):WD A Pr ((⟨d,q,some (t,b)⟩,un)::r) done ⟨env,h⟩ K=PJ (get env t) b (GY A Pr t b ((⟨d,q,some (t,b)⟩,un)::r) done ⟨env,h⟩ K) (held un ({}:Tn) done (WD A Pr r (done++[({}:Tn)]) ⟨put env d (.dy []),h⟩ K)):=by
 refine Bz (fun hw=>?_) (fun hw=>wk _ done ⟨env,h⟩ K hw) (fun hw=>Em hw)
 rw[nX]at hw
 obtain⟨n,s1,tn,h1,_⟩:=hw
 cases hx:wanted env (some (t,b))with
 |none=>simp only[bp,hx]at h1; cases h1
 |some c=>exact⟨c,rfl⟩
def JD {α:Type} (S:α→St) (P:α→Prop) (m:α→Nat) (x:α) (Q:Ex→St→Prop) (_t:nU (S,P,m,x,Q):=.mk):Ex→St→Prop
 |.normal,s=>∃y,P y∧m y<m x∧s=S y
 |.exit i,s=>Q (.exit i) s
 |.ret,s=>Q .ret s
@[go_sem] theorem Ny {α:Type} (S:α→St) (P:α→Prop) (m:α→Nat) (x:α) (Q:Ex→St→Prop) (i:Nat) (s:St):JD S P m x Q .mk (.exit i) s=Q (.exit i) s:=rfl
@[go_sem] theorem PS {α:Type} (S:α→St) (P:α→Prop) (m:α→Nat) (x:α) (Q:Ex→St→Prop) (s:St):JD S P m x Q .mk .ret s=Q .ret s:=rfl
theorem W.loop {α:Type} {a:AC} {s:St} {Q:Ex→St→Prop} (S:α→St) (P:α→Prop) (m:α→Nat) (x0:α) (hs:s=S x0) (h0:P x0) (hr:∀x,P x→W A Pr a (S x) (JD S P m x Q)):W A Pr (.loop a) s Q:=by
 subst hs
 have key:∀n x,m x≤n→P x→W A Pr (.loop a) (S x) Q:=by
  intro n
  induction n with
  |zero=>
   intro x hm hp
   obtain⟨ex,s',h1,h2⟩:=hr x hp
   cases ex with
   |normal=>obtain⟨y,_,h3,_⟩:=h2; omega
   |exit i=>exact⟨_,_,cc.gz h1 (by simp),h2⟩
   |ret=>exact⟨_,_,cc.gz h1 (by simp),h2⟩
  |succ n ih=>
   intro x hm hp
   obtain⟨ex,s',h1,h2⟩:=hr x hp
   cases ex with
   |normal=>
    obtain⟨y,hy,h3,rfl⟩:=h2
    obtain⟨e2,s2,h4,h5⟩:=ih y (by omega) hy
    exact⟨e2,s2,cc.uH h1 h4,h5⟩
   |exit i=>exact⟨_,_,cc.gz h1 (by simp),h2⟩
   |ret=>exact⟨_,_,cc.gz h1 (by simp),h2⟩
 exact key _ x0 (Wj _) h0
def xV (S:Nat→St) (P:Nat→Prop) (n k:Nat) (Q:Ex→St→Prop) (_t:nU (S,P,n,k,Q):=.mk):Ex→St→Prop
 |.normal,s=>k<n∧s=S (k+1)∧P (k+1)
 |.exit i,s=>Q (.exit i) s
 |.ret,s=>Q .ret s
@[go_sem] theorem JE (S:Nat→St) (P:Nat→Prop) (n k:Nat) (Q:Ex→St→Prop) (i:Nat) (s:St):xV S P n k Q .mk (.exit i) s=Q (.exit i) s:=rfl
@[go_sem] theorem Nz (S:Nat→St) (P:Nat→Prop) (n k:Nat) (Q:Ex→St→Prop) (s:St):xV S P n k Q .mk .ret s=Q .ret s:=rfl
theorem xV.of {S:Nat→St} {P:Nat→Prop} {n k:Nat} {Q:Ex→St→Prop} {s:St} (h1:k<n) (h2:s=S (k+1)) (h3:P (k+1)):xV S P n k Q .mk .normal s:=⟨h1,h2,h3⟩
theorem W.fv {a:AC} {s:St} {Q:Ex→St→Prop} (n:Nat) (S:Nat→St) (P:Nat→Prop) (hs:s=S 0) (h0:P 0) (hr:∀k,k≤n→P k→W A Pr a (S k) (xV S P n k Q)):W A Pr (.loop a) s Q:=by
 refine W.loop S (fun k=>k≤n∧P k) (fun k=>n - k) 0 hs ⟨WA _,h0⟩ fun k hk=>?_
 obtain⟨ex,s',h1,h2⟩:=hr k hk.1 hk.2
 refine⟨ex,s',h1,?_⟩
 cases ex with
 |normal=>
  obtain⟨g1,g2,g3⟩:=h2
  exact⟨k+1,⟨g1,g3⟩,by show n - (k+1)<n - k; omega,g2⟩
 |exit i=>exact h2
 |ret=>exact h2
def jr (s:St) (rs:List nq) (fresh:Bool):Option (List PV):=
 (ay (cL s) rs).bind fun vs=>if !fresh||distinct (dT vs) then ay (keep s.h fresh) vs else none
theorem xW (fn:ae) (s:St):leave fn s=jr s fn.results fn.fresh:=by
 simp only[leave,jr]
 cases ay (cL s) fn.results<;>rfl
def GZ (l:List nq) (fresh:Bool) (rs:List PV) (_t:nU (l,fresh,rs):=.mk):Ex→St→Prop
 |.normal,s=>jr s l fresh=some rs
 |.ret,s=>jr s l fresh=some rs
 |.exit _,_=>False
@[go_sem] theorem IB (l:List nq) (fresh:Bool) (rs:List PV) (s:St):GZ l fresh rs .mk .normal s=(jr s l fresh=some rs):=rfl
@[go_sem] theorem PT (l:List nq) (fresh:Bool) (rs:List PV) (s:St):GZ l fresh rs .mk .ret s=(jr s l fresh=some rs):=rfl
theorem fV.VE {f:Nat} {fn:ae} {ps rs:List PV} (hf:A f=some fn) (hl:ps.length=fn.oU) (ha:oX fn.take ps=true) (hw:W A Pr fn.body ⟨entry 0 ps,cA ps⟩ (GZ fn.results fn.fresh rs)):fV A Pr f ps rs:=by
 obtain⟨ex,s',h,hq⟩:=hw
 cases ex with
 |normal=>exact fV.of hf hl ha h (.inl rfl) ((xW fn s').trans hq)
 |ret=>exact fV.of hf hl ha h (.inr rfl) ((xW fn s').trans hq)
 |exit i=>exact hq.elim
theorem aw {f:Nat} {fn:ae} {ps rs:List PV} (hf:A f=some fn) (hl:ps.length=fn.oU) (ha:oX fn.take ps=true) (hw:W A Pr fn.body ⟨entry 0 ps,cA ps⟩ (GZ fn.results fn.fresh rs)):res A Pr f ps=some rs:=
 jz.2 (fV.VE hf hl ha hw)
end Go.Pv
namespace Go.Pv
variable {A:Nat→Option ae} {Pr:bm}
@[congr] theorem SD {c:AC} {s s':St} {Q:Ex→St→Prop} (h:s=s'):W A Pr c s Q=W A Pr c s' Q:=by rw[h]
@[congr] theorem PU {l:List aC} {s s':St} {K:St→Prop} (h:s=s'):WO A Pr l s K=WO A Pr l s' K:=by rw[h]
@[congr] theorem PW {l:List (aC×List Nat)} {d d':List Tn} {s s':St} {K:St→Prop} (h':d=d') (h:s=s'):WD A Pr l d s K=WD A Pr l d' s' K:=by rw[h,h']
@[congr] theorem PX {fn:Nat} {vs vs':List V} {h h':aa} {K:V→Tn→Prop} (he:vs=vs') (hh:h=h'):CW A Pr fn vs h K=CW A Pr fn vs' h' K:=by rw[he,hh]
def BA {α:Type} (c:Bool) (x y:α) (_t:nU (x,y):=.mk):α:=if c=true then x else y
@[congr] theorem NA {α:Type} {c c':Bool} {x y:α} (h:c=c'):BA c x y=BA c' x y:=by rw[h]
@[go_sem] theorem PY {α:Type} (x y:α):BA true x y=x:=rfl
@[go_sem] theorem NB {α:Type} (x y:α):BA false x y=y:=by simp[BA]
theorem z8 {α:Type} (s t:Nat) (x y:α):BA (s==t) x y=if s=t then x else y:=by simp[BA]
@[go_sem] theorem PZ (env:List (Nat×V)) (t:Nat):bk env (.tmp t)=get env t:=rfl
@[go_sem] theorem P0 (env:List (Nat×V)) (v:V):bk env (.val v)=v:=rfl
@[go_sem] theorem P1 (s:Nat) (x:V) (r:List (Nat×V)) (t:Nat):get ((s,x)::r) t=BA (s==t) x (get r t):=by
 simp only[get,aE,z8]
 split<;>rfl
@[go_sem] theorem get_nil (t:Nat):get [] t=.any:=rfl
@[go_sem] theorem P2 (env:List (Nat×V)) (d:Nat) (v:V):put env (some d) v=(d,v)::env:=rfl
@[go_sem] theorem P3 (env:List (Nat×V)) (v:V):put env none v=env:=rfl
@[go_sem] theorem JF {α:Type} (s:Nat) (x:α) (r:List (Nat×α)) (t:Nat):aE t ((s,x)::r)=BA (s==t) (some x) (aE t r):=by rw[z8]; rfl
@[go_sem] theorem NC {α:Type} (t:Nat):aE t ([]:List (Nat×α))=none:=rfl
@[go_sem] theorem ND (s:Nat) (c:List V):dM s c []=[(s,c)]:=rfl
@[go_sem] theorem JG (s:Nat) (c:List V) (s':Nat) (c':List V) (r:List (Nat×List V)):dM s c ((s',c')::r)=BA (s'==s) ((s,c)::r) ((s',c')::dM s c r):=by rw[z8]; rfl
@[go_sem] theorem SE (kt kb:List Nat) (env:List (Nat×V)) (bx:List (Nat×List V)) (ar:List aL) (mp:List (List (PV×PV))):St.mask kt kb ⟨env,⟨bx,ar,mp⟩⟩=⟨gW kt kb env,⟨gJ kb bx,ar,mp⟩⟩:=rfl
@[go_sem] theorem G0 (t:Nat) (kt kb:List Nat) (env:List (Nat×V)):gW (t::kt) kb env=(t,dN kb (get env t))::gW kt kb env:=rfl
@[go_sem] theorem IC (kb:List Nat) (env:List (Nat×V)):gW [] kb env=[]:=rfl
def En (s:Nat) (o:Option (List V)) (r:List (Nat×List V)):List (Nat×List V):=
 match o with
 |some c=>(s,c)::r
 |none=>r
@[go_sem] theorem JH (s:Nat) (c:List V) (r:List (Nat×List V)):En s (some c) r=(s,c)::r:=rfl
@[go_sem] theorem JI (s:Nat) (r:List (Nat×List V)):En s none r=r:=rfl
@[go_sem] theorem ID (s:Nat) (kb:List Nat) (bx:List (Nat×List V)):gJ (s::kb) bx=En s (aE s bx) (gJ kb bx):=by
 simp only[gJ]
 split<;>rename_i h<;>rw[h]<;>rfl
@[go_sem] theorem JJ (bx:List (Nat×List V)):gJ [] bx=pins bx:=rfl
@[go_sem] theorem P4:pins []=[]:=rfl
@[go_sem] theorem NF (s:Nat) (cs:List V) (r:List (Nat×List V)):pins ((s,cs)::r)=BA (dE s) ((s,cs)::pins r) (pins r):=rfl
@[go_sem] theorem P5 {s:Nat} (h:s<100000):dE s=false:=by
 unfold dE
 rw[Xz]
 intro hh
 rw[Nat.ble_eq]at hh
 omega
@[go_sem] theorem P6 {s:Nat} (h:100000≤s):dE s=true:=by
 unfold dE
 rw[Nat.ble_eq]
 exact h
@[go_sem] theorem P7 (kb:List Nat) (p:PV):dN kb (.pv p)=.pv p:=rfl
@[go_sem] theorem P8 (kb:List Nat) (r:List (List PV)):dN kb (.tl r)=.tl r:=rfl
@[go_sem] theorem NG (kb:List Nat) (a b c d:Nat):dN kb (.own a b c d)=.own a b c d:=rfl
@[go_sem] theorem JK (kb:List Nat) (a b c d:Nat):dN kb (.du a b c d)=.du a b c d:=rfl
@[go_sem] theorem NH (kb:List Nat) (i:Nat):dN kb (.map i)=.map i:=rfl
@[go_sem] theorem JL (kb:List Nat):dN kb .dR=.dR:=rfl
@[go_sem] theorem NI (kb:List Nat):dN kb .any=.any:=rfl
@[go_sem] theorem NJ (kb:List Nat) (vs:List V):dN kb (.dy vs)=.any:=rfl
@[go_sem] theorem NK (kb:List Nat) (s o:Nat):dN kb (.ptr s o)=BA (kb.contains s||dE s) (.ptr s o) .any:=rfl
@[go_sem] theorem JM (kb:List Nat) (f:Nat) (cap:List V):dN kb (.func f cap)=BA (cap.all (rA kb)) (.func f cap) .any:=rfl
@[go_sem] theorem NL (kb:List Nat) (cs:List V):dN kb (.agg cs)=BA (cs.all (rA kb)) (.agg cs) .any:=rfl
@[go_sem] theorem TM (kb:List Nat) (p:PV):rA kb (.pv p)=true:=rfl
@[go_sem] theorem TN (kb:List Nat) (r:List (List PV)):rA kb (.tl r)=true:=rfl
@[go_sem] theorem SF (kb:List Nat) (a b c d:Nat):rA kb (.own a b c d)=true:=rfl
@[go_sem] theorem SG (kb:List Nat):rA kb .any=true:=rfl
@[go_sem] theorem SH (kb:List Nat) (i:Nat):rA kb (.map i)=true:=rfl
@[go_sem] theorem P9 (kb:List Nat):rA kb .dR=true:=rfl
@[go_sem] theorem Qa (kb:List Nat) (a b c d:Nat):rA kb (.du a b c d)=true:=rfl
@[go_sem] theorem SI (kb:List Nat) (s o:Nat):rA kb (.ptr s o)=(kb.contains s||dE s):=rfl
@[go_sem] theorem Qb (kb:List Nat) (f:Nat) (cap:List V):rA kb (.func f cap)=cap.isEmpty:=rfl
@[go_sem] theorem JN (new:Bool) (rb ra rm:Option Nat) (eK:Bool) (np:Option Nat) (base:Nat) (h:aa):Tn.apply ⟨none,new,none,[],none,false,rb,ra,rm,eK,np,base,none⟩ h=h:=by
 cases h
 simp[Tn.apply]
@[go_sem] theorem rH (s:Nat) (c:List V) (new:Bool) (rb ra rm:Option Nat) (eK:Bool) (np:Option Nat) (base:Nat) (bx:List (Nat×List V)) (ar:List aL) (mp:List (List (PV×PV))):Tn.apply ⟨some (s,c),new,none,[],none,false,rb,ra,rm,eK,np,base,none⟩ ⟨bx,ar,mp⟩=⟨dM s c bx,ar,mp⟩:=by
 simp[Tn.apply]
@[go_sem] theorem NM (i:Nat) (a:aL) (new:Bool) (rb ra rm:Option Nat) (eK:Bool) (np:Option Nat) (base:Nat) (bx:List (Nat×List V)) (ar:List aL) (mp:List (List (PV×PV))):Tn.apply ⟨none,new,some (i,a),[],none,false,rb,ra,rm,eK,np,base,none⟩ ⟨bx,ar,mp⟩=⟨bx,ar.set i a,mp⟩:=by
 simp[Tn.apply]
@[go_sem] theorem iI (x:aL) (l:List aL) (new:Bool) (rb ra rm:Option Nat) (eK:Bool) (np:Option Nat) (base:Nat) (bx:List (Nat×List V)) (ar:List aL) (mp:List (List (PV×PV))):Tn.apply ⟨none,new,none,x::l,none,false,rb,ra,rm,eK,np,base,none⟩ ⟨bx,ar,mp⟩=⟨bx,ar++x::l,mp⟩:=by
 simp[Tn.apply]
@[go_sem] theorem G1 (i:Nat) (a:aL) (x:aL) (l:List aL) (new:Bool) (rb ra rm:Option Nat) (eK:Bool) (np:Option Nat) (base:Nat) (bx:List (Nat×List V)) (ar:List aL) (mp:List (List (PV×PV))):Tn.apply ⟨none,new,some (i,a),x::l,none,false,rb,ra,rm,eK,np,base,none⟩ ⟨bx,ar,mp⟩=⟨bx,ar.set i a++x::l,mp⟩:=by
 simp[Tn.apply]
@[go_sem] theorem xt (i:Nat) (m:List (PV×PV)) (new:Bool) (rb ra rm:Option Nat) (eK:Bool) (np:Option Nat) (base:Nat) (bx:List (Nat×List V)) (ar:List aL) (mp:List (List (PV×PV))):Tn.apply ⟨none,new,none,[],some (i,m),false,rb,ra,rm,eK,np,base,none⟩ ⟨bx,ar,mp⟩=⟨bx,ar,mp.set i m⟩:=by
 simp[Tn.apply]
@[go_sem] theorem IE (new:Bool) (rb ra rm:Option Nat) (eK:Bool) (np:Option Nat) (base:Nat) (bx:List (Nat×List V)) (ar:List aL) (mp:List (List (PV×PV))):Tn.apply ⟨none,new,none,[],none,true,rb,ra,rm,eK,np,base,none⟩ ⟨bx,ar,mp⟩=⟨bx,ar,mp++[[]]⟩:=by
 simp[Tn.apply]
@[go_sem] theorem NN (ob:Option (Nat×List V)) (new:Bool) (oa:Option (Nat×aL)) (l:List aL) (om:Option (Nat×List (PV×PV))) (pm:Bool) (rb ra rm:Option Nat) (eK:Bool) (np:Option Nat) (base:Nat) (bs:List (Nat×List V)) (ar:List aL) (mp:List (List (PV×PV))) (h:aa):Tn.apply ⟨ob,new,oa,l,om,pm,rb,ra,rm,eK,np,base,some (bs,ar,mp)⟩ h=⟨eN bs h.bx,ar,mp⟩:=rfl
@[go_sem] theorem JO (bx:List (Nat×List V)):eN [] bx=bx:=rfl
@[go_sem] theorem IF (s:Nat) (cs:List V) (r bx:List (Nat×List V)):eN ((s,cs)::r) bx=eN r (dM s cs bx):=rfl
@[go_sem] theorem TO (env:List (Nat×V)) (h:aa) (x:bJ) (K:V→Tn→Prop):WE A Pr env h (.Pp x) K=K (bk env x) {}:=WE.uniq (n:=0) rfl
@[go_sem] theorem SJ (env:List (Nat×V)) (h:aa) (c a b:bJ) (K:V→Tn→Prop):WE A Pr env h (.pick c a b) K=Bw (bk env c) fun t=>Br t (K (bk env a) {}) (K (bk env b) {}):=by
 rw[bI rfl]
 apply propext
 unfold ev
 constructor
 .rintro ⟨⟨v,t⟩,h1,hk⟩
  simp only[evalOp]at h1
  split at h1
  .rename_i hc
   cases h1
   exact⟨true,hc,hk⟩
  .rename_i hc
   cases h1
   exact⟨false,hc,by simpa [Br]using hk⟩
  .cases h1
 .rintro ⟨t,hc,hb⟩
  cases t with
  |true=>exact⟨(bk env a,{}),by simp only[evalOp,hc],hb⟩
  |false=>exact⟨(bk env b,{}),by simp only[evalOp,hc],by simpa [Br]using hb⟩
def TP (slot:Nat) (h:aa) (X:Prop) (_t:nU X:=.mk):Prop:=aE slot h.bx=none∧X
@[go_sem] theorem SK (slot:Nat) (bx:List (Nat×List V)) (ar:List aL) (mp:List (List (PV×PV))) (X:Prop):TP slot ⟨bx,ar,mp⟩ X=(aE slot bx=none∧X):=rfl
def qN (p:Prop) (X:Prop) (_t:nU X:=.mk):Prop:=p∧X
@[congr] theorem JP {p p' X:Prop} (h:p=p'):qN p X=qN p' X:=by rw[h]
@[go_sem] theorem NO (X:Prop):qN True X=X:=by simp[qN]
@[go_sem] theorem Qc (env:List (Nat×V)) (h:aa) (slot:Nat) (zero:List V) (K:V→Tn→Prop):WE A Pr env h (.alloc slot zero) K=qN ((aE slot h.bx).isNone=true) (K (.ptr slot 0) { bx:=some (slot,zero),new:=true }):=by
 rw[bI rfl]
 apply propext
 unfold ev
 constructor
 .rintro ⟨⟨v,t⟩,h1,hk⟩
  simp only[evalOp]at h1
  split at h1
  .rename_i hc
   cases h1
   exact⟨by rw[hc]; rfl,hk⟩
  .cases h1
 .rintro ⟨hc,hk⟩
  refine⟨(_,_),?_,hk⟩
  simp only[evalOp]
  cases hl:aE slot h.bx with
  |none=>rfl
  |some x=>simp[hl]at hc
@[go_sem] theorem TQ (env:List (Nat×V)) (h:aa) (slot n:Nat) (x:bJ) (K:V→Tn→Prop):WE A Pr env h (.box slot n x) K=qN ((aE slot h.bx).isNone=true∧(bk env x).cells.length=n∧(bk env x).cells.all V.dF=true) (K (.ptr slot 0) { bx:=some (slot,(bk env x).cells),new:=true }):=by
 rw[bI rfl]
 apply propext
 unfold ev
 constructor
 .rintro ⟨⟨v,t⟩,h1,hk⟩
  simp only[evalOp]at h1
  split at h1
  .rename_i hc
   split at h1
   .rename_i h2
    cases h1
    exact⟨⟨by rw[hc]; rfl,h2⟩,hk⟩
   .cases h1
  .cases h1
 .rintro ⟨⟨hc,h2⟩,hk⟩
  refine⟨(_,_),?_,hk⟩
  simp only[evalOp]
  cases hl:aE slot h.bx with
  |none=>simp only; rw[if_pos h2]
  |some x=>simp[hl]at hc
@[go_sem] theorem Qd (env:List (Nat×V)) (h:aa) (zero:List V) (parts:List (Nat×Nat×bJ)) (K:V→Tn→Prop):WE A Pr env h (.build zero parts) K=bM (eA (bk env) zero parts) fun cs=>K (.agg cs) {}:=by
 rw[bI rfl]
 apply propext
 unfold ev
 constructor
 .rintro ⟨⟨v,t⟩,h1,hk⟩
  simp only[evalOp]at h1
  split at h1
  .rename_i cs hc
   cases h1
   exact⟨cs,hc,hk⟩
  .cases h1
 .rintro ⟨cs,hc,hk⟩
  exact⟨(_,_),by simp only[evalOp,hc],hk⟩
def JQ (h:aa) (k len:Nat) (cs:List V):Option (V×Tn):=
 match iu (fN k len cs)with
 |.inl rows=>some (.tl rows,{})
 |.inr rows=>if cs.all V.calm then some (.own h.ar.length 0 0 len,{ push:=[⟨0,k,.inr rows⟩],base:=h.ar.length }) else none
@[go_sem] theorem TR (env:List (Nat×V)) (h:aa) (k:Nat) (zero:List V) (len:Nat) (parts:List (Nat×Nat×bJ)) (K:V→Tn→Prop):WE A Pr env h (.lit k zero len parts) K=bM (eA (bk env) ((List.range (len*k)).map fun i=>zero.getD (i%k) .any) parts) fun cs=>bM (JQ h k len cs) fun r=>K r.1 r.2:=by
 rw[bI rfl]
 apply propext
 unfold ev
 constructor
 .rintro ⟨⟨v,t⟩,h1,hk⟩
  simp only[evalOp]at h1
  split at h1
  .rename_i cs hc
   exact⟨cs,hc,_,h1,hk⟩
  .cases h1
 .rintro ⟨cs,hc,⟨v,t⟩,h1,hk⟩
  exact⟨(v,t),by simp only[evalOp,hc]; exact h1,hk⟩
@[go_sem] theorem SL (env:List (Nat×V)) (h:aa) (n:Nat) (b:Bool) (x:bJ) (K:V→Tn→Prop):WE A Pr env h (.load n b x) K=bM (loadAt h n (bk env x)) fun r=>bM (dY b r.1) fun v=>K v r.2:=by
 rw[bI rfl]
 apply propext
 unfold ev
 constructor
 .rintro ⟨⟨v,t⟩,h1,hk⟩
  simp only[evalOp]at h1
  split at h1
  .rename_i cs tq hc
   split at h1
   .rename_i vq hv
    cases h1
    exact⟨_,hc,_,hv,hk⟩
   .cases h1
  .cases h1
 .rintro ⟨⟨cs,t⟩,hc,v,hv,hk⟩
  exact⟨(v,t),by simp only[evalOp,hc,hv],hk⟩
@[go_sem] theorem Qe (env:List (Nat×V)) (h:aa) (n:Nat) (x v:bJ) (K:V→Tn→Prop):WE A Pr env h (.store n x v) K=qN ((bk env v).cells.length=n) (bM (storeAt h (bk env x) (bk env v).cells) fun t=>K .any t):=by
 rw[bI rfl]
 apply propext
 unfold ev
 constructor
 .rintro ⟨⟨v,t⟩,h1,hk⟩
  simp only[evalOp]at h1
  split at h1
  .rename_i hn
   split at h1
   .rename_i t' ht
    cases h1
    exact⟨hn,_,ht,hk⟩
   .cases h1
  .cases h1
 .rintro ⟨hn,t,ht,hk⟩
  exact⟨(_,t),by simp only[evalOp,hn,ht,if_true],hk⟩
def pC:V→Option V
 |.func f cap=>some (.func f cap)
 |.pv (.func f cap)=>some (.pv (.func f cap))
 |.ptr s o=>some (.ptr s o)
 |.pv (.ro t cs)=>some (.pv (.ro t cs))
 |.du i v r c=>some (.du i v r c)
 |_=>none
theorem gn {α β:Type} (o:Option α) (f:α→β) (K:β→Prop):bM (o.map f) K=bM o fun v=>K (f v):=by
 cases o<;>simp[bM]
@[go_sem] theorem Qf (env:List (Nat×V)) (h:aa) (x:bJ) (K:V→Tn→Prop):WE A Pr env h (.vI x) K=bM (pC (bk env x)) fun v=>K v {}:=by
 rw[bI rfl,← gn _ (fun v=>(v,({}:Tn))) (fun r=>K r.1 r.2)]
 congr 1
 simp only[ev,evalOp]
 cases bk env x with
 |pv p=>cases p<;>rfl
 |_=>rfl
@[go_sem] theorem TS (env:List (Nat×V)) (h:aa) (op:BinOp) (x y:bJ) (K:V→Tn→Prop):WE A Pr env h (.bin op x y) K=bM (cB op (bk env x) (bk env y)) fun v=>K v {}:=by
 rw[bI rfl,← gn _ (fun v=>(v,({}:Tn))) (fun r=>K r.1 r.2)]; rfl
def G2 (ag:Bool) (ks:List Nat) (neg:Bool) (x y:V):Option V:=
 match bu ag x,bu ag y with
 |some a,some b=>match bd ks a b with
  |some r=>some (.pv (.bool (if neg then !r else r)))
  |none=>none
 |_,_=>none
@[go_sem] theorem TT (env:List (Nat×V)) (h:aa) (ag:Bool) (ks:List Nat) (neg:Bool) (x y:bJ) (K:V→Tn→Prop):WE A Pr env h (.Pq ag ks neg x y) K=bM (G2 ag ks neg (bk env x) (bk env y)) fun v=>K v {}:=by
 rw[bI rfl,← gn _ (fun v=>(v,({}:Tn))) (fun r=>K r.1 r.2)]
 congr 1
 simp only[ev,evalOp,G2]
 cases bu ag (bk env x)with
 |none=>rfl
 |some a=>
  cases bu ag (bk env y)with
  |none=>rfl
  |some b=>
   simp only
   cases bd ks a b<;>rfl
@[go_sem] theorem Vs (env:List (Nat×V)) (h:aa) (op:UnOp) (x:bJ) (K:V→Tn→Prop):WE A Pr env h (.un op x) K=bM (Nq op (bk env x)) fun v=>K v {}:=by
 rw[bI rfl,← gn _ (fun v=>(v,({}:Tn))) (fun r=>K r.1 r.2)]; rfl
def IG (k:IntKind):V→Option V
 |.pv (.int _ n)=>some (.pv (.int k (k.wrap n)))
 |_=>none
@[go_sem] theorem NP (k j:IntKind) (n:Int):IG k (.pv (.int j n))=some (.pv (.int k (k.wrap n))):=rfl
@[go_sem] theorem SM (env:List (Nat×V)) (h:aa) (k:IntKind) (x:bJ) (K:V→Tn→Prop):WE A Pr env h (.conv k x) K=bM (IG k (bk env x)) fun v=>K v {}:=by
 rw[bI rfl,← gn _ (fun v=>(v,({}:Tn))) (fun r=>K r.1 r.2)]
 congr 1
 simp only[ev,evalOp]
 cases bk env x with
 |pv p=>cases p<;>rfl
 |_=>rfl
def Aa:V→Option V
 |.pv (.str s)=>some (.pv (.str s))
 |.pv (.int _ n)=>some (.pv (.str (Utf8.encode n)))
 |_=>none
@[go_sem] theorem JR (s:ByteArray):Aa (.pv (.str s))=some (.pv (.str s)):=rfl
@[go_sem] theorem JS (k:IntKind) (n:Int):Aa (.pv (.int k n))=some (.pv (.str (Utf8.encode n))):=rfl
@[go_sem] theorem Qg (env:List (Nat×V)) (h:aa) (x:bJ) (K:V→Tn→Prop):WE A Pr env h (.vJ x) K=bM (Aa (bk env x)) fun v=>K v {}:=by
 rw[bI rfl,← gn _ (fun v=>(v,({}:Tn))) (fun r=>K r.1 r.2)]
 congr 1
 simp only[ev,evalOp]
 cases bk env x with
 |pv p=>cases p<;>rfl
 |_=>rfl
@[go_sem] theorem TU (env:List (Nat×V)) (h:aa) (off:Nat) (x:bJ) (K:V→Tn→Prop):WE A Pr env h (.Sv off x) K=bM (rz off (bk env x)) fun v=>K v {}:=by
 rw[bI rfl,← gn _ (fun v=>(v,({}:Tn))) (fun r=>K r.1 r.2)]; rfl
@[go_sem] theorem TV (env:List (Nat×V)) (h:aa) (k:Nat) (x i:bJ) (K:V→Tn→Prop):WE A Pr env h (.idx k x i) K=bM (oW h k (bk env x) (intOf (bk env i))) fun r=>K r.1 r.2:=by
 rw[bI rfl]; rfl
@[go_sem] theorem SN (env:List (Nat×V)) (h:aa) (len k:Nat) (x i:bJ) (K:V→Tn→Prop):WE A Pr env h (.Gn len k x i) K=bM (cw (intOf (bk env i)) len) fun j=>bM (rz (j*k) (bk env x)) fun v=>K v {}:=by
 rw[bI rfl]
 apply propext
 unfold ev
 constructor
 .rintro ⟨⟨v,t⟩,h1,hk⟩
  simp only[evalOp]at h1
  split at h1
  .rename_i j hj
   obtain⟨vq,hv,he⟩:=Wx.1 h1
   cases he
   exact⟨j,hj,_,hv,hk⟩
  .cases h1
 .rintro ⟨j,hj,v,hv,hk⟩
  exact⟨(v,{}),by simp only[evalOp,hj,hv,Option.map_some],hk⟩
def G3 (i:Option Int):V→Option V
 |.pv (.str s)=>match cw i s.size with
  |some j=>match s[j]? with
   |some b=>some (.pv (.int .u8 b.toNat))
   |none=>none
  |none=>none
 |_=>none
@[go_sem] theorem TW (env:List (Nat×V)) (h:aa) (x i:bJ) (K:V→Tn→Prop):WE A Pr env h (.Sw x i) K=bM (G3 (intOf (bk env i)) (bk env x)) fun v=>K v {}:=by
 rw[bI rfl,← gn _ (fun v=>(v,({}:Tn))) (fun r=>K r.1 r.2)]
 congr 1
 simp only[ev,evalOp]
 cases bk env x with
 |pv p=>
  cases p<;>simp only[G3]<;>first|rfl|skip
  rename_i str
  cases cw (intOf (bk env i)) str.size with
  |none=>rfl
  |some j=>
   simp only
   cases str[j]?<;>rfl
 |_=>rfl
@[go_sem] theorem Vt (env:List (Nat×V)) (h:aa) (k:Nat) (x:bJ) (lo hi mx:Option bJ) (K:V→Tn→Prop):WE A Pr env h (.sl k x lo hi mx) K=bM (di (bk env) h k (bk env x) lo hi mx) fun r=>K r.1 r.2:=by
 rw[bI rfl]; rfl
@[go_sem] theorem TX (env:List (Nat×V)) (h:aa) (kd:Nat) (x:bJ) (K:V→Tn→Prop):WE A Pr env h (.len kd x) K=bM (ix h kd (bk env x)) fun r=>K (.pv (.int .i64 r.1)) r.2:=by
 rw[bI rfl]
 apply propext
 unfold ev
 constructor
 .rintro ⟨⟨v,t⟩,h1,hk⟩
  simp only[evalOp]at h1
  split at h1
  .rename_i n tq hc
   cases h1
   exact⟨_,hc,hk⟩
  .cases h1
 .rintro ⟨⟨n,t⟩,hc,hk⟩
  exact⟨(_,t),by simp only[evalOp,hc],hk⟩
@[go_sem] theorem TY (env:List (Nat×V)) (h:aa) (k:Nat) (x y:bJ) (K:V→Tn→Prop):WE A Pr env h (.app k x y) K=bM (aK h k (bk env x) (bk env y)) fun r=>K r.1 r.2:=by
 rw[bI rfl]; rfl
@[go_sem] theorem SO (env:List (Nat×V)) (h:aa) (k:Nat) (zero:List V) (n c:bJ) (K:V→Tn→Prop):WE A Pr env h (.make k zero n c) K=bM (intOf (bk env n)) fun a=>bM (intOf (bk env c)) fun b=>qN (0≤a∧a≤b∧b≤aN) (K (.own h.ar.length 0 0 a.toNat) { push:=[⟨0,k,cu a.toNat zero⟩],base:=h.ar.length }):=by
 rw[bI rfl]
 apply propext
 unfold ev
 constructor
 .rintro ⟨⟨v,t⟩,h1,hk⟩
  simp only[evalOp]at h1
  split at h1
  .rename_i a b ha hb
   split at h1
   .rename_i hc
    cases h1
    exact⟨a,ha,b,hb,hc,hk⟩
   .cases h1
  .cases h1
 .rintro ⟨a,ha,b,hb,hc,hk⟩
  exact⟨(_,_),by simp only[evalOp,ha,hb]; rw[if_pos hc],hk⟩
@[go_sem] theorem NQ (b:Nat):kM b []=[]:=rfl
@[go_sem] theorem JT (b:Nat) (d:Option Nat) (q:dL) (g:Option (Nat×Bool)) (un:List Nat) (r:List (aC×List Nat)):kM b ((⟨d,q,g⟩,un)::r)=(⟨d,tN b q,g⟩,un)::kM b r:=rfl
def BB:Nat→List aL
 |0=>[]
 |n+1=>⟨0,0,.inl []⟩::BB n
@[go_sem] theorem JU:BB 0=[]:=rfl
@[go_sem] theorem JV (n:Nat):BB (n+1)=⟨0,0,.inl []⟩::BB n:=rfl
attribute [go_sem] tN
@[go_sem] theorem Qh (env:List (Nat×V)) (h:aa) (K:V→Tn→Prop):WE A Pr env h .qJ K=K (.map h.mp.length) { mD:=true }:=WE.uniq (n:=0) rfl
def mapOf (h:aa):V→Option (List (PV×PV))
 |.dR=>some []
 |.map id=>h.mp[id]?
 |_=>none
def JW:V→Tn
 |.map id=>{ rm:=some id }
 |_=>{}
@[go_sem] theorem Qi (id:Nat):JW (.map id)={ rm:=some id }:=rfl
@[go_sem] theorem NR:JW .dR={}:=rfl
@[go_sem] theorem JX (h:aa):mapOf h .dR=some []:=rfl
@[go_sem] theorem NS (h:aa) (id:Nat):mapOf h (.map id)=h.mp[id]?:=rfl
def pD (zero:V) (ok:Bool) (r:Option (Nat×PV)):V:=
 if ok then .dy [match r with|some (_,p)=>.pv p|none=>zero,.pv (.bool r.isSome)] else match r with|some (_,p)=>.pv p|none=>zero
@[go_sem] theorem SP (env:List (Nat×V)) (h:aa) (ag:Bool) (ks:List Nat) (zero:V) (x i:bJ) (ok:Bool) (K:V→Tn→Prop):WE A Pr env h (.look ag ks zero x i ok) K=bM (keyOf ag (bk env i)) fun k=>bM (mapOf h (bk env x)) fun m=>bM (findKey ag ks k m 0) fun r=>K (pD zero ok r) (JW (bk env x)):=by
 rw[bI rfl]
 apply propext
 unfold ev
 constructor
 .rintro ⟨⟨v,t⟩,h1,hk⟩
  simp only[evalOp]at h1
  split at h1
  .cases h1
  .rename_i k hk'
   split at h1
   .cases h1
   .rename_i m hm
    split at h1
    .cases h1
    .rename_i r hr
     cases h1
     refine⟨k,hk',m,?_,r,hr,hk⟩
     cases hx:bk env x<;>simp only[hx]at hm<;>first|exact hm|cases hm
 .rintro ⟨k,hk',m,hm,r,hr,hk⟩
  refine⟨(_,_),?_,hk⟩
  simp only[evalOp,hk']
  cases hx:bk env x<;>simp only[hx,mapOf]at hm<;>first|(cases hm; done)|skip
  .simp only[hm,hr]
   rfl
  .cases hm
   simp only[hr]
   rfl
def wm (ag:Bool) (ks:List Nat) (q p:PV) (id:Nat) (l:List (PV×PV)):Option Tn:=
 match findKey ag ks q l 0 with
 |some (some (i,_))=>some { mp:=some (id,l.set i (q,p)) }
 |some none=>some { mp:=some (id,l++[(q,p)]) }
 |none=>none
def Eo:V→Option Nat
 |.map id=>some id
 |_=>none
@[go_sem] theorem NT (id:Nat):Eo (.map id)=some id:=rfl
@[go_sem] theorem TZ (env:List (Nat×V)) (h:aa) (ag:Bool) (ks:List Nat) (m k v:bJ) (K:V→Tn→Prop):WE A Pr env h (.Gp ag ks m k v) K=bM (Eo (bk env m)) fun id=>bM (keyOf ag (bk env k)) fun q=>bM (bk env v).bS fun p=>bM h.mp[id]? fun l=>bM (wm ag ks q p id l) fun t=>K .any t:=by
 rw[bI rfl]
 apply propext
 unfold ev
 constructor
 .rintro ⟨⟨v,t⟩,h1,hk⟩
  simp only[evalOp]at h1
  split at h1
  .rename_i id q p h2 h3 h4
   split at h1
   .rename_i l hl
    refine⟨id,by rw[h2]; rfl,q,h3,p,h4,l,hl,?_⟩
    simp only[wm]
    split at h1
    .rename_i hf
     cases h1
     exact⟨_,by rw[hf],hk⟩
    .rename_i hf
     cases h1
     exact⟨_,by rw[hf],hk⟩
    .cases h1
   .cases h1
  .cases h1
 .rintro ⟨id,h2,q,h3,p,h4,l,hl,t,ht,hk⟩
  refine⟨(_,t),?_,hk⟩
  have h2':bk env m=.map id:=by
   cases hx:bk env m<;>simp only[hx,Eo]at h2<;>first|(cases h2; rfl)|cases h2
  simp only[evalOp,h2',h3,h4,hl]
  simp only[wm]at ht
  split at ht
  .rename_i hf
   cases ht
   rw[hf]
  .rename_i hf
   cases ht
   rw[hf]
  .cases ht
@[go_sem] theorem SQ (env:List (Nat×V)) (h:aa) (f:Nat) (cap:List bJ) (K:V→Tn→Prop):WE A Pr env h (.Gq f cap) K=K (.func f (cap.map (bk env))) {}:=WE.uniq (n:=0) rfl
def JY (i:Nat):V→Option V
 |.dy vs=>vs[i]?
 |_=>none
@[go_sem] theorem Qj (i:Nat) (vs:List V):JY i (.dy vs)=vs[i]?:=rfl
@[go_sem] theorem T0 (env:List (Nat×V)) (h:aa) (x:bJ) (i:Nat) (K:V→Tn→Prop):WE A Pr env h (.ext x i) K=bM (JY i (bk env x)) fun v=>K v {}:=by
 rw[bI rfl,← gn _ (fun v=>(v,({}:Tn))) (fun r=>K r.1 r.2)]
 congr 1
 simp only[ev,evalOp]
 cases bk env x<;>simp only[JY]<;>first|rfl|skip
 split<;>rename_i hh<;>rw[hh]<;>rfl
def j8 (isMax:Bool):List V→Option V
 |.pv (.int k a)::r=>match gV isMax a r with
  |some n=>some (.pv (.int k n))
  |none=>none
 |_=>none
@[go_sem] theorem NU (env:List (Nat×V)) (h:aa) (isMax:Bool) (args:List bJ) (K:V→Tn→Prop):WE A Pr env h (.kx isMax args) K=bM (j8 isMax (args.map (bk env))) fun v=>K v {}:=by
 rw[bI rfl,← gn _ (fun v=>(v,({}:Tn))) (fun r=>K r.1 r.2)]
 congr 1
 simp only[ev,evalOp]
 cases args.map (bk env)with
 |nil=>rfl
 |cons x r=>
  cases x with
  |pv p=>
   cases p with
   |int k a=>
    simp only[j8]
    cases gV isMax a r<;>rfl
   |_=>rfl
  |_=>rfl
@[go_sem] theorem IH (k j:IntKind) (a b:Int):j8 true [.pv (.int k a),.pv (.int j b)]=some (.pv (.int k (max a b))):=by
 simp only[j8,gV]
 congr 3
 simp only[if_true]
 split<;>omega
@[go_sem] theorem G4 (k j:IntKind) (a b:Int):j8 false [.pv (.int k a),.pv (.int j b)]=some (.pv (.int k (min a b))):=by
 simp only[j8,gV]
 congr 3
 simp only[Bool.false_eq_true,if_false]
 split<;>omega
def JZ (h:aa) (k:Nat) (zero:List V):V→Option (V×Tn)
 |.pv (.aq _ [])=>some (.dy [],{})
 |.tl []=>some (.dy [],{})
 |.own id ax off len=>match aB h id ax,ay V.bS zero with
  |some a,some z=>match a.body with
   |.inl rows=>if a.k=k∧off+len≤rows.length then
     some (.dy [],{ ar:=some (id,⟨ax,k,.inl (rows.take off++List.replicate len z++rows.drop (off+len))⟩) }) else none
   |.inr _=>none
  |_,_=>none
 |_=>none
@[go_sem] theorem T1 (env:List (Nat×V)) (h:aa) (k:Nat) (zero:List V) (x:bJ) (K:V→Tn→Prop):WE A Pr env h (.Jf k zero x) K=bM (JZ h k zero (bk env x)) fun r=>K r.1 r.2:=by
 rw[bI rfl]
 rfl
@[go_sem] theorem II:j8 true []=none:=rfl
end Go.Pv
namespace Go.Pv
variable {A:Nat→Option ae} {Pr:bm}
@[go_sem] theorem T2 (c:Bool) (X Y:Prop):Br (!c) X Y=Br c Y X:=by cases c<;>simp[Br]
theorem wrap_i64 {x:Int} (h1: -9223372036854775808≤x) (h2:x≤9223372036854775807):IntKind.wrap .i64 x=x:=by
 show (if (true&&decide (x%(2^64:Int)≥(2^63:Int)))=true then x%(2^64:Int) - (2^64:Int) else x%(2^64:Int))=x
 simp only[Bool.true_and,decide_eq_true_eq,Int.reducePow]
 by_cases h:x%18446744073709551616≥9223372036854775808
 .rw[if_pos h]; omega
 .rw[if_neg h]; omega
attribute [go_sem] wrap_i64
theorem wrap_u8 {x:Int} (h1:0≤x) (h2:x≤255):IntKind.wrap .u8 x=x:=by
 show (if (false&&decide (x%(2^8:Int)≥(2^7:Int)))=true then x%(2^8:Int) - (2^8:Int) else x%(2^8:Int))=x
 simp only[Bool.false_and,Bool.false_eq_true,if_false,Int.reducePow]
 omega
theorem rk {α:Type} [DecidableEq α] (a b:α):(a==b)=decide (a=b):=by
 by_cases h:a=b<;>simp[h]
@[go_sem] theorem Qk (k:IntKind) (a b:Int):cB .add (.pv (.int k a)) (.pv (.int k b))=some (.pv (.int k (k.wrap (a+b)))):=by simp[cB,eO]
@[go_sem] theorem Ql (k:IntKind) (a b:Int):cB .sub (.pv (.int k a)) (.pv (.int k b))=some (.pv (.int k (k.wrap (a - b)))):=by simp[cB,eO]
@[go_sem] theorem Qm (k:IntKind) (a b:Int):cB .mul (.pv (.int k a)) (.pv (.int k b))=some (.pv (.int k (k.wrap (a*b)))):=by simp[cB,eO]
theorem xX {k:IntKind} {a b:Int} (h:b≠0):cB .quo (.pv (.int k a)) (.pv (.int k b))=some (.pv (.int k (k.wrap (a.tdiv b)))):=by simp[cB,eO,h]
theorem xY {k:IntKind} {a b:Int} (h:b≠0):cB .rem (.pv (.int k a)) (.pv (.int k b))=some (.pv (.int k (a.tmod b))):=by simp[cB,eO,h]
@[go_sem] theorem Qn (k:IntKind) (a b:Int):cB .eql (.pv (.int k a)) (.pv (.int k b))=some (.pv (.bool (decide (a=b)))):=by simp[cB,eO,rk]
@[go_sem] theorem Qo (k:IntKind) (a b:Int):cB .neq (.pv (.int k a)) (.pv (.int k b))=some (.pv (.bool (!decide (a=b)))):=by simp[cB,eO,bne,rk]
@[go_sem] theorem Qp (k:IntKind) (a b:Int):cB .lss (.pv (.int k a)) (.pv (.int k b))=some (.pv (.bool (decide (a<b)))):=by simp[cB,eO]
@[go_sem] theorem Qq (k:IntKind) (a b:Int):cB .leq (.pv (.int k a)) (.pv (.int k b))=some (.pv (.bool (decide (a≤b)))):=by simp[cB,eO]
@[go_sem] theorem Qr (k:IntKind) (a b:Int):cB .gtr (.pv (.int k a)) (.pv (.int k b))=some (.pv (.bool (decide (b<a)))):=by simp[cB,eO]
@[go_sem] theorem Qs (k:IntKind) (a b:Int):cB .geq (.pv (.int k a)) (.pv (.int k b))=some (.pv (.bool (decide (b≤a)))):=by simp[cB,eO]
theorem nY {a b:ByteArray}:(a.toList==b.toList)=decide (a=b):=by
 by_cases h:a=b
 .subst h; simp
 .have:¬a.toList=b.toList:=fun hh=>h (ByteArray.ext (by
   have e:∀x:ByteArray,x.toList=x.data.toList:=fun x=>by
    rw[ByteArray.toList_eq]
   rw[e,e]at hh
   exact Array.toList_inj.1 hh))
  simp[h,this]
@[go_sem] theorem NV (a b:ByteArray):cB .eql (.pv (.str a)) (.pv (.str b))=some (.pv (.bool (decide (a=b)))):=by simp only[cB,kI,Option.map_some,nY]
@[go_sem] theorem NW (a b:ByteArray):cB .neq (.pv (.str a)) (.pv (.str b))=some (.pv (.bool (!decide (a=b)))):=by simp only[cB,kI,Option.map_some,nY]
@[go_sem] theorem SS (k:IntKind) (n:Int):Nq .neg (.pv (.int k n))=some (.pv (.int k (k.wrap (0 - n)))):=rfl
@[go_sem] theorem SU (b:Bool):Nq .not (.pv (.bool b))=some (.pv (.bool !b)):=rfl
@[go_sem] theorem intOf_int (k:IntKind) (n:Int):intOf (.pv (.int k n))=some n:=rfl
@[go_sem] theorem wo {x:Int} {n:Nat} (h0:0≤x) (h1:x<n):cw (some x) n=some x.toNat:=by simp[cw,h0,h1]
@[go_sem] theorem SV {a b:Int} {X:Prop} (h0:0≤a) (h1:a≤b) (h2:b≤2147483648):qN (0≤a∧a≤b∧b≤aN) X=X:=by
 unfold qN aN
 apply propext
 constructor
 .exact fun h=>h.2
 .exact fun h=>⟨⟨h0,h1,h2⟩,h⟩
theorem uJ {α β:Type} {f:α→Option β}:∀{l:List α} {r:List β},ay f l=some r→r.length=l.length
 |[],r,h=>by cases h; rfl
 |x::l,r,h=>by
  simp only[ay]at h
  split at h
  .rename_i y l' h1 h2
   cases h
   simp[uJ h2]
  .cases h
@[go_sem] theorem Qt (p:PV):V.cells (.pv p)=[.pv p]:=rfl
@[go_sem] theorem Qu (r:List (List PV)):V.cells (.tl r)=[.tl r]:=rfl
@[go_sem] theorem NX (a b c d:Nat):V.cells (.own a b c d)=[.own a b c d]:=rfl
@[go_sem] theorem NY (cs:List V):V.cells (.agg cs)=cs:=rfl
@[go_sem] theorem NZ (i:Nat):V.cells (.map i)=[.map i]:=rfl
@[go_sem] theorem J0:V.cells .dR=[.dR]:=rfl
@[go_sem] theorem J1 (f:Nat) (c:List V):V.cells (.func f c)=[.func f c]:=rfl
@[go_sem] theorem N0 (a b:Nat):V.cells (.ptr a b)=[.ptr a b]:=rfl
@[go_sem] theorem J2 (a b c d:Nat):V.cells (.du a b c d)=[.du a b c d]:=rfl
@[go_sem] theorem N1 (b:Bool):V.calm (.pv (.bool b))=true:=rfl
@[go_sem] theorem Qv (k:IntKind) (n:Int):V.calm (.pv (.int k n))=true:=rfl
@[go_sem] theorem Qw (s:ByteArray):V.calm (.pv (.str s))=true:=rfl
@[go_sem] theorem Qx (t:Nat) (r:List (List PV)):V.calm (.pv (.aq t r))=true:=rfl
@[go_sem] theorem N2:V.calm (.pv .nn)=true:=rfl
@[go_sem] theorem N3:V.calm (.pv .qV)=true:=rfl
@[go_sem] theorem J3 (f:Nat) (c:List PV):V.calm (.pv (.func f c))=c.isEmpty:=rfl
@[go_sem] theorem SX (r:List (List PV)):V.calm (.tl r)=true:=rfl
@[go_sem] theorem Qy (a b c d:Nat):V.calm (.own a b c d)=true:=rfl
@[go_sem] theorem N4 (f:Nat) (c:List V):V.calm (.func f c)=c.isEmpty:=rfl
@[go_sem] theorem Qz (i:Nat):V.calm (.map i)=false:=rfl
@[go_sem] theorem N5:V.calm .dR=false:=rfl
@[go_sem] theorem QA (a b:Nat):V.calm (.ptr a b)=false:=rfl
def Ep:V→Bool
 |.ptr s _=>dE s
 |.map _|.dR=>true
 |_=>false
@[go_sem] theorem QB (s o:Nat):Ep (.ptr s o)=dE s:=rfl
@[go_sem] theorem QC (i:Nat):Ep (.map i)=true:=rfl
@[go_sem] theorem N6:Ep .dR=true:=rfl
@[go_sem] theorem QD (v:V):V.dF v=(V.calm v||Ep v):=by cases v<;>simp[V.dF,V.calm,Ep]
@[go_sem] theorem J4 (b:Bool):V.sized (.pv (.bool b))=true:=rfl
@[go_sem] theorem N7 (k:IntKind) (n:Int):V.sized (.pv (.int k n))=true:=rfl
@[go_sem] theorem N8 (s:ByteArray):V.sized (.pv (.str s))=true:=rfl
@[go_sem] theorem N9 (t:Nat) (r:List (List PV)):V.sized (.pv (.aq t r))=true:=rfl
@[go_sem] theorem J5:V.sized (.pv .nn)=true:=rfl
@[go_sem] theorem QE (r:List (List PV)):V.sized (.tl r)=true:=rfl
@[go_sem] theorem Oa (a b c d:Nat):V.sized (.own a b c d)=true:=rfl
@[go_sem] theorem Ob (cs:List V):V.sized (.agg cs)=true:=rfl
@[go_sem] theorem J6:V.sized .dR=true:=rfl
@[go_sem] theorem Oc (i:Nat):V.sized (.map i)=true:=rfl
@[go_sem] theorem J7 (f:Nat) (c:List V):V.sized (.func f c)=true:=rfl
@[go_sem] theorem QF {α:Type} (off n:Nat) (l:List α):takeN off n l=if off+n≤l.length then some ((l.drop off).take n) else none:=rfl
@[go_sem] theorem IJ (cs:List V):dY true cs=some (.agg cs):=rfl
@[go_sem] theorem J8 (v:V):dY false [v]=some v:=rfl
@[go_sem] theorem QG {α:Type} (l:List α) (off:Nat) (n:List α):setAt l off n=l.take off++n++l.drop (off+n.length):=rfl
@[go_sem] theorem Od (g:bJ→V) (cells:List V):eA g cells []=some cells:=rfl
@[go_sem] theorem J9 (g:bJ→V) (cells:List V) (off n:Nat) (x:bJ) (r:List (Nat×Nat×bJ)):eA g cells ((off,n,x)::r)=if (g x).sized=true∧(g x).cells.length=n∧off+n≤cells.length then eA g (setAt cells off (g x).cells) r else none:=rfl
@[go_sem] theorem Oe (h:aa) (n t:Nat) (cs:List PV):loadAt h n (.pv (.ro t cs))=(takeN 0 n cs).bind fun l=>some (l.map .pv,{}):=by
 simp only[loadAt]
 cases takeN 0 n cs<;>rfl
@[go_sem] theorem Ka (h:aa) (n slot off:Nat):loadAt h n (.ptr slot off)=(aE slot h.bx).bind fun cs=>(takeN off n cs).bind fun l=>some (l,{ rb:=some slot }):=by
 simp only[loadAt]
 cases aE slot h.bx with
 |none=>rfl
 |some cs=>
  simp only[Option.bind_some]
  cases takeN off n cs<;>rfl
def nZ (row:Nat):Sum (List (List PV)) (List (List V))→Option (List V)
 |.inl x=>x[row]?.map (·.map .pv)
 |.inr x=>x[row]?
@[go_sem] theorem IK (row:Nat) (x:List (List PV)):nZ row (.inl x)=x[row]?.map (·.map .pv):=rfl
@[go_sem] theorem IL (row:Nat) (x:List (List V)):nZ row (.inr x)=x[row]?:=rfl
@[go_sem] theorem IM (h:aa) (n id ax row col:Nat):loadAt h n (.du id ax row col)=(aB h id ax).bind fun a=>(nZ row a.body).bind fun r=>(takeN col n r).bind fun l=>some (l,{ ra:=some id }):=by
 simp only[loadAt]
 cases aB h id ax with
 |none=>rfl
 |some a=>
  simp only[Option.bind_some]
  cases a.body with
  |inl x=>
   simp only[nZ]
   cases x[row]? with
   |none=>rfl
   |some r=>
    simp only[Option.map_some,Option.bind_some,takeN,List.length_map]
    by_cases hc:col+n≤r.length<;>simp[hc]
  |inr x=>
   simp only[nZ]
   cases x[row]? with
   |none=>rfl
   |some r=>
    simp only[Option.bind_some]
    cases takeN col n r<;>rfl
@[go_sem] theorem IN (h:aa) (slot off:Nat) (news:List V):storeAt h (.ptr slot off) news=(aE slot h.bx).bind fun cs=>if off+news.length≤cs.length∧news.all V.dF then some { bx:=some (slot,setAt cs off news) } else none:=by
 simp only[storeAt]
 cases aE slot h.bx<;>rfl
def eG (id row col:Nat) (news:List V) (a:aL):Option Tn:=
 if row<a.size∧col+news.length≤a.k∧news.all V.calm then some { ar:=some (id,{ a with body:=setBody row col news a.body }) } else none
@[go_sem] theorem G5 (h:aa) (id ax row col:Nat) (news:List V):storeAt h (.du id ax row col) news=(aB h id ax).bind (eG id row col news):=by
 simp only[storeAt]
 cases aB h id ax<;>rfl
def over (row c:Nat) (news:List PV) (x:List (List PV)):List (List PV):=x.set row ((x.getD row []).take c++news++(x.getD row []).drop (c+news.length))
theorem n9 {id row col ax k:Nat} {news:List V} {rows:List (List PV)} {l:List PV} (h1:row<rows.length) (h2:ay V.bS news=some l) (h3:col+news.length≤k) (h4:news.all V.calm=true):
  eG id row col news ⟨ax,k,.inl rows⟩=some { ar:=some (id,⟨ax,k,.inl (over row col l rows)⟩) }:=by
 have hl:l.length=news.length:=uJ h2
 have:row<(⟨ax,k,.inl rows⟩:aL).size:=h1
 simp only[eG,this,h3,h4,true_and,if_true,setBody,h2,over,hl]
theorem oc {id row ax:Nat} {p:PV} {rows:List (List PV)} (h1:row<rows.length) (h2:p.perm=true) (h3:rows[row]?=none∨∃q,rows[row]?=some [q]) (h4:(V.pv p).calm=true):
  eG id row 0 [.pv p] ⟨ax,1,.inl rows⟩=some { ar:=some (id,⟨ax,1,.inl (rows.set row [p])⟩) }:=by
 rw[n9 (l:=[p]) h1 (by simp[ay,V.bS,h2]) (by simp) (by simp[h4])]
 have:rows.getD row []=[]∨∃q,rows.getD row []=[q]:=by
  rcases h3 with h|⟨q,h⟩
  .exact .inl (by simp[h])
  .exact .inr ⟨q,by simp[h]⟩
 unfold over
 rcases this with h|⟨q,h⟩<;>rw[h]<;>rfl
@[go_sem] theorem SY (off t:Nat) (cs:List PV):rz off (.pv (.ro t cs))=some (.pv (.ro t (cs.drop off))):=rfl
@[go_sem] theorem QH (off s o:Nat):rz off (.ptr s o)=some (.ptr s (o+off)):=rfl
@[go_sem] theorem Of (off i v r c:Nat):rz off (.du i v r c)=some (.du i v r (c+off)):=rfl
@[go_sem] theorem IP (f:Nat) (cap:List V):pC (.func f cap)=some (.func f cap):=rfl
@[go_sem] theorem G6 (f:Nat) (cap:List PV):pC (.pv (.func f cap))=some (.pv (.func f cap)):=rfl
@[go_sem] theorem Kb (s o:Nat):pC (.ptr s o)=some (.ptr s o):=rfl
@[go_sem] theorem Og (t:Nat) (cs:List PV):pC (.pv (.ro t cs))=some (.pv (.ro t cs)):=rfl
@[go_sem] theorem IQ (i v r c:Nat):pC (.du i v r c)=some (.du i v r c):=rfl
@[go_sem] theorem IS (f:Nat) (cap:List V):funcOf (.func f cap)=some (f,cap):=rfl
@[go_sem] theorem G7 (f:Nat) (cap:List PV):funcOf (.pv (.func f cap))=some (f,cap.map .pv):=rfl
@[go_sem] theorem jB (bx:List (Nat×List V)) (ar:List aL) (mp:List (List (PV×PV))) (id ax:Nat):aB ⟨bx,ar,mp⟩ id ax=(ar[id]?).bind fun a=>if a.ax=ax then some a else none:=by
 simp only[aB]
 cases ar[id]?<;>rfl
@[go_sem] theorem Gs (p:PV):bu false (.pv p)=some [p]:=rfl
@[go_sem] theorem Er (cs:List V):bu true (.agg cs)=ay vN cs:=rfl
@[go_sem] theorem SZ (p:PV):vN (.pv p)=some p:=rfl
@[go_sem] theorem QI {α β:Type} (f:α→Option β):ay f []=some []:=rfl
theorem su {α β:Type} (f:α→Option β) (x:α) (r:List α):ay f (x::r)=(f x).bind fun y=>(ay f r).bind fun l=>some (y::l):=by
 simp only[ay]
 cases f x with
 |none=>rfl
 |some y=>cases ay f r<;>rfl
attribute [go_sem] su
@[go_sem] theorem QJ (p:PV):keyOf false (.pv p)=some p:=rfl
theorem CA (cs:List V):keyOf true (.agg cs)=(ay vN cs).map .agg:=by
 simp only[keyOf,bu]
 cases ay vN cs<;>rfl
attribute [go_sem] CA
@[go_sem] theorem Ab:bd [] [] []=some true:=rfl
theorem qq (k:Nat) (ks:List Nat) (a b:PV) (x y:List PV):bd (k::ks) (a::x) (b::y)=(PV.eqs k a b).bind fun p=>(bd ks x y).bind fun q=>some (p&&q):=by
 simp only[bd]
 cases PV.eqs k a b with
 |none=>rfl
 |some p=>cases bd ks x y<;>rfl
attribute [go_sem] qq
@[go_sem] theorem QK (a b:Bool):PV.eqs 0 (.bool a) (.bool b)=some (decide (a=b)):=by simp[PV.eqs,rk]
@[go_sem] theorem S0 (k:IntKind) (a b:Int):PV.eqs 1 (.int k a) (.int k b)=some (decide (a=b)):=by simp[PV.eqs,rk]
@[go_sem] theorem G8 (a b:ByteArray):PV.eqs 2 (.str a) (.str b)=some (decide (a=b)):=by simp only[PV.eqs,nY]
theorem G9 (ag:Bool) (ks:List Nat) (neg:Bool) (x y:V):G2 ag ks neg x y=(bu ag x).bind fun a=>(bu ag y).bind fun b=>(bd ks a b).bind fun r=>some (.pv (.bool (if neg then !r else r))):=by
 simp only[G2]
 cases bu ag x with
 |none=>rfl
 |some a=>
  cases bu ag y with
  |none=>rfl
  |some b=>
   simp only[Option.bind_some]
   cases bd ks a b<;>rfl
attribute [go_sem] G9
theorem od (k t:Nat) (rows:List (List PV)) (j:Nat):jx k t rows (some (j:Int))=(rows[j]?).bind fun r=>if r.length=k then some (.pv (.ro t r)) else none:=by
 simp only[jx,cw]
 by_cases h:j<rows.length
 .rw[if_pos ⟨by omega,by omega⟩]
  simp only[Int.toNat_natCast]
  cases rows[j]?<;>rfl
 .rw[if_neg (by omega)]
  rw[WS (by omega)]
  rfl
theorem gB (k t:Nat) (rows:List (List PV)) {i:Int} (h:0≤i):jx k t rows (some i)=(rows[i.toNat]?).bind fun r=>if r.length=k then some (.pv (.ro t r)) else none:=by
 obtain⟨j,rfl⟩:=XB h
 exact od k t rows j
attribute [go_sem] od
@[go_sem] theorem QL (h:aa) (k t:Nat) (rows:List (List PV)) (i:Option Int):oW h k (.pv (.aq t rows)) i=(jx k t rows i).map fun v=>(v,{}):=rfl
@[go_sem] theorem S1 (h:aa) (k:Nat) (rows:List (List PV)) (i:Option Int):oW h k (.tl rows) i=(jx k 0 rows i).map fun v=>(v,{}):=rfl
theorem Es (h:aa) (k id ax off len:Nat) (i:Option Int):oW h k (.own id ax off len) i=(cw i len).bind fun j=>(aB h id ax).bind fun a=>if a.k=k then some (.du id ax (off+j) 0,{ ra:=some id }) else none:=by
 simp only[oW]
 cases cw i len with
 |none=>rfl
 |some j=>cases aB h id ax<;>rfl
attribute [go_sem] Es
@[go_sem] theorem QM (h:aa) (t:Nat) (rows:List (List PV)):ix h 0 (.pv (.aq t rows))=some (rows.length,{}):=rfl
@[go_sem] theorem S2 (h:aa) (rows:List (List PV)):ix h 0 (.tl rows)=some (rows.length,{}):=rfl
@[go_sem] theorem QN (h:aa) (a b c d:Nat):ix h 0 (.own a b c d)=some (d,{}):=rfl
@[go_sem] theorem QO (h:aa) (s:ByteArray):ix h 1 (.pv (.str s))=some (s.size,{}):=rfl
theorem Et (h:aa) (id:Nat):ix h 2 (.map id)=(h.mp[id]?).map fun m=>(m.length,{ rm:=some id }):=by
 simp only[ix]
 cases h.mp[id]?<;>rfl
attribute [go_sem] Et
@[go_sem] theorem Oh (h:aa):ix h 2 .dR=some (0,{}):=rfl
@[go_sem] theorem Oi (cs:List PV):V.i7 (.agg cs)=.agg (cs.map .pv):=rfl
@[go_sem] theorem Kc (b:Bool):V.i7 (.bool b)=.pv (.bool b):=rfl
@[go_sem] theorem Oj (k:IntKind) (n:Int):V.i7 (.int k n)=.pv (.int k n):=rfl
@[go_sem] theorem Ol (s:ByteArray):V.i7 (.str s)=.pv (.str s):=rfl
@[go_sem] theorem Om (t:Nat) (r:List (List PV)):V.i7 (.aq t r)=.pv (.aq t r):=rfl
@[go_sem] theorem QP (t:Nat) (r:List PV):V.i7 (.ro t r)=.pv (.ro t r):=rfl
@[go_sem] theorem Kd (f:Nat) (r:List PV):V.i7 (.func f r)=.pv (.func f r):=rfl
@[go_sem] theorem QR (k:Nat) (r:List (List PV)):V.i7 (.fr k r)=.own 0 0 0 r.length:=rfl
@[go_sem] theorem On (n:Nat):entry n []=[]:=rfl
@[go_sem] theorem Ke (n:Nat) (p:PV) (r:List PV):entry n (p::r)=(n,V.i7 p)::entry (n+1) r:=rfl
@[go_sem] theorem Gt:cA []=⟨[],[],[]⟩:=rfl
@[go_sem] theorem Ha (k:Nat) (rows:List (List PV)) (r:List PV):cA (.fr k rows::r)=⟨[],[⟨0,k,.inl rows⟩],[]⟩:=rfl
@[go_sem] theorem Gu (cs:List PV) (r:List PV):cA (.agg cs::r)=⟨[],[],[]⟩:=rfl
@[go_sem] theorem Eu (b:Bool) (r:List PV):cA (.bool b::r)=⟨[],[],[]⟩:=rfl
@[go_sem] theorem Gv (k:IntKind) (n:Int) (r:List PV):cA (.int k n::r)=⟨[],[],[]⟩:=rfl
@[go_sem] theorem Gw (s:ByteArray) (r:List PV):cA (.str s::r)=⟨[],[],[]⟩:=rfl
@[go_sem] theorem Gx (t:Nat) (rows:List (List PV)) (r:List PV):cA (.aq t rows::r)=⟨[],[],[]⟩:=rfl
@[go_sem] theorem Hb (t:Nat) (rows:List PV) (r:List PV):cA (.ro t rows::r)=⟨[],[],[]⟩:=rfl
@[go_sem] theorem Ew (t:Nat) (rows:List PV) (r:List PV):cA (.func t rows::r)=⟨[],[],[]⟩:=rfl
@[go_sem] theorem Hc (s:St) (t:Nat):cL s (.tmp t)=some (get s.env t):=rfl
theorem tU (s:St) (t n:Nat) (b:Bool):cL s (.cell t n b)=(loadAt s.h n (get s.env t)).bind fun r=>dY b r.1:=by
 simp only[cL]
 cases loadAt s.h n (get s.env t)<;>rfl
attribute [go_sem] tU
@[go_sem] theorem Hd (s:St) (rs:List nq):jr s rs false=(ay (cL s) rs).bind fun vs=>ay (keep s.h false) vs:=by
 simp[jr]
theorem xZ (s:St) (rs:List nq):jr s rs true=(ay (cL s) rs).bind fun vs=>if distinct (dT vs) then ay (keep s.h true) vs else none:=by
 simp[jr]
attribute [go_sem] xZ
@[go_sem] theorem QS (h:aa) (cs:List V):keep h false (.agg cs)=(ay (aY h 4) cs).map .agg:=by
 simp only[keep,Bool.false_eq_true,if_false]
 cases ay (aY h 4) cs<;>rfl
@[go_sem] theorem Oo (h:aa) (b:Bool):keep h false (.pv (.bool b))=aY h 4 (.pv (.bool b)):=rfl
@[go_sem] theorem QT (h:aa) (k:IntKind) (n:Int):keep h false (.pv (.int k n))=aY h 4 (.pv (.int k n)):=rfl
@[go_sem] theorem QU (h:aa) (s:ByteArray):keep h false (.pv (.str s))=aY h 4 (.pv (.str s)):=rfl
@[go_sem] theorem Oq (h:aa):keep h false (.pv (.nn))=aY h 4 (.pv (.nn)):=rfl
@[go_sem] theorem Ot (h:aa):keep h false (.pv (.qV))=aY h 4 (.pv (.qV)):=rfl
@[go_sem] theorem QV (h:aa) (t:Nat) (rows:List (List PV)):keep h false (.pv (.aq t rows))=aY h 4 (.pv (.aq t rows)):=rfl
@[go_sem] theorem Kf (h:aa) (f:Nat) (cap:List PV):keep h false (.pv (.func f cap))=aY h 4 (.pv (.func f cap)):=rfl
@[go_sem] theorem Ou (h:aa) (cs:List PV):keep h false (.pv (.agg cs))=aY h 4 (.pv (.agg cs)):=rfl
@[go_sem] theorem S3 (h:aa) (r:List (List PV)):keep h false (.tl r)=aY h 4 (.tl r):=rfl
@[go_sem] theorem QW (h:aa) (a b c d:Nat):keep h false (.own a b c d)=aY h 4 (.own a b c d):=rfl
@[go_sem] theorem Ov (h:aa) (a:Nat) (c:List V):keep h false (.func a c)=aY h 4 (.func a c):=rfl
@[go_sem] theorem ya (h:aa) (d:Nat) (p:PV):aY h d (.pv p)=if p.perm then some p else none:=by cases d<;>rfl
@[go_sem] theorem QX (h:aa) (d:Nat) (r:List (List PV)):aY h d (.tl r)=some (.aq 0 r):=by cases d<;>rfl
@[go_sem] theorem Ow (b:Bool):PV.perm (.bool b)=true:=rfl
@[go_sem] theorem QY (k:IntKind) (n:Int):PV.perm (.int k n)=true:=rfl
@[go_sem] theorem QZ (s:ByteArray):PV.perm (.str s)=true:=rfl
@[go_sem] theorem Ox:PV.perm .nn=true:=rfl
@[go_sem] theorem Q0 (t:Nat) (r:List (List PV)):PV.perm (.aq t r)=(t==0):=rfl
@[go_sem] theorem IT (off len:Nat) (x:List (List PV)):az off len (.inl x)=.inl ((x.drop off).take len):=rfl
@[go_sem] theorem IU (off len:Nat) (x:List (List V)):az off len (.inr x)=.inr ((x.drop off).take len):=rfl
def bO (f:V→Option PV):Sum (List (List PV)) (List (List V))→Option PV
 |.inl rows=>some (.aq 0 rows)
 |.inr rows=>(ay (ay f) rows).map (.aq 0)
@[go_sem] theorem He (f:V→Option PV) (rows:List (List PV)):bO f (.inl rows)=some (.aq 0 rows):=rfl
@[go_sem] theorem Hf (f:V→Option PV) (rows:List (List V)):bO f (.inr rows)=(ay (ay f) rows).map (.aq 0):=rfl
theorem dS (h:aa) (d id ax off len:Nat):aY h (d+1) (.own id ax off len)=(aB h id ax).bind fun a=>bO (aY h d) (az off len a.body):=by
 simp only[aY]
 cases aB h id ax with
 |none=>rfl
 |some a=>
  simp only[Option.bind_some]
  cases az off len a.body with
  |inl r=>rfl
  |inr r=>
   simp only[bO]
   cases ay (ay (aY h d)) r<;>rfl
@[go_sem] theorem Kg (h:aa) (id ax off len:Nat):aY h 4 (.own id ax off len)=(aB h id ax).bind fun a=>bO (aY h 3) (az off len a.body):=dS h 3 id ax off len
def iR (f:V→Option PV):Sum (List (List PV)) (List (List V))→Option PV
 |.inl rows=>some (.aq 1 rows)
 |.inr rows=>(ay (ay f) rows).map (.aq 2)
@[go_sem] theorem Hg (f:V→Option PV) (rows:List (List PV)):iR f (.inl rows)=some (.aq 1 rows):=rfl
@[go_sem] theorem Hh (f:V→Option PV) (rows:List (List V)):iR f (.inr rows)=(ay (ay f) rows).map (.aq 2):=rfl
@[go_sem] theorem Gy (h:aa) (vs:List V):ca h false vs=(ay (cq h) vs).bind fun l=>some (l,none):=by
 simp only[ca,Bool.false_eq_true,if_false]
 cases ay (cq h) vs<;>rfl
@[go_sem] theorem Oy (h:aa) (b:Bool):cq h (.pv (.bool b))=some (.bool b):=rfl
@[go_sem] theorem Q1 (h:aa) (k:IntKind) (n:Int):cq h (.pv (.int k n))=some (.int k n):=rfl
@[go_sem] theorem Q2 (h:aa) (s:ByteArray):cq h (.pv (.str s))=some (.str s):=rfl
@[go_sem] theorem Q3 (h:aa) (t:Nat) (r:List (List PV)):cq h (.pv (.aq t r))=some (.aq t r):=rfl
@[go_sem] theorem S4 (h:aa) (t:Nat) (r:List PV):cq h (.pv (.ro t r))=some (.ro t r):=rfl
@[go_sem] theorem Kh (h:aa) (t:Nat) (r:List PV):cq h (.pv (.func t r))=some (.func t r):=rfl
@[go_sem] theorem Oz (h:aa) (r:List PV):cq h (.pv (.agg r))=some (.agg r):=rfl
@[go_sem] theorem S5 (h:aa) (r:List (List PV)):cq h (.tl r)=some (.aq 0 r):=rfl
@[go_sem] theorem Q4 (h:aa) (cs:List V):cq h (.agg cs)=(ay (aR h 4) cs).map .agg:=by
 simp only[cq]
 cases ay (aR h 4) cs<;>rfl
theorem pE (h:aa) (d id ax off len:Nat):aR h (d+1) (.own id ax off len)=(aB h id ax).bind fun a=>iR (aR h d) (az off len a.body):=by
 simp only[aR]
 cases aB h id ax with
 |none=>rfl
 |some a=>
  simp only[Option.bind_some]
  cases az off len a.body with
  |inl r=>rfl
  |inr r=>
   simp only[iR]
   cases ay (ay (aR h d)) r<;>rfl
@[go_sem] theorem Q5 (h:aa) (id ax off len:Nat):cq h (.own id ax off len)=(aB h id ax).bind fun a=>iR (aR h 3) (az off len a.body):=pE h 3 id ax off len
@[go_sem] theorem Ki (h:aa) (id ax off len:Nat):aR h 4 (.own id ax off len)=(aB h id ax).bind fun a=>iR (aR h 3) (az off len a.body):=pE h 3 id ax off len
@[go_sem] theorem Kj (h:aa) (id ax off len:Nat):aR h 2 (.own id ax off len)=(aB h id ax).bind fun a=>iR (aR h 1) (az off len a.body):=pE h 1 id ax off len
theorem uK (h:aa) (d slot off:Nat):aR h (d+1) (.ptr slot off)=(aE slot h.bx).bind fun cs=>(ay (aR h d) (cs.drop off)).map (.ro 2):=by
 simp only[aR]
 cases aE slot h.bx with
 |none=>rfl
 |some cs=>
  simp only[Option.bind_some]
  cases ay (aR h d) (cs.drop off)<;>rfl
@[go_sem] theorem Q6 (h:aa) (slot off:Nat):cq h (.ptr slot off)=(aE slot h.bx).bind fun cs=>(ay (aR h 3) (cs.drop off)).map (.ro 2):=uK h 3 slot off
@[go_sem] theorem Kk (h:aa) (slot off:Nat):aR h 3 (.ptr slot off)=(aE slot h.bx).bind fun cs=>(ay (aR h 2) (cs.drop off)).map (.ro 2):=uK h 2 slot off
theorem Ac (h:aa) (d f:Nat) (cap:List V):aR h (d+1) (.func f cap)=(ay (aR h d) cap).map (.func f):=by
 simp only[aR]
 cases ay (aR h d) cap<;>rfl
@[go_sem] theorem OA (h:aa) (f:Nat) (cap:List V):cq h (.func f cap)=(ay (aR h 3) cap).map (.func f):=Ac h 3 f cap
@[go_sem] theorem Kl (h:aa) (d:Nat) (b:Bool):aR h d (.pv (.bool b))=some (.bool b):=by cases d<;>rfl
@[go_sem] theorem OB (h:aa) (d:Nat) (k:IntKind) (n:Int):aR h d (.pv (.int k n))=some (.int k n):=by cases d<;>rfl
@[go_sem] theorem OC (h:aa) (d:Nat) (s:ByteArray):aR h d (.pv (.str s))=some (.str s):=by cases d<;>rfl
@[go_sem] theorem OD (h:aa) (d t:Nat) (r:List (List PV)):aR h d (.pv (.aq t r))=some (.aq t r):=by cases d<;>rfl
@[go_sem] theorem Q7 (h:aa) (d:Nat) (r:List (List PV)):aR h d (.tl r)=some (.aq 0 r):=by cases d<;>rfl
def PV.still:PV→Bool
 |.fr _ _=>false
 |_=>true
@[go_sem] theorem OE (n:Nat):cV n []=([],[]):=rfl
@[go_sem] theorem Q8 (n k:Nat) (rows:List (List PV)) (r:List PV):cV n (.fr k rows::r)=(.own n 0 0 rows.length::(cV (n+1) r).1,⟨0,k,.inl rows⟩::(cV (n+1) r).2):=rfl
@[go_sem] theorem Km (n:Nat) (b:Bool) (r:List PV):cV n (.bool b::r)=(.pv (.bool b)::(cV n r).1,(cV n r).2):=rfl
@[go_sem] theorem OF (n:Nat) (k:IntKind) (i:Int) (r:List PV):cV n (.int k i::r)=(.pv (.int k i)::(cV n r).1,(cV n r).2):=rfl
@[go_sem] theorem OG (n:Nat) (s:ByteArray) (r:List PV):cV n (.str s::r)=(.pv (.str s)::(cV n r).1,(cV n r).2):=rfl
@[go_sem] theorem OH (n t:Nat) (l:List (List PV)) (r:List PV):cV n (.aq t l::r)=(.pv (.aq t l)::(cV n r).1,(cV n r).2):=rfl
@[go_sem] theorem OI (n:Nat) (cs:List PV):eF n (.agg cs)=(.agg (cV n cs).1,(cV n cs).2):=rfl
@[go_sem] theorem Q9 (n k:Nat) (rows:List (List PV)):eF n (.fr k rows)=(.own n 0 0 rows.length,[⟨0,k,.inl rows⟩]):=rfl
@[go_sem] theorem Kn (n:Nat) (b:Bool):eF n (.bool b)=(.pv (.bool b),[]):=rfl
@[go_sem] theorem OJ (n:Nat) (k:IntKind) (i:Int):eF n (.int k i)=(.pv (.int k i),[]):=rfl
@[go_sem] theorem OK (n:Nat) (s:ByteArray):eF n (.str s)=(.pv (.str s),[]):=rfl
@[go_sem] theorem OL (n t:Nat) (l:List (List PV)):eF n (.aq t l)=(.pv (.aq t l),[]):=rfl
@[go_sem] theorem IV (n:Nat):bw n []=([],[]):=rfl
@[go_sem] theorem Hi (n:Nat) (p:PV) (r:List PV):bw n (p::r)=((eF n p).1::(bw (n+(eF n p).2.length) r).1,(eF n p).2++(bw (n+(eF n p).2.length) r).2):=rfl
@[go_sem] theorem Ko (v:V):eD [v]=v:=rfl
@[go_sem] theorem Kp (v w:V) (r:List V):eD (v::w::r)=.dy (v::w::r):=rfl
@[go_sem] theorem Kq:eD []=.dy []:=rfl
def CN (A:Nat→Option ae) (Pr:bm) (t:Bool) (fn:Nat) (vs:List V) (h:aa) (K:V→Tn→Prop) (_t:nU K:=.mk):Prop:=
 bM (ca h t vs) fun q=>bM (res A Pr fn q.1) fun rs=>K (eD (bw h.ar.length rs).1) { ar:=q.2,push:=(bw h.ar.length rs).2,eK:=!(vs.all V.jm),base:=if (bw h.ar.length rs).2.isEmpty then 0 else h.ar.length }
theorem yb {fn:Nat} (hi:pB A fn=false) (hp:Pr fn=none) {t:Bool} (ht:dx A fn=t) (vs:List V) (h:aa) (K:V→Tn→Prop):CW A Pr fn vs h K=CN A Pr t fn vs h K:=Bx hi hp ht vs h K
@[go_sem] theorem Vu (t:Bool) (fn:Nat) (vs:List V) (h:aa) (K:V→Tn→Prop):CN A Pr t fn vs h K=bM (ca h t vs) fun q=>bM (res A Pr fn q.1) fun rs=>K (eD (bw h.ar.length rs).1) { ar:=q.2,push:=(bw h.ar.length rs).2,eK:=!(vs.all V.jm),base:=if (bw h.ar.length rs).2.isEmpty then 0 else h.ar.length }:=rfl
@[go_sem] theorem S6 (p:PV):V.jm (.pv p)=true:=rfl
@[go_sem] theorem S7 (r:List (List PV)):V.jm (.tl r)=true:=rfl
@[go_sem] theorem Ra (a b c d:Nat):V.jm (.own a b c d)=false:=rfl
@[go_sem] theorem Rb (a b:Nat):V.jm (.ptr a b)=false:=rfl
@[go_sem] theorem OM (f:Nat) (cap:List V):V.jm (.func f cap)=cap.isEmpty:=rfl
def Hj:V→Bool
 |.pv _=>true
 |.tl _=>true
 |_=>false
@[go_sem] theorem S8 (p:PV):Hj (.pv p)=true:=rfl
@[go_sem] theorem S9 (r:List (List PV)):Hj (.tl r)=true:=rfl
@[go_sem] theorem Rc (a b c d:Nat):Hj (.own a b c d)=false:=rfl
@[go_sem] theorem Re (cs:List V):V.jm (.agg cs)=cs.all Hj:=by
 show (cs.all fun|.pv _=>true|.tl _=>true|_=>false)=_
 congr 1
@[go_sem] theorem ON (j:Nat) (un:List Nat) (t:Tn) (done:List Tn) (X:Prop):held (j::un) t done X=qN (((done[j]?).map fun u=>u.apart t)=some true) (held un t done X):=by
 unfold held qN dZ
 simp only[List.all_cons,Bool.and_eq_true]
 apply propext
 cases done[j]? with
 |none=>simp
 |some u=>simp[and_assoc]
@[go_sem] theorem Rf (a b:Tn):a.apart b=(a.off b&&b.zr a):=rfl
@[go_sem] theorem Ta (a b:Tn):a.zr b=(jk (a.bx.map (·.1)) (b.bx.map (·.1)) (·==·)&&jk (a.bx.map (·.1)) b.rb (·==·)&&
 jk (a.ar.map (·.1)) (b.ar.map (·.1)) (·==·)&&jk (a.ar.map (·.1)) b.ra (·==·)&&jk (a.ar.map (·.1)) b.np (·==·)&&
 (a.push.isEmpty||(b.push.isEmpty&&b.gl a.base))&&a.mp.isNone&&!a.mD&&(a.all.isNone&&b.all.isNone)&&
 (!b.eK||((a.bx.isNone||a.new)&&a.ar.isNone))):=rfl
@[go_sem] theorem T3 (a b:Tn):a.off b=(jk (a.bx.map (·.1)) (b.bx.map (·.1)) (·==·)&&jk (a.bx.map (·.1)) b.rb (·==·)&&
 jk (a.ar.map (·.1)) (b.ar.map (·.1)) (·==·)&&jk (a.ar.map (·.1)) b.ra (·==·)&&jk (a.ar.map (·.1)) b.np (·==·)&&
 (a.push.isEmpty||(b.push.isEmpty&&b.gl a.base))&&a.mp.isNone&&!a.mD&&(a.all.isNone&&b.all.isNone)&&
 (!b.eK||(a.bx.isNone&&a.ar.isNone&&a.push.isEmpty))):=rfl
@[go_sem] theorem T4 (a:Tn) (n:Nat):a.gl n=(a.ar.all (·.1<n)&&a.ra.all (·<n)&&a.np.all (·<n)):=rfl
@[go_sem] theorem OO {α:Type} (a b:α) (eq:α→α→Bool):jk (some a) (some b) eq=!eq a b:=rfl
@[go_sem] theorem OP {α:Type} (p:Option α) (eq:α→α→Bool):jk none p eq=true:=rfl
@[go_sem] theorem Kr {α:Type} (a:α) (eq:α→α→Bool):jk (some a) none eq=true:=rfl
attribute [go_sem] Option.all_some Option.all_none
def BC (r:Option (List (List PV))) (h:aa) (k len:Nat) (cs:List V):Option (V×Tn):=
 match r with
 |some rows=>some (.tl rows,{})
 |none=>if cs.all V.calm then some (.own h.ar.length 0 0 len,{ push:=[⟨0,k,.inr (fN k len cs)⟩],base:=h.ar.length }) else none
@[go_sem] theorem Ks (rows:List (List PV)) (h:aa) (k len:Nat) (cs:List V):BC (some rows) h k len cs=some (.tl rows,{}):=rfl
@[go_sem] theorem Kt (h:aa) (k len:Nat) (cs:List V):BC none h k len cs=if cs.all V.calm then some (.own h.ar.length 0 0 len,{ push:=[⟨0,k,.inr (fN k len cs)⟩],base:=h.ar.length }) else none:=rfl
@[go_sem] theorem OQ (h:aa) (k len:Nat) (cs:List V):JQ h k len cs=BC (ay (ay V.bS) (fN k len cs)) h k len cs:=by
 unfold JQ iu BC
 cases ay (ay V.bS) (fN k len cs)<;>rfl
@[go_sem] theorem OS {α:Type} (k:Nat) (l:List α):fN k 0 l=[]:=rfl
@[go_sem] theorem OT {α:Type} (k n:Nat) (l:List α):fN k (n+1) l=l.take k::fN k n (l.drop k):=rfl
@[go_sem] theorem Rg (p:PV):V.bS (.pv p)=if p.perm then some p else none:=rfl
@[go_sem] theorem Rh (r:List (List PV)):V.bS (.tl r)=none:=rfl
@[go_sem] theorem OU (a b c d:Nat):V.bS (.own a b c d)=none:=rfl
@[go_sem] theorem Ku:V.bS .dR=none:=rfl
attribute [go_sem] List.map_cons List.map_nil List.length_cons List.length_nil List.all_cons List.all_nil Option.isNone_none Option.isNone_some Bool.and_true Bool.true_and Bool.and_false Bool.false_and Bool.or_true Bool.true_or Bool.or_false Bool.false_or Bool.not_true Bool.not_false and_self and_true true_and and_false false_and Bool.and_self
 List.drop_zero List.drop_succ_cons List.drop_nil List.take_zero List.take_succ_cons List.take_nil List.nil_append List.cons_append Xh Option.bind_some Option.bind_none Option.map_some Option.map_none List.contains_cons List.contains_nil Nat.reduceBEq beq_self_eq_true List.isEmpty_nil List.isEmpty_cons Wg Wf
 decide_true decide_false Bool.false_eq_true if_true if_false Wz XN Nat.add_zero List.getElem?_cons_zero List.getElem?_cons_succ List.set_cons_zero List.set_cons_succ List.map_drop List.map_take beq_true beq_false List.getElem?_nil
attribute [go_sem] Nat.reduceAdd Nat.reduceSub Nat.reduceMul Nat.reduceDiv Nat.reduceMod Nat.reduceLeDiff Nat.reduceEqDiff Nat.reduceLT Int.reduceAdd Int.reduceSub Int.reduceMul Int.reduceNeg Int.reduceLT Int.reduceLE Int.reduceEq Int.reduceToNat Int.toNat_natCast Int.toNat_zero Int.toNat_one
attribute [go_sem] List.range_succ List.range_zero List.range_eq_range' List.range'_succ List.range'_zero List.getD_cons_zero List.getD_cons_succ
attribute [go_sem ↓] reduceIte
end Go.Pv
namespace Go.Pv
open Go.Sort
variable {P:Program} {N:Nat→Nat} {W:Nat→Prop} {L:Lx} {e:bh} {h:aa} {w:World}
def pF:PV→Bool
 |.bool _|.int _ _|.str _=>true
 |_=>false
def sv:PV→Value
 |.bool b=>.bool b
 |.int k n=>.int k n
 |.str s=>.string s
 |_=>undef
theorem yc {p:PV} (hp:pF p=true):dw N L w p (sv p):=by
 cases p<;>simp[pF]at hp
 .exact .bool _
 .exact .int _ _
 .exact .str _
theorem Hk {p:PV} {v:Value} (hp:pF p=true) (h:dw N L w p v):v=sv p:=by
 cases h<;>simp[pF]at hp<;>rfl
theorem uL {p:PV} (hp:pF p=true):(V.pv p).calm=true∧p.perm=true:=by
 cases p<;>simp[pF]at hp<;>exact⟨rfl,rfl⟩
theorem wq {i j k n:Nat} (hi:i<n) (hj:j<k):i*k+j<n*k:=by
 have:=Wi k (show i+1≤n from hi)
 rw[Wm,W7]at this
 omega
theorem BD (hr:HR N L e W h w) {id0:Nat} {a:aL} {rows:List (List PV)} {off len:Nat} (h0:h.ar[id0]?=some a) (hb:a.body=.inl rows) (hk:a.k≠0) (hol:off+len≤rows.length)
  {news:List (List PV)} (hn:news.length=len) (hnk:∀r∈news,r.length=a.k∧∀c∈r,pF c=true) (F:Array Value) (hF:F.size=len*a.k)
  (hFv:∀i j c,ff news i j=some c→F[i*a.k+j]! =sv c) (n:Nat) (os:Array Obj) (F0:Array Value) (hF0:Holds id w (e.ar id0) (e.ad id0+off*a.k) F0) (hF0s:F0.size=F.size):
  ∃e',Nx N W L e w L e' { h with ar:=h.ar.set id0 ⟨a.ax,a.k,.inl (rows.take off++news++rows.drop (off+len))⟩ } (grow (putRow id (Sort.ahead w n) (e.ar id0) (e.ad id0+off*a.k) F) os):=by
 have hid:id0<e.na:=by rw[hr.na]; exact(V9.1 h0).1
 obtain⟨v1,v2,v3,_⟩:=hr.ax id0 a h0
 have hak:e.ak id0≠0:=by rw[v2]; exact hk
 have hown:=hr.mm id0 hid hak
 have hlt:=hr.gP hid hak
 obtain⟨c1,c2,c3,c4,c5⟩:=hr.ar id0 a h0 hk
 have hsz:a.size=rows.length:=by simp[aL.size,hb]
 have hrw:a.rows=rows.map (·.map .pv):=by simp[aL.rows,hb]
 have hlen:(rows.take off++news++rows.drop (off+len)).length=rows.length:=by
  simp only[List.length_append,List.length_take,List.length_drop,hn]
  omega
 have hbig:(putRow id (Sort.ahead w n) (e.ar id0) (e.ad id0+off*a.k) F).heap.size=w.heap.size:=by simp[putRow,mapBlock,Sort.ahead]
 have hother:∀g,g<w.heap.size→g≠e.ar id0→(grow (putRow id (Sort.ahead w n) (e.ar id0) (e.ad id0+off*a.k) F) os).heap[g]?=w.heap[g]?:=by
  intro g hg hne
  rw[heap_grow_old _ _ (by rw[hbig]; exact hg)]
  simp only[putRow,mapBlock,Sort.ahead,Array.getElem?_modify]
  rw[if_neg (Ne.symm hne)]
 have hcell:∀o,(grow (putRow id (Sort.ahead w n) (e.ar id0) (e.ad id0+off*a.k) F) os).cell? ⟨e.ar id0,o,none⟩=(putRow id (Sort.ahead w n) (e.ar id0) (e.ad id0+off*a.k) F).cell? ⟨e.ar id0,o,none⟩:=
  fun o=>cell?_grow _ _ _ (by rw[hbig]; exact hlt)
 refine⟨_,Nx.mG hr (b:=e.ar id0) (d:=e.ad id0) (c:=e.cap id0) ⟨a.ax,a.k,.inl (rows.take off++news++rows.drop (off+len))⟩ h0 hk hother (by simp[hbig]) ?_ (.inr ⟨rfl,rfl,rfl,rfl,rfl,by rw[hsz]; exact hlen⟩) (.inl rfl) hk (by
  show (rows.take off++news++rows.drop (off+len)).length≤_
  rw[hlen,← hsz]; exact c1) ?_ ?_ ?_ ?_⟩
 .refine⟨rfl,rfl,rfl,by simp[hbig],fun g hg hw=>hother g hg (fun he=>hw (he ▸ hown.1)),?_⟩
  show w.drawn≤w.drawn+n
  omega
 .obtain⟨arr,ty,h1,h2⟩:=c2.out
  refine⟨putCells id (e.ad id0+off*a.k) F arr,ty,?_,by simpa [putCells]using h2⟩
  rw[heap_grow_old _ _ (by rw[hbig]; exact hlt)]
  simp only[putRow,mapBlock,Sort.ahead,Array.getElem?_modify,if_true,h1]
  rfl
 .intro r hr'
  simp only[aL.rows]at hr'
  obtain⟨q,hq,rfl⟩:=Wk.1 hr'
  simp only[List.length_map]
  rcases WT.1 hq with hq|hq
  .rcases WT.1 hq with hq|hq
   .have:=c3 (q.map .pv) (by rw[hrw]; exact Wk.2 ⟨q,W2 hq,rfl⟩)
    simpa using this
   .exact(hnk q hq).1
  .have:=c3 (q.map .pv) (by rw[hrw]; exact Wk.2 ⟨q,W5 hq,rfl⟩)
   simpa using this
 .intro i r hi j x hj
  simp only[aL.rows]at hi
  rw[Wf]at hi
  obtain⟨q,hq,rfl⟩:=Wx.1 hi
  obtain⟨p,hp,rfl⟩:=cZ hj
  rw[hcell]
  have gl:∀i',rows[i']?=some q→(i'<off∨off+len≤i')→i'=i→(V.pv p).calm=true∧∃v,(putRow id (Sort.ahead w n) (e.ar id0) (e.ad id0+off*a.k) F).cell? ⟨e.ar id0,e.ad id0+i*a.k+j,none⟩=some v∧VR N L e w (.pv p) v:=by
   rintro i' hq' hor rfl
   have hrow:a.rows[i']?=some (q.map .pv):=by rw[hrw,Wf,hq']; rfl
   obtain⟨g1,v,g2,g3⟩:=c4 i' _ hrow j (.pv p) (by rw[Wf,hp]; rfl)
   refine⟨g1,v,?_,g3⟩
   have hjk:j<a.k:=by
    have h1:=c3 (q.map .pv) (Wa hrow)
    have h2:=(V9.1 hp).1
    simp at h1
    omega
   rw[cell?_putRow_other id _ _ _ _ _ (.inr ?_)]
   .exact g2
   .rw[hF]
    show e.ad id0+i'*a.k+j<_∨_≤e.ad id0+i'*a.k+j
    rcases hor with hlt'|hge
    .left
     have:=wq (k:=a.k) hlt' hjk
     omega
    .right
     have:=Wi a.k hge
     rw[Wm]at this
     omega
  rcases Wh i off with h1|h1
  .refine gl i ?_ (.inl h1) rfl
   rw[WK,We (by rw[W8]; omega),Wy,if_pos h1]at hq
   exact hq
  .rcases Wh i (off+len)with h2|h2
   .have htl:(rows.take off).length=off:=by rw[W8]; omega
    rw[List.getElem?_append_left (by simp only[List.length_append,htl,hn]; omega),List.getElem?_append_right (by rw[htl]; exact h1),htl]at hq
    have hmem:=hnk q (Wa hq)
    have hpm:=hmem.2 p (Wa hp)
    have hjk:j<a.k:=by rw[← hmem.1]; exact(V9.1 hp).1
    refine⟨(uL hpm).1,sv p,?_,.pv _ _ (yc hpm)⟩
    have hf:=hFv (i - off) j p (by simp[ff,hq,hp])
    have hlt2:=wq (k:=a.k) (show i - off<len by omega) hjk
    have hadd:i*a.k=off*a.k+(i - off)*a.k:=by rw[← Wm]; congr 1; omega
    have:=cell?_putRow id (Sort.ahead w n) (e.ar id0) (e.ad id0+off*a.k) F0 F (holds_ahead id w n _ _ F0 hF0) hF0s.symm ((i - off)*a.k+j) (by rw[hF]; exact hlt2)
    rw[show e.ad id0+i*a.k+j=e.ad id0+off*a.k+((i - off)*a.k+j) by omega,this,hf]
    rfl
   .refine gl i ?_ (.inr h2) rfl
    have hl2:(rows.take off++news).length=off+len:=by simp only[List.length_append,List.length_take,hn]; omega
    rw[Wn (by rw[hl2]; exact h2),hl2,WQ]at hq
    rw[show off+len+(i - (off+len))=i by omega]at hq
    exact hq
 .intro r hr' c hc
  rcases WT.1 hr' with hq|hq
  .rcases WT.1 hq with hq|hq
   .have:=c5
    rw[hb]at this
    exact this r (W2 hq) c hc
   .exact(uL ((hnk r hq).2 c hc)).2
  .have:=c5
   rw[hb]at this
   exact this r (W5 hq) c hc
theorem uM (hr:HR N L e W h w) {id0:Nat} {a:aL} {rows:List (List PV)} {off len:Nat} (h0:h.ar[id0]?=some a) (hb:a.body=.inl rows) (hk:a.k≠0) (hol:off+len≤rows.length)
  (hs:∀r∈(rows.drop off).take len,∀c∈r,pF c=true) (F:Array Value) (hF:F.size=len*a.k) (hFv:∀i j c,ff ((rows.drop off).take len) i j=some c→F[i*a.k+j]! =sv c):
  Holds id w (e.ar id0) (e.ad id0+off*a.k) F:=by
 obtain⟨c1,c2,c3,c4,c5⟩:=hr.ar id0 a h0 hk
 have hrw:a.rows=rows.map (·.map .pv):=by simp[aL.rows,hb]
 have kp:0<a.k:=Nat.pos_of_ne_zero hk
 intro t ht
 rw[hF]at ht
 have hi:t/a.k<len:=Nat.div_lt_of_lt_mul (by rw[Nat.mul_comm]; exact ht)
 have hj:t%a.k<a.k:=Wt _ kp
 have hq:rows[off+t/a.k]?=some rows[off+t/a.k]:=Wb (by omega)
 generalize rows[off+t/a.k]'(by omega)=q at hq
 have hrow:a.rows[off+t/a.k]?=some (q.map .pv):=by rw[hrw,Wf,hq]; rfl
 have hql:q.length=a.k:=by
  have:=c3 _ (Wa hrow)
  simpa using this
 have hp:q[t%a.k]?=some (q[t%a.k]'(by omega)):=Wb (by omega)
 generalize q[t%a.k]'(by omega)=p at hp
 have hin:((rows.drop off).take len)[t/a.k]?=some q:=by
  rw[Wy,if_pos hi,WQ]
  exact hq
 have hsc:=hs q (Wa hin) p (Wa hp)
 obtain⟨g1,v,g2,g3⟩:=c4 _ _ hrow (t%a.k) (.pv p) (by rw[Wf,hp]; rfl)
 have hv:v=sv p:=by
  cases g3 with
  |pv _ _ g=>exact Hk hsc g
 have hdm:off*a.k+t=(off+t/a.k)*a.k+t%a.k:=by
  rw[Wm]
  have:=Nat.div_add_mod t a.k
  rw[Nat.mul_comm]at this
  omega
 have hft:F[t]! =sv p:=by
  have:=hFv (t/a.k) (t%a.k) p (by simp[ff,hin,hp])
  rw[Nat.mul_comm,Nat.div_add_mod]at this
  exact this
 refine⟨?_,?_⟩
 .rw[show e.ad id0+off*a.k+t=e.ad id0+(off+t/a.k)*a.k+t%a.k by omega,g2,hv,hft]
  rfl
 .obtain⟨arr,ty,h1,_⟩:=c2.out
  simp[World.frozen?,h1]
end Go.Pv
namespace Go.Pv
open Go.Sort
def ins {α:Type} (lt:α→α→Bool) (x:α):List α→List α
 |[]=>[x]
 |y::r=>if lt y x then y::ins lt x r else x::y::r
def dp {α:Type} (lt:α→α→Bool):List α→List α
 |[]=>[]
 |x::r=>ins lt x (dp lt r)
def rising {α:Type} (lt:α→α→Bool):List α→Bool
 |[]=>true
 |[_]=>true
 |x::y::r=>lt x y&&rising lt (y::r)
theorem oe {α:Type} (lt:α→α→Bool) (x:α):∀l,(ins lt x l).Perm (x::l)
 |[]=>List.Perm.refl _
 |y::r=>by
  unfold ins
  split
  .exact((oe lt x r).cons y).trans (List.Perm.swap x y r)
  .exact List.Perm.refl _
theorem dc {α:Type} (lt:α→α→Bool):∀l,(dp lt l).Perm l
 |[]=>List.Perm.refl _
 |x::r=>(oe lt x _).trans ((dc lt r).cons x)
theorem sw {α:Type} {lt:α→α→Bool} (ht:∀x y z,lt x y=true→lt y z=true→lt x z=true):∀l,rising lt l=true→l.Pairwise (fun a b=>lt a b=true)
 |[],_=>List.Pairwise.nil
 |[x],_=>XC _ _
 |x::y::r,h=>by
  simp only[rising,Bool.and_eq_true]at h
  have h2:=sw ht (y::r) h.2
  refine List.Pairwise.cons (fun z hz=>?_) h2
  rcases WG.1 hz with rfl|hz
  .exact h.1
  .exact ht _ _ _ h.1 ((Wv.1 h2).1 z hz)
theorem qt {α:Type} {lt:α→α→Bool}:∀(m d:List α),m.Pairwise (fun a b=>lt a b=true)→d.Pairwise (fun a b=>lt b a=false)→d.Perm m→d=m
 |[],d,_,_,hp=>List.Perm.eq_nil hp
 |x::m,[],_,_,hp=>by simp at hp
 |x::m,y::d,hm,hd,hp=>by
  have hxy:y=x:=by
   have hy:y∈x::m:=hp.subset (WH ..)
   have hx:x∈y::d:=hp.symm.subset (WH ..)
   rcases WG.1 hy with h|h
   .exact h
   .rcases WG.1 hx with h'|h'
    .exact h'.symm
    .have h1:=(Wv.1 hm).1 y h
     have h2:=(Wv.1 hd).1 x h'
     rw[h1]at h2
     cases h2
  subst hxy
  rw[qt m d (Wv.1 hm).2 (Wv.1 hd).2 (List.Perm.cons_inv hp)]
variable {P:Program} {N:Nat→Nat} {W:Nat→Prop} {L:Lx} {e:bh} {h:aa} {w:World} {α:Type} [Inhabited α]
def gC (enc:α→List PV) (dec:List PV→Option α) (lt:α→α→Bool) (rows:List (List PV)):Option (List (List PV)):=
 match ay dec rows with
 |some l=>if rising lt (dp lt l)=true then some ((dp lt l).map enc) else none
 |none=>none
def jC (k:Nat) (f:List (List PV)→Option (List (List PV))) (g:Nat):List V→aa→Option (V×Tn)
 |[x,.func g' []],h=>if g'=g then (match x with
  |.tl []=>some (.dy [],{})
  |.own id ax off len=>match aB h id ax with
   |some a=>if len=0 then some (.dy [],{ ra:=some id }) else (match a.body with
    |.inl rows=>if a.k=k∧off+len≤rows.length∧len≤aN then (match f ((rows.drop off).take len)with
     |some news=>some (.dy [],{ ar:=some (id,⟨ax,k,.inl (rows.take off++news++rows.drop (off+len))⟩) })
     |none=>none) else none
    |.inr _=>none)
   |none=>none
  |_=>none) else none
 |_,_=>none
theorem pG {β γ:Type} {f:β→Option γ}:∀{l:List β} {r:List γ},ay f l=some r→r.length=l.length∧∀(i:Nat) (x:β) (y:γ),l[i]?=some x→r[i]?=some y→f x=some y
 |[],r,h=>by cases h; exact⟨rfl,fun i x y hx=>by simp at hx⟩
 |b::l,r,h=>by
  simp only[ay]at h
  split at h
  .rename_i y l' h1 h2
   cases h
   obtain⟨k1,k2⟩:=pG h2
   refine⟨by simp[k1],fun i x z hx hz=>?_⟩
   cases i with
   |zero=>simp at hx hz; subst hx; subst hz; exact h1
   |succ i=>exact k2 i x z (by simpa using hx) (by simpa using hz)
  .cases h
def pH (enc:α→List PV) (x:α):List Value:=(enc x).map sv
theorem yd {enc:α→List PV} {k:Nat} (hk:∀x,(enc x).length=k) (l:List α) (i j:Nat) (c:PV) (hc:ff (l.map enc) i j=some c):(flatK (pH enc) k l.toArray)[i*k+j]! =sv c:=by
 unfold ff at hc
 rw[Wf]at hc
 cases hx:l[i]? with
 |none=>simp[hx]at hc
 |some x=>
  simp only[hx,Option.map_some,Option.bind_some]at hc
  have hi:=(V9.1 hx).1
  have hj:j<k:=by rw[← hk x]; exact(V9.1 hc).1
  have hlt:i*k+j<l.toArray.size*k:=wq (by simpa using hi) hj
  rw[get_flatK _ _ _ _ hlt]
  have h1:(i*k+j)/k=i:=by
   rw[Nat.mul_comm,Nat.mul_add_div (by omega),Nat.div_eq_of_lt hj,Nat.add_zero]
  have h2:(i*k+j)%k=j:=by
   rw[Nat.mul_comm,Nat.mul_add_mod,XO hj]
  rw[h1,h2]
  have h3:l.toArray[i]! =x:=by
   rw[getElem!_pos _ i (by simpa using hi)]
   have:=(V9.1 hx).2
   simpa using this
  rw[h3]
  have h4:(pH enc x)[j]?=some (sv c):=by simp[pH,hc]
  rw[List.getElem!_eq_getElem?_getD,h4]
  rfl
theorem sx (i:Nat) (a:aL) (h:aa):Tn.apply { ar:=some (i,a) } h={ h with ar:=h.ar.set i a }:=by
 cases h
 simp[Tn.apply]
theorem Ey {k:Nat} (hk0:k≠0) {enc:α→List PV} {dec:List PV→Option α} (hde:∀r x,dec r=some x→enc x=r) (hk:∀x,(enc x).length=k) (hsc:∀x,∀c∈enc x,pF c=true)
  {lt:α→α→Bool} (hO:SWO lt) {fn g:Nat}
  (hent:∀args w,(callFunc (N fn) args).run P w=.ok (.enter (N fn) args) w)
  (hnone:∀(a:Option Addr) (cap:Nat) (w:World),Calls P (N fn) #[.slice a 0 cap,.func (.func (N g)) #[] #[]] w fun e w'=>e=.returned (.tuple #[])∧w'=w)
  (hcon:∀(blk off cap:Nat) (d:Array α) (w:World),HoldsK (pH enc) k w blk off d→blk<w.heap.size→d.size<4611686018427387904→rF N L w→(∀t,¬L t blk)→
   Calls P (N fn) #[.slice (some ⟨blk,off,none⟩) d.size cap,.func (.func (N g)) #[] #[]] w fun e w'=>e=.returned (.tuple #[])∧∃d' n os,PermIn 0 d.size d d'∧SortedIn lt 0 d.size d'∧w'=Go.Proofs.sortWorldK (pH enc) k w blk off n d' os)
  {vs:List V} {args:Array Value} {v:V} {tn:Tn} (hp:jC k (gC enc dec lt) g vs h=some (v,tn)) (hr:HR N L e W h w)
  (hs:args.size=vs.length) (hv:∀(j:Nat) (x:V),vs[j]?=some x→VR N L e w x (args.getD j undef)):
  da P (N fn) args w fun v' w'=>∃L' e',Nx N W L e w L' e' (tn.apply h) w'∧VR N L' e' w' v v':=by
 have key:∀(x:V) (g':Nat),vs=[x,.func g' []]→g'=g→∃v0,args=#[v0,.func (.func (N g)) #[] #[]]∧VR N L e w x v0:=by
  rintro x g' rfl rfl
  have h0:=hv 0 x rfl
  have h1:=hv 1 (.func g' []) rfl
  have hsz:args.size=2:=hs
  obtain⟨l⟩:=args
  match l,hsz with
  |[v0,v1],_=>
   refine⟨v0,?_,h0⟩
   have h1':VR N L e w (.func g' []) v1:=h1
   cases h1' with
   |func _ _ arr ha _=>
    have:arr=#[]:=Array.eq_empty_of_size_eq_zero ha
    subst this
    rfl
 have fin0:∀(a:Option Addr) (cap:Nat),args=#[.slice a 0 cap,.func (.func (N g)) #[] #[]]→tn.apply h=h→v=.dy []→da P (N fn) args w fun v' w'=>∃L' e',Nx N W L e w L' e' (tn.apply h) w'∧VR N L' e' w' v v':=by
  rintro a cap rfl ht rfl
  refine .inr ⟨hent _ _,(hnone a cap w).mono ?_⟩
  rintro en w' ⟨rfl,rfl⟩
  exact⟨L,e,by rw[ht]; exact Nx.refl hr,.dy [] #[] rfl (fun j c hj=>by simp at hj)⟩
 unfold jC at hp
 split at hp<;>first|(cases hp; done)|skip
 rename_i _ x g'
 split at hp<;>first|(cases hp; done)|skip
 rename_i hg
 obtain⟨v0,hargs,hv0⟩:=key x g' rfl hg
 split at hp<;>first|(cases hp; done)|skip
 .injection hp with hp
  injection hp with e1 e2
  subst e1
  subst e2
  cases hv0 with
  |tl rows a hh=>exact fin0 a 0 hargs (by cases h; simp[Tn.apply]) rfl
 .rename_i id0 ax off len
  split at hp<;>first|(cases hp; done)|skip
  rename_i a ha
  obtain⟨ha1,ha2⟩:=bn ha
  split at hp
  .rename_i hl
   subst hl
   injection hp with hp
   injection hp with e1 e2
   subst e1
   subst e2
   cases hv0 with
   |own _ _ _ _ a' cap _ _ _ _=>exact fin0 a' cap hargs (by cases h; simp[Tn.apply]) rfl
  .rename_i hl
   split at hp<;>first|(cases hp; done)|skip
   rename_i rows hb
   split at hp<;>first|(cases hp; done)|skip
   rename_i hc
   obtain⟨hak,hol,hm⟩:=hc
   split at hp<;>first|(cases hp; done)|skip
   rename_i news hnews
   injection hp with hp
   injection hp with e1 e2
   subst e1
   subst e2
   unfold gC at hnews
   split at hnews<;>first|(cases hnews; done)|skip
   rename_i l hl2
   split at hnews<;>first|(cases hnews; done)|skip
   rename_i hris
   injection hnews with hnews
   subst hnews
   obtain⟨m1,m2⟩:=pG hl2
   have hcut:((rows.drop off).take len).length=len:=by simp only[List.length_take,List.length_drop]; omega
   have hrl:(rows.drop off).take len=l.map enc:=by
    apply WW
    intro i
    rw[Wf]
    rcases Wh i len with hi|hi
    .have h1:((rows.drop off).take len)[i]?=some (((rows.drop off).take len)[i]'(by omega)):=Wb (by omega)
     have h2:l[i]?=some (l[i]'(by omega)):=Wb (by omega)
     rw[h2,h1]
     exact congrArg some (hde _ _ (m2 i _ _ h1 h2)).symm
    .rw[WS (by omega),WS (by omega)]
     rfl
   have hll:l.length=len:=by omega
   have hk':a.k≠0:=by rw[hak]; exact hk0
   obtain⟨v1,v2,v3,_⟩:=hr.ax id0 a ha1
   have hid:id0<e.na:=by rw[hr.na]; exact(V9.1 ha1).1
   cases hv0 with
   |own _ _ _ _ a' cap g0 g1 g2 g3=>
    obtain⟨k1,k2,k3,k4⟩:=g3 (by rw[v1,ha2])
    have ha':=k4 (by omega)
    subst ha'
    have hH:Holds id w (e.ar id0) (e.ad id0+off*a.k) (flatK (pH enc) k l.toArray):=by
     refine uM hr ha1 hb hk' hol ?_ _ (by simp[hll,hak]) ?_
     .intro r hr' c hc
      rw[hrl]at hr'
      obtain⟨y,_,rfl⟩:=Wk.1 hr'
      exact hsc y c hc
     .intro i j c hc
      rw[hrl]at hc
      rw[hak]
      exact yd hk l i j c hc
    have hblk:=hr.gP hid (by rw[v2]; exact hk')
    rw[hargs]
    refine .inr ⟨hent _ _,?_⟩
    have hcall:=hcon (e.ar id0) (e.ad id0+off*e.ak id0) cap l.toArray w (by rw[v2]; exact hH) hblk (by simp[hll]; unfold aN at hm; omega) hr.zm (hr.mm id0 hid (by rw[v2]; exact hk')).2
    rw[show l.toArray.size=len by simp[hll]]at hcall
    refine hcall.mono ?_
    rintro en w' ⟨rfl,d',n,os,hp1,hp2,rfl⟩
    have hd':d'=(dp lt l).toArray:=by
     obtain⟨p1,p2,p3⟩:=hp1
     have hsz:d'.size=len:=by simpa [hll]using p1
     have hperm:d'.toList.Perm l:=by
      have e1:d'.extract 0 len=d':=by rw[← hsz]; exact Array.extract_size
      have e2:l.toArray.extract 0 len=l.toArray:=by rw[show len=l.toArray.size by simp[hll]]; exact Array.extract_size
      rw[e1,e2]at p3
      simpa using p3
     have hsort:d'.toList.Pairwise (fun a b=>lt b a=false):=by
      rw[Xd]
      intro i j hi hj hij
      have:=hp2 i j (Nat.zero_le _) hij (by rw[← hsz]; simpa using hj)
      rw[getElem!_pos d' i (by simpa using hi),getElem!_pos d' j (by simpa using hj)]at this
      simpa using this
     have:=qt (dp lt l) d'.toList (sw hO.trans _ hris) hsort (hperm.trans (dc lt l).symm)
     rw[← this]
    subst hd'
    have hlen2:(dp lt l).length=len:=by rw[(dc lt l).length_eq,hll]
    obtain⟨e',hnx⟩:=BD hr ha1 hb hk' hol (news:=(dp lt l).map enc) (by simp[hlen2]) (by
     intro r hr'
     obtain⟨y,_,rfl⟩:=Wk.1 hr'
     exact⟨by rw[hak]; exact hk y,hsc y⟩) (flatK (pH enc) k (dp lt l).toArray) (by simp[hlen2,hak]) (by
     intro i j c hc
     rw[hak]
     exact yd hk _ i j c hc) n os _ hH (by simp[hll,hlen2])
    refine⟨L,e',?_,.dy [] #[] rfl (fun j c hj=>by simp at hj)⟩
    rw[sx,← ha2,← hak]
    have:Go.Proofs.sortWorldK (pH enc) a.k w (e.ar id0) (e.ad id0+off*e.ak id0) n (dp lt l).toArray os=grow (putRow id (Sort.ahead w n) (e.ar id0) (e.ad id0+off*a.k) (flatK (pH enc) k (dp lt l).toArray)) os:=by
     rw[v2,hak]
     rfl
    rw[this]
    exact hnx
end Go.Pv
namespace Go.Pv
open Go.Sort
variable {P:Program} {N:Nat→Nat} {W:Nat→Prop} {L:Lx} {e:bh} {h:aa} {w w':World}
theorem Fr.grown (hf:Fr (Wc w none) w w'):∃q os,w'=grow (w.drewN q) os:=by
 refine⟨w'.drawn - w.drawn,w'.heap.extract w.heap.size w'.heap.size,?_⟩
 obtain⟨h1,h2,h3,h4,h5,h6⟩:=hf
 have hh:w'.heap=w.heap++w'.heap.extract w.heap.size w'.heap.size:=by
  apply Array.ext_getElem?
  intro i
  rcases Wh i w.heap.size with hi|hi
  .rw[Array.getElem?_append_left hi]
   exact h5 i hi (fun hc=>by rcases hc with hc|hc<;>first|omega|cases hc)
  .rw[Array.getElem?_append_right hi,Array.getElem?_extract]
   rcases Wh i w'.heap.size with hi2|hi2
   .rw[if_pos (by omega)]
    congr 1
    omega
   .rw[Array.getElem?_eq_none hi2,if_neg (by omega)]
 obtain⟨heap,tape,drawn,os,output⟩:=w
 obtain⟨heap',tape',drawn',os',output'⟩:=w'
 simp only at h1 h2 h3 h4 h5 h6 hh
 subst h1
 subst h2
 subst h3
 show _=grow (Sort.ahead _ _) _
 simp only[grow,Sort.ahead]
 rw[← hh]
 congr 1
 show drawn'=drawn+(drawn' - drawn)
 omega
theorem Ez {p:PV} (hp:pF p=true):p.one=true:=by
 cases p<;>simp[pF]at hp<;>rfl
theorem sz {ps:List PV} (hp:∀c∈ps,pF c=true):dw N L w (.agg ps) (.agg (ps.map sv).toArray):=by
 refine .agg _ _ (by simp) (fun j c hj=>?_) (fun c hc=>Ez (hp c hc))
 have:(ps.map sv).toArray.getD j undef=sv c:=by
  simp[Array.getD_eq_getD_getElem?,hj]
 rw[this]
 exact yc (hp c (Wa hj))
theorem CB {g:Nat} {ps:List PV} {k:IntKind} {n:Int} (hF:uq P N g ps [.int k n]) {args:Array Value} (w:World) (ht:rF N L w)
  (eg:∀args w,(callFunc (N g) args).run P w=.ok (.enter (N g) args) w) (hl:args.toList.length=ps.length) (ha:∀(j:Nat) (p:PV),ps[j]?=some p→∃v,args.toList[j]?=some v∧∀L',dw N L' w p v):
  Calls P (N g) args w fun e w'=>e=.returned (.int k n)∧∃q os',w'=grow (w.drewN q) os':=by
 have hc:=hF (fun t b=>t=7777∧L t b∧b<w.heap.size) w none args (fun _ _ h=>h.2.2) (fun g hg=>by
  obtain⟨h1,ty,z,h2⟩:=ht g hg
  exact⟨⟨rfl,h1,(Wr.1 h2).1⟩,ty,z,h2⟩) (.plain _ _ hl fun j p hj=>by
  obtain⟨v,h1,h2⟩:=ha j p hj
  exact⟨v,h1,h2 _⟩)
 rcases hc with⟨v,w',h1,h2⟩|⟨h1,h2⟩
 .rw[eg]at h1
  cases h1
 .refine h2.mono fun en w' hh=>?_
  cases en with
  |returned v=>
   obtain⟨L1,bs,vals,f1,f2,f3,f4,f5,f6,f7,rfl⟩:=hh
   refine⟨?_,f1.grown⟩
   cases f5 with
   |cons p u b1 ps vs b2 q1 q2=>
    cases q2
    cases q1 with
    |cell _ _ _ q=>
     cases q with
     |keep _ _ _ q=>cases q; rfl
  |panicked=>exact hh.elim
  |outgrown=>exact hh.elim
theorem EA {α:Type} [Inhabited α] {g:Nat} {enc:α→List PV} (hsc:∀x,∀c∈enc x,pF c=true) {cf:α→α→Int} (hF:∀x y,uq P N g [.agg (enc x),.agg (enc y)] [.int .i64 (cf x y)])
  (eg:∀args w,(callFunc (N g) args).run P w=.ok (.enter (N g) args) w) (k blk off size:Nat) (w:World) (ht:rF N L w) (hb:∀t,¬L t blk):Go.Proofs.CmpLays P (N g) #[] (pH enc) k cf blk off size w:=by
 intro m os dk hs x y
 refine CB (L:=L) (hF x y) _ (fun b hg=>?_) eg rfl fun j p hj=>?_
 .obtain⟨h1,ty,z,h2⟩:=ht b hg
  refine⟨h1,ty,z,?_⟩
  have hlt:=(Wr.1 h2).1
  have hne:blk≠b:=fun he=>hb _ (he ▸ h1)
  show (grow (putRow id (Sort.ahead w m) blk off (flatK (pH enc) k dk)) os).heap[b]?=_
  rw[heap_grow_old _ _ (by simp[putRow,mapBlock,Sort.ahead]; exact hlt)]
  simp only[putRow,mapBlock,Sort.ahead,Array.getElem?_modify]
  rw[if_neg hne]
  exact h2
 .match j,hj with
  |0,hj=>
   cases hj
   exact⟨_,rfl,fun _=>sz (hsc x)⟩
  |1,hj=>
   cases hj
   exact⟨_,rfl,fun _=>sz (hsc y)⟩
  |j+2,hj=>simp at hj
end Go.Pv
namespace Go.Proofs
open Go.Shelf Go.RowKit Go.Lib
variable {P:Program} {ρ:Ren}
theorem sA {ops:Array Oper} {rest:List Oper} {o:Oper} {a:Act} {w:World} {Q:Exit→Act→World→Prop} (hgd:o.guard=none) (s x:Operand) (t:TypeId)
  (ho:o.op=.call { callee:=.builtin .append,args:=#[s,x],argTypes:=#[t,t] }) (e:TypeId) (i:TypeInfo) (ht:P.underlying t=some (.slice e)) (hi:P.info? e=some i)
  (g:Nat) (hg:w.heap[g]?=some (.cells #[] e (0,0))) (hs:a.eval s=.slice (some ⟨g,0,none⟩) 0 0) (ad:Addr) (c:Nat) (hx:a.eval x=.slice (some ad) 0 c)
  (h:wpList P ops Q rest (a.put o.dst (.slice (some ⟨g,0,none⟩) 0 0)) w):wpList P ops Q (o::rest) a w:=by
 refine wpList_plain hgd fun K hK=>?_
 have hr:=run_append_room (P:=P) w t o.type e i ht hi g 0 0 #[] hg ad 0 c [] (by simp) (fun j u hj=>by simp at hj) (fun u hu=>by simp at hu) (Nat.le_refl _) (by simp)
 have hw:w.setRow g (([]:List Value).take (0*i.size)++[]++([]:List Value).drop (0*i.size+([]:List Value).length)).toArray=w:=by
  simp only[List.take_nil,List.drop_nil,List.append_nil]
  unfold World.setRow
  have:w.heap.modify g (fun|.cells _ t f=>.cells #[] t f|o=>o)=w.heap:=by
   apply Array.ext_getElem?
   intro k
   rw[Array.getElem?_modify]
   split
   .rename_i hk
    subst hk
    rw[hg]
    rfl
   .rfl
  first|rw[this]|(congr 1)
 rw[show (#[]:Array Value).toList=[] from rfl,hw]at hr
 unfold Oper.wp execOp
 simp only[ho,resolve,invoke,builtin,Sem.run_bind,Sem.run_pure,Result.andThen_ok,List.map_toArray,List.map_cons,List.map_nil,hs,hx,hr]
 exact hK _ _ h
set_option maxHeartbeats 1000000 in
theorem sB (L:SlLaysE0.n41 P ρ) (i0:TypeInfo) (z:Value) (hi:P.info? (ρ.t 23)=some i0) (_hz0:i0.zero=some z)
  (z23:∀w,(Go.sizeOf (ρ.t 23)).run P w=.ok i0.size w) (ad:Addr) (c:Nat) (w:World):
  Calls P (ρ.f 41) #[.slice (some ad) 0 c] w fun e w'=>∃g,e=.returned (.slice (some ⟨g,0,none⟩) 0 0)∧w'=w.alloc (.cells #[] (ρ.t 23)):=by
 have mixed:=L.mixed; have t4:=L.t4; have a4:=L.a4; have z4:=L.z4; have v4:=L.v4; have t22:=L.t22; have a22:=L.a22; have z22:=L.z22; have v22:=L.v22
 have q22:∀(w:World) (a:Option Addr) (n c n' c':Nat),(binOp .eql (ρ.t 22) (.slice a n c) (.slice none n' c')).run P w=.ok (.bool a.isNone) w:=fun w a n c n' c'=>Lib.run_eql_slice_nil w _ _ a n c n' c' L.t22
 have u22:∀w,Sem.run P (underlying (ρ.t 22)) w=.ok (TypeDesc.slice (ρ.t 23)) w:=run_underlying t22
 obtain⟨_,_,FG⟩:=L.f41
 go_enter FG,SlBodyN.n41_ntmps ρ
 go_wp2_with (at_builtin; refine sA rfl _ _ (ρ.t 22) rfl (ρ.t 23) i0 t22 hi w.heap.size ?qc1 rfl ad c rfl ?_)
 case qc1=>exact heap_alloc_new w _
 go_wp2
 go_ret
 exact⟨_,rfl,rfl⟩
theorem sC {ops:Array Oper} {rest:List Oper} {o:Oper} {a:Act} {w:World} {Q:Exit→Act→World→Prop} (hgd:o.guard=none) (s x:Operand) (t:TypeId)
  (ho:o.op=.call { callee:=.builtin .append,args:=#[s,x],argTypes:=#[t,t] }) (e:TypeId) (i:TypeInfo) (z:Value) (ht:P.underlying t=some (.slice e)) (hi:P.info? e=some i) (hz:i.zero=some z) (zc:Array Value) (hzc:z.cells=zc)
  (g:Nat) (hs:a.eval s=.slice (some ⟨g,0,none⟩) 0 0) (ad:Addr) (n c:Nat) (hx:a.eval x=.slice (some ad) n c) (news:List Value) (hl:news.length=n*i.size) (hnews:∀j v,news[j]?=some v→w.cell? (ad.add j)=some v)
  (hn:0<n) (hm:n≤maxLen) (hb:n*i.bytes≤140737488355328)
  (h:wpList P ops Q rest (a.put o.dst (.slice (some ⟨w.heap.size,0,none⟩) n (grownCap w n 0 e))) (w.drew.alloc (.cells (news.toArray++Builtin.zeroCells zc (grownCap w n 0 e - n)) e))):wpList P ops Q (o::rest) a w:=by
 subst hzc
 refine wpList_plain hgd fun K hK=>?_
 have hr:=run_append_grow (P:=P) w t o.type e i z ht hi hz ⟨g,0,none⟩ 0 0 [] (by simp) (fun j v hj=>by simp at hj) ad n c news hl hnews (by omega) (by unfold maxLen at hm; omega) (by rw[Nat.zero_add,nextslicecap_zero hn]; omega)
 simp only[Nat.zero_add,Array.empty_append]at hr
 unfold Oper.wp execOp
 simp only[ho,resolve,invoke,builtin,Sem.run_bind,Sem.run_pure,Result.andThen_ok,List.map_toArray,List.map_cons,List.map_nil,hs,hx,hr]
 exact hK _ _ h
def mT (w:World) (e:TypeId) (zc:Array Value) (n:Nat) (news:List Value):World:=
 (w.alloc (.cells #[] e)).drew.alloc (.cells (news.toArray++Builtin.zeroCells zc (grownCap (w.alloc (.cells #[] e)) n 0 e - n)) e)
set_option maxHeartbeats 1000000 in
theorem tV (L:SlLaysE0.n41 P ρ) (i0:TypeInfo) (z:Value) (hi:P.info? (ρ.t 23)=some i0) (hz0:i0.zero=some z) (zc:Array Value) (hzc:z.cells=zc)
  (z23:∀w,(Go.sizeOf (ρ.t 23)).run P w=.ok i0.size w) (ad:Addr) (n c:Nat) (news:List Value) (w:World) (hl:news.length=n*i0.size) (hn0:0<n) (hn:n≤maxLen) (hbig:n*i0.bytes≤140737488355328)
  (hc:∀j u,news[j]?=some u→w.cell? (ad.add j)=some u):
  Calls P (ρ.f 41) #[.slice (some ad) n c] w fun e w'=>e=.returned (.slice (some ⟨w.heap.size+1,0,none⟩) n (grownCap (w.alloc (.cells #[] (ρ.t 23))) n 0 (ρ.t 23)))∧w'=mT w (ρ.t 23) zc n news:=by
 have mixed:=L.mixed; have t4:=L.t4; have a4:=L.a4; have z4:=L.z4; have v4:=L.v4; have t22:=L.t22; have a22:=L.a22; have z22:=L.z22; have v22:=L.v22
 have q22:∀(w:World) (a:Option Addr) (n c n' c':Nat),(binOp .eql (ρ.t 22) (.slice a n c) (.slice none n' c')).run P w=.ok (.bool a.isNone) w:=fun w a n c n' c'=>Lib.run_eql_slice_nil w _ _ a n c n' c' L.t22
 have u22:∀w,Sem.run P (underlying (ρ.t 22)) w=.ok (TypeDesc.slice (ρ.t 23)) w:=run_underlying t22
 have A:Aside (∀j u,news[j]?=some u→w.cell? (ad.add j)=some u):=hc
 clear hc
 unfold mT
 obtain⟨_,_,FG⟩:=L.f41
 go_enter FG,SlBodyN.n41_ntmps ρ
 go_wp2_with (at_builtin; refine sC rfl _ _ (ρ.t 22) rfl (ρ.t 23) i0 z t22 hi hz0 zc hzc w.heap.size rfl ad n c rfl news ?qc1 ?qc2 ?qc3 ?qc4 ?qc5 ?_)
 case qc1=>exact hl
 case qc2=>
  intro j u hj
  exact Lib.cell?_alloc_some _ (A.out j u hj)
 case qc3=>exact hn0
 case qc4=>exact hn
 case qc5=>exact hbig
 go_wp2
 go_ret
 exact⟨by simp,rfl⟩
end Go.Proofs
namespace Go.Pv
open Go.Shelf
variable {P:Program} {N:Nat→Nat} {W:Nat→Prop} {L:Lx} {e:bh} {h:aa} {w:World}
def aZ (k:Nat):List V→aa→Option (V×Tn)
 |[x],h=>match aW h x with
  |some (.inl rows,rd)=>if aO k (.inl rows)=true∧rows.length≤aN then
    (if rows.length=0 then some (.tl [],{ ra:=rd }) else some (.own h.ar.length 0 0 rows.length,{ push:=[⟨0,k,.inl rows⟩],ra:=rd,base:=h.ar.length })) else none
  |_=>none
 |_,_=>none
theorem dw.nil (a:Option Addr):dw N L w (.aq 0 []) (.slice a 0 0):=
 .aq 0 [] a ⟨0,0,none⟩ 0 0 (fun _ _=>undef) (fun r hr=>by simp at hr) (Nat.le_refl _) (fun h=>by simp at h) (fun i j c hc=>by simp[ff]at hc) (fun i j c hc=>by simp[ff]at hc) (fun _ i j c hc=>by simp[ff]at hc) (fun i j c hc=>by simp[ff]at hc)
theorem fm {ρ:Ren} (LL:Go.Proofs.SlLaysE0.n41 P ρ) {fn:Nat} (hfn:N fn=ρ.f 41) {k:Nat} (hk:k≠0) (i0:TypeInfo) (z:Value) (hi:P.info? (ρ.t 23)=some i0) (hz0:i0.zero=some z) (hzs:z.cells.size=k) (his:i0.size=k) (hby:i0.bytes≤32768)
  (z23k:∀w,(Go.sizeOf (ρ.t 23)).run P w=.ok k w) (hent:∀args w,(callFunc (N fn) args).run P w=.ok (.enter (N fn) args) w)
  {vs:List V} {args:Array Value} {v:V} {tn:Tn} (hp:aZ k vs h=some (v,tn)) (hr:HR N L e W h w)
  (hs:args.size=vs.length) (hv:∀(j:Nat) (x:V),vs[j]?=some x→VR N L e w x (args.getD j undef)):
  da P (N fn) args w fun v' w'=>∃L' e',Nx N W L e w L' e' (tn.apply h) w'∧VR N L' e' w' v v':=by
 have z23:∀w,(Go.sizeOf (ρ.t 23)).run P w=.ok i0.size w:=fun w=>by rw[his]; exact z23k w
 unfold aZ at hp
 split at hp<;>first|(cases hp; done)|skip
 rename_i x
 split at hp<;>first|(cases hp; done)|skip
 rename_i rows rd hsrc
 split at hp<;>first|(cases hp; done)|skip
 rename_i hc
 obtain⟨hfit,hmost⟩:=hc
 have hargs:∃v0,args=#[v0]∧VR N L e w x v0:=by
  have h0:=hv 0 x rfl
  have hsz:args.size=1:=hs
  obtain⟨l⟩:=args
  match l,hsz with
  |[v0],_=>exact⟨v0,rfl,h0⟩
 obtain⟨v0,rfl,hv0⟩:=hargs
 obtain⟨B,c,ad,vals,rfl,s1,s2,s3,s4,s5⟩:=nH hr hv0 hsrc hfit hk
 have hlen:aD (.inl rows:Sum (List (List PV)) (List (List V)))=rows.length:=rfl
 rw[hlen]at s1 ⊢
 split at hp
 .rename_i h0
  injection hp with hp
  injection hp with e1 e2
  subst e1
  subst e2
  rw[h0]
  have hap:Tn.apply { ra:=rd } h=h:=by cases h; simp[Tn.apply]
  rw[hap]
  have h2:VR N L e w (.tl []) (.slice none 0 0):=.tl [] none (dw.nil _) vT.nil
  cases B with
  |none=>
   refine .inr ⟨hent _ _,?_⟩
   rw[hfn]
   refine(Go.Proofs.AnyE.slices_Clone_nil LL 0 c w).mono ?_
   rintro en w' ⟨rfl,rfl⟩
   exact⟨L,e,Nx.refl hr,h2⟩
  |some a=>
   refine .inr ⟨hent _ _,?_⟩
   rw[hfn]
   refine(Go.Proofs.sB LL i0 z hi hz0 z23 a c w).mono ?_
   rintro en w' ⟨g,rfl,rfl⟩
   exact⟨L,e,Nx.idle hr _,.tl [] _ (dw.nil _) vT.nil⟩
 .rename_i h0
  injection hp with hp
  injection hp with e1 e2
  subst e1
  subst e2
  have hB:=s1 (by omega)
  subst hB
  refine .inr ⟨hent _ _,?_⟩
  rw[hfn]
  have hvl:vals.length=rows.length*k:=by rw[s2.1,cz]; rfl
  refine(Go.Proofs.tV LL i0 z hi hz0 z.cells rfl z23 ad rows.length c vals w (by rw[his]; exact hvl) (by omega) (by unfold maxLen; unfold aN at hmost; omega) (by
   have:rows.length*i0.bytes≤2147483648*32768:=Nat.mul_le_mul hmost hby
   omega) s3).mono ?_
  rintro en w' ⟨rfl,rfl⟩
  unfold Go.Proofs.mT
  have n1:=Nx.idle hr (.cells #[] (ρ.t 23))
  have n2:=Nx.drew n1.hr
  have n12:=n1.trans n2
  have hG:=grownCap_ge (w.alloc (.cells #[] (ρ.t 23))) rows.length 0 (ρ.t 23)
  generalize grownCap (w.alloc (.cells #[] (ρ.t 23))) rows.length 0 (ρ.t 23)=G at hG ⊢
  have hsz:(vals.toArray++Builtin.zeroCells z.cells (G - rows.length)).size=G*k:=by
   simp only[Array.size_append,List.size_toArray,size_zeroCells,hzs,hvl,← Nat.add_mul]
   congr 1
   omega
  obtain⟨n3,v3⟩:=vX n2.hr hk (n:=rows.length) (c:=G) (body:=.inl rows) (arr:=vals.toArray++Builtin.zeroCells z.cells (G - rows.length)) (el:=ρ.t 23) (by
   rw[Array.toList_append,List.take_append_of_le_length (by simp[hvl])]
   rw[show (vals.toArray.toList).take (rows.length*k)=vals by simp[← hvl]]
   exact s2.mono n12.ext) rfl hG (by rw[hsz]; exact Wj _) s4
  refine⟨L,_,by rw[Tn.iI]; exact n12.trans n3,?_⟩
  have hheap:((w.alloc (.cells #[] (ρ.t 23))).drew).heap.size=w.heap.size+1:=by simp[World.drew]
  rw[← hheap]
  exact v3
end Go.Pv
namespace Go.Pv
abbrev Prim:=List V→aa→Option (V×Tn)
structure Prim.Ri (pr:Prim):Prop where
 loc:∀vs h1 h2 v t,pr vs h1=some (v,t)→gu t h1 h2→pr vs h2=some (v,t)
 fit:∀vs h v t,pr vs h=some (v,t)→t.fit h
 gl:∀vs h v t,pr vs h=some (v,t)→t.new=false
def Prim.Ok (P:Program) (N:Nat→Nat) (fn:Nat) (pr:Prim):Prop:=
 ∀(L:Lx) (e:bh) (W:Nat→Prop) (h:aa) (w:World) (vs:List V) (args:Array Value) (v:V) (tn:Tn),pr vs h=some (v,tn)→HR N L e W h w→
  args.size=vs.length→(∀(j:Nat) (x:V),vs[j]?=some x→VR N L e w x (args.getD j undef))→
  da P (N fn) args w fun v' w'=>∃L' e',Nx N W L e w L' e' (tn.apply h) w'∧VR N L' e' w' v v'
theorem ig {α:Type} {n:Nat} {x:α}:∀{l:List (Nat×α)},aE n l=some x→(n,x)∈l
 |[],h=>by cases h
 |(m,y)::r,h=>by
  simp only[aE]at h
  split at h
  .rename_i hm
   cases h
   subst hm
   exact WH ..
  .exact W3 _ (ig h)
theorem uN {l:List (Nat×Prim)} (hl:∀x∈l,Prim.Ri x.2):cI (fun n=>aE n l):=
 ⟨fun _fn _pr hf=>(hl _ (ig hf)).loc,fun _fn _pr hf=>(hl _ (ig hf)).fit,fun _fn _pr hf=>(hl _ (ig hf)).gl⟩
theorem ye {P:Program} {N:Nat→Nat} {l:List (Nat×Prim)} (hl:∀x∈l,Prim.Ok P N x.1 x.2):dU P N (fun n=>aE n l):=
 fun _fn _pr hf=>hl _ (ig hf)
theorem CC (k:Nat) (f:List (List PV)→Option (List (List PV))) (g:Nat):Prim.Ri (jC k f g) where
 gl:=by
  intro vs h v t hh
  unfold jC at hh
  repeat' split at hh
  all_goals first|(cases hh; done)|(injection hh with hh; injection hh with e1 e2; subst e2; rfl)
 loc:=by
  intro vs h1 h2 v t hh ha
  unfold jC at hh ⊢
  split at hh<;>first|(cases hh; done)|skip
  split at hh<;>first|(cases hh; done)|skip
  rename_i hg
  simp only[hg,if_true]
  split at hh<;>first|(cases hh; done)|skip
  .exact hh
  .rename_i id ax off len
   split at hh<;>first|(cases hh; done)|skip
   rename_i a ho
   have:(t.ra=some id∨t.np=some id∨∃a,t.ar=some (id,a))→aB h2 id ax=some a:=fun hi=>(ha.own hi).trans ho
   split at hh
   .rename_i h0
    injection hh with hh
    injection hh with e1 e2
    subst e1
    subst e2
    rw[this (.inl rfl)]
    simp only[h0,if_true]
   .rename_i h0
    split at hh<;>first|(cases hh; done)|skip
    rename_i rows hb
    split at hh<;>first|(cases hh; done)|skip
    rename_i hc
    split at hh<;>first|(cases hh; done)|skip
    rename_i news hn
    injection hh with hh
    injection hh with e1 e2
    subst e1
    subst e2
    rw[this (.inr (.inr ⟨_,rfl⟩))]
    simp only[h0,if_false,hb,hn]
    rw[if_pos hc]
 fit:=by
  intro vs h v t hh
  unfold jC at hh
  split at hh<;>first|(cases hh; done)|skip
  split at hh<;>first|(cases hh; done)|skip
  split at hh<;>first|(cases hh; done)|skip
  .injection hh with hh
   injection hh with e1 e2
   subst e2
   exact⟨fun hp=>absurd rfl hp,fun i a hia=>by cases hia⟩
  .split at hh<;>first|(cases hh; done)|skip
   rename_i a ho
   split at hh
   .injection hh with hh
    injection hh with e1 e2
    subst e2
    exact⟨fun hp=>absurd rfl hp,fun i a hia=>by cases hia⟩
   .split at hh<;>first|(cases hh; done)|skip
    split at hh<;>first|(cases hh; done)|skip
    split at hh<;>first|(cases hh; done)|skip
    injection hh with hh
    injection hh with e1 e2
    subst e2
    refine⟨fun hp=>absurd rfl hp,fun i a' hia=>?_⟩
    cases hia
    exact fj ho
theorem ee (k:Nat):Prim.Ri (aZ k) where
 gl:=by
  intro vs h v t hh
  unfold aZ at hh
  repeat' split at hh
  all_goals first|(cases hh; done)|(injection hh with hh; injection hh with e1 e2; subst e2; rfl)
 loc:=by
  intro vs h1 h2 v t hh ha
  unfold aZ at hh ⊢
  split at hh<;>first|(cases hh; done)|skip
  split at hh<;>first|(cases hh; done)|skip
  rename_i rows rd hs
  split at hh<;>first|(cases hh; done)|skip
  rename_i hc
  split at hh
  .rename_i h0
   injection hh with hh
   injection hh with e1 e2
   subst e1
   subst e2
   rw[gx hs (fun i hi=>ha.ar i (.inl hi))]
   simp only
   rw[if_pos hc,if_pos h0]
  .rename_i h0
   injection hh with hh
   injection hh with e1 e2
   subst e1
   subst e2
   rw[gx hs (fun i hi=>ha.ar i (.inl hi))]
   simp only
   rw[if_pos hc,if_neg h0,ha.len (by simp)]
 fit:=by
  intro vs h v t hh
  unfold aZ at hh
  split at hh<;>first|(cases hh; done)|skip
  split at hh<;>first|(cases hh; done)|skip
  split at hh<;>first|(cases hh; done)|skip
  split at hh
  all_goals
   injection hh with hh
   injection hh with e1 e2
   subst e2
   refine⟨fun hp=>?_,fun i a hia=>by cases hia⟩
   first|rfl|exact absurd rfl hp
end Go.Pv
