/-
 The interpreter over plain values,and that it is sound.
-/
import Derived.Test.YtpchfogcccagjaaGreatA2
import Derived.ProofKit
import Derived.Carry
import Derived.Attr
import Derived.Sort.Grow
import Derived.Shelf.GgSortFunc.InsertionK
import Derived.Shelf.SlSortCmp.InsertionK
import Derived.Shelf.SlicesE.Clone
open List renaming getElem?_eq_some_iff → Vy, mem_of_getElem? → Vz, getElem?_eq_getElem → VA, length_map → VB, getElem?_append_left → VC, mem_iff_getElem? → VD, length_append → VE, getElem?_map → VF, length_take → VH, eq_nil_of_length_eq_zero → VJ, getElem?_append_right → VM, getElem?_take → VN, append_assoc → VO, mem_map → VP, pairwise_cons → VQ, mem_cons → V6, getElem?_eq_none → V8, all_eq_true → V9, findIdx?_eq_some_iff_getElem → Wd, mem_cons_self → We, getElem?_drop → Wg, mem_append_left → Wh, ext_getElem? → Wi, append_nil → Wj, mem_cons_of_mem → Wl, mem_append → Wm, take_append_drop → Wo, mem_filterMap → Wz, map_take → WK, mem_of_mem_take → WL, pairwise_singleton → WQ, isEmpty_iff → W3, contains_iff_mem → W7, mem_of_mem_drop → W8
open Nat renaming lt_or_ge → VG, le_refl → VI, mul_le_mul_right → VL, add_mul → VZ, zero_le → V4, mod_lt → Wa, lt_of_lt_of_le → Wq, le_trans → Wr, one_mul → Wv, add_assoc → Wx, le_max_right → WS, zero_add → WY, not_lt_zero → WZ, add_zero → Xi, mod_eq_of_lt → Xm
open Array renaming getElem?_toList → VU, getElem?_eq_some_iff → VV
open Option renaming map_eq_some_iff → Wf, map_some → Xb
open Int renaming eq_ofNat_of_zero_le → W1
namespace Go.Pv
variable {P:Program} {N M:Nat→Nat} {W:Nat→Prop} {L L':Lx} {e e':bn} {h:af} {w w':World} {Φ:Nat→List PV→Option (List PV)} {Pr:br} {Tk:Nat→Bool}
def bn.cut (e:bn) (kb:List Nat):bn:={ e with sl:=fun s=>e.sl s∧(s∈kb∨dS s=true) }
theorem sL (s:Nat):∀bx:List (Nat×List V),aG s (pins bx)=if dS s=true then aG s bx else none
 |[]=>by simp[pins,aG]
 |(t,cs)::r=>by
  have ih:=sL s r
  simp only[pins]
  by_cases ht:dS t=true
  .rw[if_pos ht]
   simp only[aG]
   by_cases hs:t=s
   .subst hs; simp[ht]
   .rw[if_neg hs,if_neg hs]; exact ih
  .rw[if_neg ht,ih]
   by_cases hs:dS s=true
   .have:t≠s:=fun h=>ht (h ▸ hs)
    simp[hs,aG,this]
   .simp[hs]
theorem sM (kb:List Nat) (bx:List (Nat×List V)) (s:Nat):aG s (hM kb bx)=if s∈kb∨dS s=true then aG s bx else none:=by
 induction kb with
 |nil=>
  have:=sL s bx
  simp only[hM]
  rw[this]
  simp
 |cons k r ih=>
  simp only[hM]
  cases hk:aG k bx with
  |none=>
   simp only
   rw[ih]
   by_cases hs:s=k
   .subst hs; simp[hk]
   .simp[hs]
  |some cs=>
   simp only[aG]
   by_cases hs:k=s
   .subst hs; simp[hk]
   .rw[if_neg hs,ih]
    simp[Ne.symm hs]
theorem D6 (kt kb:List Nat) (env:List (Nat×V)) (t:Nat):get (ix kt kb env) t=if t∈kt then dO kb (get env t) else .any:=by
 induction kt with
 |nil=>simp[ix,get,aG]
 |cons k r ih=>
  have:ix (k::r) kb env=(k,dO kb (get env k))::ix r kb env:=rfl
  rw[this]
  simp only[get,aG]
  by_cases hk:k=t
  .subst hk; simp[]
  .rw[if_neg hk]
   have:=ih
   simp only[get]at this
   rw[this]
   simp[Ne.symm hk]
theorem VR.cut {x:V} {v:Value} (hv:VR N L e w x v) {kb:List Nat} (hk:r7 kb x=true):VR N L (e.cut kb) w x v:=by
 cases hv with
 |pv p v hp=>exact .pv p v hp
 |tl rows a hp hs=>exact .tl rows a hp hs
 |own id aq off len a cap h0 h1 h2 h3=>exact .own id aq off len a cap h0 h1 h2 h3
 |ptr s off hs=>exact .ptr (e:=e.cut kb) s off ⟨hs,by simpa [r7]using hk⟩
 |df id aq row col a h1 h2 h3=>exact .df id aq row col a h1 h2 h3
 |func f cap arr hs hv=>
  have:cap=[]:=by simpa [r7]using hk
  subst this
  exact .func f [] arr hs (fun j c hj=>by simp at hj)
 |map id hi=>exact .map (e:=e.cut kb) id hi
 |ej=>exact .ej
 |agg=>simp[r7]at hk
 |dH=>simp[r7]at hk
 |any v=>exact .any v
theorem VR.dO {x:V} {v:Value} (hv:VR N L e w x v) (kb:List Nat):VR N L (e.cut kb) w (Pv.dO kb x) v:=by
 cases x with
 |ptr s o=>
  simp only[Pv.dO]
  split
  .rename_i hk; exact hv.cut (by simpa [r7]using hk)
  .exact .any v
 |func f cap=>
  simp only[Pv.dO]
  split
  .rename_i hk
   cases hv with
   |func _ _ arr hs hvv=>exact .func f cap arr hs (fun j c hj=>(hvv j c hj).cut (V9.1 hk c (Vz hj)))
  .exact .any v
 |agg cs=>
  simp only[Pv.dO]
  split
  .rename_i hk
   cases hv with
   |agg _ arr hs hvv=>exact .agg cs arr hs (fun j c hj=>(hvv j c hj).cut (V9.1 hk c (Vz hj)))
  .exact .any v
 |dH vs=>exact .any v
 |pv p=>exact hv.cut rfl
 |tl r=>exact hv.cut rfl
 |own=>exact hv.cut rfl
 |df=>exact hv.cut rfl
 |map=>exact hv.cut rfl
 |ej=>exact hv.cut rfl
 |any=>exact hv.cut rfl
theorem ym {x:V} (hc:x.calm=true) (kb:List Nat):r7 kb x=true:=by
 cases x with
 |pv p=>rfl
 |tl r=>rfl
 |own=>rfl
 |func f cap=>simpa [V.calm,r7]using hc
 |_=>simp[V.calm]at hc
theorem Cr {x:V} (hc:x.dT=true) (kb:List Nat):r7 kb x=true:=by
 cases x with
 |ptr s o=>
  have:dS s=true:=hc
  simp[r7,this]
 |map=>rfl
 |ej=>rfl
 |pv p=>rfl
 |tl r=>rfl
 |own=>rfl
 |df=>rfl
 |func f cap=>exact ym (x:=.func f cap) hc kb
 |agg cs=>simp[V.dT,V.calm]at hc
 |dH cs=>simp[V.dT,V.calm]at hc
 |any=>rfl
theorem fK.cut {b off:Nat} {cs:List V} (hc:fK N L e w b off cs) (kb:List Nat):fK N L (e.cut kb) w b off cs:=by
 intro j c hj
 obtain⟨h1,v,h2,h3⟩:=hc j c hj
 exact⟨h1,v,h2,h3.cut (ym h1 kb)⟩
theorem lL.cut {b:Nat} {cs:List V} (hc:lL N L e w b cs) (kb:List Nat):lL N L (e.cut kb) w b cs:=by
 intro j c hj
 obtain⟨h1,v,h2,h3⟩:=hc j c hj
 exact⟨h1,v,h2,h3.cut (Cr h1 kb)⟩
theorem HR.cut (hr:HR N L e W h w) (kb:List Nat):HR N L (e.cut kb) W { h with bx:=hM kb h.bx } w:=by
 refine⟨fun s=>?_,fun s cs hs=>?_,hr.na,hr.aq,fun id a ha hk=>?_,hr.nm,hr.mp,fun s hs=>hr.uv s hs.1,hr.nF,hr.wj,fun s s' hs hs'=>hr.zM s s' hs.1 hs'.1,fun s id hs=>hr.wk s id hs.1,hr.wm,hr.zP,hr.nG,hr.wide,hr.zN⟩
 .simp only[bn.cut,sM]
  by_cases hk:s∈kb∨dS s=true
  .simp only[hk,and_true,if_true,hr.sl s]
  .simp[hk]
 .simp only[sM]at hs
  by_cases hk:s∈kb∨dS s=true
  .simp only[hk,if_true]at hs
   obtain⟨h1,h2⟩:=hr.bx s cs hs
   exact⟨h1,h2.cut kb⟩
  .simp[hk]at hs
 .obtain⟨h1,h2,h3,h4,h5⟩:=hr.ar id a ha hk
  exact⟨h1,h2,h3,fun i r hi=>(h4 i r hi).cut kb,h5⟩
theorem SR.mask {nt:Nat} {s:St} {a:Act} (hs:SR N W L e nt s a w) (kt kb:List Nat):SR N W L (e.cut kb) nt (s.mask kt kb) a w:=by
 refine⟨hs.hr.cut kb,fun t=>?_,hs.size,hs.defers⟩
 simp only[St.mask,D6]
 split
 .exact(hs.env t).dO kb
 .exact .any _
structure qa (L:Lx) (e:bn) (w:World) (L':Lx) (e':bn) (w':World):Prop where
 sub:∀t b,L t b→L' t b
 kept:∀t b,L t b→w'.heap[b]?=w.heap[b]?
 sl:∀s,dS s=true→e.sl s→e'.sl s∧e'.bx s=e.bx s
 na:e.na≤e'.na
 av:∀id,id<e.na→e.av id≤e'.av id∧(e'.av id=e.av id→e'.ar id=e.ar id∧e'.ad id=e.ad id∧e'.cap id=e.cap id∧e'.ak id=e.ak id∧e'.an id=e.an id)
 nm:e.nm≤e'.nm
 mp:∀id,id<e.nm→e'.mp id=e.mp id
theorem Ext.x (h:Ext L e w L' e' w'):qa L e w L' e' w':=⟨h.sub,h.kept,fun s _ hs=>h.sl s hs,h.na,h.av,h.nm,h.mp⟩
theorem qa.ext (h:qa L e w L' e' w') {e1 e2:bn} (h1:e1={ e with sl:=e1.sl,bx:=e1.bx }) (h2:e2={ e' with sl:=e2.sl,bx:=e2.bx }) (hs:∀s,e1.sl s→e2.sl s∧e2.bx s=e1.bx s):Ext L e1 w L' e2 w':=by
 have g1:e1.na=e.na∧e1.av=e.av∧e1.ar=e.ar∧e1.ad=e.ad∧e1.cap=e.cap∧e1.ak=e.ak∧e1.an=e.an∧e1.nm=e.nm∧e1.mp=e.mp:=by rw[h1]; exact⟨rfl,rfl,rfl,rfl,rfl,rfl,rfl,rfl,rfl⟩
 have g2:e2.na=e'.na∧e2.av=e'.av∧e2.ar=e'.ar∧e2.ad=e'.ad∧e2.cap=e'.cap∧e2.ak=e'.ak∧e2.an=e'.an∧e2.nm=e'.nm∧e2.mp=e'.mp:=by rw[h2]; exact⟨rfl,rfl,rfl,rfl,rfl,rfl,rfl,rfl,rfl⟩
 obtain⟨a1,a2,a3,a4,a5,a6,a7,a8,a9⟩:=g1
 obtain⟨b1,b2,b3,b4,b5,b6,b7,b8,b9⟩:=g2
 refine⟨h.sub,h.kept,hs,by rw[a1,b1]; exact h.na,?_,by rw[a8,b8]; exact h.nm,?_⟩
 .rw[a1,a2,a3,a4,a5,a6,a7,b2,b3,b4,b5,b6,b7]; exact h.av
 .rw[a8,a9,b9]; exact h.mp
theorem qa.trans {L'':Lx} {e'':bn} {w'':World} (h:qa L e w L' e' w') (k:qa L' e' w' L'' e'' w''):qa L e w L'' e'' w'':=by
 refine⟨fun t b hb=>k.sub _ _ (h.sub _ _ hb),fun t b hb=>(k.kept _ _ (h.sub _ _ hb)).trans (h.kept _ _ hb),fun s hp hs=>?_,Wr h.na k.na,fun id hid=>?_,Wr h.nm k.nm,fun id hid=>?_⟩
 .obtain⟨h1,h2⟩:=h.sl s hp hs
  obtain⟨h3,h4⟩:=k.sl s hp h1
  exact⟨h3,h4.trans h2⟩
 .obtain⟨h1,h2⟩:=h.av id hid
  obtain⟨h3,h4⟩:=k.av id (Wq hid h.na)
  refine⟨Wr h1 h3,fun he=>?_⟩
  have e1:e'.av id=e.av id:=by omega
  have e2:e''.av id=e'.av id:=by omega
  obtain⟨a1,a2,a3,a4,a5⟩:=h2 e1
  obtain⟨b1,b2,b3,b4,b5⟩:=h4 e2
  exact⟨b1.trans a1,b2.trans a2,b3.trans a3,b4.trans a4,b5.trans a5⟩
 .exact(k.mp id (Wq hid h.nm)).trans (h.mp id hid)
theorem qa.cut (h:qa L e w L' e' w') (kb:List Nat):qa L e w L' (e'.cut kb) w':=
 ⟨h.sub,h.kept,fun s hp hs=>⟨⟨(h.sl s hp hs).1,.inr hp⟩,(h.sl s hp hs).2⟩,h.na,h.av,h.nm,h.mp⟩
def FrS (N:Nat→Nat) (W:Nat→Prop) (nt:Nat) (L0:Lx) (e0:bn) (w0:World) (s:St) (a:Act) (w:World):Prop:=
 ∃L e,SR N W L e nt s a w∧Fr W w0 w∧(∀t b,L0 t b→L t b)∧(∀t b,L t b→L0 t b∨(t=0∧W b))∧qa L0 e0 w0 L e w
theorem FrS.mask {nt:Nat} {L0:Lx} {e0:bn} {w0:World} {s:St} {a:Act} (hs:FrS N W nt L0 e0 w0 s a w) (kt kb:List Nat):FrS N W nt L0 e0 w0 (s.mask kt kb) a w:=by
 obtain⟨L,e,h1,h2,h3,h4,h5⟩:=hs
 exact⟨L,_,h1.mask kt kb,h2,h3,h4,h5.cut kb⟩
theorem FrS.step {nt:Nat} {L0:Lx} {e0:bn} {w0:World} {s':St} {a':Act} (hf:Fr W w0 w) (h1:∀t b,L0 t b→L t b) (h2:∀t b,L t b→L0 t b∨(t=0∧W b)) (hx:qa L0 e0 w0 L e w) (hn:Nx N W L e w L' e' s'.h w') (hs:SR N W L' e' nt s' a' w'):FrS N W nt L0 e0 w0 s' a' w':=by
 refine⟨L',e',hs,hf.trans hn.fr,fun t b hb=>hn.ext.sub _ _ (h1 t b hb),fun t b hb=>?_,hx.trans hn.ext.x⟩
 rcases hn.new t b hb with hb|hb
 .exact h2 t b hb
 .exact .inr hb
def D7:Ex→Exit
 |.normal=>.normal
 |.exit id=>.exit id
 |.ret=>.ret
def QQ (N:Nat→Nat) (W:Nat→Prop) (nt:Nat) (L0:Lx) (e0:bn) (w0:World) (ex:Ex) (s':St):Exit→Act→World→Prop:=fun x a w=>x=D7 ex∧FrS N W nt L0 e0 w0 s' a w
def kL (P:Program) (N M:Nat→Nat) (A:Nat→Option ae) (Pr:br) (n:Nat):Prop:=
 ∀(nt:Nat) (code:Code) (an:DJ) (ac:AC) (an':DJ),dW P N M nt code an=some (ac,an')→∀(W:Nat→Prop) (L0:Lx) (e0:bn) (w0:World) (s:St) (ex:Ex) (s':St) (a:Act) (w:World),
  exec A Pr n ac s=some (ex,s')→FrS N W nt L0 e0 w0 s a w→code.wp P (QQ N W nt L0 e0 w0 ex s') a w
def D8 (P:Program) (N:Nat→Nat) (A:Nat→Option ae) (Pr:br) (n:Nat):Prop:=∀f ps rs,da A (exec A Pr n) f ps=some rs→uW P N f ps rs
theorem yn {A:Nat→Option ae} {nt:Nat} {code:Code} {an an':DJ} {x:AC} {kt kb:List Nat} (htr:dW P N M nt code an=some (x,an')) {W:Nat→Prop} {L0:Lx} {e0:bn} {w0:World}:∀(k:Nat),(∀j,j<k→kL P N M A Pr j)→∀(s:St) (ex:Ex) (s':St) (a:Act) (w:World),
  exec A Pr k (.loop (.mask kt kb x)) s=some (ex,s')→FrS N W nt L0 e0 w0 s a w→Code.rounds P code (QQ N W nt L0 e0 w0 ex s') k a w:=by
 intro k
 induction k with
 |zero=>intro _ s ex s' a w he _; simp[exec]at he
 |succ k ih=>
  intro hall s ex s' a w he hs
  have he':bZ A Pr (exec A Pr k) (.loop (.mask kt kb x)) s=some (ex,s'):=he
  simp only[bZ]at he'
  rw[rounds_succ]
  cases k with
  |zero=>simp[exec]at he'
  |succ j=>
   have hmask:exec A Pr (j+1) (.mask kt kb x) s=exec A Pr j x (s.mask kt kb):=rfl
   rw[hmask]at he'
   cases hx:exec A Pr j x (s.mask kt kb)with
   |none=>simp[hx]at he'
   |some r=>
    obtain⟨ex1,s1⟩:=r
    have hwp:=hall j (by omega) nt code an x an' htr W L0 e0 w0 _ ex1 s1 a w hx (hs.mask kt kb)
    refine wp_mono hwp fun xx a1 w1 hq=>?_
    obtain⟨rfl,hs1⟩:=hq
    cases ex1 with
    |normal=>
     simp only[hx]at he'
     exact ih (fun i hi=>hall i (by omega)) s1 ex s' a1 w1 he' hs1
    |exit id=>
     simp only[hx]at he'
     injection he' with he'; injection he' with e1 e2; subst e1; subst e2
     exact⟨rfl,hs1⟩
    |ret=>
     simp only[hx]at he'
     injection he' with he'; injection he' with e1 e2; subst e1; subst e2
     exact⟨rfl,hs1⟩
theorem Cs (hm:P.follows .mixedOrders=true) {A:Nat→Option ae} (n:Nat) (hPL:cX (bI A (exec A Pr n) Pr)) (hPr:ep P N (bI A (exec A Pr n) Pr)) (hall:∀j,j≤n→kL P N M A Pr j) (hfn:D8 P N A Pr n):kL P N M A Pr (n+1):=by
 intro nt code an ac an' htr W L0 e0 w0 s ex s' a w he hs
 have he':bZ A Pr (exec A Pr n) ac s=some (ex,s'):=he
 cases code with
 |skip=>
  simp only[dW]at htr
  injection htr with htr; injection htr with e1 e2; subst e1
  simp only[bZ]at he'
  injection he' with he'; injection he' with e1 e2; subst e1; subst e2
  exact wp_skip ⟨rfl,hs⟩
 |exit id=>
  simp only[dW]at htr
  injection htr with htr; injection htr with e1 e2; subst e1
  simp only[bZ]at he'
  injection he' with he'; injection he' with e1 e2; subst e1; subst e2
  exact wp_exit ⟨rfl,hs⟩
 |ret=>
  simp only[dW]at htr
  injection htr with htr; injection htr with e1 e2; subst e1
  simp only[bZ]at he'
  injection he' with he'; injection he' with e1 e2; subst e1; subst e2
  exact wp_ret ⟨rfl,hs⟩
 |seq x y=>
  simp only[dW]at htr
  split at htr<;>first|(cases htr; done)|skip
  rename_i x' an1 hx
  split at htr<;>first|(cases htr; done)|skip
  rename_i y' an2 hy
  injection htr with htr; injection htr with e1 e2; subst e1
  simp only[bZ]at he'
  refine wp_seq ?_
  cases hex:exec A Pr n x' s with
  |none=>simp[hex]at he'
  |some r=>
   obtain⟨ex1,s1⟩:=r
   refine wp_mono (hall n (VI _) nt x an x' an1 hx W L0 e0 w0 s ex1 s1 a w hex hs) fun xx a1 w1 hq=>?_
   obtain⟨rfl,hs1⟩:=hq
   cases ex1 with
   |normal=>
    simp only[hex]at he'
    exact hall n (VI _) nt y an1 y' an2 hy W L0 e0 w0 s1 ex s' a1 w1 he' hs1
   |exit id=>
    simp only[hex]at he'
    injection he' with he'; injection he' with e1 e2; subst e1; subst e2
    exact⟨rfl,hs1⟩
   |ret=>
    simp only[hex]at he'
    injection he' with he'; injection he' with e1 e2; subst e1; subst e2
    exact⟨rfl,hs1⟩
 |cond c x y=>
  simp only[dW]at htr
  split at htr<;>first|(cases htr; done)|skip
  rename_i c' x' an1 hc hx
  split at htr<;>first|(cases htr; done)|skip
  rename_i y' an2 hy
  injection htr with htr; injection htr with e1 e2; subst e1
  simp only[bZ]at he'
  obtain⟨L,e,hsr,hrest⟩:=hs
  have hv:=(hsr.or (M:=M)) c c' hc
  have hs:FrS N W nt L0 e0 w0 s a w:=⟨L,e,hsr,hrest⟩
  split at he'<;>first|(cases he'; done)|skip
  .rename_i hg
   rw[hg]at hv
   exact wp_cond_true hv.bool (hall n (VI _) nt x an x' an1 hx W L0 e0 w0 s ex s' a w he' hs)
  .rename_i hg
   rw[hg]at hv
   exact wp_cond_false hv.bool (hall n (VI _) nt y an1 y' an2 hy W L0 e0 w0 s ex s' a w he' hs)
 |block id x=>
  simp only[dW]at htr
  split at htr<;>first|(cases htr; done)|skip
  rename_i x' an1 hx
  injection htr with htr; injection htr with e1 e2; subst e1
  simp only[bZ]at he'
  refine wp_block ?_
  cases hex:exec A Pr n x' s with
  |none=>simp[hex]at he'
  |some r=>
   obtain⟨ex1,s1⟩:=r
   refine wp_mono (hall n (VI _) nt x an x' an1 hx W L0 e0 w0 s ex1 s1 a w hex hs) fun xx a1 w1 hq=>?_
   obtain⟨rfl,hs1⟩:=hq
   cases ex1 with
   |normal=>
    simp only[hex]at he'
    injection he' with he'; injection he' with e1 e2; subst e1; subst e2
    exact⟨rfl,hs1⟩
   |exit j=>
    simp only[hex]at he'
    simp only[D7,Exit.inBlock]
    split at he'
    .rename_i hj
     injection he' with he'; injection he' with e1 e2; subst e1; subst e2
     rw[if_pos hj]
     exact⟨rfl,hs1⟩
    .rename_i hj
     injection he' with he'; injection he' with e1 e2; subst e1; subst e2
     rw[if_neg hj]
     exact⟨rfl,hs1⟩
   |ret=>
    simp only[hex]at he'
    injection he' with he'; injection he' with e1 e2; subst e1; subst e2
    exact⟨rfl,hs1⟩
 |loop x=>
  simp only[dW]at htr
  split at htr<;>first|(cases htr; done)|skip
  rename_i kt kb r
  split at htr<;>first|(cases htr; done)|skip
  rename_i x' an1 hx
  injection htr with htr; injection htr with e1 e2; subst e1
  exact wp_loop_rounds (n+1) (yn hx (n+1) (fun j hj=>hall j (by omega)) s ex s' a w he hs)
 |region id ops draw=>
  simp only[dW]at htr
  split at htr<;>first|(cases htr; done)|skip
  rename_i kt kb r
  split at htr
  .injection htr with htr; injection htr with e1 e2; subst e1
   have hno:bZ A Pr (exec A Pr n) wu s=none:=rfl
   rw[hno]at he'
   cases he'
  split at htr<;>first|(cases htr; done)|skip
  rename_i l hl
  obtain⟨L,e,hsr,hf,h1,h2,hx⟩:=hs
  split at htr
  .rename_i hdraw
   subst hdraw
   split at htr<;>first|(cases htr; done)|skip
   rename_i hok
   split at htr
   .injection htr with htr; injection htr with e1 e2; subst e1
    simp only[bZ]at he'
    split at he'<;>first|(cases he'; done)|skip
    rename_i s1 hex
    injection he' with he'; injection he' with e1 e2; subst e1; subst e2
    exact yl (M:=M) hm hPL hfn hPr hl hok hsr (iP l 0).1 (iP l 0).2 hex fun a' w' L' e' hn hs'=>⟨rfl,(FrS.step hf h1 h2 hx hn hs').mask kt (gH kb)⟩
   split at htr
   .injection htr with htr; injection htr with e1 e2; subst e1
    simp only[bZ]at he'
    split at he'<;>first|(cases he'; done)|skip
    rename_i s1 hex
    injection he' with he'; injection he' with e1 e2; subst e1; subst e2
    exact yl (M:=M) hm hPL hfn hPr hl hok hsr (mD l 0).1 (mD l 0).2 hex fun a' w' L' e' hn hs'=>⟨rfl,(FrS.step hf h1 h2 hx hn hs').mask kt (gH kb)⟩
   injection htr with htr; injection htr with e1 e2; subst e1
   simp only[bZ]at he'
   split at he'<;>first|(cases he'; done)|skip
   rename_i s1 hex
   injection he' with he'; injection he' with e1 e2; subst e1; subst e2
   exact D5 (M:=M) hm hPL hfn hPr hl hok hsr hex fun a' w' L' e' hn hs'=>⟨rfl,(FrS.step hf h1 h2 hx hn hs').mask kt (gH kb)⟩
  .rename_i hdraw
   have hdraw':draw=false:=by simpa using hdraw
   subst hdraw'
   split at htr
   .injection htr with htr; injection htr with e1 e2; subst e1
    simp only[bZ]at he'
    split at he'<;>first|(cases he'; done)|skip
    rename_i s1 hex
    injection he' with he'; injection he' with e1 e2; subst e1; subst e2
    exact Ao (M:=M) hfn hPr hl hsr (iP l 0).1 (iP l 0).2 hex fun a' w' L' e' hn hs'=>⟨rfl,(FrS.step hf h1 h2 hx hn hs').mask kt (gH kb)⟩
   injection htr with htr; injection htr with e1 e2; subst e1
   simp only[bZ]at he'
   split at he'<;>first|(cases he'; done)|skip
   rename_i s1 hex
   injection he' with he'; injection he' with e1 e2; subst e1; subst e2
   exact Cq (M:=M) hfn hPr hl hsr hex fun a' w' L' e' hn hs'=>⟨rfl,(FrS.step hf h1 h2 hx hn hs').mask kt (gH kb)⟩
 |_=>simp[dW]at htr
end Go.Pv
namespace Go.Pv
variable {P:Program} {N M:Nat→Nat} {W:Nat→Prop} {L L':Lx} {e e':bn} {h:af} {w w':World} {Pr:br}
def bn.empty:bn:=⟨fun _=>False,fun _=>0,0,fun _=>0,fun _=>0,fun _=>0,fun _=>0,fun _=>0,fun _=>0,0,fun _=>0⟩
theorem HR.start (hl:∀t b,L t b→b<w.heap.size) (ht:sh N L w) (hw:∀b,w.heap.size≤b→W b):HR N L .empty W af.empty w:=by
 refine⟨fun s=>?_,fun s cs hs=>?_,rfl,fun id a ha=>?_,fun id a ha=>?_,rfl,fun id m hm=>?_,fun s hs=>hs.elim,fun id hi=>absurd hi (WZ _),fun id hi=>absurd hi (WZ _),
  fun s _ hs=>hs.elim,fun s _ hs=>hs.elim,fun i _ hi=>absurd hi (WZ _),fun i _ hi=>absurd hi (WZ _),hl,hw,ht⟩
 .simp[bn.empty,af.empty,aG]
 .simp[af.empty,aG]at hs
 .simp[af.empty]at ha
 .simp[af.empty]at ha
 .simp[af.empty]at hm
theorem u9:∀(ps:List PV) (n t:Nat),get (entry n ps) t=if n≤t then (match ps[t - n]? with|some p=>V.jB p|none=>.any) else .any
 |[],n,t=>by simp[entry,get,aG]
 |p::r,n,t=>by
  have ih:=u9 r (n+1) t
  simp only[entry,get,aG]at ih ⊢
  by_cases hn:n=t
  .subst hn; simp
  .rw[if_neg hn,ih]
   by_cases hlt:n≤t
   .rw[if_pos (show n+1≤t by omega),if_pos hlt,show t - n=(t - (n+1))+1 by omega]
    simp
   .rw[if_neg (by omega),if_neg hlt]
theorem va {p:PV} {v:Value} (hp:dL N L w p v):VR N L e w (V.jB p) v:=by
 cases p with
 |agg cs=>
  cases hp with
  |agg _ arr hs hv _=>
   refine .agg _ arr (by simpa using hs) (fun j c hj=>?_)
   obtain⟨q,hq,rfl⟩:=dA hj
   exact .pv _ _ (hv j q hq)
 |fr k rows=>cases hp
 |_=>exact .pv _ _ hp
theorem Ip {k:Nat} {rows:List (List PV)} {v:Value} (hp:dL N L w (.fr k rows) v):False:=by cases hp
theorem Ct {T:Option Nat} {ps:List PV} {args:Array Value} (hl:∀t b,L t b→b<w.heap.size) (ht:sh N L w) (ha:xY N L w T ps args.toList):
  ∃e,HR N L e (Wc w T) (cK ps) w∧∀(j:Nat) (p:PV),ps[j]?=some p→∃v,args.toList[j]?=some v∧VR N L e w (V.jB p) v:=by
 generalize hargs:args.toList=al at ha
 cases ha with
 |plain _ _ hlen hv=>
  have h0:cK ps=af.empty:=by
   cases ps with
   |nil=>rfl
   |cons p r=>
    cases p with
    |fr k rows=>
     obtain⟨v,_,h2⟩:=hv 0 _ rfl
     exact(Ip h2).elim
    |_=>rfl
  rw[h0]
  refine⟨.empty,HR.start hl ht (fun b hb=>.inl hb),fun j p hj=>?_⟩
  obtain⟨v,h1,h2⟩:=hv j p hj
  exact⟨v,h1,va h2⟩
 |take b k rows v qs vs hf hlen hv=>
  have hst:HR N L .empty (Wc w (some b)) af.empty w:=HR.start hl ht (fun b hb=>.inl hb)
  obtain⟨e,h1,h2,h3⟩:=hf.own hst (.inr rfl) (fun ho=>by
   rcases ho with⟨s,hs,_⟩|⟨id,hi,_⟩
   .exact hs
   .exact absurd hi (WZ _))
  refine⟨e,h1.hr,fun j p hj=>?_⟩
  match j,hj with
  |0,hj=>simp at hj; subst hj; exact⟨v,rfl,h2⟩
  |j+1,hj=>
   obtain⟨u,k1,k2⟩:=hv j p (by simpa using hj)
   exact⟨u,by simpa using k1,va k2⟩
theorem Ap {t:TypeId} {n:Nat} {ag:Bool} (hl:loadT P t=some (n,ag)) (hr:HR N L e W h w) {x:V} {xv:Value} (hx:VR N L e w x xv) {cs:List V} {tn:Tn} (hla:loadAt h n x=some (cs,tn)) {v:V} (hc:ey ag cs=some v):
  ∃a v',xv=.pointer (some a)∧(loadVar t a).run P w=.ok v' w∧VR N L e w v v':=by
 obtain⟨a1,a2,b,off,a3,a4⟩:=qD hr hx hla
 obtain⟨v',r1,r2⟩:=xG (P:=P) hl a2 a4 hc
 exact⟨_,v',a3,r1,r2⟩
theorem oO {nt:Nat} {s:St} {a:Act} (hs:SR N W L e nt s a w):∀(rs:List ResultVar) (rv:List oo) (vs:List V),aA (sg P) rs=some rv→aA (c9 s) rv=some vs→
  ∃vals:List Value,(rs.mapM (fun r=>(match r with|.tmp t=>pure (a.tmps.getD t undef)|.cell x t=>do loadVar t (← asAddr (a.tmps.getD x undef)):Sem Value))).run P w=.ok vals w∧vals.length=vs.length∧
   ∀(j:Nat) (v:V),vs[j]?=some v→∃u,vals[j]?=some u∧VR N L e w v u
 |[],rv,vs,h1,h2=>by
  simp[aA]at h1
  subst h1
  simp[aA]at h2
  subst h2
  exact⟨[],by simp,rfl,fun j v hj=>by simp at hj⟩
 |r::rs,rv,vs,h1,h2=>by
  simp only[aA]at h1
  split at h1<;>first|(cases h1; done)|skip
  rename_i q qs hq hqs
  injection h1 with h1
  subst h1
  simp only[aA]at h2
  split at h2<;>first|(cases h2; done)|skip
  rename_i v vr hv hvr
  injection h2 with h2
  subst h2
  obtain⟨vals,g1,g2,g3⟩:=oO hs rs qs vr hqs hvr
  have hone:∃u,(match r with|.tmp t=>pure (a.tmps.getD t undef)|.cell x t=>do loadVar t (← asAddr (a.tmps.getD x undef)):Sem Value).run P w=.ok u w∧VR N L e w v u:=by
   cases r with
   |tmp t=>
    simp[sg]at hq
    subst hq
    simp[c9]at hv
    subst hv
    exact⟨_,by simp,hs.env t⟩
   |cell x t=>
    simp only[sg]at hq
    split at hq<;>first|(cases hq; done)|skip
    rename_i n b hl
    injection hq with hq
    subst hq
    simp only[c9]at hv
    split at hv<;>first|(cases hv; done)|skip
    rename_i cs tn hla
    obtain⟨ad,u,k1,k2,k3⟩:=Ap hl hs.hr (hs.env x) hla hv
    refine⟨u,?_,k3⟩
    simp only[Sem.run_bind]
    rw[k1]
    simpa [asAddr]using k2
  obtain⟨u,k1,k2⟩:=hone
  refine⟨u::vals,?_,by simp[g2],fun j x hj=>?_⟩
  .rw[List.mapM_cons]
   simp only[Sem.run_bind,k1,Result.andThen_ok,g1,Sem.run_pure]
  .match j,hj with
   |0,hj=>simp at hj; subst hj; exact⟨u,rfl,k2⟩
   |j+1,hj=>simpa using g3 j x (by simpa using hj)
theorem D9 (vs:Array Value):(if h:vs.size=1 then vs[0] else .tuple vs)=sC vs.toList:=by
 obtain⟨l⟩:=vs
 match l with
 |[]=>rfl
 |[v]=>rfl
 |_::_::_=>rfl
theorem qO {nt:Nat} {s:St} {a:Act} (hs:SR N W L e nt s a w) {go:Func} {rv:List oo} (hrv:aA (sg P) go.results.toList=some rv) {vs:List V} (hv:aA (c9 s) rv=some vs):
  ∃vals:List Value,(results go a.tmps).run P w=.ok (sC vals) w∧vals.length=vs.length∧∀(j:Nat) (v:V),vs[j]?=some v→∃u,vals[j]?=some u∧VR N L e w v u:=by
 obtain⟨vals,h1,h2,h3⟩:=oO hs go.results.toList rv vs hrv hv
 refine⟨vals,?_,h2,h3⟩
 unfold results
 rw[Array.mapM_eq_mapM_toList]
 have h1':((go.results.toList.mapM (fun r=>(match r with|.tmp t=>pure (a.tmps.getD t undef)|.cell x t=>do loadVar t (← asAddr (a.tmps.getD x undef)):Sem Value))).run P w)=.ok vals w:=h1
 simp only[Sem.run_bind,map_eq_pure_bind]
 have:∀(f:ResultVar→Sem Value),(∀r,f r=(match r with|.tmp t=>pure (a.tmps.getD t undef)|.cell x t=>do loadVar t (← asAddr (a.tmps.getD x undef)):Sem Value))→(go.results.toList.mapM f).run P w=.ok vals w:=by
  intro f hf
  have:f=_:=funext hf
  rw[this]
  exact h1'
 rw[this _ (fun r=>by cases r<;>rfl)]
 simp only[Result.andThen_ok,Sem.run_pure]
 rw[D9]
theorem nS (hr:HR N L e W h w) (hL:∀b,L 0 b→L' 0 b) (hown:∀id,id<e.na→e.ak id≠0→L' 0 (e.ar id)) {x:V} {p:PV} {v:Value} (hk:aV h 4 x=some p) (hv:VR N L e w x v):CR N L' w p v []:=by
 obtain⟨h1,h2⟩:=lT hr hL 4 x p v hk hv (fun _=>hown)
 exact .bO p v h2 h1
def dB (e:bn) (cs:List V):List Nat:=(cs.filterMap ga).map e.ar
theorem lX (hr:HR N L e W h w) (hL:∀b,L 0 b→L' 0 b) {x:V} (hno:∀b∈dB e [x],∀t,¬L' t b) {p:PV} {v:Value} (hk:fb h x=some p) (hv:VR N L e w x v):CR N L' w p v (dB e [x])∧∀id,ga x=some id→id<e.na∧e.ak id≠0:=by
 unfold fb at hk
 split at hk
 .rename_i id aq len
  cases ho:aF h id aq with
  |none=>simp[ho]at hk
  |some a=>
   simp only[ho]at hk
   split at hk<;>first|(cases hk; done)|skip
   rename_i rows hb
   split at hk<;>first|(cases hk; done)|skip
   rename_i hk0
   injection hk with hk
   subst hk
   obtain⟨ho1,ho2⟩:=bB ho
   obtain⟨v1,v2,v3,v4⟩:=hr.aq id a ho1
   obtain⟨g1,g2,g3,g4,g5⟩:=hr.ar id a ho1 hk0
   have hid:id<e.na:=by rw[hr.na]; exact(Vy.1 ho1).1
   refine⟨?_,fun j hj=>by simp[ga]at hj; subst hj; exact⟨hid,by rw[v2]; exact hk0⟩⟩
   have hbl:dB e [.own id aq 0 len]=[e.ar id]:=rfl
   rw[hbl]at hno ⊢
   refine .fresh a.k (rows.take len) (e.ar id) v ?_
   obtain⟨A,cap,rfl⟩:=rJ hv
   cases hv with
   |own _ _ _ _ _ _ h0 h1 h2 h3=>
    obtain⟨q1,q2,q3,q4⟩:=h3 (by omega)
    have hsz:a.size=rows.length:=by simp[aL.size,hb]
    simp only[Nat.zero_mul,Nat.add_zero,Nat.zero_add]at q1 q3 q4
    have hlen:(rows.take len).length=len:=by simp; omega
    have hrows:a.rows=rows.map (·.map V.pv):=by simp[aL.rows,hb]
    refine⟨A,cap,e.ad id,e.cap id,by rw[hlen],hk0,by omega,q3,q4,g2,fun r hr'=>?_,hno (e.ar id) (by simp),fun i j c hcc=>?_⟩
    .have:=g3 (r.map V.pv) (by rw[hrows]; exact VP.2 ⟨r,WL hr',rfl⟩)
     simpa using this
    .unfold fx at hcc
     cases hi:(rows.take len)[i]? with
     |none=>simp[hi]at hcc
     |some r=>
      simp[hi]at hcc
      have hi':rows[i]?=some r:=by
       rw[VN]at hi
       split at hi
       .exact hi
       .cases hi
      obtain⟨_,u,k1,k2⟩:=g4 i (r.map V.pv) (by rw[hrows]; exact kH hi') j (.pv c) (by simp[hcc])
      have hperm:c.perm=true:=by
       rw[hb]at g5
       exact g5 r (Vz hi') c (Vz hcc)
      refine⟨hperm,u,by rw[← Wx]; exact k1,?_⟩
      cases k2 with
      |pv _ _ hq=>exact hq.gf hperm (fun b hb=>⟨hL b hb,rfl⟩)
 .cases hk
 .rename_i hn1 hn2
  have hnone:ga x=none:=by
   cases x with
   |own id aq off len=>
    cases off with
    |zero=>exact absurd rfl (hn1 id aq len)
    |succ off=>exact absurd rfl (hn2 id aq (off+1) len)
   |_=>rfl
  have hb0:dB e [x]=[]:=by simp[dB,hnone]
  rw[hb0]
  obtain⟨k1,k2⟩:=lT hr hL 4 x p v hk hv (fun hne=>absurd hnone hne)
  exact⟨.bO p v k2 k1,fun id hid=>by rw[hnone]at hid; cases hid⟩
theorem yp (e:bn) (x:V) (cs:List V):dB e (x::cs)=dB e [x]++dB e cs:=by
 cases hx:ga x<;>simp[dB,hx]
theorem qP (hr:HR N L e W h w) (hL:∀b,L 0 b→L' 0 b):∀(cs:List V) (ps:List PV) (vs:List Value),(∀b∈dB e cs,∀t,¬L' t b)→aA (fb h) cs=some ps→vs.length=cs.length→(∀(j:Nat) (x:V),cs[j]?=some x→∃u,vs[j]?=some u∧VR N L e w x u)→
  DE N L' w ps vs (dB e cs)∧∀id∈cs.filterMap ga,id<e.na∧e.ak id≠0
 |[],ps,vs,_,hm,hl,_=>by
  simp[aA]at hm
  subst hm
  have:vs=[]:=List.eq_nil_of_length_eq_zero (by simpa using hl)
  subst this
  exact⟨.nil,by simp⟩
 |x::cs,ps,vs,hno,hm,hl,hv=>by
  simp only[aA]at hm
  split at hm<;>first|(cases hm; done)|skip
  rename_i p pr hp hpr
  injection hm with hm
  subst hm
  match vs,hl with
  |v::vs,hl=>
   obtain⟨u,h1,h2⟩:=hv 0 x rfl
   simp at h1
   subst h1
   rw[yp]at hno ⊢
   obtain⟨c1,c2⟩:=lX hr hL (fun b hb=>hno b (Wh _ hb)) hp h2
   obtain⟨d1,d2⟩:=qP hr hL cs pr vs (fun b hb=>hno b (List.mem_append_right _ hb)) hpr (by simpa using hl) (fun j y hj=>by simpa using hv (j+1) y (by simpa using hj))
   refine⟨.cons _ _ _ _ _ _ c1 d1,fun id hid=>?_⟩
   obtain⟨y,hy1,hy2⟩:=Wz.1 hid
   rcases V6.1 hy1 with rfl|hy1
   .exact c2 id hy2
   .exact d2 id (Wz.2 ⟨y,hy1,hy2⟩)
theorem sN (hr:HR N L e W h w) (hL:∀b,L 0 b→L' 0 b) (hown:∀id,id<e.na→e.ak id≠0→L' 0 (e.ar id)):∀(cs:List V) (ps:List PV) (vs:List Value),aA (aV h 4) cs=some ps→vs.length=cs.length→(∀(j:Nat) (x:V),cs[j]?=some x→∃u,vs[j]?=some u∧VR N L e w x u)→DE N L' w ps vs []
 |[],ps,vs,hm,hl,_=>by
  simp[aA]at hm
  subst hm
  have:vs=[]:=List.eq_nil_of_length_eq_zero (by simpa using hl)
  subst this
  exact .nil
 |x::cs,ps,vs,hm,hl,hv=>by
  simp only[aA]at hm
  split at hm<;>first|(cases hm; done)|skip
  rename_i p pr hp hpr
  injection hm with hm
  subst hm
  match vs,hl with
  |v::vs,hl=>
   obtain⟨u,h1,h2⟩:=hv 0 x rfl
   simp at h1
   subst h1
   exact DE.cons _ _ [] _ _ [] (nS hr hL hown hp h2) (sN hr hL hown cs pr vs hpr (by simpa using hl) (fun j y hj=>by simpa using hv (j+1) y (by simpa using hj)))
end Go.Pv
namespace Go.Pv
variable {P:Program} {N M:Nat→Nat} {W:Nat→Prop} {L L':Lx} {e e':bn} {h:af} {w w':World} {Pr:br}
theorem fP:∀(r l:List Nat),l.Nodup→(ch l r).Nodup
 |[],_,h=>h
 |s::r,l,h=>by
  simp only[ch]
  split
  .exact fP r l h
  .rename_i hc
   refine fP r _ (List.nodup_append.2 ⟨h,by simp,fun a ha b hb=>?_⟩)
   have hb:b=s:=by simpa using hb
   subst hb
   rintro rfl
   exact hc (by simpa using ha)
theorem oP (bx:List (Nat×List V)):∀(n:Nat) (l:List Nat),l.Nodup→(dK bx n l).Nodup
 |0,_,h=>h
 |n+1,l,h=>oP bx n _ (fP _ l h)
def bn.on (e:bn) (sl:Nat→Prop) (bx:Nat→Nat):bn:={ e with sl:=sl,bx:=bx }
theorem Cu {c:V} (hc:c.calm=true) (f:Nat→Option Nat):fG f c=some c:=by
 cases c with
 |func k cap=>
  have:cap.isEmpty=true:=hc
  simp[fG,this]
 |ptr=>simp[V.calm]at hc
 |agg=>simp[V.calm]at hc
 |dH=>simp[V.calm]at hc
 |_=>rfl
theorem VR.fG {f:Nat→Option Nat} {c c':V} {v:Value} {sl:Nat→Prop} {bx:Nat→Nat} (hh:Pv.fG f c=some c') (hv:VR N L e w c v) (hf:∀s t,f s=some t→e.sl s→sl t∧bx t=e.bx s):VR N L (e.on sl bx) w c' v:=by
 cases c with
 |ptr s o=>
  simp only[Pv.fG]at hh
  split at hh<;>first|(cases hh; done)|skip
  rename_i t ht
  cases hh
  cases hv with
  |ptr _ _ hs=>
   obtain⟨h1,h2⟩:=hf s t ht hs
   rw[← h2]
   exact .ptr (e:=e.on sl bx) t o h1
 |func k cap=>
  simp only[Pv.fG]at hh
  split at hh<;>first|(cases hh; done)|skip
  rename_i hc
  cases hh
  cases hv with
  |func _ _ arr hs _=>
   refine .func k cap arr hs (fun j c hj=>?_)
   rw[W3.1 hc]at hj
   simp at hj
 |agg cs=>cases hh
 |dH cs=>cases hh
 |pv p=>cases hh; cases hv with|pv _ _ hp=>exact .pv p v hp
 |tl rows=>cases hh; cases hv with|tl _ a hp hs=>exact .tl rows a hp hs
 |own id aq off len=>cases hh; cases hv with|own _ _ _ _ a cap h0 h1 h2 h3=>exact .own (e:=e.on sl bx) id aq off len a cap h0 h1 h2 h3
 |df id aq row col=>cases hh; cases hv with|df _ _ _ _ a h1 h2 h3=>exact .df (e:=e.on sl bx) id aq row col a h1 h2 h3
 |map id=>cases hh; cases hv with|map _ hi=>exact .map (e:=e.on sl bx) id hi
 |ej=>cases hh; cases hv; exact .ej
 |any=>cases hh; exact .any v
theorem VR.lF {f:Nat→Option Nat} {c c':V} {v:Value} {sl:Nat→Prop} {bx:Nat→Nat} (hh:Pv.lF f c=some c') (hv:VR N L e w c v) (hf:∀s t,f s=some t→e.sl s→sl t∧bx t=e.bx s):VR N L (e.on sl bx) w c' v:=by
 cases c with
 |func k cap=>
  simp only[Pv.lF]at hh
  split at hh<;>first|(cases hh; done)|skip
  rename_i l hm
  cases hh
  cases hv with
  |func _ _ arr hs hvv=>
   refine .func k l arr (by rw[hs,bQ hm]) (fun j c hj=>?_)
   obtain⟨x,h1,h2⟩:=bC hm j c hj
   exact(hvv j x h1).fG h2 hf
 |agg cs=>
  simp only[Pv.lF]at hh
  split at hh<;>first|(cases hh; done)|skip
  rename_i l hm
  cases hh
  cases hv with
  |agg _ arr hs hvv=>
   refine .agg l arr (by rw[hs,bQ hm]) (fun j c hj=>?_)
   obtain⟨x,h1,h2⟩:=bC hm j c hj
   exact(hvv j x h1).fG h2 hf
 |pv p=>exact VR.fG (c:=.pv p) hh hv hf
 |tl rows=>exact VR.fG (c:=.tl rows) hh hv hf
 |own id aq off len=>exact VR.fG (c:=.own id aq off len) hh hv hf
 |ptr s o=>exact VR.fG (c:=.ptr s o) hh hv hf
 |df id aq row col=>exact VR.fG (c:=.df id aq row col) hh hv hf
 |map id=>exact VR.fG (c:=.map id) hh hv hf
 |ej=>exact VR.fG (c:=.ej) hh hv hf
 |dH cs=>exact VR.fG (c:=.dH cs) hh hv hf
 |any=>exact VR.fG (c:=.any) hh hv hf
theorem Aq {f:Nat→Option Nat} {c c':V} (hh:fG f c=some c') (hc:c.dT=true) (hf:∀s t,f s=some t→dS t=true):c'.dT=true:=by
 cases c with
 |ptr s o=>
  simp only[fG]at hh
  split at hh<;>first|(cases hh; done)|skip
  rename_i t ht
  cases hh
  exact hf s t ht
 |func k cap=>
  simp only[fG]at hh
  split at hh<;>first|(cases hh; done)|skip
  cases hh
  exact hc
 |agg cs=>cases hh
 |dH cs=>cases hh
 |_=>cases hh; exact hc
theorem fK.on {b off:Nat} {cs:List V} (hc:fK N L e w b off cs) (sl:Nat→Prop) (bx:Nat→Nat):fK N L (e.on sl bx) w b off cs:=by
 intro j c hj
 obtain⟨h1,v,h2,h3⟩:=hc j c hj
 exact⟨h1,v,h2,h3.fG (Cu h1 fun _=>none) (fun s t ht=>by cases ht)⟩
theorem vb {f:Nat→Option Nat} {bx:List (Nat×List V)}:∀(ss:List Nat) (n:Nat) (b:List (Nat×List V)),r8 f bx n ss=some b→
  (∀i s,ss[i]?=some s→∃cs l,aG s bx=some cs∧aA (fG f) cs=some l∧aG (n+i) b=some l)∧∀t,(t<n∨n+ss.length≤t)→aG t b=none
 |[],n,b,hh=>by
  cases hh
  exact⟨fun i s hi=>by simp at hi,fun t _=>rfl⟩
 |s::r,n,b,hh=>by
  simp only[r8]at hh
  split at hh<;>first|(cases hh; done)|skip
  rename_i cs hcs
  split at hh<;>first|(cases hh; done)|skip
  rename_i l b' hl hb'
  cases hh
  obtain⟨i1,i2⟩:=vb r (n+1) b' hb'
  refine⟨fun i s' hi=>?_,fun t ht=>?_⟩
  .cases i with
   |zero=>
    cases hi
    exact⟨cs,l,hcs,hl,by simp[aG]⟩
   |succ i=>
    obtain⟨cs',l',g1,g2,g3⟩:=i1 i s' (by simpa using hi)
    refine⟨cs',l',g1,g2,?_⟩
    simp only[aG]
    rw[if_neg (by omega),show n+(i+1)=n+1+i by omega]
    exact g3
  .simp only[aG,List.length_cons]at ht ⊢
   rw[if_neg (by omega)]
   exact i2 t (by omega)
theorem sO {f:Nat→Option Nat} {bx:List (Nat×List V)}:∀(ss:List Nat) (n:Nat) (bs:List (Nat×List V)),lG f bx n ss=some bs→ss.Nodup→∀b0:List (Nat×List V),
  (∀i s,ss[i]?=some s→∃cs l,aG (n+i) bx=some cs∧aA (fG f) cs=some l∧l.all V.dT=true∧aG s (fe bs b0)=some l)∧∀t,t∉ss→aG t (fe bs b0)=aG t b0
 |[],n,bs,hh,_,b0=>by
  cases hh
  exact⟨fun i s hi=>by simp at hi,fun t _=>rfl⟩
 |s::r,n,bs,hh,hn,b0=>by
  simp only[lG]at hh
  split at hh<;>first|(cases hh; done)|skip
  rename_i cs hcs
  split at hh<;>first|(cases hh; done)|skip
  rename_i l b' hl hb'
  split at hh<;>first|(cases hh; done)|skip
  rename_i hcalm
  cases hh
  obtain⟨h1,h2⟩:=List.nodup_cons.1 hn
  obtain⟨i1,i2⟩:=sO r (n+1) b' hb' h2 (ec s l b0)
  have hset:∀t,aG t (ec s l b0)=if s=t then some l else aG t b0:=fun t=>dQ (α:=Unit) s t l b0
  refine⟨fun i s' hi=>?_,fun t ht=>?_⟩
  .cases i with
   |zero=>
    cases hi
    refine⟨cs,l,hcs,hl,hcalm,?_⟩
    show aG s (fe b' (ec s l b0))=some l
    rw[i2 s h1,hset,if_pos rfl]
   |succ i=>
    obtain⟨cs',l',g1,g2,g3,g4⟩:=i1 i s' (by simpa using hi)
    exact⟨cs',l',by rw[show n+(i+1)=n+1+i by omega]; exact g1,g2,g3,g4⟩
  .show aG t (fe b' (ec s l b0))=aG t b0
   simp only[List.mem_cons,not_or]at ht
   rw[i2 t ht.2,hset,if_neg (fun he=>ht.1 he.symm)]
theorem qb {ss:List Nat} {s t:Nat} (hh:pU ss s=some t):∃i,ss[i]?=some s∧t=outer+i:=by
 unfold pU at hh
 obtain⟨i,h1,rfl⟩:=Wf.1 hh
 rw[Wd]at h1
 obtain⟨h2,h3,_⟩:=h1
 refine⟨i,?_,rfl⟩
 rw[VA h2]
 simpa using h3
theorem sP {ss:List Nat} {s t:Nat} (hh:gb ss t=some s):∃i,ss[i]?=some s∧t=outer+i:=by
 unfold gb at hh
 split at hh
 .exact⟨t - outer,hh,by omega⟩
 .cases hh
theorem qc (i:Nat):dS (outer+i)=true:=by
 unfold dS outer
 rw[Nat.ble_eq]
 omega
def Hp (e:bn) (W:Nat→Prop) (ss:List Nat) (b:Nat):Prop:=W b∧∀s,e.sl s→s∉ss→e.bx s≠b
def Cv (ss:List Nat) (t:Nat):Prop:=∃i s,ss[i]?=some s∧t=outer+i
def Ar (e:bn) (ss:List Nat) (t:Nat):Nat:=e.bx (ss.getD (t - outer) 0)
theorem kM (e:bn) {ss:List Nat} {i s:Nat} (h:ss[i]?=some s):Ar e ss (outer+i)=e.bx s:=by
 unfold Ar
 rw[Nat.add_sub_cancel_left]
 simp[h]
theorem HR.As (hr:HR N L e W h w) {s id:Nat} (hs:e.sl s) (hi:id<e.nm):e.bx s≠e.mp id:=by
 obtain⟨m,hm⟩:=hr.zS hi
 obtain⟨es,cl,k1,_⟩:=hr.mp id m hm
 have hl:=(hr.sl s).1 hs
 cases hc:aG s h.bx with
 |none=>simp[hc]at hl
 |some cs=>
  obtain⟨⟨arr,ty,k2,_⟩,_⟩:=hr.bx s cs hc
  exact(fy k1 k2).symm
theorem HR.aY (hr:HR N L e W h w) {ss:List Nat} (hnd:ss.Nodup) {b:List (Nat×List V)} (hb:r8 (pU ss) h.bx outer ss=some b):
  HR N L (e.on (Cv ss) (Ar e ss)) (Hp e W ss) ⟨b,h.ar,h.mp⟩ w∧∀s∈ss,e.sl s:=by
 obtain⟨b1,b2⟩:=vb ss outer b hb
 have hsl:∀s∈ss,e.sl s:=fun s hs=>by
  obtain⟨i,hi⟩:=VD.1 hs
  obtain⟨cs,l,g1,_⟩:=b1 i s hi
  exact(hr.sl s).2 (by rw[g1]; rfl)
 have hf:∀s t,pU ss s=some t→e.sl s→Cv ss t∧Ar e ss t=e.bx s:=fun s t ht _=>by
  obtain⟨i,h1,rfl⟩:=qb ht
  exact⟨⟨i,s,h1,rfl⟩,kM e h1⟩
 have hlook:∀t,(aG t b).isSome=true→∃i s,ss[i]?=some s∧t=outer+i:=fun t ht=>by
  rcases VG t outer with h1|h1
  .rw[b2 t (.inl h1)]at ht; cases ht
  .rcases VG t (outer+ss.length)with h2|h2
   .exact⟨t - outer,ss[t - outer]'(by omega),VA (by omega),by omega⟩
   .rw[b2 t (.inr h2)]at ht; cases ht
 refine⟨⟨fun t=>⟨?_,hlook t⟩,fun t cs ht=>?_,hr.na,hr.aq,fun id a ha hk=>?_,hr.nm,hr.mp,?_,fun id hi hk=>?_,fun id hi=>?_,?_,?_,hr.wm,hr.zP,hr.nG,fun g hg=>?_,hr.zN⟩,hsl⟩
 .rintro ⟨i,s,h1,rfl⟩
  obtain⟨cs,l,_,_,g3⟩:=b1 i s h1
  show (aG (outer+i) b).isSome=true
  rw[g3]
  rfl
 .obtain⟨i,s,h1,rfl⟩:=hlook t (by rw[ht]; rfl)
  obtain⟨cs0,l,g1,g2,g3⟩:=b1 i s h1
  rw[show aG (outer+i) (⟨b,h.ar,h.mp⟩:af).bx=aG (outer+i) b from rfl,g3]at ht
  cases ht
  obtain⟨k1,k2⟩:=hr.bx s cs0 g1
  show Block w (Ar e ss (outer+i)) _∧lL N L _ w (Ar e ss (outer+i)) _
  rw[kM e h1]
  refine⟨by rw[bQ g2]; exact k1,fun j c hj=>?_⟩
  obtain⟨x,p1,p2⟩:=bC g2 j c hj
  obtain⟨q1,v,q2,q3⟩:=k2 j x p1
  refine⟨Aq p2 q1 (fun s t ht=>?_),v,q2,q3.fG p2 hf⟩
  obtain⟨i',_,rfl⟩:=qb ht
  exact qc i'
 .obtain⟨g1,g2,g3,g4,g5⟩:=hr.ar id a ha hk
  exact⟨g1,g2,g3,fun i r hi=>(g4 i r hi).on _ _,g5⟩
 .rintro t ⟨i,s,h1,rfl⟩
  show Hp e W ss (Ar e ss (outer+i))∧∀t,¬L t (Ar e ss (outer+i))
  rw[kM e h1]
  have hs:=Vz h1
  refine⟨⟨(hr.uv s (hsl s hs)).1,fun s' hs' hn he=>?_⟩,(hr.uv s (hsl s hs)).2⟩
  exact hn (hr.zM s' s hs' (hsl s hs) he ▸ hs)
 .exact⟨⟨(hr.nF id hi hk).1,fun s' hs' _=>hr.wk s' id hs' hi hk⟩,(hr.nF id hi hk).2⟩
 .exact⟨⟨(hr.wj id hi).1,fun s' hs' _=>hr.As hs' hi⟩,(hr.wj id hi).2⟩
 .rintro t t' ⟨i,s,h1,rfl⟩ ⟨i',s',h2,rfl⟩ he
  change Ar e ss (outer+i)=Ar e ss (outer+i')at he
  rw[kM e h1,kM e h2]at he
  have:=hr.zM s s' (hsl s (Vz h1)) (hsl s' (Vz h2)) he
  subst this
  have:=(List.getElem?_inj (Vy.1 h1).1 hnd).1 (h1.trans h2.symm)
  rw[this]
 .rintro t id ⟨i,s,h1,rfl⟩ hi hk
  show Ar e ss (outer+i)≠_
  rw[kM e h1]
  exact hr.wk s id (hsl s (Vz h1)) hi hk
 .exact⟨hr.wide g hg,fun s' hs' _ he=>by have:=hr.lj hs'; omega⟩
theorem Nx.out (hr:HR N L e W h w) {ss:List Nat} (hnd:ss.Nodup) (hsl:∀s∈ss,e.sl s) {h1:af} (hr1:HR N L' e' (Hp e W ss) h1 w') (hx:qa L (e.on (Cv ss) (Ar e ss)) w L' e' w')
  (hf:Fr (Hp e W ss) w w') (hnew:∀t b,L' t b→L t b∨(t=0∧Hp e W ss b)) {bs:List (Nat×List V)} (ho:lG (gb ss) h1.bx outer ss=some bs):
  Nx N W L e w L' (e'.on e.sl e.bx) ⟨fe bs h.bx,h1.ar,h1.mp⟩ w':=by
 obtain⟨o1,o2⟩:=sO ss outer bs ho hnd h.bx
 have hat:∀i s,ss[i]?=some s→e'.sl (outer+i)∧e'.bx (outer+i)=e.bx s:=fun i s hi=>by
  obtain⟨g1,g2⟩:=hx.sl (outer+i) (qc i) ⟨i,s,hi,rfl⟩
  exact⟨g1,g2.trans (kM e hi)⟩
 have hext:Ext L e w L' (e'.on e.sl e.bx) w':=hx.ext rfl rfl (fun s hs=>⟨hs,rfl⟩)
 have hfo:∀t u,gb ss t=some u→e'.sl t→e.sl u∧e.bx u=e'.bx t:=fun t u ht _=>by
  obtain⟨i,g1,rfl⟩:=sP ht
  exact⟨hsl u (Vz g1),(hat i u g1).2.symm⟩
 have hframe:∀s,e.sl s→s∉ss→¬Hp e W ss (e.bx s):=fun s hs hn hw=>hw.2 s hs hn rfl
 refine⟨⟨fun s=>?_,fun s cs hs=>?_,hr1.na,hr1.aq,fun id a ha hk=>?_,hr1.nm,hr1.mp,fun s hs=>?_,fun id hi hk=>?_,fun id hi=>?_,hr.zM,fun s id hs hi hk=>?_,hr1.wm,hr1.zP,hr1.nG,fun g hg=>?_,hr1.zN⟩,hext,?_,fun t b hb=>?_⟩
 .show e.sl s↔(aG s (fe bs h.bx)).isSome=true
  by_cases hm:s∈ss
  .obtain⟨i,hi⟩:=VD.1 hm
   obtain⟨cs,l,_,_,_,g4⟩:=o1 i s hi
   rw[g4]
   exact⟨fun _=>rfl,fun _=>hsl s hm⟩
  .rw[o2 s hm]
   exact hr.sl s
 .change aG s (fe bs h.bx)=some cs at hs
  show Block w' (e.bx s) cs.length∧lL N L' (e'.on e.sl e.bx) w' (e.bx s) cs
  by_cases hm:s∈ss
  .obtain⟨i,hi⟩:=VD.1 hm
   obtain⟨cs0,l,g1,g2,g3,g4⟩:=o1 i s hi
   rw[g4]at hs
   cases hs
   obtain⟨k1,k2⟩:=hr1.bx (outer+i) cs0 g1
   rw[(hat i s hi).2]at k1 k2
   refine⟨by rw[bQ g2]; exact k1,fun j c hj=>?_⟩
   obtain⟨x,p1,p2⟩:=bC g2 j c hj
   obtain⟨_,v,q2,q3⟩:=k2 j x p1
   exact⟨V9.1 g3 c (Vz hj),v,q2,q3.fG p2 hfo⟩
  .rw[o2 s hm]at hs
   obtain⟨k1,k2⟩:=hr.bx s cs hs
   have hse:=(hr.sl s).2 (by rw[hs]; rfl)
   have hsame:=hf.kept (e.bx s) k1.lt (hframe s hse hm)
   exact⟨k1.same hsame,k2.mono hext hsame⟩
 .obtain⟨g1,g2,g3,g4,g5⟩:=hr1.ar id a ha hk
  exact⟨g1,g2,g3,fun i r hi=>(g4 i r hi).on _ _,g5⟩
 .refine⟨(hr.uv s hs).1,fun t ht=>?_⟩
  by_cases hm:s∈ss
  .obtain⟨i,hi⟩:=VD.1 hm
   obtain⟨g1,g2⟩:=hat i s hi
   exact(hr1.uv (outer+i) g1).2 t (by rw[g2]; exact ht)
  .rcases hnew t _ ht with h2|⟨_,h2⟩
   .exact(hr.uv s hs).2 t h2
   .exact hframe s hs hm h2
 .exact⟨(hr1.nF id hi hk).1.1,(hr1.nF id hi hk).2⟩
 .exact⟨(hr1.wj id hi).1.1,(hr1.wj id hi).2⟩
 .show e.bx s≠e'.ar id
  by_cases hm:s∈ss
  .obtain⟨i,hi'⟩:=VD.1 hm
   obtain⟨g1,g2⟩:=hat i s hi'
   rw[← g2]
   exact hr1.wk (outer+i) id g1 hi hk
  .exact(hr1.nF id hi hk).1.2 s hs hm
 .exact hr.wide g (Wr hf.size hg)
 .exact⟨hf.os,hf.tape,hf.output,hf.size,fun b hb hw=>hf.kept b hb (fun hc=>hw hc.1),hf.drawn⟩
 .rcases hnew t b hb with h2|⟨h2,h3⟩
  .exact .inl h2
  .exact .inr ⟨h2,h3.1⟩
theorem sQ:∀(vs:List V) (n t:Nat),get (lH n vs) t=if n≤t then (vs[t - n]?).getD .any else .any
 |[],n,t=>by simp[lH,get,aG]
 |p::r,n,t=>by
  have ih:=sQ r (n+1) t
  simp only[lH,get,aG]at ih ⊢
  by_cases hn:n=t
  .subst hn; simp
  .rw[if_neg hn,ih]
   by_cases hlt:n≤t
   .rw[if_pos (show n+1≤t by omega),if_pos hlt,show t - n=(t - (n+1))+1 by omega]
    simp
   .rw[if_neg (by omega),if_neg hlt]
theorem lY {fn:ae} {ss:List Nat} {s:St} {v:V} {tn:Tn} (hh:nI fn ss s=some (v,tn)):∃rs ws bs,aA (c9 s) fn.results=some rs∧aA (lF (gb ss)) rs=some ws∧lG (gb ss) s.h.bx outer ss=some bs∧v=eP ws∧tn={ all:=some (bs,s.h.ar,s.h.mp) }:=by
 unfold nI at hh
 split at hh<;>first|(cases hh; done)|skip
 rename_i rs h1
 split at hh<;>first|(cases hh; done)|skip
 rename_i ws bs h2 h3
 cases hh
 exact⟨rs,ws,bs,h1,h2,h3,rfl,rfl⟩
theorem lZ {E:AC→St→Option (Ex×St)} {fn:ae} {vs:List V} {h:af} {r:V×Tn} (hh:fJ E fn vs h=some r):∃ss us bx ex s,ss=dK h.bx 2 (ch [] (vs.flatMap slotsOf))∧ss.Nodup∧vs.length=fn.pQ∧aA (lF (pU ss)) vs=some us∧r8 (pU ss) h.bx outer ss=some bx∧
  E fn.body ⟨lH 0 us,⟨bx,h.ar,h.mp⟩⟩=some (ex,s)∧(ex=.normal∨ex=.ret)∧nI fn ss s=some r:=by
 unfold fJ at hh
 split at hh<;>first|(cases hh; done)|skip
 rename_i hn
 split at hh<;>first|(cases hh; done)|skip
 rename_i us bx h1 h2
 have hnd:=oP h.bx 2 (ch [] (vs.flatMap slotsOf)) (fP _ [] List.nodup_nil)
 split at hh<;>first|(cases hh; done)|skip
 .rename_i s h3
  exact⟨_,us,bx,.normal,s,rfl,hnd,hn,h1,h2,h3,.inl rfl,hh⟩
 .rename_i s h3
  exact⟨_,us,bx,.ret,s,rfl,hnd,hn,h1,h2,h3,.inr rfl,hh⟩
theorem Cw {A:Nat→Option ae} {n:Nat} (hcode:kL P N M A Pr n) {f:Nat} {fn:ae} {an:DJ} (hfn:xC P N M (N f) an fn) {vs:List V} {args:Array Value} {v:V} {tn:Tn} (hh:fJ (exec A Pr n) fn vs h=some (v,tn)) (hr:HR N L e W h w)
  (hs:args.size=vs.length) (hv:∀(j:Nat) (x:V),vs[j]?=some x→VR N L e w x (args.getD j undef)):
  dI P (N f) args w fun v' w'=>∃L' e',Nx N W L e w L' e' (tn.apply h) w'∧VR N L' e' w' v v':=by
 obtain⟨ss,us,bx,ex,s',_,hnd,hn,hus,hbx,hex,hex2,hend⟩:=lZ hh
 obtain⟨rs,ws,bs,hrs,hws,hbs,rfl,rfl⟩:=lY hend
 obtain⟨go,code,f1,f2,f3,f4,f5,f6⟩:=hfn
 refine .inr ⟨by simp only[beq_eq_false_iff_ne,ne_eq]at f3; simp[callFunc,f1,f2,f3],?_⟩
 refine calls_of_wp f1 f2 ?_
 obtain⟨hri,hsl⟩:=hr.aY hnd hbx
 have hfi:∀s t,pU ss s=some t→e.sl s→Cv ss t∧Ar e ss t=e.bx s:=fun s t ht _=>by
  obtain⟨i,h1,rfl⟩:=qb ht
  exact⟨⟨i,s,h1,rfl⟩,kM e h1⟩
 have hlen:us.length=vs.length:=bQ hus
 have hst:FrS N (Hp e W ss) go.ntmps L (e.on (Cv ss) (Ar e ss)) w ⟨lH 0 us,⟨bx,h.ar,h.mp⟩⟩ { tmps:=args++Array.replicate (go.ntmps - args.size) undef,defers:=[] } w:=by
  refine⟨L,_,⟨hri,fun t=>?_,?_,rfl⟩,Fr.refl _ _,fun _ _ hb=>hb,fun _ _ hb=>.inl hb,(Ext.refl _ _ _).x⟩
  .rw[sQ]
   simp only[Nat.zero_le,if_true,Nat.sub_zero]
   cases hp:us[t]? with
   |none=>exact .any _
   |some u=>
    obtain⟨x,h1,h2⟩:=bC hus t u hp
    have hlt:t<args.size:=by rw[hs]; exact(Vy.1 h1).1
    have:(args++Array.replicate (go.ntmps - args.size) undef).getD t undef=args.getD t undef:=by
     apply cc
     rw[Array.toList_append,List.getElem?_append_left (by simpa using hlt),Array.getElem?_toList]
     exact bl hlt
    rw[this]
    exact(hv t x h1).lF h2 hfi
  .simp
   omega
 have key:∀a1 w1,FrS N (Hp e W ss) go.ntmps L (e.on (Cv ss) (Ar e ss)) w s' a1 w1→a1.defers=[]∧∃v',(results go a1.tmps).run P w1=.ok v' w1∧∃L' e',Nx N W L e w L' e' (Tn.apply { all:=some (bs,s'.h.ar,s'.h.mp) } h) w1∧VR N L' e' w1 (eP ws) v':=by
  rintro a1 w1 ⟨L1,e1,hsr,hf,_,hnew,hx⟩
  obtain⟨vals,r1,r2,r3⟩:=qO hsr f6 hrs
  refine⟨hsr.defers,_,r1,L1,e1.on e.sl e.bx,Nx.out hr hnd hsl hsr.hr hx hf hnew hbs,?_⟩
  refine uY (by rw[r2,bQ hws]) (fun j x hj=>?_)
  obtain⟨y,h1,h2⟩:=bC hws j x hj
  obtain⟨u,h3,h4⟩:=r3 j y h1
  refine⟨u,h3,h4.lF h2 fun t q ht _=>?_⟩
  obtain⟨i,g1,rfl⟩:=sP ht
  obtain⟨_,k2⟩:=hx.sl (outer+i) (qc i) ⟨i,q,g1,rfl⟩
  exact⟨hsl q (Vz g1),(k2.trans (kM e g1)).symm⟩
 refine wp_mono (hcode go.ntmps code an fn.body [] f5 _ L _ w _ ex s' _ w hex hst) fun xx a1 w1 hq=>?_
 obtain⟨rfl,hs1⟩:=hq
 obtain⟨k1,v',k2,k3⟩:=key a1 w1 hs1
 rcases hex2 with rfl|rfl
 .exact⟨k1,v',k2,k3⟩
 .exact⟨k1,v',k2,k3⟩
theorem yq {f:Nat→Option Nat} {b1 b2:List (Nat×List V)} (hb:∀s,aG s b1=aG s b2):∀(ss:List Nat) (n:Nat),r8 f b1 n ss=r8 f b2 n ss
 |[],_=>rfl
 |s::r,n=>by simp only[r8,hb s,yq hb r (n+1)]
theorem sR {b1 b2:List (Nat×List V)} (hb:∀s,aG s b1=aG s b2):∀(n:Nat) (l:List Nat),dK b1 n l=dK b2 n l
 |0,_=>rfl
 |n+1,l=>by
  have:rG b1=rG b2:=funext fun s=>by simp only[rG,hb s]
  simp only[dK,this]
  exact sR hb n _
theorem Au {E:AC→St→Option (Ex×St)} {fn:ae} {vs:List V} {h1 h2:af} (k:p5 h1 h2):fJ E fn vs h1=fJ E fn vs h2:=by
 unfold fJ
 rw[sR k.bx,yq k.bx,k.ar,k.mp]
theorem nT {E:AC→St→Option (Ex×St)} {fn:ae} {vs:List V} {h:af} {v:V} {t:Tn} (hh:fJ E fn vs h=some (v,t)):∃x,t={ all:=some x }:=by
 obtain⟨ss,us,bx,ex,s',_,_,_,_,_,_,_,hend⟩:=lZ hh
 obtain⟨rs,ws,bs,_,_,_,_,rfl⟩:=lY hend
 exact⟨_,rfl⟩
theorem yr (A:Nat→Option ae) (E:AC→St→Option (Ex×St)) (hPL:cX Pr):cX (bI A E Pr):=by
 have two:∀fn pr,bI A E Pr fn=some pr→Pr fn=some pr∨∃g,pr=fJ E g:=by
  intro fn pr hf
  unfold bI at hf
  split at hf
  .split at hf
   .cases hf
    exact .inr ⟨_,rfl⟩
   .exact .inl hf
  .exact .inl hf
 refine⟨fun fn pr hf vs h1 h2 v t he ha=>?_,fun fn pr hf vs h v t he=>?_,fun fn pr hf vs h v t he=>?_⟩
 .rcases two fn pr hf with h|⟨g,rfl⟩
  .exact hPL.loc fn pr h vs h1 h2 v t he ha
  .obtain⟨x,rfl⟩:=nT he
   rw[← Au (ha.whole rfl)]
   exact he
 .rcases two fn pr hf with h'|⟨g,rfl⟩
  .exact hPL.fit fn pr h' vs h v t he
  .obtain⟨x,rfl⟩:=nT he
   exact⟨fun hp=>absurd rfl hp,fun i a hia=>by cases hia⟩
 .rcases two fn pr hf with h'|⟨g,rfl⟩
  .exact hPL.gG fn pr h' vs h v t he
  .obtain⟨x,rfl⟩:=nT he
   rfl
theorem Av {A:Nat→Option ae} {n:Nat} (hPr:ep P N Pr) (hcode:kL P N M A Pr n) (hA:∀f fn,A f=some fn→∃an,xC P N M (N f) an fn):ep P N (bI A (exec A Pr n) Pr):=by
 intro f pr hf L e W h w vs args v tn he hr hs hv
 unfold bI at hf
 split at hf
 .rename_i fn hfn
  split at hf
  .cases hf
   obtain⟨an,hok⟩:=hA f fn hfn
   exact Cw hcode hok he hr hs hv
  .exact hPr f pr hf L e W h w vs args v tn he hr hs hv
 .exact hPr f pr hf L e W h w vs args v tn he hr hs hv
end Go.Pv
namespace Go.Pv
variable {P:Program} {N M:Nat→Nat} {W:Nat→Prop} {L L':Lx} {e e':bn} {h:af} {w w':World} {Pr:br}
theorem vc {cs:List V} {v:Value} (hv:VR N L e w (.agg cs) v):∃arr:Array Value,v=.agg arr∧arr.toList.length=cs.length∧∀(j:Nat) (x:V),cs[j]?=some x→∃u,arr.toList[j]?=some u∧VR N L e w x u:=by
 cases hv with
 |agg _ arr hs hvv=>
  refine⟨arr,rfl,by simpa using hs,fun j x hj=>?_⟩
  have hlt:j<arr.size:=by rw[hs]; exact(Vy.1 hj).1
  exact⟨arr.getD j undef,by rw[VU]; exact bl hlt,hvv j x hj⟩
theorem Ea (hr:HR N L e W h w) (hL:∀b,L 0 b→L' 0 b) (hown:∀id,id<e.na→e.ak id≠0→L' 0 (e.ar id)) (hbox:∀s,e.sl s→L' 0 (e.bx s)) {slot off:Nat} {cs:List V} {l:List PV} (hs:aG slot h.bx=some cs) (hm:aA (aV h 4) (cs.drop off)=some l) {v:Value} (hv:VR N L e w (.ptr slot off) v):CR N L' w (.ro 0 l) v []:=by
 cases hv with
 |ptr _ _ hsl=>
  have hcell:∀(j:Nat) (c:PV),l[j]?=some c→c.perm=true∧∃v,w.cell? ⟨e.bx slot,off+j,none⟩=some v∧dL N L' w c v:=by
   intro j c hj
   obtain⟨x,k1,k2⟩:=bC hm j c hj
   rw[Wg]at k1
   obtain⟨_,v,k3,k4⟩:=(hr.bx slot cs hs).2 (off+j) x k1
   obtain⟨i1,i2⟩:=lT hr hL 4 x c v k2 k4 (fun _=>hown)
   exact⟨i2,v,k3,i1⟩
  refine .ro l _ (fun c hc=>?_) (.ro 0 l (e.bx slot) off (fun j=>(w.cell? ⟨e.bx slot,off+j,none⟩).getD undef) (fun _=>.inl (hbox slot hsl)) (fun j c hj=>?_) (fun j c hj=>?_) (fun c hc=>?_))
  .obtain⟨j,hj⟩:=VD.1 hc
   exact(hcell j c hj).1
  .obtain⟨_,v,k1,_⟩:=hcell j c hj
   simp[k1]
  .obtain⟨_,v,k1,k2⟩:=hcell j c hj
   simp only[k1,Option.getD_some]
   exact k2
  .obtain⟨j,hj⟩:=VD.1 hc
   exact PV.xD (hcell j c hj).1
theorem Cx (hr:HR N L e W h w) (hL:∀b,L 0 b→L' 0 b) {x:V} {p:PV} {v:Value} (hno:∀b∈dB e x.cells,∀t,¬L' t b) (hk:bO h true x=some p) (hv:VR N L e w x v):
  RR N L' w p v (dB e x.cells)∧∀id∈x.cells.filterMap ga,id<e.na∧e.ak id≠0:=by
 cases x with
 |agg cs=>
  simp only[bO,if_true]at hk
  cases hm:aA (fb h) cs with
  |none=>simp[hm]at hk
  |some l=>
   simp[hm]at hk
   subst hk
   obtain⟨arr,rfl,h1,h2⟩:=vc hv
   obtain⟨k1,k2⟩:=qP hr hL cs l arr.toList hno hm h1 h2
   exact⟨.agg l arr _ k1,k2⟩
 |pv q=>
  cases q with
  |ro t cs=>
   simp only[bO]at hk
   rw[if_neg (fun hh=>by cases hh.1)]at hk
   cases hk
  |_=>
   simp only[bO,if_true]at hk
   obtain⟨k1,k2⟩:=lX hr hL hno hk hv
   refine⟨.cell _ _ _ k1,fun id hid=>?_⟩
   obtain⟨y,hy1,hy2⟩:=Wz.1 hid
   simp[V.cells]at hy1
   subst hy1
   exact k2 id hy2
 |_=>
  simp only[bO,if_true]at hk
  obtain⟨k1,k2⟩:=lX hr hL hno hk hv
  refine⟨.cell _ _ _ k1,fun id hid=>?_⟩
  obtain⟨y,hy1,hy2⟩:=Wz.1 hid
  simp[V.cells]at hy1
  subst hy1
  exact k2 id hy2
theorem Eb (hr:HR N L e W h w) (hL:∀b,L 0 b→L' 0 b) (hown:∀id,id<e.na→e.ak id≠0→L' 0 (e.ar id)) (hbox:∀s,e.sl s→L' 0 (e.bx s)) {x:V} {p:PV} {v:Value} (hk:bO h false x=some p) (hv:VR N L e w x v):RR N L' w p v []:=by
 cases x with
 |agg cs=>
  simp only[bO,Bool.false_eq_true,if_false]at hk
  cases hm:aA (aV h 4) cs with
  |none=>simp[hm]at hk
  |some l=>
   simp[hm]at hk
   subst hk
   obtain⟨arr,rfl,h1,h2⟩:=vc hv
   exact .agg l arr _ (sN hr hL hown cs l arr.toList hm h1 h2)
 |ptr slot off=>
  simp only[bO,Bool.false_eq_true,if_false]at hk
  cases hs:aG slot h.bx with
  |none=>simp[hs]at hk
  |some cs=>
   simp only[hs]at hk
   cases hm:aA (aV h 4) (cs.drop off)with
   |none=>simp[hm]at hk
   |some l=>
    simp only[hm]at hk
    cases hk
    exact .cell _ _ _ (Ea hr hL hown hbox hs hm hv)
 |pv q=>
  cases q with
  |ro t cs=>
   simp only[bO]at hk
   split at hk<;>first|(cases hk; done)|skip
   rename_i hc
   obtain⟨_,rfl,hp⟩:=hc
   cases hk
   have hp:∀c∈cs,c.perm=true:=fun c hc=>V9.1 hp c hc
   cases hv with
   |pv _ _ hq=>exact .cell _ _ _ (.ro cs _ hp (dL.UE hp hq fun b hb=>⟨hL b hb,rfl⟩))
  |_=>
   simp only[bO,Bool.false_eq_true,if_false]at hk
   exact .cell _ _ _ (nS hr hL hown hk hv)
 |_=>
  simp only[bO,Bool.false_eq_true,if_false]at hk
  exact .cell _ _ _ (nS hr hL hown hk hv)
theorem sS (hr:HR N L e W h w) (hL:∀b,L 0 b→L' 0 b):∀(xs:List V) (rs:List PV) (vals:List Value),(∀b∈(eo xs).map e.ar,∀t,¬L' t b)→aA (bO h true) xs=some rs→vals.length=xs.length→(∀(j:Nat) (x:V),xs[j]?=some x→∃u,vals[j]?=some u∧VR N L e w x u)→
  DF N L' w rs vals ((eo xs).map e.ar)∧∀id∈eo xs,id<e.na∧e.ak id≠0
 |[],rs,vals,_,hm,hl,_=>by
  simp[aA]at hm
  subst hm
  have:vals=[]:=List.eq_nil_of_length_eq_zero (by simpa using hl)
  subst this
  exact⟨.nil,by simp[eo]⟩
 |x::xs,rs,vals,hno,hm,hl,hv=>by
  simp only[aA]at hm
  split at hm<;>first|(cases hm; done)|skip
  rename_i p pr hp hpr
  injection hm with hm
  subst hm
  match vals,hl with
  |v::vals,hl=>
   obtain⟨u,h1,h2⟩:=hv 0 x rfl
   simp at h1
   subst h1
   have hsplit:(eo (x::xs)).map e.ar=dB e x.cells++(eo xs).map e.ar:=by simp[eo,dB]
   rw[hsplit]at hno ⊢
   obtain⟨c1,c2⟩:=Cx hr hL (fun b hb=>hno b (Wh _ hb)) hp h2
   obtain⟨d1,d2⟩:=sS hr hL xs pr vals (fun b hb=>hno b (List.mem_append_right _ hb)) hpr (by simpa using hl) (fun j y hj=>by simpa using hv (j+1) y (by simpa using hj))
   refine⟨.cons _ _ _ _ _ _ c1 d1,fun id hid=>?_⟩
   simp only[eo,List.mem_append]at hid
   rcases hid with hid|hid
   .exact c2 id hid
   .exact d2 id hid
theorem ve (hr:HR N L e W h w) (hL:∀b,L 0 b→L' 0 b) (hown:∀id,id<e.na→e.ak id≠0→L' 0 (e.ar id)) (hbox:∀s,e.sl s→L' 0 (e.bx s)):∀(xs:List V) (rs:List PV) (vals:List Value),aA (bO h false) xs=some rs→vals.length=xs.length→(∀(j:Nat) (x:V),xs[j]?=some x→∃u,vals[j]?=some u∧VR N L e w x u)→DF N L' w rs vals []
 |[],rs,vals,hm,hl,_=>by
  simp[aA]at hm
  subst hm
  have:vals=[]:=List.eq_nil_of_length_eq_zero (by simpa using hl)
  subst this
  exact .nil
 |x::xs,rs,vals,hm,hl,hv=>by
  simp only[aA]at hm
  split at hm<;>first|(cases hm; done)|skip
  rename_i p pr hp hpr
  injection hm with hm
  subst hm
  match vals,hl with
  |v::vals,hl=>
   obtain⟨u,h1,h2⟩:=hv 0 x rfl
   simp at h1
   subst h1
   exact DF.cons _ _ [] _ _ [] (Eb hr hL hown hbox hp h2) (ve hr hL hown hbox xs pr vals hpr (by simpa using hl) (fun j y hj=>by simpa using hv (j+1) y (by simpa using hj)))
theorem l6:∀{l:List Nat},distinct l=true→l.Nodup
 |[],_=>List.nodup_nil
 |x::r,hd=>by
  simp only[distinct,Bool.and_eq_true,Bool.not_eq_true']at hd
  refine List.nodup_cons.2 ⟨fun hx=>?_,l6 hd.2⟩
  have:=W7.2 hx
  rw[hd.1]at this
  cases this
theorem vf {f:Nat→Nat}:∀{l:List Nat},l.Nodup→(∀a∈l,∀b∈l,f a=f b→a=b)→(l.map f).Nodup
 |[],_,_=>List.nodup_nil
 |x::r,hn,hf=>by
  obtain⟨h1,h2⟩:=List.nodup_cons.1 hn
  rw[List.map_cons]
  refine List.nodup_cons.2 ⟨fun hx=>?_,vf h2 (fun a ha b hb=>hf a (by simp[ha]) b (by simp[hb]))⟩
  obtain⟨y,hy1,hy2⟩:=VP.1 hx
  have:=hf y (by simp[hy1]) x (by simp) hy2
  subst this
  exact h1 hy1
theorem Gd (hr:HR N L e W h w):∀{xs:List V} {rs:List PV},aA (bO h true) xs=some rs→∀id∈eo xs,id<e.na∧e.ak id≠0:=by
 have hc:∀{x:V} {p:PV},fb h x=some p→∀id,ga x=some id→id<e.na∧e.ak id≠0:=by
  intro x p hk id hid
  cases x with
  |own id' aq off len=>
   simp[ga]at hid
   subst hid
   cases off with
   |succ off=>simp[fb]at hk
   |zero=>
    simp only[fb]at hk
    cases ho:aF h id' aq with
    |none=>simp[ho]at hk
    |some a=>
     simp only[ho]at hk
     split at hk<;>first|(cases hk; done)|skip
     split at hk<;>first|(cases hk; done)|skip
     rename_i hk0
     obtain⟨ho1,_⟩:=bB ho
     exact⟨by rw[hr.na]; exact(Vy.1 ho1).1,by rw[(hr.aq id' a ho1).2.1]; exact hk0⟩
  |_=>simp[ga]at hid
 intro xs
 induction xs with
 |nil=>intro rs _ id hid; simp[eo]at hid
 |cons x xs ih=>
  intro rs hm id hid
  simp only[aA]at hm
  split at hm<;>first|(cases hm; done)|skip
  rename_i p pr hp hpr
  simp only[eo,List.mem_append]at hid
  rcases hid with hid|hid
  .obtain⟨y,hy1,hy2⟩:=Wz.1 hid
   cases x with
   |agg cs=>
    simp only[bO,if_true]at hp
    cases hmm:aA (fb h) cs with
    |none=>simp[hmm]at hp
    |some l=>
     obtain⟨j,hj⟩:=VD.1 (show y∈cs from hy1)
     obtain⟨q,_,hq⟩:=ov hmm j y hj
     exact hc hq id hy2
   |ptr s o=>simp[bO]at hp
   |pv q=>
    simp[V.cells]at hy1
    subst hy1
    simp[ga]at hy2
   |_=>
    simp only[bO,if_true]at hp
    simp[V.cells]at hy1
    subst hy1
    exact hc hp id hy2
  .exact ih hpr id hid
theorem qQ {T:Option Nat} {nt:Nat} {L0:Lx} {e0:bn} {w0:World} {s:St} {a:Act} {fn:ae} {go:Func} (hs:FrS N (Wc w0 T) nt L0 e0 w0 s a w) (hrv:aA (sg P) go.results.toList=some fn.results) {rs:List PV} (hl:leave fn s=some rs):
  ∃v,(results go a.tmps).run P w=.ok v w∧DU N L0 w0 T rs v w:=by
 obtain⟨L,e,hsr,hf,h1,h2,_⟩:=hs
 unfold leave at hl
 split at hl<;>first|(cases hl; done)|skip
 rename_i xs hxs
 split at hl<;>first|(cases hl; done)|skip
 rename_i hcond
 obtain⟨vals,r1,r2,r3⟩:=qO hsr hrv hxs
 refine⟨sC vals,r1,?_⟩
 have hr:=hsr.hr
 cases hfr:fn.fresh with
 |false=>
  rw[hfr]at hl
  let L1:Lx:=fun t b=>L t b∨(t=0∧Wc w0 T b∧b<w.heap.size)
  refine⟨L1,[],vals,hf,fun t b hb=>.inl (h1 t b hb),fun t b hb=>?_,fun t b hb=>?_,?_,List.nodup_nil,by simp,rfl⟩
  .rcases hb with hb|⟨h3,h4,_⟩
   .exact h2 t b hb
   .exact .inr ⟨h3,h4⟩
  .rcases hb with hb|⟨_,_,h5⟩
   .exact hr.nG t b hb
   .exact h5
  .exact ve (L':=L1) hr (fun b hb=>.inl hb) (fun id hi hk=>.inr ⟨rfl,(hr.nF id hi hk).1,hr.ir hi hk⟩) (fun s hs=>.inr ⟨rfl,(hr.uv s hs).1,hr.lj hs⟩) xs rs vals hl r2 r3
 |true=>
  rw[hfr]at hl hcond
  simp only[Bool.not_true,Bool.false_or]at hcond
  let bs:List Nat:=(eo xs).map e.ar
  let L1:Lx:=fun t b=>(L t b∨(t=0∧Wc w0 T b∧b<w.heap.size))∧b∉bs
  -- the blocks of what is given away are no one's
  have hids:∀id∈eo xs,id<e.na∧e.ak id≠0:=Gd hr hl
  have hfree:∀b∈bs,Wc w0 T b∧∀t,¬L t b:=fun b hb=>by
   obtain⟨id,hid,rfl⟩:=VP.1 hb
   exact⟨(hr.nF id (hids id hid).1 (hids id hid).2).1,(hr.nF id (hids id hid).1 (hids id hid).2).2⟩
  refine⟨L1,bs,vals,hf,fun t b hb=>⟨.inl (h1 t b hb),fun hbb=>(hfree b hbb).2 t (h1 t b hb)⟩,fun t b hb=>?_,fun t b hb=>?_,?_,?_,fun b hb=>(hfree b hb).1,rfl⟩
  .rcases hb.1 with hb|⟨h3,h4,_⟩
   .exact h2 t b hb
   .exact .inr ⟨h3,h4⟩
  .rcases hb.1 with hb|⟨_,_,h5⟩
   .exact hr.nG t b hb
   .exact h5
  .exact(sS (L':=L1) hr (fun b hb=>⟨.inl hb,fun hbb=>(hfree b hbb).2 0 hb⟩) xs rs vals (fun b hb t ht=>ht.2 hb) hl r2 r3).1
  .exact vf (l6 hcond) (fun i hi j hj heq=>hr.wm i j (hids i hi).1 (hids j hj).1 (hids i hi).2 (hids j hj).2 heq)
theorem yu {A:Nat→Option ae} {n:Nat} (hcode:kL P N M A Pr n) (hA:∀f fn,A f=some fn→∃an,xC P N M (N f) an fn):D8 P N A Pr n:=by
 intro f ps rs hcall
 unfold da at hcall
 split at hcall<;>first|(cases hcall; done)|skip
 rename_i fn hfn
 obtain⟨an,go,code,f1,f2,f3,f4,f5,f6⟩:=hA f fn hfn
 unfold Bq at hcall
 split at hcall<;>first|(cases hcall; done)|skip
 rename_i hargs
 intro L w T args hlsz htab har
 refine .inr ⟨by simp only[beq_eq_false_iff_ne,ne_eq]at f3; simp[callFunc,f1,f2,f3],?_⟩
 refine calls_of_wp f1 f2 ?_
 obtain⟨e,e1,e2⟩:=Ct hlsz htab har
 have hlen:args.size=ps.length:=by
  have:args.toList.length=ps.length:=by
   generalize args.toList=al at har
   cases har with
   |plain _ _ hl _=>exact hl
   |take _ _ _ _ _ _ _ hl _=>simp[hl]
  simpa using this
 have hst:FrS N (Wc w T) go.ntmps L e w ⟨entry 0 ps,cK ps⟩ { tmps:=args++Array.replicate (go.ntmps - args.size) undef,defers:=[] } w:=by
  refine⟨L,e,⟨e1,fun t=>?_,?_,rfl⟩,Fr.refl _ _,fun _ _ hb=>hb,fun _ _ hb=>.inl hb,(Ext.refl _ _ _).x⟩
  .rw[u9]
   simp only[Nat.zero_le,if_true,Nat.sub_zero]
   cases hp:ps[t]? with
   |none=>exact .any _
   |some p=>
    obtain⟨v,h1,h2⟩:=e2 t p hp
    have hlt:t<args.size:=by rw[hlen]; exact(Vy.1 hp).1
    have:(args++Array.replicate (go.ntmps - args.size) undef).getD t undef=v:=by
     apply cc
     rw[Array.toList_append,List.getElem?_append_left (by simpa using hlt)]
     exact h1
    show VR N L e w (V.jB p) _
    rw[this]
    exact h2
  .simp
   omega
 split at hcall<;>first|(cases hcall; done)|skip
 .rename_i s' hex
  refine wp_mono (hcode go.ntmps code an fn.body [] f5 (Wc w T) L e w _ _ s' _ w hex hst) fun xx a1 w1 hq=>?_
  obtain⟨rfl,hs1⟩:=hq
  obtain⟨v,r1,r2⟩:=qQ hs1 f6 hcall
  exact⟨hs1.choose_spec.choose_spec.1.defers,v,r1,r2⟩
 .rename_i s' hex
  refine wp_mono (hcode go.ntmps code an fn.body [] f5 (Wc w T) L e w _ _ s' _ w hex hst) fun xx a1 w1 hq=>?_
  obtain⟨rfl,hs1⟩:=hq
  obtain⟨v,r1,r2⟩:=qQ hs1 f6 hcall
  exact⟨hs1.choose_spec.choose_spec.1.defers,v,r1,r2⟩
theorem sound (hm:P.follows .mixedOrders=true) (hPL:cX Pr) (hPr:ep P N Pr) {A:Nat→Option ae} (hA:∀f fn,A f=some fn→∃an,xC P N M (N f) an fn):∀n,(∀j,j≤n→kL P N M A Pr j)∧D8 P N A Pr n:=by
 have zero:kL P N M A Pr 0:=fun nt code an ac an' _ W L0 e0 w0 s ex s' a w he _=>by simp[exec]at he
 intro n
 induction n with
 |zero=>
  have hall:∀j,j≤0→kL P N M A Pr j:=fun j hj=>by
   obtain rfl:j=0:=by omega
   exact zero
  exact⟨hall,yu zero hA⟩
 |succ n ih=>
  have hstep:=Cs hm n (yr A _ hPL) (Av hPr (ih.1 n (VI _)) hA) ih.1 ih.2
  refine⟨fun j hj=>?_,yu hstep hA⟩
  rcases VG j (n+1)with h1|h1
  .exact ih.1 j (by omega)
  .obtain rfl:j=n+1:=by omega
   exact hstep
end Go.Pv
namespace Go.Pv
variable {A:Nat→Option ae} {Pr:br}
def Oz (Φ Φ':Nat→List PV→Option (List PV)):Prop:=∀f ps rs,Φ f ps=some rs→Φ' f ps=some rs
def Ge (Pr Pr':br):Prop:=∀f,match Pr f with
 |some pr=>∃pr',Pr' f=some pr'∧∀vs h r,pr vs h=some r→pr' vs h=some r
 |none=>Pr' f=none
theorem Ge.refl (Pr:br):Ge Pr Pr:=fun f=>by
 cases h:Pr f with
 |none=>rfl
 |some pr=>exact⟨pr,rfl,fun _ _ _ hh=>hh⟩
theorem wH {Φ Φ':Nat→List PV→Option (List PV)} {Pr':br} (hle:Oz Φ Φ') (hp:Ge Pr Pr') {Tk:Nat→Bool} {g:bM→V} {h:af} {q:eb} {r:V×Tn} (he:evalOp Φ Pr Tk g h q=some r):evalOp Φ' Pr' Tk g h q=some r:=by
 cases q with
 |call f args=>
  simp only[evalOp]at he ⊢
  split at he<;>first|(cases he; done)|skip
  rename_i fn cap _
  have hf:=hp fn
  split at he
  .rename_i pr hpr
   rw[hpr]at hf
   obtain⟨pr',h1,h2⟩:=hf
   rw[h1]
   exact h2 _ _ _ he
  .rename_i hpr
   rw[hpr]at hf
   rw[hf]
   split at he<;>first|(cases he; done)|skip
   split at he<;>first|(cases he; done)|skip
   rename_i rs hrs
   rw[hle _ _ _ hrs]
   exact he
 |_=>exact he
theorem rM {Φ Φ':Nat→List PV→Option (List PV)} {Pr':br} (hle:Oz Φ Φ') (hp:Ge Pr Pr') {Tk:Nat→Bool} {o:aE} {s:St} {r:St×Tn} (he:bz Φ Pr Tk o s=some r):bz Φ' Pr' Tk o s=some r:=by
 unfold bz at he ⊢
 split at he
 .cases he
 .exact he
 .split at he<;>first|(cases he; done)|skip
  rename_i v t hev
  rw[wH hle hp hev]
  exact he
theorem Aw {Φ Φ':Nat→List PV→Option (List PV)} {Pr':br} (hle:Oz Φ Φ') (hp:Ge Pr Pr') {Tk:Nat→Bool}:∀{l:List aE} {s s':St},dV Φ Pr Tk l s=some s'→dV Φ' Pr' Tk l s=some s'
 |[],s,s',he=>he
 |o::r,s,s',he=>by
  simp only[dV]at he ⊢
  split at he<;>first|(cases he; done)|skip
  rename_i hst
  rw[rM hle hp hst]
  exact Aw hle hp he
theorem rN {Φ Φ':Nat→List PV→Option (List PV)} {Pr':br} (hle:Oz Φ Φ') (hp:Ge Pr Pr') {Tk:Nat→Bool}:∀{l:List (aE×List Nat)} {done:List Tn} {s s':St},cG Φ Pr Tk l done s=some s'→cG Φ' Pr' Tk l done s=some s'
 |[],_,s,s',he=>he
 |(o,un)::r,done,s,s',he=>by
  simp only[cG]at he ⊢
  split at he<;>first|(cases he; done)|skip
  rename_i hst
  rw[rM hle hp hst]
  simp only
  split at he<;>first|(cases he; done)|skip
  rename_i hh
  rw[if_pos hh]
  exact rN hle hp he
def Mo (E E':AC→St→Option (Ex×St)):Prop:=∀c s r,E c s=some r→E' c s=some r
theorem kN {E E':AC→St→Option (Ex×St)} (hle:Mo E E'):Ge (bI A E Pr) (bI A E' Pr):=by
 intro f
 unfold bI
 cases hf:A f with
 |none=>exact Ge.refl Pr f
 |some fn=>
  simp only
  by_cases hi:fn.inl=true
  .rw[if_pos hi,if_pos hi]
   refine⟨_,rfl,fun vs h r he=>?_⟩
   unfold fJ at he ⊢
   split at he<;>first|(cases he; done)|skip
   rename_i hn
   rw[if_pos hn]
   split at he<;>first|(cases he; done)|skip
   split at he<;>first|(cases he; done)|skip
   all_goals
    rename_i hex
    rw[hle _ _ _ hex]
    exact he
  .rw[if_neg hi,if_neg hi]
   exact Ge.refl Pr f
theorem fQ {E E':AC→St→Option (Ex×St)} (hle:Mo E E'):Oz (da A E) (da A E'):=by
 intro f ps rs he
 unfold da at he ⊢
 split at he<;>first|(cases he; done)|skip
 rename_i fn hfn
 unfold Bq at he ⊢
 split at he<;>first|(cases he; done)|skip
 rename_i hc
 rw[if_pos hc]
 split at he<;>first|(cases he; done)|skip
 all_goals
  rename_i hex
  rw[hle _ _ _ hex]
  exact he
theorem Ec {E E':AC→St→Option (Ex×St)} (hle:Mo E E'):Mo (bZ A Pr E) (bZ A Pr E'):=by
 intro c s r he
 cases c with
 |skip=>exact he
 |exit id=>exact he
 |ret=>exact he
 |mask kt kb a=>exact hle _ _ _ he
 |region ops kt kb=>
  simp only[bZ]at he ⊢
  split at he<;>first|(cases he; done)|skip
  rename_i hex
  rw[Aw (fQ hle) (kN hle) hex]
  exact he
 |draw ops kt kb=>
  simp only[bZ]at he ⊢
  split at he<;>first|(cases he; done)|skip
  rename_i hex
  rw[rN (fQ hle) (kN hle) hex]
  exact he
 |rr n ops kt kb=>
  simp only[bZ]at he ⊢
  split at he<;>first|(cases he; done)|skip
  rename_i hex
  rw[rN (fQ hle) (kN hle) hex]
  exact he
 |cond x a b=>
  simp only[bZ]at he ⊢
  split at he<;>first|(cases he; done)|exact hle _ _ _ he
 |seq a b=>
  simp only[bZ]at he ⊢
  cases ha:E a s with
  |none=>simp[ha]at he
  |some q=>
   obtain⟨ex,s1⟩:=q
   rw[hle _ _ _ ha]
   rw[ha]at he
   cases ex with
   |normal=>exact hle _ _ _ he
   |exit id=>exact he
   |ret=>exact he
 |block id a=>
  simp only[bZ]at he ⊢
  cases ha:E a s with
  |none=>simp[ha]at he
  |some q=>
   rw[hle _ _ _ ha]
   rw[ha]at he
   exact he
 |loop a=>
  simp only[bZ]at he ⊢
  cases ha:E a s with
  |none=>simp[ha]at he
  |some q=>
   obtain⟨ex,s1⟩:=q
   rw[hle _ _ _ ha]
   rw[ha]at he
   cases ex with
   |normal=>exact hle _ _ _ he
   |exit id=>exact he
   |ret=>exact he
theorem Cy (n:Nat):Mo (exec A Pr n) (exec A Pr (n+1)):=by
 induction n with
 |zero=>intro c s r he; simp[exec]at he
 |succ n ih=>exact Ec ih
theorem dm {m n:Nat} (hmn:m≤n):Mo (exec A Pr m) (exec A Pr n):=by
 induction hmn with
 |refl=>exact fun _ _ _ h=>h
 |step _ ih=>exact fun c s r h=>Cy _ c s r (ih c s r h)
def cp (A:Nat→Option ae) (Pr:br) (c:AC) (s:St) (ex:Ex) (s':St):Prop:=∃n,exec A Pr n c s=some (ex,s')
def gh (A:Nat→Option ae) (Pr:br) (f:Nat) (ps rs:List PV):Prop:=∃n,da A (exec A Pr n) f ps=some rs
def iB (A:Nat→Option ae) (Pr:br) (ops:List aE) (s s':St):Prop:=∃n,dV (da A (exec A Pr n)) (bI A (exec A Pr n) Pr) (dP A) ops s=some s'
def fR (A:Nat→Option ae) (Pr:br) (ops:List (aE×List Nat)) (done:List Tn) (s s':St):Prop:=∃n,cG (da A (exec A Pr n)) (bI A (exec A Pr n) Pr) (dP A) ops done s=some s'
theorem cp.skip (s:St):cp A Pr .skip s .normal s:=⟨1,rfl⟩
theorem cp.exit (id:Nat) (s:St):cp A Pr (.exit id) s (.exit id) s:=⟨1,rfl⟩
theorem cp.ret (s:St):cp A Pr .ret s .ret s:=⟨1,rfl⟩
theorem cp.mask {kt kb:List Nat} {a:AC} {s s':St} {ex:Ex} (h:cp A Pr a (s.mask kt kb) ex s'):cp A Pr (.mask kt kb a) s ex s':=by
 obtain⟨n,hn⟩:=h
 exact⟨n+1,hn⟩
theorem cp.seq {a b:AC} {s s1 s':St} {ex:Ex} (h1:cp A Pr a s .normal s1) (h2:cp A Pr b s1 ex s'):cp A Pr (.seq a b) s ex s':=by
 obtain⟨n,hn⟩:=h1
 obtain⟨m,hm⟩:=h2
 refine⟨max n m+1,?_⟩
 show bZ A Pr (exec A Pr (max n m)) (.seq a b) s=_
 simp only[bZ,dm (Nat.le_max_left n m) _ _ _ hn,dm (Nat.le_max_right n m) _ _ _ hm]
theorem cp.BC {a b:AC} {s s1:St} {ex:Ex} (h1:cp A Pr a s ex s1) (hx:ex≠.normal):cp A Pr (.seq a b) s ex s1:=by
 obtain⟨n,hn⟩:=h1
 refine⟨n+1,?_⟩
 show bZ A Pr (exec A Pr n) (.seq a b) s=_
 cases ex<;>simp_all [bZ]
theorem cp.cond {c:bM} {a b:AC} {s s':St} {ex:Ex} {t:Bool} (hc:bq s.env c=.pv (.bool t)) (h:cp A Pr (if t then a else b) s ex s'):cp A Pr (.cond c a b) s ex s':=by
 obtain⟨n,hn⟩:=h
 refine⟨n+1,?_⟩
 show bZ A Pr (exec A Pr n) (.cond c a b) s=_
 cases t<;>simpa [bZ,hc]using hn
theorem cp.block {id:Nat} {a:AC} {s s':St} {ex:Ex} (h:cp A Pr a s ex s'):cp A Pr (.block id a) s (match ex with|.exit j=>if j=id then .normal else .exit j|e=>e) s':=by
 obtain⟨n,hn⟩:=h
 refine⟨n+1,?_⟩
 show bZ A Pr (exec A Pr n) (.block id a) s=_
 cases ex with
 |exit j=>
  simp only[bZ,hn]
  by_cases hj:j=id<;>simp[hj]
 |_=>simp[bZ,hn]
theorem cp.vg {a:AC} {s s1 s':St} {ex:Ex} (h1:cp A Pr a s .normal s1) (h2:cp A Pr (.loop a) s1 ex s'):cp A Pr (.loop a) s ex s':=by
 obtain⟨n,hn⟩:=h1
 obtain⟨m,hm⟩:=h2
 refine⟨max n m+1,?_⟩
 show bZ A Pr (exec A Pr (max n m)) (.loop a) s=_
 simp only[bZ,dm (Nat.le_max_left n m) _ _ _ hn,dm (Nat.le_max_right n m) _ _ _ hm]
theorem cp.gL {a:AC} {s s':St} {ex:Ex} (h:cp A Pr a s ex s') (hx:ex≠.normal):cp A Pr (.loop a) s ex s':=by
 obtain⟨n,hn⟩:=h
 refine⟨n+1,?_⟩
 show bZ A Pr (exec A Pr n) (.loop a) s=_
 cases ex<;>simp_all [bZ]
theorem cp.region {ops:List aE} {kt kb:List Nat} {s s':St} (h:iB A Pr ops s s'):cp A Pr (.region ops kt kb) s .normal (s'.mask kt kb):=by
 obtain⟨n,hn⟩:=h
 exact⟨n+1,by show bZ A Pr (exec A Pr n) _ _=_; simp only[bZ,hn]⟩
theorem cp.draw {ops:List (aE×List Nat)} {kt kb:List Nat} {s s':St} (h:fR A Pr ops [] s s'):cp A Pr (.draw ops kt kb) s .normal (s'.mask kt kb):=by
 obtain⟨n,hn⟩:=h
 exact⟨n+1,by show bZ A Pr (exec A Pr n) _ _=_; simp only[bZ,hn]⟩
theorem gh.of {f:Nat} {fn:ae} {ps rs:List PV} {ex:Ex} {s':St} (hf:A f=some fn) (hl:ps.length=fn.pQ) (ha:pT fn.take ps=true) (hr:cp A Pr fn.body ⟨entry 0 ps,cK ps⟩ ex s') (hx:ex=.normal∨ex=.ret) (hv:leave fn s'=some rs):gh A Pr f ps rs:=by
 obtain⟨n,hn⟩:=hr
 refine⟨n,?_⟩
 simp only[da,hf,Bq,hl,ha,and_self,if_true,hn]
 rcases hx with rfl|rfl<;>exact hv
theorem gh.sound {P:Program} {N M:Nat→Nat} (hm:P.follows .mixedOrders=true) (hPL:cX Pr) (hPr:ep P N Pr) (hA:∀f fn,A f=some fn→∃an,xC P N M (N f) an fn) {f:Nat} {ps rs:List PV} (h:gh A Pr f ps rs):uW P N f ps rs:=by
 obtain⟨n,hn⟩:=h
 exact(Pv.sound hm hPL hPr hA n).2 f ps rs hn
theorem iB.nil (s:St):iB A Pr [] s s:=⟨0,rfl⟩
theorem iB.cons {o:aE} {r:List aE} {s s1 s':St} {t:Tn} {n:Nat} (h1:bz (da A (exec A Pr n)) (bI A (exec A Pr n) Pr) (dP A) o s=some (s1,t)) (h2:iB A Pr r s1 s'):iB A Pr (o::r) s s':=by
 obtain⟨m,hm⟩:=h2
 refine⟨max n m,?_⟩
 simp only[dV,rM (fQ (dm (Nat.le_max_left n m))) (kN (dm (Nat.le_max_left n m))) h1]
 exact Aw (fQ (dm (WS n m))) (kN (dm (WS n m))) hm
theorem fR.nil (done:List Tn) (s:St):fR A Pr [] done s s:=⟨0,rfl⟩
theorem fR.cons {o:aE} {un:List Nat} {r:List (aE×List Nat)} {done:List Tn} {s s1 s':St} {t:Tn} {n:Nat} (h1:bz (da A (exec A Pr n)) (bI A (exec A Pr n) Pr) (dP A) o s=some (s1,t)) (hh:ez un t done=true) (h2:fR A Pr r (done++[t]) s1 s'):fR A Pr ((o,un)::r) done s s':=by
 obtain⟨m,hm⟩:=h2
 refine⟨max n m,?_⟩
 simp only[cG,rM (fQ (dm (Nat.le_max_left n m))) (kN (dm (Nat.le_max_left n m))) h1,hh,if_true]
 exact rN (fQ (dm (WS n m))) (kN (dm (WS n m))) hm
end Go.Pv
namespace Go.Pv
variable {P:Program} {N:Nat→Nat} {w:World}
def Ed (N:Nat→Nat) (w:World):Prop:=∀g,N 1000000=100000+g→∃ty z,w.heap[g]?=some (.cells xE ty z)
theorem Ed.none {N:Nat→Nat} {w:World} (h:N 1000000<100000):Ed N w:=fun g hg=>by omega
def qd (w:World):Lx:=fun t b=>(t=0∨t=7777)∧b<w.heap.size
theorem Ed.qd {N:Nat→Nat} {w:World} (h:Ed N w):sh N (qd w) w:=fun g hg=>by
 obtain⟨ty,z,h1⟩:=h g hg
 exact⟨⟨.inr rfl,(VV.1 h1).1⟩,ty,z,h1⟩
def plainData (P:Program):Nat→TypeId→Bool
 |0,_=>false
 |n+1,t=>match P.underlying t with
  |some .bool=>true
  |some (.int _)=>true
  |some .string=>true
  |some (.slice e)=>plainData P n e&&decide (0<P.cellsOf e)
  |some (.struct fs)=>jP P 0 fs.toList&&(fs.toList.all fun f=>plainData P n f.type&&(cU P f.type).isSome)&&((fs.toList.map fun f=>P.cellsOf f.type).sum==P.cellsOf t)
  |some (.array m e)=>plainData P n e&&m*P.cellsOf e==P.cellsOf t
  |_=>false
def typed (P:Program):Nat→TypeId→List PV→Prop
 |0,_,_=>False
 |n+1,t,cs=>match P.underlying t with
  |some .bool=>∃b,cs=[.bool b]
  |some (.int k)=>∃x,cs=[.int k x]∧k.min≤x∧x≤k.max
  |some .string=>∃s,cs=[.str s]∧s.size≤maxLen
  |some (.slice e)=>∃rows,cs=[.aa 0 rows]∧rows.length≤maxLen∧∀r∈rows,typed P n e r
  |some (.struct fs)=>∃parts:List (List PV),parts.length=fs.size∧cs=parts.flatten∧∀(i:Nat) (f:Field) (r:List PV),fs[i]?=some f→parts[i]?=some r→typed P n f.type r
  |some (.array m e)=>∃parts:List (List PV),parts.length=m∧cs=parts.flatten∧∀r∈parts,typed P n e r
  |_=>False
def gN (N:Nat→Nat) (w:World) (ps:List PV) (cs:List Value):Prop:=ps.length=cs.length∧∀(j:Nat) (c:PV) (v:Value),ps[j]?=some c→cs[j]?=some v→dL N (qd w) w c v∧c.perm=true
theorem gN.nil:gN N w [] []:=⟨rfl,fun j c v hj=>by simp at hj⟩
theorem gN.one {c:PV} {v:Value} (h:dL N (qd w) w c v) (hp:c.perm=true):gN N w [c] [v]:=by
 refine⟨rfl,fun j c' v' hj hv=>?_⟩
 match j,hj with
 |0,hj=>simp at hj hv; subst hj; subst hv; exact⟨h,hp⟩
 |j+1,hj=>simp at hj
theorem gN.append {p q:List PV} {a b:List Value} (h:gN N w p a) (k:gN N w q b):gN N w (p++q) (a++b):=by
 refine⟨by simp[h.1,k.1],fun j c v hj hv=>?_⟩
 rcases VG j p.length with h1|h1
 .rw[VC h1]at hj
  rw[VC (by rw[← h.1]; exact h1)]at hv
  exact h.2 j c v hj hv
 .rw[VM h1]at hj
  rw[VM (by rw[← h.1]; exact h1)]at hv
  rw[← h.1]at hv
  exact k.2 _ c v hj hv
theorem Ax {t:TypeId} (_hs:(cU P t).isSome=true):(cU P t).getD 0=P.cellsOf t:=by
 unfold cU at _hs ⊢
 unfold Program.cellsOf
 rfl
theorem qe {base:Nat} {a:Addr} {n:Nat} {cs:List Value} (hc:w.cells? base a n=some cs):cs.length=n∧∀(j:Nat) (v:Value),cs[j]?=some v→w.cell? (a.add j)=some v:=by
 unfold World.cells? at hc
 split at hc<;>first|(cases hc; done)|skip
 have gen:∀(l:List Nat) (cs:List Value),l.mapM (fun i=>w.cell? (a.add i))=some cs→cs.length=l.length∧∀(j:Nat) (v:Value) (i:Nat),cs[j]?=some v→l[j]?=some i→w.cell? (a.add i)=some v:=by
  intro l
  induction l with
  |nil=>intro cs h; simp at h; subst h; exact⟨rfl,fun j v i hj=>by simp at hj⟩
  |cons x l ih=>
   intro cs h
   rw[List.mapM_cons]at h
   simp only[bind,Option.bind_eq_some_iff,pure,Option.some.injEq]at h
   obtain⟨y,h1,ys,h2,rfl⟩:=h
   obtain⟨k1,k2⟩:=ih ys h2
   refine⟨by simp[k1],fun j v i hj hi=>?_⟩
   match j,hj,hi with
   |0,hj,hi=>simp at hj hi; subst hj; subst hi; exact h1
   |j+1,hj,hi=>exact k2 j v i (by simpa using hj) (by simpa using hi)
 obtain⟨k1,k2⟩:=gen _ _ hc
 refine⟨by simpa using k1,fun j v hj=>k2 j v j hj ?_⟩
 have hlt:j<n:=by have:=(List.getElem?_eq_some_iff.1 hj).1; rw[k1]at this; simpa using this
 simp[hlt]
theorem add_add (a:Addr) (ha:a.spot=none) (n j:Nat):(a.add n).add j=⟨a.block,a.off+(n+j),none⟩:=by
 obtain⟨b,o,s⟩:=a
 simp only at ha
 subst ha
 rw[dR,dR,Wx]
theorem oQ {α β:Type} {f:α→Option β}:∀{l:List α} {r:List β},l.mapM f=some r→r.length=l.length∧∀(j:Nat) (x:α),l[j]?=some x→∃y,r[j]?=some y∧f x=some y
 |[],r,h=>by simp at h; subst h; exact⟨rfl,fun j x hj=>by simp at hj⟩
 |a::l,r,h=>by
  rw[List.mapM_cons]at h
  simp only[bind,Option.bind_eq_some_iff,pure,Option.some.injEq]at h
  obtain⟨y,h1,ys,h2,rfl⟩:=h
  obtain⟨k1,k2⟩:=oQ h2
  refine⟨by simp[k1],fun j x hj=>?_⟩
  match j,hj with
  |0,hj=>simp at hj; subst hj; exact⟨y,rfl,h1⟩
  |j+1,hj=>simpa using k2 j x (by simpa using hj)
theorem jH {α β:Type} (Q:Nat→α→β→Prop):∀(l:List α),(∀(j:Nat) (x:α),l[j]?=some x→∃y,Q j x y)→∃r:List β,r.length=l.length∧∀(j:Nat) (x:α) (y:β),l[j]?=some x→r[j]?=some y→Q j x y
 |[],_=>⟨[],rfl,fun j x y hj=>by simp at hj⟩
 |a::l,h=>by
  obtain⟨y,hy⟩:=h 0 a rfl
  obtain⟨r,h1,h2⟩:=jH (fun j=>Q (j+1)) l (fun j x hj=>h (j+1) x (by simpa using hj))
  refine⟨y::r,by simp[h1],fun j x z hj hz=>?_⟩
  match j,hj,hz with
  |0,hj,hz=>simp at hj hz; subst hj; subst hz; exact hy
  |j+1,hj,hz=>exact h2 j x z (by simpa using hj) (by simpa using hz)
theorem sT {cs:List Value}:∀(fs:List Field) (o:Nat) (parts:List (List PV)),jP P o fs=true→(∀f∈fs,(cU P f.type).isSome=true)→parts.length=fs.length→o+(fs.map fun f=>P.cellsOf f.type).sum=cs.length→
  (∀(i:Nat) (f:Field) (r:List PV),fs[i]?=some f→parts[i]?=some r→gN N w r ((cs.drop f.offset).take (P.cellsOf f.type)))→gN N w parts.flatten (cs.drop o)
 |[],o,parts,_,_,hl,hsum,_=>by
  have:parts=[]:=List.eq_nil_of_length_eq_zero (by simpa using hl)
  subst this
  simp only[List.map_nil,List.sum_nil,Nat.add_zero]at hsum
  rw[hsum,List.drop_length]
  exact gN.nil
 |f::fs,o,parts,ho,hs,hl,hsum,hr=>by
  match parts,hl with
  |p::parts,hl=>
   simp only[jP,Bool.and_eq_true,beq_iff_eq]at ho
   obtain⟨rfl,ho2⟩:=ho
   rw[Ax (hs f (by simp))]at ho2
   simp only[List.map_cons,List.sum_cons]at hsum
   have h1:=hr 0 f p rfl rfl
   have h2:=sT fs (f.offset+P.cellsOf f.type) parts ho2 (fun q hq=>hs q (by simp[hq])) (by simpa using hl) (by omega) (fun i f' r hf hp=>hr (i+1) f' r (by simpa using hf) (by simpa using hp))
   have h3:=h1.append h2
   rw[← List.drop_drop,Wo]at h3
   exact h3
theorem vh {cs:List Value} {k:Nat}:∀(m o:Nat) (parts:List (List PV)),parts.length=m→(o+m)*k=cs.length→(∀(i:Nat) (r:List PV),parts[i]?=some r→gN N w r ((cs.drop ((o+i)*k)).take k))→gN N w parts.flatten (cs.drop (o*k))
 |0,o,parts,hl,hsum,_=>by
  have:parts=[]:=VJ hl
  subst this
  rw[Xi]at hsum
  rw[hsum,List.drop_length]
  exact gN.nil
 |m+1,o,parts,hl,hsum,hr=>by
  match parts,hl with
  |p::parts,hl=>
   have h1:=hr 0 p rfl
   have h2:=vh (cs:=cs) (k:=k) m (o+1) parts (by simpa using hl) (by rw[← hsum]; congr 1; omega) (fun i r hi=>by
    have:=hr (i+1) r (by simpa using hi)
    rw[show o+1+i=o+(i+1) by omega]
    exact this)
   rw[Xi]at h1
   have h3:=h1.append h2
   rw[Nat.succ_mul,← List.drop_drop,Wo]at h3
   exact h3
theorem Ay {a:Addr} {v:Value} (hc:w.cell? a=some v):a.spot=none∧a.block<w.heap.size:=by
 unfold World.cell? at hc
 split at hc<;>first|(cases hc; done)|skip
 rename_i c x y hh
 split at hc<;>first|(cases hc; done)|skip
 rename_i hs
 exact⟨by simpa using hs,(Array.getElem?_eq_some_iff.1 hh).1⟩
theorem Iq {a:Addr} {len cap k base:Nat} (hk:0<k) (hlc:len≤cap) {Ty:List PV→Prop}
  (he:∀i,i<len→∃cs,w.cells? base (a.add (i*k)) k=some cs∧∃ps,Ty ps∧gN N w ps cs):
  ∃rows:List (List PV),rows.length=len∧(∀r∈rows,Ty r)∧dL N (qd w) w (.aa 0 rows) (.slice (some a) rows.length cap):=by
 obtain⟨rows,h1,h2⟩:=jH (fun i (_:Nat) (ps:List PV)=>∃cs,w.cells? base (a.add (i*k)) k=some cs∧Ty ps∧gN N w ps cs) (List.range len) (fun j x hj=>by
  have hjl:j<len:=by have:=(List.getElem?_eq_some_iff.1 hj).1; simpa using this
  obtain⟨cs,k1,ps,k2,k3⟩:=he j hjl
  exact⟨ps,cs,k1,k2,k3⟩)
 have hrl:rows.length=len:=by simpa using h1
 have hrow:∀(i:Nat) (r:List PV),rows[i]?=some r→∃cs,w.cells? base (a.add (i*k)) k=some cs∧Ty r∧gN N w r cs:=fun i r hi=>by
  have hlt:i<len:=by rw[← hrl]; exact(Vy.1 hi).1
  exact h2 i i r (by simp[hlt]) hi
 have hsp:0<rows.length→a.spot=none∧a.block<w.heap.size:=fun hpos=>by
  obtain⟨cs,k1,_,_⟩:=hrow 0 rows[0] (VA hpos)
  obtain⟨c1,c2⟩:=qe k1
  have:=c2 0 (cs[0]'(by omega)) (VA (by omega))
  rw[Nat.zero_mul]at this
  have h0:(a.add 0).add 0=a:=by simp[Addr.add]
  rw[h0]at this
  exact Ay this
 have hcell:∀(i j:Nat) (c:PV),fx rows i j=some c→∃v,w.cell? ⟨a.block,a.off+(i*k+j),none⟩=some v∧dL N (qd w) w c v∧c.perm=true:=by
  intro i j c hc
  unfold fx at hc
  cases hi:rows[i]? with
  |none=>simp[hi]at hc
  |some r=>
   simp[hi]at hc
   obtain⟨cs,k1,_,k3⟩:=hrow i r hi
   obtain⟨c1,c2⟩:=qe k1
   have hjl:j<cs.length:=by rw[← k3.1]; exact(Vy.1 hc).1
   have hv:=c2 j cs[j] (VA hjl)
   rw[add_add a (hsp (by have:=(Vy.1 hi).1; omega)).1]at hv
   obtain⟨q1,q2⟩:=k3.2 j c cs[j] hc (VA hjl)
   exact⟨_,hv,q1,q2⟩
 refine⟨rows,hrl,fun r hr=>?_,.aa 0 rows (some a) a cap k (fun i j=>(w.cell? ⟨a.block,a.off+(i*k+j),none⟩).getD undef) (fun r hr=>?_) (by omega) (fun hpos=>⟨rfl,(hsp hpos).1,.inl ⟨.inl rfl,(hsp hpos).2⟩⟩) (fun i j c hc=>?_) (fun i j c hc=>?_) (fun _ i j c hc=>?_) (fun i j c hc=>?_)⟩
 .obtain⟨i,hi⟩:=VD.1 hr
  exact(hrow i r hi).choose_spec.2.1
 .obtain⟨i,hi⟩:=VD.1 hr
  obtain⟨cs,k1,_,k3⟩:=hrow i r hi
  rw[k3.1]; exact(qe k1).1
 .obtain⟨v,q1,_⟩:=hcell i j c hc
  simp[q1]
 .obtain⟨v,q1,q2,_⟩:=hcell i j c hc
  simp only[q1,Option.getD_some]; exact q2
 .exact(hcell i j c hc).choose_spec.2.2
 .exact kG (hcell i j c hc).choose_spec.2.2
end Go.Pv
namespace Go.Pv
open Go.RowKit
variable {P:Program} {N:Nat→Nat} {w:World}
def j4 (P:Program) (t:TypeId) (cs:List PV):PV:=if dz P t=some true then .agg cs else cs.headD .oj
end Go.Pv
namespace Go.Pv
open Go.RowKit Go.ChangeShapes
variable {H:Type} {enc:TypeId×Value→H} {P:Program}
theorem sU (hl:laidOutB P=true) {W W':World} (hb:Below W.heap.size W W'):∀(ts:List TypeId) (vs:List Value) (ds:List (DataW H)) (ps:List MemPlace),(∀t∈ts,P.readableRec t=true∧t<P.types.size)→
  DataW.TrodAll enc P W 0 (fun _=>true) true ts vs ds ps→(∀x∈ps,x.block<W.heap.size)→DataW.TrodAll enc P W' 0 (fun b=>decide (b<W.heap.size)) true ts vs ds ps
 |[],_,_,_,_,h,_=>by
  obtain⟨rfl,rfl,rfl⟩:=trodAll_nil h
  exact h
 |t::ts,vs,ds,ps,hr,h,hp=>by
  obtain⟨v,vs',d,ds',p,q,rfl,rfl,rfl,h1,h2⟩:=trodAll_cons h
  obtain⟨r1,r2⟩:=hr t (by simp)
  exact⟨p,q,Below.trod hl r1 r2 h1 hb (fun x hx=>hp x (by simp[hx])),sU hl hb ts vs' ds' q (fun u hu=>hr u (by simp[hu])) h2 (fun x hx=>hp x (by simp[hx])),rfl⟩
theorem Cz {W:World} {b:Nat} {sp:Nat→Bool} {hd:Bool} {t:TypeId} (ht:P.underlying t=some .bool) (x:Bool):DataW.TrodAll enc P W b sp hd [t] [.bool x] [.lit (.bool x)] []:=
 trodAll_mk1 ⟨1,by simp[DataW.trod,Value.cells,ht]⟩
theorem Ee {f:Func} {s:ChangeSpec} {W W':World} {args:Array Value} {ds gs:List (DataW H)} {before:List MemPlace} (hl:laidOutB P=true)
  (hW:DataW.Whole enc P f.params.toList s.vars false W args.toList ds gs before) (hsv:s.vars=[]) {tb:TypeId} (hres:f.resultTypes=#[tb]) (htb:P.underlying tb=some .bool)
  (hsf:s.fn H (ds++gs)={ results:=[.lit (.bool true)],args:=ds }) (hr:∀t∈f.params.toList,P.readableRec t=true∧t<P.types.size) (hb:Below W.heap.size W W'):
  s.post enc P f false true false false W args (.bool true) W':=by
 have hlt:∀p∈before,p.block<W.heap.size:=fun p hp=>hW.lt p hp
 obtain⟨p,q,h1,h2,h3,h4,h5⟩:=hW
 have hq:q=[]∧gs=[]:=by
  rw[hsv]at h2
  obtain⟨rfl,rfl⟩:=trodVars_none h2
  exact⟨rfl,rfl⟩
 obtain⟨rfl,rfl⟩:=hq
 have hp:before=p:=by rw[h3,Wj]
 refine⟨ds,[],before,[],p,[],⟨p,[],h1,h2,h3,h4,h5⟩,?_,?_,?_,?_,?_⟩
 .rw[hsf,hres]
  exact Cz htb true
 .rw[hsf]
  exact sU hl hb _ _ _ _ hr h1 (fun x hx=>hlt x (by rw[hp]; exact hx))
 .rw[hsf]
  rw[hsv]at h2 ⊢
  exact h2
 .exact Below.frame hb _
 .intro hh
  cases hh
end Go.Pv
namespace Go.Pv
open Go.RowKit Go.ChangeShapes
variable {P:Program} {N:Nat→Nat} {w:World}
def mE (P:Program) (S:List TypeId) (t:TypeId):Bool:=
 match P.underlying t with
  |some .bool=>true
  |some (.int _)=>true
  |some .string=>true
  |some (.slice e)=>S.contains e&&decide (0<P.cellsOf e)
  |some (.struct fs)=>jP P 0 fs.toList&&(fs.toList.all fun f=>S.contains f.type&&(cU P f.type).isSome)&&((fs.toList.map fun f=>P.cellsOf f.type).sum==P.cellsOf t)
  |some (.array m e)=>S.contains e&&m*P.cellsOf e==P.cellsOf t
  |_=>false
def mF (P:Program) (S:List TypeId):Bool:=S.all (mE P S)
theorem yw {S:List TypeId} (h:mF P S=true) {t:TypeId} (ht:t∈S):mE P S t=true:=V9.1 h t ht
theorem oR {S:List TypeId} (hS:mF P S=true) {H:Type} {enc:TypeId×Value→H} {base:Nat} {spare:Nat→Bool} {held:Bool}:∀(fuel:Nat) (t:TypeId),t∈S→∀(cs:List Value) (r:DataW H×List MemPlace),DataW.trod enc P w base spare held fuel t cs=some r→
  ∃ps,typed P fuel t ps∧gN N w ps cs
 |0,t,_,cs,r,ht=>by simp[DataW.trod]at ht
 |fuel+1,t,hp,cs,r,ht=>by
   have hp:=yw hS hp
   unfold mE at hp
   cases hu:P.underlying t with
   |none=>simp[hu]at hp
   |some de=>
    simp only[hu]at hp
    cases de with
    |bool=>
     rcases cs with _|⟨v,_|⟨v2,l⟩⟩
     .simp[DataW.trod,hu]at ht
     .cases v<;>simp[DataW.trod,hu]at ht
      rename_i b
      exact⟨[.bool b],by simp only[typed,hu]; exact⟨b,rfl⟩,gN.one (.bool b) rfl⟩
     .simp[DataW.trod,hu]at ht
    |int k=>
     rcases cs with _|⟨v,_|⟨v2,l⟩⟩
     .simp[DataW.trod,hu]at ht
     .cases v<;>simp[DataW.trod,hu]at ht
      rename_i k' x
      obtain⟨⟨rfl,hwf⟩,_⟩:=ht
      simp[Lit.wf]at hwf
      exact⟨[.int k' x],by simp only[typed,hu]; exact⟨x,rfl,hwf.1,hwf.2⟩,gN.one (.int k' x) rfl⟩
     .simp[DataW.trod,hu]at ht
    |string=>
     rcases cs with _|⟨v,_|⟨v2,l⟩⟩
     .simp[DataW.trod,hu]at ht
     .cases v<;>simp[DataW.trod,hu]at ht
      rename_i x
      exact⟨[.str x],by simp only[typed,hu]; exact⟨x,rfl,ht.1⟩,gN.one (.str x) rfl⟩
     .simp[DataW.trod,hu]at ht
    |slice el=>
     simp only[Bool.and_eq_true,decide_eq_true_eq]at hp
     obtain⟨hpe,hk⟩:=hp
     rcases cs with _|⟨v,_|⟨v2,l⟩⟩
     .simp[DataW.trod,hu]at ht
     .cases v with
      |slice A len cap=>
       cases A with
       |none=>
        rcases len with _|len<;>rcases cap with _|cap<;>simp[DataW.trod,hu]at ht
        refine⟨[.aa 0 []],by simp only[typed,hu]; exact⟨[],rfl,by simp,by simp⟩,gN.one (.aa 0 [] none default 0 0 (fun _ _=>undef) (by simp) (by simp) (by simp) (by simp[fx]) (by simp[fx]) (by simp[fx]) (by simp[fx])) rfl⟩
       |some a=>
        simp only[DataW.trod,hu]at ht
        split at ht<;>first|(cases ht; done)|skip
        rename_i hc
        rw[Option.bind_eq_some_iff]at ht
        obtain⟨elems,hel,_⟩:=ht
        obtain⟨k1,k2⟩:=oQ hel
        obtain⟨rows,q1,q2,q3⟩:=Iq (N:=N) (w:=w) (a:=a) (len:=len) (cap:=cap) (base:=base) (Ty:=typed P fuel el) hk hc.2.1 (fun i hi=>by
         obtain⟨y,_,hy⟩:=k2 i i (by simp[hi])
         rw[Option.bind_eq_some_iff]at hy
         obtain⟨ci,hci,htr⟩:=hy
         exact⟨ci,hci,oR hS fuel el (W7.1 hpe) ci y htr⟩)
        refine⟨[.aa 0 rows],by simp only[typed,hu]; exact⟨rows,rfl,by omega,q2⟩,?_⟩
        rw[q1]at q3
        exact gN.one q3 rfl
      |_=>simp[DataW.trod,hu]at ht
     .simp[DataW.trod,hu]at ht
    |struct fs=>
     simp only[Bool.and_eq_true,List.all_eq_true,beq_iff_eq]at hp
     obtain⟨⟨ho,hf⟩,hsum⟩:=hp
     simp only[DataW.trod,hu]at ht
     split at ht<;>first|(cases ht; done)|skip
     rename_i hlen
     obtain⟨xs,hxs,_⟩:=Wf.1 ht
     obtain⟨k1,k2⟩:=oQ hxs
     obtain⟨parts,p1,p2⟩:=jH (fun(_:Nat) (f:Field) (ps:List PV)=>typed P fuel f.type ps∧gN N w ps ((cs.drop f.offset).take (P.cellsOf f.type))) fs.toList (fun j f hj=>by
      obtain⟨y,_,hy⟩:=k2 j f hj
      exact oR hS fuel f.type (W7.1 (hf f (Vz hj)).1) _ y hy)
     refine⟨parts.flatten,by simp only[typed,hu]; exact⟨parts,by simpa using p1,rfl,fun i f r hi hr=>(p2 i f r (by simpa using hi) hr).1⟩,?_⟩
     have:=sT (N:=N) (w:=w) (cs:=cs) fs.toList 0 parts ho (fun f hff=>(hf f hff).2) p1 (by rw[WY,hsum,hlen]) (fun i f r hi hr=>(p2 i f r hi hr).2)
     simpa using this
    |array m el=>
     simp only[Bool.and_eq_true,beq_iff_eq]at hp
     simp only[DataW.trod,hu]at ht
     split at ht<;>first|(cases ht; done)|skip
     rename_i hlen
     obtain⟨xs,hxs,_⟩:=Wf.1 ht
     obtain⟨k1,k2⟩:=oQ hxs
     obtain⟨parts,p1,p2⟩:=jH (fun(i:Nat) (_:Nat) (ps:List PV)=>typed P fuel el ps∧gN N w ps ((cs.drop (i*P.cellsOf el)).take (P.cellsOf el))) (List.range m) (fun j x hj=>by
      obtain⟨y,_,hy⟩:=k2 j x hj
      have hjx:x=j:=by
       have hlt:j<m:=by have:=(List.getElem?_eq_some_iff.1 hj).1; simpa using this
       simp[hlt]at hj; exact hj.symm
      subst hjx
      exact oR hS fuel el (W7.1 hp.1) _ y hy)
     have hpl:parts.length=m:=by simpa using p1
     refine⟨parts.flatten,by simp only[typed,hu]; exact⟨parts,hpl,rfl,fun r hr=>by
      obtain⟨i,hi⟩:=VD.1 hr
      have hlt:i<m:=by rw[← hpl]; exact(Vy.1 hi).1
      exact(p2 i i r (by simp[hlt]) hi).1⟩,?_⟩
     have:=vh (N:=N) (w:=w) (cs:=cs) (k:=P.cellsOf el) m 0 parts hpl (by rw[WY,hp.2,hlen]) (fun i r hi=>by
      have hlt:i<m:=by rw[← hpl]; exact(Vy.1 hi).1
      rw[WY]
      exact(p2 i i r (by simp[hlt]) hi).2)
     simpa using this
    |_=>simp at hp
theorem Gf {n:Nat} {S:List TypeId} {t:TypeId} (hp:mE P S t=true) {r:Reach} {base:Nat} {v:Value} (hv:Value.okWide P w r base t v) {ps:List PV} (ht:typed P n t ps) (hr:gN N w ps v.cells.toList):dL N (qd w) w (j4 P t ps) v:=by
  cases hu:P.underlying t with
  |none=>simp[mE,hu]at hp
  |some de=>
   have agg:dz P t=some true→(∃cs,v=.agg cs)→dL N (qd w) w (j4 P t ps) v:=by
    rintro hag ⟨cs,rfl⟩
    simp only[j4,hag,if_true]
    refine .agg ps cs (by have:=hr.1; simpa [Value.cells]using this.symm) (fun j c hj=>?_) (fun c hc=>?_)
    .have hlt:j<cs.size:=by
      have:=hr.1
      simp only[Value.cells,Array.length_toList]at this
      rw[← this]
      exact(Vy.1 hj).1
     exact(hr.2 j c _ hj (by simp only[Value.cells,Array.getElem?_toList]; exact bl hlt)).1
    .obtain⟨j,hj⟩:=VD.1 hc
     have hlt':j<cs.size:=by
      have:=hr.1
      simp only[Value.cells,Array.length_toList]at this
      rw[← this]
      exact(Vy.1 hj).1
     exact PV.xD (hr.2 j c _ hj (by simp only[Value.cells,Array.getElem?_toList]; exact bl hlt')).2
   have one:dz P t=some false→v.cells=#[v]→dL N (qd w) w (j4 P t ps) v:=by
    intro hag hc
    simp only[j4,hag]
    have hl:=hr.1
    rw[hc]at hl hr
    match ps,hl with
    |[c],_=>exact(hr.2 0 c v rfl rfl).1
   cases de with
   |bool=>
    refine one (by simp[dz,hu]) ?_
    simp only[Value.okWide,hu,Cell.okWide,Cell.ok]at hv
    cases v<;>first|rfl|(simp at hv)
   |int k=>
    refine one (by simp[dz,hu]) ?_
    simp only[Value.okWide,hu,Cell.okWide,Cell.ok]at hv
    cases v<;>first|rfl|(simp at hv)
   |string=>
    refine one (by simp[dz,hu]) ?_
    simp only[Value.okWide,hu,Cell.okWide,Cell.ok]at hv
    cases v<;>first|rfl|(simp at hv)
   |slice el=>
    refine one (by simp[dz,hu]) ?_
    simp only[Value.okWide,hu,Cell.okWide,Cell.ok]at hv
    cases v<;>first|rfl|(simp at hv)
   |struct fs=>
    refine agg (by simp[dz,hu]) ?_
    simp only[Value.okWide,hu]at hv
    obtain⟨cs,rfl,_⟩:=hv
    exact⟨cs,rfl⟩
   |array m el=>
    refine agg (by simp[dz,hu]) ?_
    simp only[Value.okWide,hu]at hv
    obtain⟨cs,rfl,_⟩:=hv
    exact⟨cs,rfl⟩
   |_=>simp[mE,hu]at hp
theorem yx {S:List TypeId} (hS:mF P S=true) {H:Type} {enc:TypeId×Value→H} {base b0:Nat} {spare:Nat→Bool} {held:Bool} {r:Reach}:∀(ts:List TypeId) (vs:List Value) (ds:List (DataW H)) (pl:List MemPlace),DataW.TrodAll enc P w base spare held ts vs ds pl→(∀t∈ts,t∈S)→
  (∀(j:Nat) (t:TypeId) (v:Value),ts[j]?=some t→vs[j]?=some v→Value.okWide P w r b0 t v)→
  ∃css:List (List PV),css.length=ts.length∧vs.length=ts.length∧(∀(j:Nat) (t:TypeId) (cs:List PV),ts[j]?=some t→css[j]?=some cs→∃n,typed P n t cs)∧
   ∀(j:Nat) (p:PV),(List.zipWith (j4 P) ts css)[j]?=some p→∃v,vs[j]?=some v∧dL N (qd w) w p v
 |[],[],[],pl,_,_,_=>⟨[],rfl,rfl,fun j t cs hj=>by simp at hj,fun j p hj=>by simp at hj⟩
 |t::ts,v::vs,d::ds,pl,h,hp,hv=>by
  obtain⟨p,q,⟨fuel,h1⟩,h2,_⟩:=h
  obtain⟨ps,k1,k2⟩:=oR (N:=N) hS fuel t (hp t (by simp)) _ _ h1
  have hone:=Gf (yw hS (hp t (by simp))) (hv 0 t v rfl rfl) k1 k2
  obtain⟨css,g1,g2,g3,g4⟩:=yx hS ts vs ds q h2 (fun u hu=>hp u (by simp[hu])) (fun j u x hj hx=>hv (j+1) u x (by simpa using hj) (by simpa using hx))
  refine⟨ps::css,by simp[g1],by simp[g2],fun j u cs hj hc=>?_,fun j p hj=>?_⟩
  .match j,hj,hc with
   |0,hj,hc=>simp at hj hc; subst hj; subst hc; exact⟨_,k1⟩
   |j+1,hj,hc=>exact g3 j u cs (by simpa using hj) (by simpa using hc)
  .match j,hj with
   |0,hj=>simp at hj; subst hj; exact⟨v,rfl,hone⟩
   |j+1,hj=>simpa using g4 j p (by simpa using hj)
theorem uE {S : List TypeId} (hS : mF P S = true) {H : Type} {enc : TypeId × Value → H} {base b0 : Nat} {spare : Nat → Bool} {held : Bool} {r : Reach} {f : Nat} {ts : List TypeId} (hF : ∀ css : List (List PV),css.length = ts.length → (∀ (j : Nat) (t : TypeId) (cs : List PV),ts[j]? = some t → css[j]? = some cs → ∃ n,typed P n t cs) →
   uW P N f (List.zipWith (j4 P) ts css) [.bool true]) (htab : Ed N w) {go : Func} {code : Code} (h1 : P.funcs[N f]? = some go) (h2 : go.body = some code) (h3 : (go.name == "runtime.NumGoroutine") = false)
  {args : Array Value} {ds : List (DataW H)} {pl : List MemPlace} (hA : DataW.TrodAll enc P w base spare held ts args.toList ds pl) (hp : ∀ t ∈ ts,t ∈ S)
  (hv : ∀ (j : Nat) (t : TypeId) (v : Value),ts[j]? = some t → args.toList[j]? = some v → Value.okWide P w r b0 t v) :
  Calls P (N f) args w fun e w' => e = .returned (.bool true) ∧ Below w.heap.size w w' := by
 obtain ⟨css,g1,g2,g3,g4⟩ := yx (N := N) hS ts args.toList ds pl hA hp hv
 have hlen : args.toList.length = (List.zipWith (j4 P) ts css).length := by rw [g2,List.length_zipWith,g1]; simp
 have hcg := hF css g1 g3 (qd w) w none args (fun t b hb => hb.2) htab.qd (.plain _ _ hlen g4)
 have hpost : ∀ v w',DU N (qd w) w none [.bool true] v w' → v = .bool true ∧ Below w.heap.size w w' := by
  rintro v w' ⟨L1,bs,vals,f1,f2,f3,f4,f5,f6,f7,rfl⟩
  refine ⟨?_,f1.os,f1.tape,f1.output,f1.size,fun k hk => f1.kept k hk (fun hc => by
   rcases hc with hc | hc
   .omega
   .cases hc)⟩
  cases f5 with
  | cons p u b1 ps vs b2 q1 q2 =>
   cases q2
   cases q1 with
   | cell _ _ _ q =>
    cases q with
    | bO _ _ _ q => cases q; rfl
 rcases hcg with ⟨v,w',k1,k2⟩ | ⟨k1,k2⟩
 .exfalso
  have : (callFunc (N f) args).run P w = .ok (.enter (N f) args) w := by simp only [beq_eq_false_iff_ne,ne_eq] at h3; simp [callFunc,h1,h2,h3]
  rw [this] at k1
  cases k1
 .refine k2.mono fun e w' hh => ?_
  cases e with
  | returned v =>
   obtain ⟨rfl,hb⟩ := hpost v w' hh
   exact ⟨rfl,hb⟩
  | panicked => exact hh.elim
  | outgrown => exact hh.elim
theorem sV {H:Type} {S:List TypeId} {C:Checked} {os:Os} {N:Nat→Nat} {f:Nat} {fn:Func} {s:ChangeSpec} {code:Code} {tb:TypeId} (enc:TypeId×Value→H)
  (hF:∀css:List (List PV),css.length=fn.params.toList.length→(∀(j:Nat) (t:TypeId) (cs:List PV),fn.params.toList[j]?=some t→css[j]?=some cs→∃n,typed C.prog n t cs)→uW C.prog N f (List.zipWith (j4 C.prog) fn.params.toList css) [.bool true])
  (hN:N 1000000<100000:=by decide) (own:ownKnob C.prog.godebug=none) (hl:laidOutB C.prog=true) (started:os.Started) (noInit:C.prog.inits.idxOf? (N f)=none) (hfn:C.prog.funcs[N f]?=some fn) (hcode:fn.body=some code) (hname:(fn.name== "runtime.NumGoroutine")=false)
  (wit:∃(w:World) (tape:Tape) (i:Input),w.os=os∧(w.forCall tape i).Shaped C.prog∧i.vars=[]∧Input.okWide C.prog (w.forCall tape i) .any w.heap.size (N f) i∧
   s.pre6 enc C.prog fn [] false (w.forCall tape i).memory i.args∧({}:Assume).holds C.prog (lone (Frame.enter C.prog (N f) i.args .normal) [] (w.forCall tape i)))
  (hres:fn.resultTypes=#[tb]) (htb:C.prog.underlying tb=some .bool) (hsv:s.vars=[]) (hsf:∀ds:List (DataW H),ds.length=fn.params.toList.length→s.fn H ds={ results:=[.lit (.bool true)],args:=ds })
  (hr:∀t∈fn.params.toList,C.prog.readableRec t=true∧t<C.prog.types.size) (hS:mF C.prog S=true) (hp:∀t∈fn.params.toList,t∈S):
  ReturnsInHanded {} C os (N f) .any (s.pre6 enc C.prog fn [] false) (s.post enc C.prog fn false true false false):=by
 refine returnsInHanded_of_change own started noInit hfn wit ?_
 intro W base args ds gs before hval hW _ _
 have hW':=hW
 obtain⟨p,q,h1,h2,h3,h4,h5⟩:=hW
 have hlen:ds.length=fn.params.toList.length:=by
  have key:∀(ts:List TypeId) (vs:List Value) (ds:List (DataW H)) (ps:List MemPlace),DataW.TrodAll enc C.prog W 0 (fun _=>true) true ts vs ds ps→ds.length=ts.length:=by
   intro ts
   induction ts with
   |nil=>intro vs ds ps h; obtain⟨rfl,rfl,rfl⟩:=trodAll_nil h; rfl
   |cons t ts ih=>
    intro vs ds ps h
    obtain⟨v,vs',d,ds',p,q,rfl,rfl,rfl,_,g2⟩:=trodAll_cons h
    simp[ih _ _ _ g2]
  exact key _ _ _ _ h1
 have hgs:gs=[]:=by
  rw[hsv]at h2
  obtain⟨g1,g2⟩:=trodVars_none h2
  first|exact g2|exact g1
 refine(uE hS hF (.none hN) hfn hcode hname h1 hp (fun j t v hj hv=>hval j t v (by simpa using hj) (by simpa using hv))).mono fun e W' ⟨he,hb⟩=>?_
 subst he
 exact⟨_,rfl,Ee hl hW' hsv hres htb (by rw[hgs,Wj]; exact hsf ds hlen) hr hb⟩
end Go.Pv
namespace Go.Pv
variable {A:Nat→Option ae} {Pr:br}
inductive oT {α:Sort _} (a:α):Type
 |mk
def cd {α:Type} (o:Option α) (K:α→Prop) (_t:oT K:=.mk):Prop:=∃v,o=some v∧K v
@[congr] theorem Ir {α:Type} {o o':Option α} {K:α→Prop} (h:o=o'):cd o K=cd o' K:=by rw[h]
@[go_sem] theorem Mp {α:Type} (v:α) (K:α→Prop):cd (some v) K=K v:=by simp[cd]
def Br (c:Bool) (X Y:Prop) (_t:oT (X∧Y):=.mk):Prop:=if c=true then X else Y
@[congr] theorem OA {c c':Bool} {X Y:Prop} (h:c=c'):Br c X Y=Br c' X Y:=by rw[h]
@[go_sem] theorem rO (X Y:Prop):Br true X Y=X:=rfl
@[go_sem] theorem oU (X Y:Prop):Br false X Y=Y:=by simp[Br]
theorem Br.of {c:Bool} {X Y:Prop} (h1:c=true→X) (h2:c=false→Y):Br c X Y:=by
 cases c
 .simpa [Br]using h2 rfl
 .simpa [Br]using h1 rfl
theorem Br.aD {p:Prop} {i:Decidable p} {X Y:Prop} (h1:p→X) (h2:¬p→Y):Br (@decide p i) X Y:=by
 by_cases h:p<;>simp[Br,h,h1,h2]
def BD (v:V) (K:Bool→Prop) (_t:oT K:=.mk):Prop:=∃b,v=.pv (.bool b)∧K b
@[go_sem] theorem OB (b:Bool) (K:Bool→Prop):BD (.pv (.bool b)) K=K b:=by simp[BD]
open Classical in
noncomputable def res (A:Nat→Option ae) (Pr:br) (f:Nat) (ps:List PV):Option (List PV):=if h:∃rs,gh A Pr f ps rs then some h.choose else none
theorem gh.uniq {f:Nat} {ps rs rs':List PV} (h:gh A Pr f ps rs) (h':gh A Pr f ps rs'):rs=rs':=by
 obtain⟨n,hn⟩:=h
 obtain⟨m,hm⟩:=h'
 have h1:=fQ (dm (A:=A) (Pr:=Pr) (Nat.le_max_left n m)) _ _ _ hn
 have h2:=fQ (dm (A:=A) (Pr:=Pr) (WS n m)) _ _ _ hm
 rw[h1]at h2
 exact Option.some.inj h2
theorem j5 {f:Nat} {ps rs:List PV}:res A Pr f ps=some rs↔gh A Pr f ps rs:=by
 unfold res
 constructor
 .intro h
  split at h
  .rename_i hh
   cases h
   exact hh.choose_spec
  .cases h
 .intro h
  have hh:∃rs,gh A Pr f ps rs:=⟨rs,h⟩
  rw[dif_pos hh]
  rw[gh.uniq hh.choose_spec h]
def W (A:Nat→Option ae) (Pr:br) (c:AC) (s:St) (Q:Ex→St→Prop) (_t:oT (c,Q):=.mk):Prop:=∃ex s',cp A Pr c s ex s'∧Q ex s'
def WO (A:Nat→Option ae) (Pr:br) (l:List aE) (s:St) (K:St→Prop) (_t:oT (l,K):=.mk):Prop:=∃s',iB A Pr l s s'∧K s'
def WD (A:Nat→Option ae) (Pr:br) (l:List (aE×List Nat)) (done:List Tn) (s:St) (K:St→Prop) (_t:oT (l,K):=.mk):Prop:=∃s',fR A Pr l done s s'∧K s'
def CA (A:Nat→Option ae) (Pr:br) (b:AC) (Q:Ex→St→Prop) (_t:oT (b,Q):=.mk):Ex→St→Prop
 |.normal,s=>W A Pr b s Q
 |.exit i,s=>Q (.exit i) s
 |.ret,s=>Q .ret s
def l7 (id:Nat) (Q:Ex→St→Prop) (_t:oT Q:=.mk):Ex→St→Prop
 |.normal,s=>Q .normal s
 |.exit i,s=>if i=id then Q .normal s else Q (.exit i) s
 |.ret,s=>Q .ret s
@[go_sem] theorem Hq (b:AC) (Q:Ex→St→Prop) (s:St):CA A Pr b Q .mk .normal s=W A Pr b s Q:=rfl
@[go_sem] theorem Mq (b:AC) (Q:Ex→St→Prop) (i:Nat) (s:St):CA A Pr b Q .mk (.exit i) s=Q (.exit i) s:=rfl
@[go_sem] theorem OC (b:AC) (Q:Ex→St→Prop) (s:St):CA A Pr b Q .mk .ret s=Q .ret s:=rfl
@[go_sem] theorem FN (i:Nat) (Q:Ex→St→Prop) (s:St):l7 i Q .mk .normal s=Q .normal s:=rfl
@[go_sem] theorem Hr (i j:Nat) (Q:Ex→St→Prop) (s:St):l7 i Q .mk (.exit j) s=if j=i then Q .normal s else Q (.exit j) s:=rfl
@[go_sem] theorem Is (i:Nat) (Q:Ex→St→Prop) (s:St):l7 i Q .mk .ret s=Q .ret s:=rfl
theorem cp.uniq {c:AC} {s s1 s2:St} {e1 e2:Ex} (h1:cp A Pr c s e1 s1) (h2:cp A Pr c s e2 s2):e1=e2∧s1=s2:=by
 obtain⟨n,hn⟩:=h1
 obtain⟨m,hm⟩:=h2
 have h1:=dm (A:=A) (Pr:=Pr) (Nat.le_max_left n m) _ _ _ hn
 have h2:=dm (A:=A) (Pr:=Pr) (WS n m) _ _ _ hm
 rw[h1]at h2
 cases h2
 exact⟨rfl,rfl⟩
theorem W.uniq {c:AC} {s s':St} {ex:Ex} {Q:Ex→St→Prop} (h:cp A Pr c s ex s'):W A Pr c s Q=Q ex s':=by
 apply propext
 constructor
 .rintro ⟨e2,s2,h1,h2⟩
  obtain⟨rfl,rfl⟩:=cp.uniq h h1
  exact h2
 .exact fun hq=>⟨_,_,h,hq⟩
@[go_sem] theorem SK (s:St) (Q:Ex→St→Prop):W A Pr .skip s Q=Q .normal s:=W.uniq (cp.skip s)
@[go_sem] theorem SL (i:Nat) (s:St) (Q:Ex→St→Prop):W A Pr (.exit i) s Q=Q (.exit i) s:=W.uniq (cp.exit i s)
@[go_sem] theorem UF (s:St) (Q:Ex→St→Prop):W A Pr .ret s Q=Q .ret s:=W.uniq (cp.ret s)
theorem mG {c:AC} {s s':St} {ex:Ex} (h:cp A Pr c s ex s'):∃n,bZ A Pr (exec A Pr n) c s=some (ex,s'):=by
 obtain⟨n,hn⟩:=h
 cases n with
 |zero=>simp[exec]at hn
 |succ n=>exact⟨n,hn⟩
@[go_sem] theorem UG (a b:AC) (s:St) (Q:Ex→St→Prop):W A Pr (.seq a b) s Q=W A Pr a s (CA A Pr b Q):=by
 apply propext
 constructor
 .rintro ⟨ex,s',h,hq⟩
  obtain⟨n,hn⟩:=mG h
  simp only[bZ]at hn
  cases ha:exec A Pr n a s with
  |none=>simp[ha]at hn
  |some r=>
   obtain⟨e1,s1⟩:=r
   rw[ha]at hn
   refine⟨e1,s1,⟨n,ha⟩,?_⟩
   cases e1 with
   |normal=>exact⟨ex,s',⟨n,hn⟩,hq⟩
   |exit i=>cases hn; exact hq
   |ret=>cases hn; exact hq
 .rintro ⟨ex,s',h,hq⟩
  cases ex with
  |normal=>
   obtain⟨e2,s2,h2,hq2⟩:=hq
   exact⟨e2,s2,cp.seq h h2,hq2⟩
  |exit i=>exact⟨_,_,cp.BC h (by simp),hq⟩
  |ret=>exact⟨_,_,cp.BC h (by simp),hq⟩
@[go_sem] theorem RF (id:Nat) (a:AC) (s:St) (Q:Ex→St→Prop):W A Pr (.block id a) s Q=W A Pr a s (l7 id Q):=by
 apply propext
 constructor
 .rintro ⟨ex,s',h,hq⟩
  obtain⟨n,hn⟩:=mG h
  simp only[bZ]at hn
  cases ha:exec A Pr n a s with
  |none=>simp[ha]at hn
  |some r=>
   obtain⟨e1,s1⟩:=r
   rw[ha]at hn
   refine⟨e1,s1,⟨n,ha⟩,?_⟩
   cases e1 with
   |normal=>cases hn; exact hq
   |exit i=>
    simp only[l7]
    split
    .rename_i hi
     simp only[hi,if_true]at hn
     cases hn
     exact hq
    .rename_i hi
     simp only[hi,if_false]at hn
     cases hn
     exact hq
   |ret=>cases hn; exact hq
 .rintro ⟨ex,s',h,hq⟩
  have hb:=cp.block (id:=id) h
  cases ex with
  |normal=>exact⟨_,_,hb,hq⟩
  |exit i=>
   simp only[l7]at hq
   refine⟨_,_,hb,?_⟩
   show Q (if i=id then Ex.normal else Ex.exit i) s'
   by_cases hi:i=id
   .rw[if_pos hi]at hq ⊢; exact hq
   .rw[if_neg hi]at hq ⊢; exact hq
  |ret=>exact⟨_,_,hb,hq⟩
@[go_sem] theorem SM (kt kb:List Nat) (a:AC) (s:St) (Q:Ex→St→Prop):W A Pr (.mask kt kb a) s Q=W A Pr a (s.mask kt kb) Q:=by
 apply propext
 constructor
 .rintro ⟨ex,s',h,hq⟩
  obtain⟨n,hn⟩:=mG h
  exact⟨ex,s',⟨n,hn⟩,hq⟩
 .rintro ⟨ex,s',h,hq⟩
  exact⟨ex,s',cp.mask h,hq⟩
@[go_sem] theorem SN (c:bM) (a b:AC) (s:St) (Q:Ex→St→Prop):W A Pr (.cond c a b) s Q=BD (bq s.env c) fun t=>Br t (W A Pr a s Q) (W A Pr b s Q):=by
 apply propext
 constructor
 .rintro ⟨ex,s',h,hq⟩
  obtain⟨n,hn⟩:=mG h
  simp only[bZ]at hn
  split at hn
  .rename_i he
   exact⟨true,he,ex,s',⟨n,hn⟩,hq⟩
  .rename_i he
   exact⟨false,he,by simpa [Br]using ⟨ex,s',⟨n,hn⟩,hq⟩⟩
  .cases hn
 .rintro ⟨t,ht,hb⟩
  cases t with
  |true=>
   obtain⟨ex,s',h,hq⟩:W A Pr a s Q:=hb
   exact⟨ex,s',cp.cond ht h,hq⟩
  |false=>
   have hb':W A Pr b s Q:=by simpa [Br]using hb
   obtain⟨ex,s',h,hq⟩:=hb'
   exact⟨ex,s',cp.cond ht h,hq⟩
@[go_sem] theorem OD (ops:List aE) (kt kb:List Nat) (s:St) (Q:Ex→St→Prop):W A Pr (.region ops kt kb) s Q=WO A Pr ops s fun s'=>Q .normal (s'.mask kt kb):=by
 apply propext
 constructor
 .rintro ⟨ex,s',h,hq⟩
  obtain⟨n,hn⟩:=mG h
  simp only[bZ]at hn
  split at hn
  .rename_i s1 he
   cases hn
   exact⟨s1,⟨n,he⟩,hq⟩
  .cases hn
 .rintro ⟨s',h,hq⟩
  exact⟨_,_,cp.region h,hq⟩
@[go_sem] theorem SO (ops:List (aE×List Nat)) (kt kb:List Nat) (s:St) (Q:Ex→St→Prop):W A Pr (.draw ops kt kb) s Q=WD A Pr ops [] s fun s'=>Q .normal (s'.mask kt kb):=by
 apply propext
 constructor
 .rintro ⟨ex,s',h,hq⟩
  obtain⟨n,hn⟩:=mG h
  simp only[bZ]at hn
  split at hn
  .rename_i s1 he
   cases hn
   exact⟨s1,⟨n,he⟩,hq⟩
  .cases hn
 .rintro ⟨s',h,hq⟩
  exact⟨_,_,cp.draw h,hq⟩
def WE (A:Nat→Option ae) (Pr:br) (env:List (Nat×V)) (h:af) (q:eb) (K:V→Tn→Prop) (_t:oT (q,K):=.mk):Prop:=∃n v t,evalOp (da A (exec A Pr n)) (bI A (exec A Pr n) Pr) (dP A) (bq env) h q=some (v,t)∧K v t
theorem WE.uniq {env:List (Nat×V)} {h:af} {q:eb} {K:V→Tn→Prop} {n:Nat} {v:V} {t:Tn} (he:evalOp (da A (exec A Pr n)) (bI A (exec A Pr n) Pr) (dP A) (bq env) h q=some (v,t)):WE A Pr env h q K=K v t:=by
 apply propext
 constructor
 .rintro ⟨m,v',t',h1,hk⟩
  have e1:=wH (fQ (dm (A:=A) (Pr:=Pr) (Nat.le_max_left n m))) (kN (dm (A:=A) (Pr:=Pr) (Nat.le_max_left n m))) he
  have e2:=wH (fQ (dm (A:=A) (Pr:=Pr) (WS n m))) (kN (dm (A:=A) (Pr:=Pr) (WS n m))) h1
  rw[e1]at e2
  cases e2
  exact hk
 .exact fun hk=>⟨n,v,t,he,hk⟩
def wI:eb→Bool
 |.call _ _=>false
 |_=>true
def ev (env:List (Nat×V)) (h:af) (q:eb):Option (V×Tn):=evalOp (fun _ _=>none) (fun _=>none) (fun _=>false) (bq env) h q
theorem yy {Φ:Nat→List PV→Option (List PV)} {Tk:Nat→Bool} {env:List (Nat×V)} {h:af} {q:eb} (hq:wI q=true):evalOp Φ Pr Tk (bq env) h q=ev env h q:=by
 cases q<;>first|rfl|(simp[wI]at hq)
theorem bR {env:List (Nat×V)} {h:af} {q:eb} {K:V→Tn→Prop} (hq:wI q=true):WE A Pr env h q K=cd (ev env h q) fun r=>K r.1 r.2:=by
 apply propext
 constructor
 .rintro ⟨n,v,t,h1,hk⟩
  rw[yy hq]at h1
  exact⟨_,h1,hk⟩
 .rintro ⟨⟨v,t⟩,h1,hk⟩
  exact⟨0,v,t,by rw[yy hq]; exact h1,hk⟩
def ry (A:Nat→Option ae) (fn:Nat):Bool:=
 match A fn with
 |some g=>g.inl
 |none=>false
def CB (rv:List oo) (ss:List Nat) (K:V→Tn→Prop) (_t:oT (rv,K):=.mk):Ex→St→Prop
 |.exit _,_=>False
 |_,s=>cd (aA (c9 s) rv) fun rs=>cd (aA (lF (gb ss)) rs) fun ws=>cd (lG (gb ss) s.h.bx outer ss) fun bs=>K (eP ws) { all:=some (bs,s.h.ar,s.h.mp) }
@[go_sem] theorem Hs (rv:List oo) (ss:List Nat) (K:V→Tn→Prop) (s:St):CB rv ss K .mk .normal s=cd (aA (c9 s) rv) fun rs=>cd (aA (lF (gb ss)) rs) fun ws=>cd (lG (gb ss) s.h.bx outer ss) fun bs=>K (eP ws) { all:=some (bs,s.h.ar,s.h.mp) }:=rfl
@[go_sem] theorem OE (rv:List oo) (ss:List Nat) (K:V→Tn→Prop) (s:St):CB rv ss K .mk .ret s=cd (aA (c9 s) rv) fun rs=>cd (aA (lF (gb ss)) rs) fun ws=>cd (lG (gb ss) s.h.bx outer ss) fun bs=>K (eP ws) { all:=some (bs,s.h.ar,s.h.mp) }:=rfl
def rP (vs:List V) (bx:List (Nat×List V)):List Nat:=dK bx 2 (ch [] (vs.flatMap slotsOf))
def IW (A:Nat→Option ae) (Pr:br) (fn:Nat) (vs:List V) (h:af) (K:V→Tn→Prop) (_t:oT K:=.mk):Prop:=
 ∃g n v t,A fn=some g∧fJ (exec A Pr n) g vs h=some (v,t)∧K v t
def CW (A:Nat→Option ae) (Pr:br) (fn:Nat) (vs:List V) (h:af) (K:V→Tn→Prop) (_t:oT K:=.mk):Prop:=
 if ry A fn=true then IW A Pr fn vs h K else
 match Pr fn with
 |some pr=>cd (pr vs h) fun r=>K r.1 r.2
 |none=>cd (cA h (dP A fn) vs) fun q=>cd (res A Pr fn q.1) fun rs=>K (eP (bF h.ar.length rs).1) { ar:=q.2,push:=(bF h.ar.length rs).2,eX:=!(vs.all V.jO),base:=if (bF h.ar.length rs).2.isEmpty then 0 else h.ar.length }
theorem Gg {fn:Nat} (hi:ry A fn=false) (hp:Pr fn=none) {t:Bool} (ht:dP A fn=t) (vs:List V) (h:af) (K:V→Tn→Prop):CW A Pr fn vs h K=cd (cA h t vs) fun q=>cd (res A Pr fn q.1) fun rs=>K (eP (bF h.ar.length rs).1) { ar:=q.2,push:=(bF h.ar.length rs).2,eX:=!(vs.all V.jO),base:=if (bF h.ar.length rs).2.isEmpty then 0 else h.ar.length }:=by
 unfold CW
 rw[hi,hp,ht]
 rfl
theorem kO {fn:Nat} {pr:List V→af→Option (V×Tn)} (hi:ry A fn=false) (hp:Pr fn=some pr) (vs:List V) (h:af) (K:V→Tn→Prop):CW A Pr fn vs h K=cd (pr vs h) fun r=>K r.1 r.2:=by
 unfold CW
 rw[hi,hp]
 rfl
theorem It {fn:Nat} (hi:ry A fn=true) (vs:List V) (h:af) (K:V→Tn→Prop):CW A Pr fn vs h K=IW A Pr fn vs h K:=if_pos hi
theorem Ht {fn:Nat} {g:ae} (hg:A fn=some g) (vs:List V) (h:af) (K:V→Tn→Prop):IW A Pr fn vs h K=(vs.length=g.pQ∧cd (aA (lF (pU (rP vs h.bx))) vs) fun us=>cd (r8 (pU (rP vs h.bx)) h.bx outer (rP vs h.bx)) fun bx=>
  W A Pr g.body ⟨lH 0 us,⟨bx,h.ar,h.mp⟩⟩ (CB g.results (rP vs h.bx) K)):=by
 apply propext
 constructor
 .rintro ⟨g',n,v,t,h1,h2,hk⟩
  rw[hg]at h1
  cases h1
  obtain⟨ss,us,bx,ex,s',hss,_,h3,h4,h5,h6,h7,h8⟩:=lZ h2
  subst hss
  obtain⟨rs,ws,bs,g1,g2,g3,rfl,rfl⟩:=lY h8
  refine⟨h3,us,h4,bx,h5,ex,s',⟨n,h6⟩,?_⟩
  rcases h7 with rfl|rfl
  .exact⟨rs,g1,ws,g2,bs,g3,hk⟩
  .exact⟨rs,g1,ws,g2,bs,g3,hk⟩
 .rintro ⟨h3,us,h4,bx,h5,ex,s',⟨n,h6⟩,hq⟩
  have h4:aA (lF (pU (dK h.bx 2 (ch [] (vs.flatMap slotsOf))))) vs=some us:=h4
  have h5:r8 (pU (dK h.bx 2 (ch [] (vs.flatMap slotsOf)))) h.bx outer (dK h.bx 2 (ch [] (vs.flatMap slotsOf)))=some bx:=h5
  cases ex with
  |exit i=>exact hq.elim
  |normal=>
   obtain⟨rs,g1,ws,g2,bs,g3,hk⟩:=hq
   have g2:aA (lF (gb (dK h.bx 2 (ch [] (vs.flatMap slotsOf))))) rs=some ws:=g2
   have g3:lG (gb (dK h.bx 2 (ch [] (vs.flatMap slotsOf)))) s'.h.bx outer (dK h.bx 2 (ch [] (vs.flatMap slotsOf)))=some bs:=g3
   refine⟨g,n,_,_,hg,?_,hk⟩
   simp only[fJ,h3,if_true,h4,h5,h6,nI,g1,g2,g3]
  |ret=>
   obtain⟨rs,g1,ws,g2,bs,g3,hk⟩:=hq
   have g2:aA (lF (gb (dK h.bx 2 (ch [] (vs.flatMap slotsOf))))) rs=some ws:=g2
   have g3:lG (gb (dK h.bx 2 (ch [] (vs.flatMap slotsOf)))) s'.h.bx outer (dK h.bx 2 (ch [] (vs.flatMap slotsOf)))=some bs:=g3
   refine⟨g,n,_,_,hg,?_,hk⟩
   simp only[fJ,h3,if_true,h4,h5,h6,nI,g1,g2,g3]
theorem nU {fn:Nat} (hi:ry A fn=false) (E:AC→St→Option (Ex×St)):bI A E Pr fn=Pr fn:=by
 unfold ry at hi
 unfold bI
 cases hf:A fn with
 |none=>rfl
 |some g=>
  rw[hf]at hi
  simp only at hi ⊢
  rw[hi]
  simp
theorem qR {fn:Nat} (hi:ry A fn=true) (E:AC→St→Option (Ex×St)):∃g,A fn=some g∧bI A E Pr fn=some (fJ E g):=by
 unfold ry at hi
 unfold bI
 cases hf:A fn with
 |none=>rw[hf]at hi; cases hi
 |some g=>
  rw[hf]at hi
  simp only at hi ⊢
  rw[hi]
  exact⟨g,rfl,rfl⟩
@[go_sem] theorem RG (env:List (Nat×V)) (h:af) (f:bM) (args:List bM) (K:V→Tn→Prop):WE A Pr env h (.call f args) K=cd (funcOf (bq env f)) fun fc=>CW A Pr fc.1 (args.map (bq env)++fc.2) h K:=by
 apply propext
 constructor
 .rintro ⟨n,v,t,h1,hk⟩
  simp only[evalOp]at h1
  split at h1<;>first|(cases h1; done)|skip
  rename_i fn cap hf
  refine⟨(fn,cap),hf,?_⟩
  unfold CW
  cases hi:ry A fn with
  |true=>
   obtain⟨g,g1,g2⟩:=qR (Pr:=Pr) hi (exec A Pr n)
   rw[g2]at h1
   dsimp only
   rw[if_pos hi]
   exact⟨g,n,v,t,g1,h1,hk⟩
  |false=>
   rw[nU hi]at h1
   dsimp only
   rw[if_neg (by rw[hi]; simp)]
   cases hp:Pr fn with
   |some pr=>
    simp only[hp]at h1 ⊢
    exact⟨_,h1,hk⟩
   |none=>
    simp only[hp]at h1 ⊢
    split at h1<;>first|(cases h1; done)|skip
    rename_i ps a hl
    split at h1<;>first|(cases h1; done)|skip
    rename_i rs hrs
    cases h1
    exact⟨(ps,a),hl,⟨rs,j5.2 ⟨n,hrs⟩,hk⟩⟩
 .rintro ⟨⟨fn,cap⟩,hf,hc⟩
  unfold CW at hc
  cases hi:ry A fn with
  |true=>
   simp only at hc
   rw[hi,if_pos rfl]at hc
   obtain⟨g,n,v,t,g1,g2,hk⟩:=hc
   obtain⟨g',k1,k2⟩:=qR (Pr:=Pr) hi (exec A Pr n)
   rw[g1]at k1
   cases k1
   refine⟨n,v,t,?_,hk⟩
   simp only[evalOp,hf,k2]
   exact g2
  |false=>
   simp only at hc
   rw[hi,if_neg (by simp)]at hc
   cases hp:Pr fn with
   |some pr=>
    simp only[hp]at hc
    obtain⟨⟨v,t⟩,h1,hk⟩:=hc
    refine⟨0,v,t,?_,hk⟩
    simp only[evalOp,hf,nU hi,hp]
    exact h1
   |none=>
    simp only[hp]at hc
    obtain⟨⟨ps,a⟩,hl,rs,hrs,hk⟩:=hc
    obtain⟨n,hn⟩:=j5.1 hrs
    refine⟨n,_,_,?_,hk⟩
    simp only[evalOp,hf,nU hi,hp,hl,hn]
@[go_sem] theorem SP (s:St) (K:St→Prop):WO A Pr [] s K=K s:=by
 apply propext
 constructor
 .rintro ⟨s',⟨n,hn⟩,hk⟩
  simp only[dV]at hn
  cases hn
  exact hk
 .exact fun hk=>⟨s,iB.nil s,hk⟩
theorem oV {o:aE} {r:List aE} {s:St} {K:St→Prop}:WO A Pr (o::r) s K=∃n s1 t,bz (da A (exec A Pr n)) (bI A (exec A Pr n) Pr) (dP A) o s=some (s1,t)∧WO A Pr r s1 K:=by
 apply propext
 constructor
 .rintro ⟨s',⟨n,hn⟩,hk⟩
  simp only[dV]at hn
  split at hn
  .rename_i s1 t h1
   exact⟨n,s1,t,h1,s',⟨n,hn⟩,hk⟩
  .cases hn
 .rintro ⟨n,s1,t,h1,s',h2,hk⟩
  exact⟨s',iB.cons h1 h2,hk⟩
@[go_sem] theorem Gh (d:Option Nat) (q:eb) (r:List aE) (env:List (Nat×V)) (h:af) (K:St→Prop):WO A Pr (⟨d,q,none⟩::r) ⟨env,h⟩ K=WE A Pr env h q fun v t=>WO A Pr r ⟨put env d v,t.apply h⟩ K:=by
 rw[oV]
 apply propext
 constructor
 .rintro ⟨n,s1,t,h1,hk⟩
  simp only[bz,wanted]at h1
  split at h1
  .rename_i v t' he
   cases h1
   exact⟨n,v,t,he,hk⟩
  .cases h1
 .rintro ⟨n,v,t,he,hk⟩
  exact⟨n,_,t,by simp only[bz,wanted,he],hk⟩
def bare (t:Nat) (b:Bool):List aE→List aE
 |[]=>[]
 |o::r=>if o.guard=some (t,b)∧o.dst≠some t then ⟨o.dst,o.op,none⟩::bare t b r else o::r
def rz (t:Nat) (b:Bool):List aE→List (Nat×V)→List (Nat×V)×List aE
 |[],env=>(env,[])
 |o::r,env=>if o.guard=some (t,b)∧o.dst≠some t then rz t b r (put env o.dst (.dH [])) else (env,o::r)
theorem Ef {env:List (Nat×V)} {d:Option Nat} {v:V} {t:Nat} (h:d≠some t):get (put env d v) t=get env t:=by
 cases d with
 |none=>rfl
 |some d=>
  simp only[put,get,aG]
  rw[if_neg (by intro he; exact h (by rw[he]))]
theorem wanted_put {env:List (Nat×V)} {d:Option Nat} {v:V} {t:Nat} {b:Bool} (h:d≠some t):wanted (put env d v) (some (t,b))=wanted env (some (t,b)):=by
 simp only[wanted,Ef h]
theorem wJ {t:Nat} {b:Bool}:∀(l:List aE) (s:St) (K:St→Prop),wanted s.env (some (t,b))=some true→WO A Pr l s K=WO A Pr (bare t b l) s K
 |[],s,K,_=>rfl
 |o::r,s,K,he=>by
  by_cases hg:o.guard=some (t,b)∧o.dst≠some t
  .rw[show bare t b (o::r)=⟨o.dst,o.op,none⟩::bare t b r from if_pos hg]
   obtain⟨env,h⟩:=s
   rw[oV,oV]
   have:∀n,bz (da A (exec A Pr n)) (bI A (exec A Pr n) Pr) (dP A) o ⟨env,h⟩=bz (da A (exec A Pr n)) (bI A (exec A Pr n) Pr) (dP A) ⟨o.dst,o.op,none⟩ ⟨env,h⟩:=by
    intro n
    have e1:wanted env o.guard=some true:=by rw[hg.1]; exact he
    have e2:wanted env (none:Option (Nat×Bool))=some true:=rfl
    simp only[bz,e1,e2]
   simp only[this]
   apply propext
   have hr:∀n s1 tn,bz (da A (exec A Pr n)) (bI A (exec A Pr n) Pr) (dP A) ⟨o.dst,o.op,none⟩ ⟨env,h⟩=some (s1,tn)→wanted s1.env (some (t,b))=some true:=by
    intro n s1 tn h1
    have e2:wanted env (none:Option (Nat×Bool))=some true:=rfl
    simp only[bz,e2]at h1
    split at h1
    .cases h1
     exact(wanted_put hg.2).trans he
    .cases h1
   constructor
   .rintro ⟨n,s1,tn,h1,hk⟩
    exact⟨n,s1,tn,h1,by rw[← wJ r s1 K (hr _ _ _ h1)]; exact hk⟩
   .rintro ⟨n,s1,tn,h1,hk⟩
    exact⟨n,s1,tn,h1,by rw[wJ r s1 K (hr _ _ _ h1)]; exact hk⟩
  .rw[show bare t b (o::r)=o::r from if_neg hg]
theorem BE {t:Nat} {b:Bool}:∀(l:List aE) (env:List (Nat×V)) (h:af) (K:St→Prop),wanted env (some (t,b))=some false→WO A Pr l ⟨env,h⟩ K=WO A Pr (rz t b l env).2 ⟨(rz t b l env).1,h⟩ K
 |[],env,h,K,_=>rfl
 |o::r,env,h,K,he=>by
  by_cases hg:o.guard=some (t,b)∧o.dst≠some t
  .rw[show rz t b (o::r) env=rz t b r (put env o.dst (.dH [])) from if_pos hg]
   rw[oV,← BE r (put env o.dst (.dH [])) h K ((wanted_put hg.2).trans he)]
   have:∀n,bz (da A (exec A Pr n)) (bI A (exec A Pr n) Pr) (dP A) o ⟨env,h⟩=some (⟨put env o.dst (.dH []),h⟩,{}):=by
    intro n
    have e1:wanted env o.guard=some false:=by rw[hg.1]; exact he
    simp only[bz,e1]
   simp only[this]
   apply propext
   constructor
   .rintro ⟨n,s1,tn,h1,hk⟩
    cases h1
    exact hk
   .exact fun hk=>⟨0,_,_,rfl,hk⟩
  .rw[show rz t b (o::r) env=(env,o::r) from if_neg hg]
def OF (v:V) (b:Bool) (X Y:Prop) (_t:oT (X∧Y):=.mk):Prop:=
 match v with
 |.pv (.bool c)=>Br (c==b) X Y
 |.dH _=>Y
 |_=>False
@[go_sem] theorem Eg (c b:Bool) (X Y:Prop):OF (.pv (.bool c)) b X Y=Br (c==b) X Y:=rfl
@[go_sem] theorem Gi (l:List V) (b:Bool) (X Y:Prop):OF (.dH l) b X Y=Y:=rfl
theorem BF {env:List (Nat×V)} {t:Nat} {b:Bool} {X Y Z:Prop} (h0:Z→∃c,wanted env (some (t,b))=some c) (h1:wanted env (some (t,b))=some true→Z=X) (h2:wanted env (some (t,b))=some false→Z=Y):Z=OF (get env t) b X Y:=by
 simp only[wanted]at h0 h1 h2
 apply propext
 cases hv:get env t with
 |pv p=>
  cases p with
  |bool c=>
   simp only[hv,Option.some.injEq]at h1 h2
   rw[Eg]
   cases hcb:(c==b)with
   |true=>rw[rO,h1 hcb]
   |false=>rw[oU,h2 hcb]
  |_=>
   simp only[hv]at h0
   exact⟨fun hz=>(h0 hz).elim (fun _ h=>by cases h),fun h=>h.elim⟩
 |dH l=>
  simp only[hv]at h2
  rw[Gi,h2 trivial]
 |_=>
  simp only[hv]at h0
  exact⟨fun hz=>(h0 hz).elim (fun _ h=>by cases h),fun h=>h.elim⟩
def WB (A:Nat→Option ae) (Pr:br) (t:Nat) (b:Bool) (l:List aE) (s:St) (K:St→Prop) (_t:oT (l,K):=.mk):Prop:=WO A Pr (bare t b l) s K
def WN (A:Nat→Option ae) (Pr:br) (t:Nat) (b:Bool) (l:List aE) (s:St) (K:St→Prop) (_t:oT (l,K):=.mk):Prop:=WO A Pr (rz t b l s.env).2 ⟨(rz t b l s.env).1,s.h⟩ K
def nb (t:Nat):Option Nat→Bool
 |some d=>!(d==t)
 |none=>true
@[go_sem] theorem Mr (t d:Nat):nb t (some d)=!(d==t):=rfl
@[go_sem] theorem Ms (t:Nat):nb t none=true:=rfl
theorem j6 {t:Nat} {d:Option Nat}:nb t d=true↔d≠some t:=by
 cases d<;>simp[nb]
@[congr] theorem OG {t:Nat} {b:Bool} {l:List aE} {s s':St} {K:St→Prop} (h:s=s'):WB A Pr t b l s K=WB A Pr t b l s' K:=by rw[h]
@[congr] theorem OH {t:Nat} {b:Bool} {l:List aE} {s s':St} {K:St→Prop} (h:s=s'):WN A Pr t b l s K=WN A Pr t b l s' K:=by rw[h]
@[go_sem] theorem RH (t:Nat) (b:Bool) (d:Option Nat) (q:eb) (r:List aE) (s:St) (K:St→Prop):WB A Pr t b (⟨d,q,none⟩::r) s K=WO A Pr (⟨d,q,none⟩::r) s K:=by
 simp[WB,bare]
@[go_sem] theorem RI (t:Nat) (b:Bool) (d:Option Nat) (q:eb) (r:List aE) (s:St) (K:St→Prop):WN A Pr t b (⟨d,q,none⟩::r) s K=WO A Pr (⟨d,q,none⟩::r) s K:=by
 simp[WN,rz]
@[go_sem] theorem RJ (t:Nat) (b:Bool) (d:Option Nat) (q:eb) (t':Nat) (b':Bool) (r:List aE) (env:List (Nat×V)) (h:af) (K:St→Prop):WB A Pr t b (⟨d,q,some (t',b')⟩::r) ⟨env,h⟩ K=Br (t'==t&&b'==b&&nb t d) (WE A Pr env h q fun v tn=>WB A Pr t b r ⟨put env d v,tn.apply h⟩ K) (WO A Pr (⟨d,q,some (t',b')⟩::r) ⟨env,h⟩ K):=by
 by_cases hc:t'=t∧b'=b∧d≠some t
 .obtain⟨rfl,rfl,hd⟩:=hc
  rw[show (t'==t'&&b'==b'&&nb t' d)=true by simp[j6.2 hd],rO]
  unfold WB
  rw[← Gh,show bare t' b' (⟨d,q,some (t',b')⟩::r)=⟨d,q,none⟩::bare t' b' r from if_pos ⟨rfl,hd⟩]
 .rw[show (t'==t&&b'==b&&nb t d)=false by
   cases hx:(t'==t&&b'==b&&nb t d)with
   |false=>rfl
   |true=>
    simp only[Bool.and_eq_true,beq_iff_eq]at hx
    exact(hc ⟨hx.1.1,hx.1.2,j6.1 hx.2⟩).elim,oU]
  have:¬(some (t',b')=some (t,b)∧d≠some t):=fun⟨h1,h2⟩=>hc ⟨by cases h1; rfl,by cases h1; rfl,h2⟩
  unfold WB
  rw[show bare t b (⟨d,q,some (t',b')⟩::r)=⟨d,q,some (t',b')⟩::r from if_neg this]
@[go_sem] theorem RK (t:Nat) (b:Bool) (d:Option Nat) (q:eb) (t':Nat) (b':Bool) (r:List aE) (env:List (Nat×V)) (h:af) (K:St→Prop):WN A Pr t b (⟨d,q,some (t',b')⟩::r) ⟨env,h⟩ K=Br (t'==t&&b'==b&&nb t d) (WN A Pr t b r ⟨put env d (.dH []),h⟩ K) (WO A Pr (⟨d,q,some (t',b')⟩::r) ⟨env,h⟩ K):=by
 by_cases hc:t'=t∧b'=b∧d≠some t
 .obtain⟨rfl,rfl,hd⟩:=hc
  rw[show (t'==t'&&b'==b'&&nb t' d)=true by simp[j6.2 hd],rO]
  unfold WN
  dsimp only
  rw[show rz t' b' (⟨d,q,some (t',b')⟩::r) env=rz t' b' r (put env d (.dH [])) from if_pos ⟨rfl,hd⟩]
 .rw[show (t'==t&&b'==b&&nb t d)=false by
   cases hx:(t'==t&&b'==b&&nb t d)with
   |false=>rfl
   |true=>
    simp only[Bool.and_eq_true,beq_iff_eq]at hx
    exact(hc ⟨hx.1.1,hx.1.2,j6.1 hx.2⟩).elim,oU]
  have:¬(some (t',b')=some (t,b)∧d≠some t):=fun⟨h1,h2⟩=>hc ⟨by cases h1; rfl,by cases h1; rfl,h2⟩
  unfold WN
  dsimp only
  rw[show rz t b (⟨d,q,some (t',b')⟩::r) env=(env,⟨d,q,some (t',b')⟩::r) from if_neg this]
@[go_sem] theorem OI (d:Option Nat) (q:eb) (t:Nat) (b:Bool) (r:List aE) (env:List (Nat×V)) (h:af) (K:St→Prop):WO A Pr (⟨d,q,some (t,b)⟩::r) ⟨env,h⟩ K=OF (get env t) b (WB A Pr t b (⟨d,q,some (t,b)⟩::r) ⟨env,h⟩ K) (WN A Pr t b (⟨d,q,some (t,b)⟩::r) ⟨env,h⟩ K):=by
 refine BF (fun hw=>?_) (fun hw=>wJ _ ⟨env,h⟩ K hw) (fun hw=>BE _ env h K hw)
 rw[oV]at hw
 obtain⟨n,s1,tn,h1,_⟩:=hw
 cases hx:wanted env (some (t,b))with
 |none=>simp only[bz,hx]at h1; cases h1
 |some c=>exact⟨c,rfl⟩
@[go_sem] theorem SQ (done:List Tn) (s:St) (K:St→Prop):WD A Pr [] done s K=K s:=by
 apply propext
 constructor
 .rintro ⟨s',⟨n,hn⟩,hk⟩
  simp only[cG]at hn
  cases hn
  exact hk
 .exact fun hk=>⟨s,fR.nil done s,hk⟩
theorem oW {o:aE} {un:List Nat} {r:List (aE×List Nat)} {done:List Tn} {s:St} {K:St→Prop}:WD A Pr ((o,un)::r) done s K=∃n s1 t,bz (da A (exec A Pr n)) (bI A (exec A Pr n) Pr) (dP A) o s=some (s1,t)∧ez un t done=true∧WD A Pr r (done++[t]) s1 K:=by
 apply propext
 constructor
 .rintro ⟨s',⟨n,hn⟩,hk⟩
  simp only[cG]at hn
  split at hn
  .rename_i s1 t h1
   split at hn
   .rename_i hh
    exact⟨n,s1,t,h1,hh,s',⟨n,hn⟩,hk⟩
   .cases hn
  .cases hn
 .rintro ⟨n,s1,t,h1,hh,s',h2,hk⟩
  exact⟨s',fR.cons h1 hh h2,hk⟩
def held (un:List Nat) (t:Tn) (done:List Tn) (X:Prop) (_t:oT X:=.mk):Prop:=ez un t done=true∧X
@[congr] theorem Iu {un:List Nat} {t t':Tn} {done done':List Tn} {X:Prop} (h:t=t') (h':done=done'):held un t done X=held un t' done' X:=by rw[h,h']
@[go_sem] theorem OJ (t:Tn) (done:List Tn) (X:Prop):held [] t done X=X:=by simp[held,ez]
@[go_sem] theorem Gj (d:Option Nat) (q:eb) (un:List Nat) (r:List (aE×List Nat)) (done:List Tn) (env:List (Nat×V)) (h:af) (K:St→Prop):WD A Pr ((⟨d,q,none⟩,un)::r) done ⟨env,h⟩ K=WE A Pr env h q fun v t=>held un t done (WD A Pr r (done++[t]) ⟨put env d v,t.apply h⟩ K):=by
 rw[oW]
 apply propext
 constructor
 .rintro ⟨n,s1,t,h1,hh,hk⟩
  simp only[bz,wanted]at h1
  split at h1
  .rename_i v t' he
   cases h1
   exact⟨n,v,t,he,hh,hk⟩
  .cases h1
 .rintro ⟨n,v,t,he,hh,hk⟩
  exact⟨n,_,t,by simp only[bz,wanted,he],hh,hk⟩
def ns (t:Nat) (b:Bool):List (aE×List Nat)→List (aE×List Nat)
 |[]=>[]
 |(o,un)::r=>if o.guard=some (t,b)∧o.dst≠some t then (⟨o.dst,o.op,none⟩,un)::ns t b r else (o,un)::r
theorem wK {t:Nat} {b:Bool}:∀(l:List (aE×List Nat)) (done:List Tn) (s:St) (K:St→Prop),wanted s.env (some (t,b))=some true→WD A Pr l done s K=WD A Pr (ns t b l) done s K
 |[],_,s,K,_=>rfl
 |(o,un)::r,done,s,K,he=>by
  by_cases hg:o.guard=some (t,b)∧o.dst≠some t
  .rw[show ns t b ((o,un)::r)=(⟨o.dst,o.op,none⟩,un)::ns t b r from if_pos hg]
   obtain⟨env,h⟩:=s
   rw[oW,oW]
   have:∀n,bz (da A (exec A Pr n)) (bI A (exec A Pr n) Pr) (dP A) o ⟨env,h⟩=bz (da A (exec A Pr n)) (bI A (exec A Pr n) Pr) (dP A) ⟨o.dst,o.op,none⟩ ⟨env,h⟩:=by
    intro n
    have e1:wanted env o.guard=some true:=by rw[hg.1]; exact he
    have e2:wanted env (none:Option (Nat×Bool))=some true:=rfl
    simp only[bz,e1,e2]
   simp only[this]
   apply propext
   have hr:∀n s1 tn,bz (da A (exec A Pr n)) (bI A (exec A Pr n) Pr) (dP A) ⟨o.dst,o.op,none⟩ ⟨env,h⟩=some (s1,tn)→wanted s1.env (some (t,b))=some true:=by
    intro n s1 tn h1
    have e2:wanted env (none:Option (Nat×Bool))=some true:=rfl
    simp only[bz,e2]at h1
    split at h1
    .cases h1
     exact(wanted_put hg.2).trans he
    .cases h1
   constructor
   .rintro ⟨n,s1,tn,h1,hh,hk⟩
    exact⟨n,s1,tn,h1,hh,by rw[← wK r _ s1 K (hr _ _ _ h1)]; exact hk⟩
   .rintro ⟨n,s1,tn,h1,hh,hk⟩
    exact⟨n,s1,tn,h1,hh,by rw[wK r _ s1 K (hr _ _ _ h1)]; exact hk⟩
  .rw[show ns t b ((o,un)::r)=(o,un)::r from if_neg hg]
theorem Eh {o:aE} {un:List Nat} {r:List (aE×List Nat)} {done:List Tn} {env:List (Nat×V)} {h:af} {K:St→Prop} (he:wanted env o.guard=some false):WD A Pr ((o,un)::r) done ⟨env,h⟩ K=held un ({}:Tn) done (WD A Pr r (done++[({}:Tn)]) ⟨put env o.dst (.dH []),h⟩ K):=by
 rw[oW]
 have:∀n,bz (da A (exec A Pr n)) (bI A (exec A Pr n) Pr) (dP A) o ⟨env,h⟩=some (⟨put env o.dst (.dH []),h⟩,{}):=by
  intro n
  simp only[bz,he]
 simp only[this]
 apply propext
 constructor
 .rintro ⟨n,s1,tn,h1,hh,hk⟩
  cases h1
  exact⟨hh,hk⟩
 .rintro ⟨hh,hk⟩
  exact⟨0,_,_,rfl,hh,hk⟩
def Gk (A:Nat→Option ae) (Pr:br) (t:Nat) (b:Bool) (l:List (aE×List Nat)) (done:List Tn) (s:St) (K:St→Prop) (_t:oT (l,K):=.mk):Prop:=WD A Pr (ns t b l) done s K
@[congr] theorem Mt {t:Nat} {b:Bool} {l:List (aE×List Nat)} {done done':List Tn} {s s':St} {K:St→Prop} (h':done=done') (h:s=s'):Gk A Pr t b l done s K=Gk A Pr t b l done' s' K:=by rw[h,h']
@[go_sem] theorem OK (t:Nat) (b:Bool) (d:Option Nat) (q:eb) (un:List Nat) (r:List (aE×List Nat)) (done:List Tn) (s:St) (K:St→Prop):Gk A Pr t b ((⟨d,q,none⟩,un)::r) done s K=WD A Pr ((⟨d,q,none⟩,un)::r) done s K:=by
 simp[Gk,ns]
@[go_sem] theorem OL (t:Nat) (b:Bool) (d:Option Nat) (q:eb) (t':Nat) (b':Bool) (un:List Nat) (r:List (aE×List Nat)) (done:List Tn) (env:List (Nat×V)) (h:af) (K:St→Prop):Gk A Pr t b ((⟨d,q,some (t',b')⟩,un)::r) done ⟨env,h⟩ K=Br (t'==t&&b'==b&&nb t d) (WE A Pr env h q fun v tn=>held un tn done (Gk A Pr t b r (done++[tn]) ⟨put env d v,tn.apply h⟩ K)) (WD A Pr ((⟨d,q,some (t',b')⟩,un)::r) done ⟨env,h⟩ K):=by
 by_cases hc:t'=t∧b'=b∧d≠some t
 .obtain⟨rfl,rfl,hd⟩:=hc
  rw[show (t'==t'&&b'==b'&&nb t' d)=true by simp[j6.2 hd],rO]
  unfold Gk
  rw[← Gj,show ns t' b' ((⟨d,q,some (t',b')⟩,un)::r)=(⟨d,q,none⟩,un)::ns t' b' r from if_pos ⟨rfl,hd⟩]
 .rw[show (t'==t&&b'==b&&nb t d)=false by
   cases hx:(t'==t&&b'==b&&nb t d)with
   |false=>rfl
   |true=>
    simp only[Bool.and_eq_true,beq_iff_eq]at hx
    exact(hc ⟨hx.1.1,hx.1.2,j6.1 hx.2⟩).elim,oU]
  have:¬(some (t',b')=some (t,b)∧d≠some t):=fun⟨h1,h2⟩=>hc ⟨by cases h1; rfl,by cases h1; rfl,h2⟩
  unfold Gk
  rw[show ns t b ((⟨d,q,some (t',b')⟩,un)::r)=(⟨d,q,some (t',b')⟩,un)::r from if_neg this]
@[go_sem] theorem OM (d:Option Nat) (q:eb) (t:Nat) (b:Bool) (un:List Nat) (r:List (aE×List Nat)) (done:List Tn) (env:List (Nat×V)) (h:af) (K:St→Prop):WD A Pr ((⟨d,q,some (t,b)⟩,un)::r) done ⟨env,h⟩ K=OF (get env t) b (Gk A Pr t b ((⟨d,q,some (t,b)⟩,un)::r) done ⟨env,h⟩ K) (held un ({}:Tn) done (WD A Pr r (done++[({}:Tn)]) ⟨put env d (.dH []),h⟩ K)):=by
 refine BF (fun hw=>?_) (fun hw=>wK _ done ⟨env,h⟩ K hw) (fun hw=>Eh hw)
 rw[oW]at hw
 obtain⟨n,s1,tn,h1,_⟩:=hw
 cases hx:wanted env (some (t,b))with
 |none=>simp only[bz,hx]at h1; cases h1
 |some c=>exact⟨c,rfl⟩
def Iv {α:Type} (S:α→St) (P:α→Prop) (m:α→Nat) (x:α) (Q:Ex→St→Prop) (_t:oT (S,P,m,x,Q):=.mk):Ex→St→Prop
 |.normal,s=>∃y,P y∧m y<m x∧s=S y
 |.exit i,s=>Q (.exit i) s
 |.ret,s=>Q .ret s
@[go_sem] theorem Mu {α:Type} (S:α→St) (P:α→Prop) (m:α→Nat) (x:α) (Q:Ex→St→Prop) (i:Nat) (s:St):Iv S P m x Q .mk (.exit i) s=Q (.exit i) s:=rfl
@[go_sem] theorem ON {α:Type} (S:α→St) (P:α→Prop) (m:α→Nat) (x:α) (Q:Ex→St→Prop) (s:St):Iv S P m x Q .mk .ret s=Q .ret s:=rfl
theorem W.loop {α:Type} {a:AC} {s:St} {Q:Ex→St→Prop} (S:α→St) (P:α→Prop) (m:α→Nat) (x0:α) (hs:s=S x0) (h0:P x0) (hr:∀x,P x→W A Pr a (S x) (Iv S P m x Q)):W A Pr (.loop a) s Q:=by
 subst hs
 have key:∀n x,m x≤n→P x→W A Pr (.loop a) (S x) Q:=by
  intro n
  induction n with
  |zero=>
   intro x hm hp
   obtain⟨ex,s',h1,h2⟩:=hr x hp
   cases ex with
   |normal=>obtain⟨y,_,h3,_⟩:=h2; omega
   |exit i=>exact⟨_,_,cp.gL h1 (by simp),h2⟩
   |ret=>exact⟨_,_,cp.gL h1 (by simp),h2⟩
  |succ n ih=>
   intro x hm hp
   obtain⟨ex,s',h1,h2⟩:=hr x hp
   cases ex with
   |normal=>
    obtain⟨y,hy,h3,rfl⟩:=h2
    obtain⟨e2,s2,h4,h5⟩:=ih y (by omega) hy
    exact⟨e2,s2,cp.vg h1 h4,h5⟩
   |exit i=>exact⟨_,_,cp.gL h1 (by simp),h2⟩
   |ret=>exact⟨_,_,cp.gL h1 (by simp),h2⟩
 exact key _ x0 (VI _) h0
def yz (S:Nat→St) (P:Nat→Prop) (n k:Nat) (Q:Ex→St→Prop) (_t:oT (S,P,n,k,Q):=.mk):Ex→St→Prop
 |.normal,s=>k<n∧s=S (k+1)∧P (k+1)
 |.exit i,s=>Q (.exit i) s
 |.ret,s=>Q .ret s
@[go_sem] theorem Iw (S:Nat→St) (P:Nat→Prop) (n k:Nat) (Q:Ex→St→Prop) (i:Nat) (s:St):yz S P n k Q .mk (.exit i) s=Q (.exit i) s:=rfl
@[go_sem] theorem Mw (S:Nat→St) (P:Nat→Prop) (n k:Nat) (Q:Ex→St→Prop) (s:St):yz S P n k Q .mk .ret s=Q .ret s:=rfl
theorem yz.of {S:Nat→St} {P:Nat→Prop} {n k:Nat} {Q:Ex→St→Prop} {s:St} (h1:k<n) (h2:s=S (k+1)) (h3:P (k+1)):yz S P n k Q .mk .normal s:=⟨h1,h2,h3⟩
theorem W.cD {a:AC} {s:St} {Q:Ex→St→Prop} (n:Nat) (S:Nat→St) (P:Nat→Prop) (hs:s=S 0) (h0:P 0) (hr:∀k,k≤n→P k→W A Pr a (S k) (yz S P n k Q)):W A Pr (.loop a) s Q:=by
 refine W.loop S (fun k=>k≤n∧P k) (fun k=>n - k) 0 hs ⟨V4 _,h0⟩ fun k hk=>?_
 obtain⟨ex,s',h1,h2⟩:=hr k hk.1 hk.2
 refine⟨ex,s',h1,?_⟩
 cases ex with
 |normal=>
  obtain⟨g1,g2,g3⟩:=h2
  exact⟨k+1,⟨g1,g3⟩,by show n - (k+1)<n - k; omega,g2⟩
 |exit i=>exact h2
 |ret=>exact h2
def jS (s:St) (rs:List oo) (fresh:Bool):Option (List PV):=
 (aA (c9 s) rs).bind fun vs=>if !fresh||distinct (eo vs) then aA (bO s.h fresh) vs else none
theorem yA (fn:ae) (s:St):leave fn s=jS s fn.results fn.fresh:=by
 simp only[leave,jS]
 cases aA (c9 s) fn.results<;>rfl
def Gl (l:List oo) (fresh:Bool) (rs:List PV) (_t:oT (l,fresh,rs):=.mk):Ex→St→Prop
 |.normal,s=>jS s l fresh=some rs
 |.ret,s=>jS s l fresh=some rs
 |.exit _,_=>False
@[go_sem] theorem Hu (l:List oo) (fresh:Bool) (rs:List PV) (s:St):Gl l fresh rs .mk .normal s=(jS s l fresh=some rs):=rfl
@[go_sem] theorem OO (l:List oo) (fresh:Bool) (rs:List PV) (s:St):Gl l fresh rs .mk .ret s=(jS s l fresh=some rs):=rfl
theorem gh.UZ {f:Nat} {fn:ae} {ps rs:List PV} (hf:A f=some fn) (hl:ps.length=fn.pQ) (ha:pT fn.take ps=true) (hw:W A Pr fn.body ⟨entry 0 ps,cK ps⟩ (Gl fn.results fn.fresh rs)):gh A Pr f ps rs:=by
 obtain⟨ex,s',h,hq⟩:=hw
 cases ex with
 |normal=>exact gh.of hf hl ha h (.inl rfl) ((yA fn s').trans hq)
 |ret=>exact gh.of hf hl ha h (.inr rfl) ((yA fn s').trans hq)
 |exit i=>exact hq.elim
theorem ai {f:Nat} {fn:ae} {ps rs:List PV} (hf:A f=some fn) (hl:ps.length=fn.pQ) (ha:pT fn.take ps=true) (hw:W A Pr fn.body ⟨entry 0 ps,cK ps⟩ (Gl fn.results fn.fresh rs)):res A Pr f ps=some rs:=
 j5.2 (gh.UZ hf hl ha hw)
end Go.Pv
namespace Go.Pv
variable {A:Nat→Option ae} {Pr:br}
@[congr] theorem RL {c:AC} {s s':St} {Q:Ex→St→Prop} (h:s=s'):W A Pr c s Q=W A Pr c s' Q:=by rw[h]
@[congr] theorem OP {l:List aE} {s s':St} {K:St→Prop} (h:s=s'):WO A Pr l s K=WO A Pr l s' K:=by rw[h]
@[congr] theorem OQ {l:List (aE×List Nat)} {d d':List Tn} {s s':St} {K:St→Prop} (h':d=d') (h:s=s'):WD A Pr l d s K=WD A Pr l d' s' K:=by rw[h,h']
@[congr] theorem OS {fn:Nat} {vs vs':List V} {h h':af} {K:V→Tn→Prop} (he:vs=vs') (hh:h=h'):CW A Pr fn vs h K=CW A Pr fn vs' h' K:=by rw[he,hh]
@[congr] theorem Ix {b:AC} {Q:Ex→St→Prop} {e e':Ex} {s s':St} (he:e=e') (hs:s=s'):CA A Pr b Q .mk e s=CA A Pr b Q .mk e' s':=by rw[he,hs]
@[congr] theorem Gm {i:Nat} {Q:Ex→St→Prop} {e e':Ex} {s s':St} (he:e=e') (hs:s=s'):l7 i Q .mk e s=l7 i Q .mk e' s':=by rw[he,hs]
def BG {α:Type} (c:Bool) (x y:α) (_t:oT (x,y):=.mk):α:=if c=true then x else y
@[congr] theorem Mx {α:Type} {c c':Bool} {x y:α} (h:c=c'):BG c x y=BG c' x y:=by rw[h]
@[go_sem] theorem OT {α:Type} (x y:α):BG true x y=x:=rfl
@[go_sem] theorem My {α:Type} (x y:α):BG false x y=y:=by simp[BG]
theorem Az {α:Type} (s t:Nat) (x y:α):BG (s==t) x y=if s=t then x else y:=by simp[BG]
@[go_sem] theorem OU (env:List (Nat×V)) (t:Nat):bq env (.tmp t)=get env t:=rfl
@[go_sem] theorem OV (env:List (Nat×V)) (v:V):bq env (.val v)=v:=rfl
@[go_sem] theorem OW (s:Nat) (x:V) (r:List (Nat×V)) (t:Nat):get ((s,x)::r) t=BG (s==t) x (get r t):=by
 simp only[get,aG,Az]
 split<;>rfl
@[go_sem] theorem get_nil (t:Nat):get [] t=.any:=rfl
@[go_sem] theorem OX (env:List (Nat×V)) (d:Nat) (v:V):put env (some d) v=(d,v)::env:=rfl
@[go_sem] theorem OY (env:List (Nat×V)) (v:V):put env none v=env:=rfl
@[go_sem] theorem Iy {α:Type} (s:Nat) (x:α) (r:List (Nat×α)) (t:Nat):aG t ((s,x)::r)=BG (s==t) (some x) (aG t r):=by rw[Az]; rfl
@[go_sem] theorem Mz {α:Type} (t:Nat):aG t ([]:List (Nat×α))=none:=rfl
@[go_sem] theorem MA (s:Nat) (c:List V):ec s c []=[(s,c)]:=rfl
@[go_sem] theorem Iz (s:Nat) (c:List V) (s':Nat) (c':List V) (r:List (Nat×List V)):ec s c ((s',c')::r)=BG (s'==s) ((s,c)::r) ((s',c')::ec s c r):=by rw[Az]; rfl
@[go_sem] theorem RM (kt kb:List Nat) (env:List (Nat×V)) (bx:List (Nat×List V)) (ar:List aL) (mp:List (List (PV×PV))):St.mask kt kb ⟨env,⟨bx,ar,mp⟩⟩=⟨ix kt kb env,⟨hM kb bx,ar,mp⟩⟩:=rfl
@[go_sem] theorem Gn (t:Nat) (kt kb:List Nat) (env:List (Nat×V)):ix (t::kt) kb env=(t,dO kb (get env t))::ix kt kb env:=rfl
@[go_sem] theorem Hv (kb:List Nat) (env:List (Nat×V)):ix [] kb env=[]:=rfl
def Ei (s:Nat) (o:Option (List V)) (r:List (Nat×List V)):List (Nat×List V):=
 match o with
 |some c=>(s,c)::r
 |none=>r
@[go_sem] theorem IA (s:Nat) (c:List V) (r:List (Nat×List V)):Ei s (some c) r=(s,c)::r:=rfl
@[go_sem] theorem IB (s:Nat) (r:List (Nat×List V)):Ei s none r=r:=rfl
@[go_sem] theorem Hw (s:Nat) (kb:List Nat) (bx:List (Nat×List V)):hM (s::kb) bx=Ei s (aG s bx) (hM kb bx):=by
 simp only[hM]
 split<;>rename_i h<;>rw[h]<;>rfl
@[go_sem] theorem IC (bx:List (Nat×List V)):hM [] bx=pins bx:=rfl
@[go_sem] theorem OZ:pins []=[]:=rfl
@[go_sem] theorem MB (s:Nat) (cs:List V) (r:List (Nat×List V)):pins ((s,cs)::r)=BG (dS s) ((s,cs)::pins r) (pins r):=rfl
@[go_sem] theorem O0 {s:Nat} (h:s<100000):dS s=false:=by
 unfold dS
 rw[Bool.eq_false_iff]
 intro hh
 rw[Nat.ble_eq]at hh
 omega
@[go_sem] theorem O1 {s:Nat} (h:100000≤s):dS s=true:=by
 unfold dS
 rw[Nat.ble_eq]
 exact h
@[go_sem] theorem O2 (kb:List Nat) (p:PV):dO kb (.pv p)=.pv p:=rfl
@[go_sem] theorem O3 (kb:List Nat) (r:List (List PV)):dO kb (.tl r)=.tl r:=rfl
@[go_sem] theorem MC (kb:List Nat) (a b c d:Nat):dO kb (.own a b c d)=.own a b c d:=rfl
@[go_sem] theorem ID (kb:List Nat) (a b c d:Nat):dO kb (.df a b c d)=.df a b c d:=rfl
@[go_sem] theorem MD (kb:List Nat) (i:Nat):dO kb (.map i)=.map i:=rfl
@[go_sem] theorem IE (kb:List Nat):dO kb .ej=.ej:=rfl
@[go_sem] theorem ME (kb:List Nat):dO kb .any=.any:=rfl
@[go_sem] theorem MF (kb:List Nat) (vs:List V):dO kb (.dH vs)=.any:=rfl
@[go_sem] theorem MG (kb:List Nat) (s o:Nat):dO kb (.ptr s o)=BG (kb.contains s||dS s) (.ptr s o) .any:=rfl
@[go_sem] theorem IF (kb:List Nat) (f:Nat) (cap:List V):dO kb (.func f cap)=BG (cap.all (r7 kb)) (.func f cap) .any:=rfl
@[go_sem] theorem MH (kb:List Nat) (cs:List V):dO kb (.agg cs)=BG (cs.all (r7 kb)) (.agg cs) .any:=rfl
@[go_sem] theorem SS (kb:List Nat) (p:PV):r7 kb (.pv p)=true:=rfl
@[go_sem] theorem SU (kb:List Nat) (r:List (List PV)):r7 kb (.tl r)=true:=rfl
@[go_sem] theorem RN (kb:List Nat) (a b c d:Nat):r7 kb (.own a b c d)=true:=rfl
@[go_sem] theorem RO (kb:List Nat):r7 kb .any=true:=rfl
@[go_sem] theorem RP (kb:List Nat) (i:Nat):r7 kb (.map i)=true:=rfl
@[go_sem] theorem O4 (kb:List Nat):r7 kb .ej=true:=rfl
@[go_sem] theorem O5 (kb:List Nat) (a b c d:Nat):r7 kb (.df a b c d)=true:=rfl
@[go_sem] theorem RQ (kb:List Nat) (s o:Nat):r7 kb (.ptr s o)=(kb.contains s||dS s):=rfl
@[go_sem] theorem O6 (kb:List Nat) (f:Nat) (cap:List V):r7 kb (.func f cap)=cap.isEmpty:=rfl
@[go_sem] theorem IG (new:Bool) (rb ra rm:Option Nat) (eX:Bool) (nD:Option Nat) (base:Nat) (h:af):Tn.apply ⟨none,new,none,[],none,false,rb,ra,rm,eX,nD,base,none⟩ h=h:=by
 cases h
 simp[Tn.apply]
@[go_sem] theorem sj (s:Nat) (c:List V) (new:Bool) (rb ra rm:Option Nat) (eX:Bool) (nD:Option Nat) (base:Nat) (bx:List (Nat×List V)) (ar:List aL) (mp:List (List (PV×PV))):Tn.apply ⟨some (s,c),new,none,[],none,false,rb,ra,rm,eX,nD,base,none⟩ ⟨bx,ar,mp⟩=⟨ec s c bx,ar,mp⟩:=by
 simp[Tn.apply]
@[go_sem] theorem MI (i:Nat) (a:aL) (new:Bool) (rb ra rm:Option Nat) (eX:Bool) (nD:Option Nat) (base:Nat) (bx:List (Nat×List V)) (ar:List aL) (mp:List (List (PV×PV))):Tn.apply ⟨none,new,some (i,a),[],none,false,rb,ra,rm,eX,nD,base,none⟩ ⟨bx,ar,mp⟩=⟨bx,ar.set i a,mp⟩:=by
 simp[Tn.apply]
@[go_sem] theorem i7 (x:aL) (l:List aL) (new:Bool) (rb ra rm:Option Nat) (eX:Bool) (nD:Option Nat) (base:Nat) (bx:List (Nat×List V)) (ar:List aL) (mp:List (List (PV×PV))):Tn.apply ⟨none,new,none,x::l,none,false,rb,ra,rm,eX,nD,base,none⟩ ⟨bx,ar,mp⟩=⟨bx,ar++x::l,mp⟩:=by
 simp[Tn.apply]
@[go_sem] theorem Gp (i:Nat) (a:aL) (x:aL) (l:List aL) (new:Bool) (rb ra rm:Option Nat) (eX:Bool) (nD:Option Nat) (base:Nat) (bx:List (Nat×List V)) (ar:List aL) (mp:List (List (PV×PV))):Tn.apply ⟨none,new,some (i,a),x::l,none,false,rb,ra,rm,eX,nD,base,none⟩ ⟨bx,ar,mp⟩=⟨bx,ar.set i a++x::l,mp⟩:=by
 simp[Tn.apply]
@[go_sem] theorem xU (i:Nat) (m:List (PV×PV)) (new:Bool) (rb ra rm:Option Nat) (eX:Bool) (nD:Option Nat) (base:Nat) (bx:List (Nat×List V)) (ar:List aL) (mp:List (List (PV×PV))):Tn.apply ⟨none,new,none,[],some (i,m),false,rb,ra,rm,eX,nD,base,none⟩ ⟨bx,ar,mp⟩=⟨bx,ar,mp.set i m⟩:=by
 simp[Tn.apply]
@[go_sem] theorem Hx (new:Bool) (rb ra rm:Option Nat) (eX:Bool) (nD:Option Nat) (base:Nat) (bx:List (Nat×List V)) (ar:List aL) (mp:List (List (PV×PV))):Tn.apply ⟨none,new,none,[],none,true,rb,ra,rm,eX,nD,base,none⟩ ⟨bx,ar,mp⟩=⟨bx,ar,mp++[[]]⟩:=by
 simp[Tn.apply]
@[go_sem] theorem MJ (ob:Option (Nat×List V)) (new:Bool) (oa:Option (Nat×aL)) (l:List aL) (om:Option (Nat×List (PV×PV))) (pm:Bool) (rb ra rm:Option Nat) (eX:Bool) (nD:Option Nat) (base:Nat) (bs:List (Nat×List V)) (ar:List aL) (mp:List (List (PV×PV))) (h:af):Tn.apply ⟨ob,new,oa,l,om,pm,rb,ra,rm,eX,nD,base,some (bs,ar,mp)⟩ h=⟨fe bs h.bx,ar,mp⟩:=rfl
@[go_sem] theorem IH (bx:List (Nat×List V)):fe [] bx=bx:=rfl
@[go_sem] theorem Hy (s:Nat) (cs:List V) (r bx:List (Nat×List V)):fe ((s,cs)::r) bx=fe r (ec s cs bx):=rfl
@[go_sem] theorem SV (env:List (Nat×V)) (h:af) (x:bM) (K:V→Tn→Prop):WE A Pr env h (.Ol x) K=K (bq env x) {}:=WE.uniq (n:=0) rfl
@[go_sem] theorem RS (env:List (Nat×V)) (h:af) (c a b:bM) (K:V→Tn→Prop):WE A Pr env h (.pick c a b) K=BD (bq env c) fun t=>Br t (K (bq env a) {}) (K (bq env b) {}):=by
 rw[bR rfl]
 apply propext
 unfold ev
 constructor
 .rintro ⟨⟨v,t⟩,h1,hk⟩
  simp only[evalOp]at h1
  split at h1
  .rename_i hc
   cases h1
   exact⟨true,hc,hk⟩
  .rename_i hc
   cases h1
   exact⟨false,hc,by simpa [Br]using hk⟩
  .cases h1
 .rintro ⟨t,hc,hb⟩
  cases t with
  |true=>exact⟨(bq env a,{}),by simp only[evalOp,hc],hb⟩
  |false=>exact⟨(bq env b,{}),by simp only[evalOp,hc],by simpa [Br]using hb⟩
def SW (slot:Nat) (h:af) (X:Prop) (_t:oT X:=.mk):Prop:=aG slot h.bx=none∧X
@[go_sem] theorem RT (slot:Nat) (bx:List (Nat×List V)) (ar:List aL) (mp:List (List (PV×PV))) (X:Prop):SW slot ⟨bx,ar,mp⟩ X=(aG slot bx=none∧X):=rfl
def rA (p:Prop) (X:Prop) (_t:oT X:=.mk):Prop:=p∧X
@[congr] theorem II {p p' X:Prop} (h:p=p'):rA p X=rA p' X:=by rw[h]
@[go_sem] theorem MK (X:Prop):rA True X=X:=by simp[rA]
@[go_sem] theorem O7 (env:List (Nat×V)) (h:af) (slot:Nat) (zero:List V) (K:V→Tn→Prop):WE A Pr env h (.alloc slot zero) K=rA ((aG slot h.bx).isNone=true) (K (.ptr slot 0) { bx:=some (slot,zero),new:=true }):=by
 rw[bR rfl]
 apply propext
 unfold ev
 constructor
 .rintro ⟨⟨v,t⟩,h1,hk⟩
  simp only[evalOp]at h1
  split at h1
  .rename_i hc
   cases h1
   exact⟨by rw[hc]; rfl,hk⟩
  .cases h1
 .rintro ⟨hc,hk⟩
  refine⟨(_,_),?_,hk⟩
  simp only[evalOp]
  cases hl:aG slot h.bx with
  |none=>rfl
  |some x=>simp[hl]at hc
@[go_sem] theorem SX (env:List (Nat×V)) (h:af) (slot n:Nat) (x:bM) (K:V→Tn→Prop):WE A Pr env h (.box slot n x) K=rA ((aG slot h.bx).isNone=true∧(bq env x).cells.length=n∧(bq env x).cells.all V.dT=true) (K (.ptr slot 0) { bx:=some (slot,(bq env x).cells),new:=true }):=by
 rw[bR rfl]
 apply propext
 unfold ev
 constructor
 .rintro ⟨⟨v,t⟩,h1,hk⟩
  simp only[evalOp]at h1
  split at h1
  .rename_i hc
   split at h1
   .rename_i h2
    cases h1
    exact⟨⟨by rw[hc]; rfl,h2⟩,hk⟩
   .cases h1
  .cases h1
 .rintro ⟨⟨hc,h2⟩,hk⟩
  refine⟨(_,_),?_,hk⟩
  simp only[evalOp]
  cases hl:aG slot h.bx with
  |none=>simp only; rw[if_pos h2]
  |some x=>simp[hl]at hc
@[go_sem] theorem O8 (env:List (Nat×V)) (h:af) (zero:List V) (parts:List (Nat×Nat×bM)) (K:V→Tn→Prop):WE A Pr env h (.build zero parts) K=cd (eM (bq env) zero parts) fun cs=>K (.agg cs) {}:=by
 rw[bR rfl]
 apply propext
 unfold ev
 constructor
 .rintro ⟨⟨v,t⟩,h1,hk⟩
  simp only[evalOp]at h1
  split at h1
  .rename_i cs hc
   cases h1
   exact⟨cs,hc,hk⟩
  .cases h1
 .rintro ⟨cs,hc,hk⟩
  exact⟨(_,_),by simp only[evalOp,hc],hk⟩
def IJ (h:af) (k len:Nat) (cs:List V):Option (V×Tn):=
 match iU (fX k len cs)with
 |.inl rows=>some (.tl rows,{})
 |.inr rows=>if cs.all V.calm then some (.own h.ar.length 0 0 len,{ push:=[⟨0,k,.inr rows⟩],base:=h.ar.length }) else none
@[go_sem] theorem SY (env:List (Nat×V)) (h:af) (k:Nat) (zero:List V) (len:Nat) (parts:List (Nat×Nat×bM)) (K:V→Tn→Prop):WE A Pr env h (.lit k zero len parts) K=cd (eM (bq env) ((List.range (len*k)).map fun i=>zero.getD (i%k) .any) parts) fun cs=>cd (IJ h k len cs) fun r=>K r.1 r.2:=by
 rw[bR rfl]
 apply propext
 unfold ev
 constructor
 .rintro ⟨⟨v,t⟩,h1,hk⟩
  simp only[evalOp]at h1
  split at h1
  .rename_i cs hc
   exact⟨cs,hc,_,h1,hk⟩
  .cases h1
 .rintro ⟨cs,hc,⟨v,t⟩,h1,hk⟩
  exact⟨(v,t),by simp only[evalOp,hc]; exact h1,hk⟩
@[go_sem] theorem RU (env:List (Nat×V)) (h:af) (n:Nat) (b:Bool) (x:bM) (K:V→Tn→Prop):WE A Pr env h (.load n b x) K=cd (loadAt h n (bq env x)) fun r=>cd (ey b r.1) fun v=>K v r.2:=by
 rw[bR rfl]
 apply propext
 unfold ev
 constructor
 .rintro ⟨⟨v,t⟩,h1,hk⟩
  simp only[evalOp]at h1
  split at h1
  .rename_i cs tq hc
   split at h1
   .rename_i vq hv
    cases h1
    exact⟨_,hc,_,hv,hk⟩
   .cases h1
  .cases h1
 .rintro ⟨⟨cs,t⟩,hc,v,hv,hk⟩
  exact⟨(v,t),by simp only[evalOp,hc,hv],hk⟩
@[go_sem] theorem O9 (env:List (Nat×V)) (h:af) (n:Nat) (x v:bM) (K:V→Tn→Prop):WE A Pr env h (.store n x v) K=rA ((bq env v).cells.length=n) (cd (storeAt h (bq env x) (bq env v).cells) fun t=>K .any t):=by
 rw[bR rfl]
 apply propext
 unfold ev
 constructor
 .rintro ⟨⟨v,t⟩,h1,hk⟩
  simp only[evalOp]at h1
  split at h1
  .rename_i hn
   split at h1
   .rename_i t' ht
    cases h1
    exact⟨hn,_,ht,hk⟩
   .cases h1
  .cases h1
 .rintro ⟨hn,t,ht,hk⟩
  exact⟨(_,t),by simp only[evalOp,hn,ht,if_true],hk⟩
def qf:V→Option V
 |.func f cap=>some (.func f cap)
 |.pv (.func f cap)=>some (.pv (.func f cap))
 |.ptr s o=>some (.ptr s o)
 |.pv (.ro t cs)=>some (.pv (.ro t cs))
 |.df i v r c=>some (.df i v r c)
 |_=>none
theorem gE {α β:Type} (o:Option α) (f:α→β) (K:β→Prop):cd (o.map f) K=cd o fun v=>K (f v):=by
 cases o<;>simp[cd]
@[go_sem] theorem Pa (env:List (Nat×V)) (h:af) (x:bM) (K:V→Tn→Prop):WE A Pr env h (.wh x) K=cd (qf (bq env x)) fun v=>K v {}:=by
 rw[bR rfl,← gE _ (fun v=>(v,({}:Tn))) (fun r=>K r.1 r.2)]
 congr 1
 simp only[ev,evalOp]
 cases bq env x with
 |pv p=>cases p<;>rfl
 |_=>rfl
@[go_sem] theorem SZ (env:List (Nat×V)) (h:af) (op:BinOp) (x y:bM) (K:V→Tn→Prop):WE A Pr env h (.bin op x y) K=cd (cN op (bq env x) (bq env y)) fun v=>K v {}:=by
 rw[bR rfl,← gE _ (fun v=>(v,({}:Tn))) (fun r=>K r.1 r.2)]; rfl
def Gq (ag:Bool) (ks:List Nat) (neg:Bool) (x y:V):Option V:=
 match bD ag x,bD ag y with
 |some a,some b=>match bk ks a b with
  |some r=>some (.pv (.bool (if neg then !r else r)))
  |none=>none
 |_,_=>none
@[go_sem] theorem S0 (env:List (Nat×V)) (h:af) (ag:Bool) (ks:List Nat) (neg:Bool) (x y:bM) (K:V→Tn→Prop):WE A Pr env h (.Om ag ks neg x y) K=cd (Gq ag ks neg (bq env x) (bq env y)) fun v=>K v {}:=by
 rw[bR rfl,← gE _ (fun v=>(v,({}:Tn))) (fun r=>K r.1 r.2)]
 congr 1
 simp only[ev,evalOp,Gq]
 cases bD ag (bq env x)with
 |none=>rfl
 |some a=>
  cases bD ag (bq env y)with
  |none=>rfl
  |some b=>
   simp only
   cases bk ks a b<;>rfl
@[go_sem] theorem UH (env:List (Nat×V)) (h:af) (op:UnOp) (x:bM) (K:V→Tn→Prop):WE A Pr env h (.un op x) K=cd (Mn op (bq env x)) fun v=>K v {}:=by
 rw[bR rfl,← gE _ (fun v=>(v,({}:Tn))) (fun r=>K r.1 r.2)]; rfl
def Hz (k:IntKind):V→Option V
 |.pv (.int _ n)=>some (.pv (.int k (k.wrap n)))
 |_=>none
@[go_sem] theorem ML (k j:IntKind) (n:Int):Hz k (.pv (.int j n))=some (.pv (.int k (k.wrap n))):=rfl
@[go_sem] theorem RV (env:List (Nat×V)) (h:af) (k:IntKind) (x:bM) (K:V→Tn→Prop):WE A Pr env h (.conv k x) K=cd (Hz k (bq env x)) fun v=>K v {}:=by
 rw[bR rfl,← gE _ (fun v=>(v,({}:Tn))) (fun r=>K r.1 r.2)]
 congr 1
 simp only[ev,evalOp]
 cases bq env x with
 |pv p=>cases p<;>rfl
 |_=>rfl
def AA:V→Option V
 |.pv (.str s)=>some (.pv (.str s))
 |.pv (.int _ n)=>some (.pv (.str (Utf8.encode n)))
 |_=>none
@[go_sem] theorem IK (s:ByteArray):AA (.pv (.str s))=some (.pv (.str s)):=rfl
@[go_sem] theorem IL (k:IntKind) (n:Int):AA (.pv (.int k n))=some (.pv (.str (Utf8.encode n))):=rfl
@[go_sem] theorem Pb (env:List (Nat×V)) (h:af) (x:bM) (K:V→Tn→Prop):WE A Pr env h (.wi x) K=cd (AA (bq env x)) fun v=>K v {}:=by
 rw[bR rfl,← gE _ (fun v=>(v,({}:Tn))) (fun r=>K r.1 r.2)]
 congr 1
 simp only[ev,evalOp]
 cases bq env x with
 |pv p=>cases p<;>rfl
 |_=>rfl
@[go_sem] theorem S1 (env:List (Nat×V)) (h:af) (off:Nat) (x:bM) (K:V→Tn→Prop):WE A Pr env h (.RD off x) K=cd (r6 off (bq env x)) fun v=>K v {}:=by
 rw[bR rfl,← gE _ (fun v=>(v,({}:Tn))) (fun r=>K r.1 r.2)]; rfl
@[go_sem] theorem S2 (env:List (Nat×V)) (h:af) (k:Nat) (x i:bM) (K:V→Tn→Prop):WE A Pr env h (.idx k x i) K=cd (pS h k (bq env x) (intOf (bq env i))) fun r=>K r.1 r.2:=by
 rw[bR rfl]; rfl
@[go_sem] theorem RW (env:List (Nat×V)) (h:af) (len k:Nat) (x i:bM) (K:V→Tn→Prop):WE A Pr env h (.FI len k x i) K=cd (cF (intOf (bq env i)) len) fun j=>cd (r6 (j*k) (bq env x)) fun v=>K v {}:=by
 rw[bR rfl]
 apply propext
 unfold ev
 constructor
 .rintro ⟨⟨v,t⟩,h1,hk⟩
  simp only[evalOp]at h1
  split at h1
  .rename_i j hj
   obtain⟨vq,hv,he⟩:=Wf.1 h1
   cases he
   exact⟨j,hj,_,hv,hk⟩
  .cases h1
 .rintro ⟨j,hj,v,hv,hk⟩
  exact⟨(v,{}),by simp only[evalOp,hj,hv,Option.map_some],hk⟩
def Gr (i:Option Int):V→Option V
 |.pv (.str s)=>match cF i s.size with
  |some j=>match s[j]? with
   |some b=>some (.pv (.int .u8 b.toNat))
   |none=>none
  |none=>none
 |_=>none
@[go_sem] theorem S3 (env:List (Nat×V)) (h:af) (x i:bM) (K:V→Tn→Prop):WE A Pr env h (.RE x i) K=cd (Gr (intOf (bq env i)) (bq env x)) fun v=>K v {}:=by
 rw[bR rfl,← gE _ (fun v=>(v,({}:Tn))) (fun r=>K r.1 r.2)]
 congr 1
 simp only[ev,evalOp]
 cases bq env x with
 |pv p=>
  cases p<;>simp only[Gr]<;>first|rfl|skip
  rename_i str
  cases cF (intOf (bq env i)) str.size with
  |none=>rfl
  |some j=>
   simp only
   cases str[j]?<;>rfl
 |_=>rfl
@[go_sem] theorem UI (env:List (Nat×V)) (h:af) (k:Nat) (x:bM) (lo hi mx:Option bM) (K:V→Tn→Prop):WE A Pr env h (.sl k x lo hi mx) K=cd (cZ (bq env) h k (bq env x) lo hi mx) fun r=>K r.1 r.2:=by
 rw[bR rfl]; rfl
@[go_sem] theorem S4 (env:List (Nat×V)) (h:af) (kd:Nat) (x:bM) (K:V→Tn→Prop):WE A Pr env h (.len kd x) K=cd (fY h kd (bq env x)) fun r=>K (.pv (.int .i64 r.1)) r.2:=by
 rw[bR rfl]
 apply propext
 unfold ev
 constructor
 .rintro ⟨⟨v,t⟩,h1,hk⟩
  simp only[evalOp]at h1
  split at h1
  .rename_i n tq hc
   cases h1
   exact⟨_,hc,hk⟩
  .cases h1
 .rintro ⟨⟨n,t⟩,hc,hk⟩
  exact⟨(_,t),by simp only[evalOp,hc],hk⟩
@[go_sem] theorem S5 (env:List (Nat×V)) (h:af) (k:Nat) (x y:bM) (K:V→Tn→Prop):WE A Pr env h (.app k x y) K=cd (aJ h k (bq env x) (bq env y)) fun r=>K r.1 r.2:=by
 rw[bR rfl]; rfl
@[go_sem] theorem RX (env:List (Nat×V)) (h:af) (k:Nat) (zero:List V) (n c:bM) (K:V→Tn→Prop):WE A Pr env h (.make k zero n c) K=cd (intOf (bq env n)) fun a=>cd (intOf (bq env c)) fun b=>rA (0≤a∧a≤b∧b≤aT) (K (.own h.ar.length 0 0 a.toNat) { push:=[⟨0,k,cn a.toNat zero⟩],base:=h.ar.length }):=by
 rw[bR rfl]
 apply propext
 unfold ev
 constructor
 .rintro ⟨⟨v,t⟩,h1,hk⟩
  simp only[evalOp]at h1
  split at h1
  .rename_i a b ha hb
   split at h1
   .rename_i hc
    cases h1
    exact⟨a,ha,b,hb,hc,hk⟩
   .cases h1
  .cases h1
 .rintro ⟨a,ha,b,hb,hc,hk⟩
  exact⟨(_,_),by simp only[evalOp,ha,hb]; rw[if_pos hc],hk⟩
@[go_sem] theorem MM (b:Nat):lI b []=[]:=rfl
@[go_sem] theorem IM (b:Nat) (d:Option Nat) (q:eb) (g:Option (Nat×Bool)) (un:List Nat) (r:List (aE×List Nat)):lI b ((⟨d,q,g⟩,un)::r)=(⟨d,uy b q,g⟩,un)::lI b r:=rfl
def BH:Nat→List aL
 |0=>[]
 |n+1=>⟨0,0,.inl []⟩::BH n
@[go_sem] theorem IN:BH 0=[]:=rfl
@[go_sem] theorem IP (n:Nat):BH (n+1)=⟨0,0,.inl []⟩::BH n:=rfl
attribute [go_sem] uy
@[go_sem] theorem Pc (env:List (Nat×V)) (h:af) (K:V→Tn→Prop):WE A Pr env h .rq K=K (.map h.mp.length) { pR:=true }:=WE.uniq (n:=0) rfl
def mapOf (h:af):V→Option (List (PV×PV))
 |.ej=>some []
 |.map id=>h.mp[id]?
 |_=>none
def IQ:V→Tn
 |.map id=>{ rm:=some id }
 |_=>{}
@[go_sem] theorem Pd (id:Nat):IQ (.map id)={ rm:=some id }:=rfl
@[go_sem] theorem MN:IQ .ej={}:=rfl
@[go_sem] theorem IS (h:af):mapOf h .ej=some []:=rfl
@[go_sem] theorem MO (h:af) (id:Nat):mapOf h (.map id)=h.mp[id]?:=rfl
def wL (zero:V) (ok:Bool) (r:Option (Nat×PV)):V:=
 if ok then .dH [match r with|some (_,p)=>.pv p|none=>zero,.pv (.bool r.isSome)] else match r with|some (_,p)=>.pv p|none=>zero
@[go_sem] theorem RY (env:List (Nat×V)) (h:af) (ag:Bool) (ks:List Nat) (zero:V) (x i:bM) (ok:Bool) (K:V→Tn→Prop):WE A Pr env h (.look ag ks zero x i ok) K=cd (keyOf ag (bq env i)) fun k=>cd (mapOf h (bq env x)) fun m=>cd (findKey ag ks k m 0) fun r=>K (wL zero ok r) (IQ (bq env x)):=by
 rw[bR rfl]
 apply propext
 unfold ev
 constructor
 .rintro ⟨⟨v,t⟩,h1,hk⟩
  simp only[evalOp]at h1
  split at h1
  .cases h1
  .rename_i k hk'
   split at h1
   .cases h1
   .rename_i m hm
    split at h1
    .cases h1
    .rename_i r hr
     cases h1
     refine⟨k,hk',m,?_,r,hr,hk⟩
     cases hx:bq env x<;>simp only[hx]at hm<;>first|exact hm|cases hm
 .rintro ⟨k,hk',m,hm,r,hr,hk⟩
  refine⟨(_,_),?_,hk⟩
  simp only[evalOp,hk']
  cases hx:bq env x<;>simp only[hx,mapOf]at hm<;>first|(cases hm; done)|skip
  .simp only[hm,hr]
   rfl
  .cases hm
   simp only[hr]
   rfl
def Ej (ag:Bool) (ks:List Nat) (q p:PV) (id:Nat) (l:List (PV×PV)):Option Tn:=
 match findKey ag ks q l 0 with
 |some (some (i,_))=>some { mp:=some (id,l.set i (q,p)) }
 |some none=>some { mp:=some (id,l++[(q,p)]) }
 |none=>none
def Ek:V→Option Nat
 |.map id=>some id
 |_=>none
@[go_sem] theorem MP (id:Nat):Ek (.map id)=some id:=rfl
@[go_sem] theorem S6 (env:List (Nat×V)) (h:af) (ag:Bool) (ks:List Nat) (m k v:bM) (K:V→Tn→Prop):WE A Pr env h (.FJ ag ks m k v) K=cd (Ek (bq env m)) fun id=>cd (keyOf ag (bq env k)) fun q=>cd (bq env v).bN fun p=>cd h.mp[id]? fun l=>cd (Ej ag ks q p id l) fun t=>K .any t:=by
 rw[bR rfl]
 apply propext
 unfold ev
 constructor
 .rintro ⟨⟨v,t⟩,h1,hk⟩
  simp only[evalOp]at h1
  split at h1
  .rename_i id q p h2 h3 h4
   split at h1
   .rename_i l hl
    refine⟨id,by rw[h2]; rfl,q,h3,p,h4,l,hl,?_⟩
    simp only[Ej]
    split at h1
    .rename_i hf
     cases h1
     exact⟨_,by rw[hf],hk⟩
    .rename_i hf
     cases h1
     exact⟨_,by rw[hf],hk⟩
    .cases h1
   .cases h1
  .cases h1
 .rintro ⟨id,h2,q,h3,p,h4,l,hl,t,ht,hk⟩
  refine⟨(_,t),?_,hk⟩
  have h2':bq env m=.map id:=by
   cases hx:bq env m<;>simp only[hx,Ek]at h2<;>first|(cases h2; rfl)|cases h2
  simp only[evalOp,h2',h3,h4,hl]
  simp only[Ej]at ht
  split at ht
  .rename_i hf
   cases ht
   rw[hf]
  .rename_i hf
   cases ht
   rw[hf]
  .cases ht
@[go_sem] theorem RZ (env:List (Nat×V)) (h:af) (f:Nat) (cap:List bM) (K:V→Tn→Prop):WE A Pr env h (.FK f cap) K=K (.func f (cap.map (bq env))) {}:=WE.uniq (n:=0) rfl
def IT (i:Nat):V→Option V
 |.dH vs=>vs[i]?
 |_=>none
@[go_sem] theorem Pe (i:Nat) (vs:List V):IT i (.dH vs)=vs[i]?:=rfl
@[go_sem] theorem S7 (env:List (Nat×V)) (h:af) (x:bM) (i:Nat) (K:V→Tn→Prop):WE A Pr env h (.ext x i) K=cd (IT i (bq env x)) fun v=>K v {}:=by
 rw[bR rfl,← gE _ (fun v=>(v,({}:Tn))) (fun r=>K r.1 r.2)]
 congr 1
 simp only[ev,evalOp]
 cases bq env x<;>simp only[IT]<;>first|rfl|skip
 split<;>rename_i hh<;>rw[hh]<;>rfl
def kP (isMax:Bool):List V→Option V
 |.pv (.int k a)::r=>match iw isMax a r with
  |some n=>some (.pv (.int k n))
  |none=>none
 |_=>none
@[go_sem] theorem MQ (env:List (Nat×V)) (h:af) (isMax:Bool) (args:List bM) (K:V→Tn→Prop):WE A Pr env h (.lh isMax args) K=cd (kP isMax (args.map (bq env))) fun v=>K v {}:=by
 rw[bR rfl,← gE _ (fun v=>(v,({}:Tn))) (fun r=>K r.1 r.2)]
 congr 1
 simp only[ev,evalOp]
 cases args.map (bq env)with
 |nil=>rfl
 |cons x r=>
  cases x with
  |pv p=>
   cases p with
   |int k a=>
    simp only[kP]
    cases iw isMax a r<;>rfl
   |_=>rfl
  |_=>rfl
@[go_sem] theorem HA (k j:IntKind) (a b:Int):kP true [.pv (.int k a),.pv (.int j b)]=some (.pv (.int k (max a b))):=by
 simp only[kP,iw]
 congr 3
 simp only[if_true]
 split<;>omega
@[go_sem] theorem Gs (k j:IntKind) (a b:Int):kP false [.pv (.int k a),.pv (.int j b)]=some (.pv (.int k (min a b))):=by
 simp only[kP,iw]
 congr 3
 simp only[Bool.false_eq_true,if_false]
 split<;>omega
def IU (h:af) (k:Nat) (zero:List V):V→Option (V×Tn)
 |.pv (.aa _ [])=>some (.dH [],{})
 |.tl []=>some (.dH [],{})
 |.own id aq off len=>match aF h id aq,aA V.bN zero with
  |some a,some z=>match a.body with
   |.inl rows=>if a.k=k∧off+len≤rows.length then
     some (.dH [],{ ar:=some (id,⟨aq,k,.inl (rows.take off++List.replicate len z++rows.drop (off+len))⟩) }) else none
   |.inr _=>none
  |_,_=>none
 |_=>none
@[go_sem] theorem S8 (env:List (Nat×V)) (h:af) (k:Nat) (zero:List V) (x:bM) (K:V→Tn→Prop):WE A Pr env h (.H4 k zero x) K=cd (IU h k zero (bq env x)) fun r=>K r.1 r.2:=by
 rw[bR rfl]
 rfl
@[go_sem] theorem HB:kP true []=none:=rfl
end Go.Pv
namespace Go.Pv
variable {A:Nat→Option ae} {Pr:br}
@[go_sem] theorem S9 (c:Bool) (X Y:Prop):Br (!c) X Y=Br c Y X:=by cases c<;>simp[Br]
theorem wrap_i64 {x:Int} (h1: -9223372036854775808≤x) (h2:x≤9223372036854775807):IntKind.wrap .i64 x=x:=by
 show (if (true&&decide (x%(2^64:Int)≥(2^63:Int)))=true then x%(2^64:Int) - (2^64:Int) else x%(2^64:Int))=x
 simp only[Bool.true_and,decide_eq_true_eq,Int.reducePow]
 by_cases h:x%18446744073709551616≥9223372036854775808
 .rw[if_pos h]; omega
 .rw[if_neg h]; omega
attribute [go_sem] wrap_i64
theorem wrap_u8 {x:Int} (h1:0≤x) (h2:x≤255):IntKind.wrap .u8 x=x:=by
 show (if (false&&decide (x%(2^8:Int)≥(2^7:Int)))=true then x%(2^8:Int) - (2^8:Int) else x%(2^8:Int))=x
 simp only[Bool.false_and,Bool.false_eq_true,if_false,Int.reducePow]
 omega
theorem rQ {α:Type} [DecidableEq α] (a b:α):(a==b)=decide (a=b):=by
 by_cases h:a=b<;>simp[h]
@[go_sem] theorem Pf (k:IntKind) (a b:Int):cN .add (.pv (.int k a)) (.pv (.int k b))=some (.pv (.int k (k.wrap (a+b)))):=by simp[cN,ff]
@[go_sem] theorem Pg (k:IntKind) (a b:Int):cN .sub (.pv (.int k a)) (.pv (.int k b))=some (.pv (.int k (k.wrap (a - b)))):=by simp[cN,ff]
@[go_sem] theorem Ph (k:IntKind) (a b:Int):cN .mul (.pv (.int k a)) (.pv (.int k b))=some (.pv (.int k (k.wrap (a*b)))):=by simp[cN,ff]
theorem yB {k:IntKind} {a b:Int} (h:b≠0):cN .quo (.pv (.int k a)) (.pv (.int k b))=some (.pv (.int k (k.wrap (a.tdiv b)))):=by simp[cN,ff,h]
theorem yC {k:IntKind} {a b:Int} (h:b≠0):cN .rem (.pv (.int k a)) (.pv (.int k b))=some (.pv (.int k (a.tmod b))):=by simp[cN,ff,h]
@[go_sem] theorem Pj (k:IntKind) (a b:Int):cN .eql (.pv (.int k a)) (.pv (.int k b))=some (.pv (.bool (decide (a=b)))):=by simp[cN,ff,rQ]
@[go_sem] theorem Pk (k:IntKind) (a b:Int):cN .neq (.pv (.int k a)) (.pv (.int k b))=some (.pv (.bool (!decide (a=b)))):=by simp[cN,ff,bne,rQ]
@[go_sem] theorem Pl (k:IntKind) (a b:Int):cN .lss (.pv (.int k a)) (.pv (.int k b))=some (.pv (.bool (decide (a<b)))):=by simp[cN,ff]
@[go_sem] theorem Pm (k:IntKind) (a b:Int):cN .leq (.pv (.int k a)) (.pv (.int k b))=some (.pv (.bool (decide (a≤b)))):=by simp[cN,ff]
@[go_sem] theorem Pn (k:IntKind) (a b:Int):cN .gtr (.pv (.int k a)) (.pv (.int k b))=some (.pv (.bool (decide (b<a)))):=by simp[cN,ff]
@[go_sem] theorem Po (k:IntKind) (a b:Int):cN .geq (.pv (.int k a)) (.pv (.int k b))=some (.pv (.bool (decide (b≤a)))):=by simp[cN,ff]
theorem oX {a b:ByteArray}:(a.toList==b.toList)=decide (a=b):=by
 by_cases h:a=b
 .subst h; simp
 .have:¬a.toList=b.toList:=fun hh=>h (ByteArray.ext (by
   have e:∀x:ByteArray,x.toList=x.data.toList:=fun x=>by
    rw[ByteArray.toList_eq]
   rw[e,e]at hh
   exact Array.toList_inj.1 hh))
  simp[h,this]
@[go_sem] theorem MR (a b:ByteArray):cN .eql (.pv (.str a)) (.pv (.str b))=some (.pv (.bool (decide (a=b)))):=by simp only[cN,lE,Option.map_some,oX]
@[go_sem] theorem MS (a b:ByteArray):cN .neq (.pv (.str a)) (.pv (.str b))=some (.pv (.bool (!decide (a=b)))):=by simp only[cN,lE,Option.map_some,oX]
@[go_sem] theorem R0 (k:IntKind) (n:Int):Mn .neg (.pv (.int k n))=some (.pv (.int k (k.wrap (0 - n)))):=rfl
@[go_sem] theorem R1 (b:Bool):Mn .not (.pv (.bool b))=some (.pv (.bool !b)):=rfl
@[go_sem] theorem intOf_int (k:IntKind) (n:Int):intOf (.pv (.int k n))=some n:=rfl
@[go_sem] theorem wM {x:Int} {n:Nat} (h0:0≤x) (h1:x<n):cF (some x) n=some x.toNat:=by simp[cF,h0,h1]
@[go_sem] theorem R2 {a b:Int} {X:Prop} (h0:0≤a) (h1:a≤b) (h2:b≤2147483648):rA (0≤a∧a≤b∧b≤aT) X=X:=by
 unfold rA aT
 apply propext
 constructor
 .exact fun h=>h.2
 .exact fun h=>⟨⟨h0,h1,h2⟩,h⟩
theorem vi {α β:Type} {f:α→Option β}:∀{l:List α} {r:List β},aA f l=some r→r.length=l.length
 |[],r,h=>by cases h; rfl
 |x::l,r,h=>by
  simp only[aA]at h
  split at h
  .rename_i y l' h1 h2
   cases h
   simp[vi h2]
  .cases h
@[go_sem] theorem Pp (p:PV):V.cells (.pv p)=[.pv p]:=rfl
@[go_sem] theorem Pq (r:List (List PV)):V.cells (.tl r)=[.tl r]:=rfl
@[go_sem] theorem MT (a b c d:Nat):V.cells (.own a b c d)=[.own a b c d]:=rfl
@[go_sem] theorem MU (cs:List V):V.cells (.agg cs)=cs:=rfl
@[go_sem] theorem MV (i:Nat):V.cells (.map i)=[.map i]:=rfl
@[go_sem] theorem IV:V.cells .ej=[.ej]:=rfl
@[go_sem] theorem IX (f:Nat) (c:List V):V.cells (.func f c)=[.func f c]:=rfl
@[go_sem] theorem MW (a b:Nat):V.cells (.ptr a b)=[.ptr a b]:=rfl
@[go_sem] theorem IY (a b c d:Nat):V.cells (.df a b c d)=[.df a b c d]:=rfl
@[go_sem] theorem MX (b:Bool):V.calm (.pv (.bool b))=true:=rfl
@[go_sem] theorem Ps (k:IntKind) (n:Int):V.calm (.pv (.int k n))=true:=rfl
@[go_sem] theorem Pt (s:ByteArray):V.calm (.pv (.str s))=true:=rfl
@[go_sem] theorem Pu (t:Nat) (r:List (List PV)):V.calm (.pv (.aa t r))=true:=rfl
@[go_sem] theorem MY:V.calm (.pv .oj)=true:=rfl
@[go_sem] theorem MZ:V.calm (.pv .rF)=true:=rfl
@[go_sem] theorem IZ (f:Nat) (c:List PV):V.calm (.pv (.func f c))=c.isEmpty:=rfl
@[go_sem] theorem R3 (r:List (List PV)):V.calm (.tl r)=true:=rfl
@[go_sem] theorem Pw (a b c d:Nat):V.calm (.own a b c d)=true:=rfl
@[go_sem] theorem M0 (f:Nat) (c:List V):V.calm (.func f c)=c.isEmpty:=rfl
@[go_sem] theorem Px (i:Nat):V.calm (.map i)=false:=rfl
@[go_sem] theorem M1:V.calm .ej=false:=rfl
@[go_sem] theorem Py (a b:Nat):V.calm (.ptr a b)=false:=rfl
def El:V→Bool
 |.ptr s _=>dS s
 |.map _|.ej=>true
 |_=>false
@[go_sem] theorem Pz (s o:Nat):El (.ptr s o)=dS s:=rfl
@[go_sem] theorem PA (i:Nat):El (.map i)=true:=rfl
@[go_sem] theorem M3:El .ej=true:=rfl
@[go_sem] theorem PB (v:V):V.dT v=(V.calm v||El v):=by cases v<;>simp[V.dT,V.calm,El]
@[go_sem] theorem I0 (b:Bool):V.sized (.pv (.bool b))=true:=rfl
@[go_sem] theorem M4 (k:IntKind) (n:Int):V.sized (.pv (.int k n))=true:=rfl
@[go_sem] theorem M5 (s:ByteArray):V.sized (.pv (.str s))=true:=rfl
@[go_sem] theorem M6 (t:Nat) (r:List (List PV)):V.sized (.pv (.aa t r))=true:=rfl
@[go_sem] theorem I1:V.sized (.pv .oj)=true:=rfl
@[go_sem] theorem PC (r:List (List PV)):V.sized (.tl r)=true:=rfl
@[go_sem] theorem M7 (a b c d:Nat):V.sized (.own a b c d)=true:=rfl
@[go_sem] theorem M8 (cs:List V):V.sized (.agg cs)=true:=rfl
@[go_sem] theorem I2:V.sized .ej=true:=rfl
@[go_sem] theorem M9 (i:Nat):V.sized (.map i)=true:=rfl
@[go_sem] theorem I3 (f:Nat) (c:List V):V.sized (.func f c)=true:=rfl
@[go_sem] theorem PD {α:Type} (off n:Nat) (l:List α):takeN off n l=if off+n≤l.length then some ((l.drop off).take n) else none:=rfl
@[go_sem] theorem HC (cs:List V):ey true cs=some (.agg cs):=rfl
@[go_sem] theorem I4 (v:V):ey false [v]=some v:=rfl
@[go_sem] theorem PE {α:Type} (l:List α) (off:Nat) (n:List α):setAt l off n=l.take off++n++l.drop (off+n.length):=rfl
@[go_sem] theorem Na (g:bM→V) (cells:List V):eM g cells []=some cells:=rfl
@[go_sem] theorem I5 (g:bM→V) (cells:List V) (off n:Nat) (x:bM) (r:List (Nat×Nat×bM)):eM g cells ((off,n,x)::r)=if (g x).sized=true∧(g x).cells.length=n∧off+n≤cells.length then eM g (setAt cells off (g x).cells) r else none:=rfl
@[go_sem] theorem Nb (h:af) (n t:Nat) (cs:List PV):loadAt h n (.pv (.ro t cs))=(takeN 0 n cs).bind fun l=>some (l.map .pv,{}):=by
 simp only[loadAt]
 cases takeN 0 n cs<;>rfl
@[go_sem] theorem I6 (h:af) (n slot off:Nat):loadAt h n (.ptr slot off)=(aG slot h.bx).bind fun cs=>(takeN off n cs).bind fun l=>some (l,{ rb:=some slot }):=by
 simp only[loadAt]
 cases aG slot h.bx with
 |none=>rfl
 |some cs=>
  simp only[Option.bind_some]
  cases takeN off n cs<;>rfl
def kQ (row:Nat):Sum (List (List PV)) (List (List V))→Option (List V)
 |.inl x=>x[row]?.map (·.map .pv)
 |.inr x=>x[row]?
@[go_sem] theorem HD (row:Nat) (x:List (List PV)):kQ row (.inl x)=x[row]?.map (·.map .pv):=rfl
@[go_sem] theorem HE (row:Nat) (x:List (List V)):kQ row (.inr x)=x[row]?:=rfl
@[go_sem] theorem HF (h:af) (n id aq row col:Nat):loadAt h n (.df id aq row col)=(aF h id aq).bind fun a=>(kQ row a.body).bind fun r=>(takeN col n r).bind fun l=>some (l,{ ra:=some id }):=by
 simp only[loadAt]
 cases aF h id aq with
 |none=>rfl
 |some a=>
  simp only[Option.bind_some]
  cases a.body with
  |inl x=>
   simp only[kQ]
   cases x[row]? with
   |none=>rfl
   |some r=>
    simp only[Option.map_some,Option.bind_some,takeN,List.length_map]
    by_cases hc:col+n≤r.length<;>simp[hc]
  |inr x=>
   simp only[kQ]
   cases x[row]? with
   |none=>rfl
   |some r=>
    simp only[Option.bind_some]
    cases takeN col n r<;>rfl
@[go_sem] theorem HG (h:af) (slot off:Nat) (news:List V):storeAt h (.ptr slot off) news=(aG slot h.bx).bind fun cs=>if off+news.length≤cs.length∧news.all V.dT then some { bx:=some (slot,setAt cs off news) } else none:=by
 simp only[storeAt]
 cases aG slot h.bx<;>rfl
def dC (id row col:Nat) (news:List V) (a:aL):Option Tn:=
 if row<a.size∧col+news.length≤a.k∧news.all V.calm then some { ar:=some (id,{ a with body:=setBody row col news a.body }) } else none
@[go_sem] theorem Gt (h:af) (id aq row col:Nat) (news:List V):storeAt h (.df id aq row col) news=(aF h id aq).bind (dC id row col news):=by
 simp only[storeAt]
 cases aF h id aq<;>rfl
def over (row c:Nat) (news:List PV) (x:List (List PV)):List (List PV):=x.set row ((x.getD row []).take c++news++(x.getD row []).drop (c+news.length))
theorem iD {id row col aq k:Nat} {news:List V} {rows:List (List PV)} {l:List PV} (h1:row<rows.length) (h2:aA V.bN news=some l) (h3:col+news.length≤k) (h4:news.all V.calm=true):
  dC id row col news ⟨aq,k,.inl rows⟩=some { ar:=some (id,⟨aq,k,.inl (over row col l rows)⟩) }:=by
 have hl:l.length=news.length:=vi h2
 have:row<(⟨aq,k,.inl rows⟩:aL).size:=h1
 simp only[dC,this,h3,h4,true_and,if_true,setBody,h2,over,hl]
theorem oY {id row aq:Nat} {p:PV} {rows:List (List PV)} (h1:row<rows.length) (h2:p.perm=true) (h3:rows[row]?=none∨∃q,rows[row]?=some [q]) (h4:(V.pv p).calm=true):
  dC id row 0 [.pv p] ⟨aq,1,.inl rows⟩=some { ar:=some (id,⟨aq,1,.inl (rows.set row [p])⟩) }:=by
 rw[iD (l:=[p]) h1 (by simp[aA,V.bN,h2]) (by simp) (by simp[h4])]
 have:rows.getD row []=[]∨∃q,rows.getD row []=[q]:=by
  rcases h3 with h|⟨q,h⟩
  .exact .inl (by simp[h])
  .exact .inr ⟨q,by simp[h]⟩
 unfold over
 rcases this with h|⟨q,h⟩<;>rw[h]<;>rfl
@[go_sem] theorem R4 (off t:Nat) (cs:List PV):r6 off (.pv (.ro t cs))=some (.pv (.ro t (cs.drop off))):=rfl
@[go_sem] theorem PF (off s o:Nat):r6 off (.ptr s o)=some (.ptr s (o+off)):=rfl
@[go_sem] theorem Nc (off i v r c:Nat):r6 off (.df i v r c)=some (.df i v r (c+off)):=rfl
@[go_sem] theorem HH (f:Nat) (cap:List V):qf (.func f cap)=some (.func f cap):=rfl
@[go_sem] theorem Gu (f:Nat) (cap:List PV):qf (.pv (.func f cap))=some (.pv (.func f cap)):=rfl
@[go_sem] theorem I7 (s o:Nat):qf (.ptr s o)=some (.ptr s o):=rfl
@[go_sem] theorem Nd (t:Nat) (cs:List PV):qf (.pv (.ro t cs))=some (.pv (.ro t cs)):=rfl
@[go_sem] theorem HI (i v r c:Nat):qf (.df i v r c)=some (.df i v r c):=rfl
@[go_sem] theorem HJ (f:Nat) (cap:List V):funcOf (.func f cap)=some (f,cap):=rfl
@[go_sem] theorem Gv (f:Nat) (cap:List PV):funcOf (.pv (.func f cap))=some (f,cap.map .pv):=rfl
@[go_sem] theorem gp (bx:List (Nat×List V)) (ar:List aL) (mp:List (List (PV×PV))) (id aq:Nat):aF ⟨bx,ar,mp⟩ id aq=(ar[id]?).bind fun a=>if a.aq=aq then some a else none:=by
 simp only[aF]
 cases ar[id]?<;>rfl
@[go_sem] theorem FO (p:PV):bD false (.pv p)=some [p]:=rfl
@[go_sem] theorem Em (cs:List V):bD true (.agg cs)=aA wo cs:=rfl
@[go_sem] theorem R5 (p:PV):wo (.pv p)=some p:=rfl
@[go_sem] theorem PG {α β:Type} (f:α→Option β):aA f []=some []:=rfl
theorem nV {α β:Type} (f:α→Option β) (x:α) (r:List α):aA f (x::r)=(f x).bind fun y=>(aA f r).bind fun l=>some (y::l):=by
 simp only[aA]
 cases f x with
 |none=>rfl
 |some y=>cases aA f r<;>rfl
attribute [go_sem] nV
@[go_sem] theorem PH (p:PV):keyOf false (.pv p)=some p:=rfl
theorem CC (cs:List V):keyOf true (.agg cs)=(aA wo cs).map .agg:=by
 simp only[keyOf,bD]
 cases aA wo cs<;>rfl
attribute [go_sem] CC
@[go_sem] theorem AB:bk [] [] []=some true:=rfl
theorem qS (k:Nat) (ks:List Nat) (a b:PV) (x y:List PV):bk (k::ks) (a::x) (b::y)=(PV.eqs k a b).bind fun p=>(bk ks x y).bind fun q=>some (p&&q):=by
 simp only[bk]
 cases PV.eqs k a b with
 |none=>rfl
 |some p=>cases bk ks x y<;>rfl
attribute [go_sem] qS
@[go_sem] theorem PI (a b:Bool):PV.eqs 0 (.bool a) (.bool b)=some (decide (a=b)):=by simp[PV.eqs,rQ]
@[go_sem] theorem R6 (k:IntKind) (a b:Int):PV.eqs 1 (.int k a) (.int k b)=some (decide (a=b)):=by simp[PV.eqs,rQ]
@[go_sem] theorem Gw (a b:ByteArray):PV.eqs 2 (.str a) (.str b)=some (decide (a=b)):=by simp only[PV.eqs,oX]
theorem Gx (ag:Bool) (ks:List Nat) (neg:Bool) (x y:V):Gq ag ks neg x y=(bD ag x).bind fun a=>(bD ag y).bind fun b=>(bk ks a b).bind fun r=>some (.pv (.bool (if neg then !r else r))):=by
 simp only[Gq]
 cases bD ag x with
 |none=>rfl
 |some a=>
  cases bD ag y with
  |none=>rfl
  |some b=>
   simp only[Option.bind_some]
   cases bk ks a b<;>rfl
attribute [go_sem] Gx
theorem oZ (k t:Nat) (rows:List (List PV)) (j:Nat):jz k t rows (some (j:Int))=(rows[j]?).bind fun r=>if r.length=k then some (.pv (.ro t r)) else none:=by
 simp only[jz,cF]
 by_cases h:j<rows.length
 .rw[if_pos ⟨by omega,by omega⟩]
  simp only[Int.toNat_natCast]
  cases rows[j]?<;>rfl
 .rw[if_neg (by omega)]
  rw[V8 (by omega)]
  rfl
theorem gQ (k t:Nat) (rows:List (List PV)) {i:Int} (h:0≤i):jz k t rows (some i)=(rows[i.toNat]?).bind fun r=>if r.length=k then some (.pv (.ro t r)) else none:=by
 obtain⟨j,rfl⟩:=W1 h
 exact oZ k t rows j
attribute [go_sem] oZ
@[go_sem] theorem PJ (h:af) (k t:Nat) (rows:List (List PV)) (i:Option Int):pS h k (.pv (.aa t rows)) i=(jz k t rows i).map fun v=>(v,{}):=rfl
@[go_sem] theorem R7 (h:af) (k:Nat) (rows:List (List PV)) (i:Option Int):pS h k (.tl rows) i=(jz k 0 rows i).map fun v=>(v,{}):=rfl
theorem En (h:af) (k id aq off len:Nat) (i:Option Int):pS h k (.own id aq off len) i=(cF i len).bind fun j=>(aF h id aq).bind fun a=>if a.k=k then some (.df id aq (off+j) 0,{ ra:=some id }) else none:=by
 simp only[pS]
 cases cF i len with
 |none=>rfl
 |some j=>cases aF h id aq<;>rfl
attribute [go_sem] En
@[go_sem] theorem PK (h:af) (t:Nat) (rows:List (List PV)):fY h 0 (.pv (.aa t rows))=some (rows.length,{}):=rfl
@[go_sem] theorem R8 (h:af) (rows:List (List PV)):fY h 0 (.tl rows)=some (rows.length,{}):=rfl
@[go_sem] theorem PL (h:af) (a b c d:Nat):fY h 0 (.own a b c d)=some (d,{}):=rfl
@[go_sem] theorem PM (h:af) (s:ByteArray):fY h 1 (.pv (.str s))=some (s.size,{}):=rfl
theorem Eo (h:af) (id:Nat):fY h 2 (.map id)=(h.mp[id]?).map fun m=>(m.length,{ rm:=some id }):=by
 simp only[fY]
 cases h.mp[id]?<;>rfl
attribute [go_sem] Eo
@[go_sem] theorem Nf (h:af):fY h 2 .ej=some (0,{}):=rfl
@[go_sem] theorem Ng (cs:List PV):V.jB (.agg cs)=.agg (cs.map .pv):=rfl
@[go_sem] theorem I8 (b:Bool):V.jB (.bool b)=.pv (.bool b):=rfl
@[go_sem] theorem Nh (k:IntKind) (n:Int):V.jB (.int k n)=.pv (.int k n):=rfl
@[go_sem] theorem Ni (s:ByteArray):V.jB (.str s)=.pv (.str s):=rfl
@[go_sem] theorem Nj (t:Nat) (r:List (List PV)):V.jB (.aa t r)=.pv (.aa t r):=rfl
@[go_sem] theorem PN (t:Nat) (r:List PV):V.jB (.ro t r)=.pv (.ro t r):=rfl
@[go_sem] theorem I9 (f:Nat) (r:List PV):V.jB (.func f r)=.pv (.func f r):=rfl
@[go_sem] theorem PO (k:Nat) (r:List (List PV)):V.jB (.fr k r)=.own 0 0 0 r.length:=rfl
@[go_sem] theorem Nk (n:Nat):entry n []=[]:=rfl
@[go_sem] theorem Ja (n:Nat) (p:PV) (r:List PV):entry n (p::r)=(n,V.jB p)::entry (n+1) r:=rfl
@[go_sem] theorem FP:cK []=⟨[],[],[]⟩:=rfl
@[go_sem] theorem Gy (k:Nat) (rows:List (List PV)) (r:List PV):cK (.fr k rows::r)=⟨[],[⟨0,k,.inl rows⟩],[]⟩:=rfl
@[go_sem] theorem FQ (cs:List PV) (r:List PV):cK (.agg cs::r)=⟨[],[],[]⟩:=rfl
@[go_sem] theorem Ep (b:Bool) (r:List PV):cK (.bool b::r)=⟨[],[],[]⟩:=rfl
@[go_sem] theorem FR (k:IntKind) (n:Int) (r:List PV):cK (.int k n::r)=⟨[],[],[]⟩:=rfl
@[go_sem] theorem FT (s:ByteArray) (r:List PV):cK (.str s::r)=⟨[],[],[]⟩:=rfl
@[go_sem] theorem FU (t:Nat) (rows:List (List PV)) (r:List PV):cK (.aa t rows::r)=⟨[],[],[]⟩:=rfl
@[go_sem] theorem Gz (t:Nat) (rows:List PV) (r:List PV):cK (.ro t rows::r)=⟨[],[],[]⟩:=rfl
@[go_sem] theorem Er (t:Nat) (rows:List PV) (r:List PV):cK (.func t rows::r)=⟨[],[],[]⟩:=rfl
@[go_sem] theorem GA (s:St) (t:Nat):c9 s (.tmp t)=some (get s.env t):=rfl
theorem uF (s:St) (t n:Nat) (b:Bool):c9 s (.cell t n b)=(loadAt s.h n (get s.env t)).bind fun r=>ey b r.1:=by
 simp only[c9]
 cases loadAt s.h n (get s.env t)<;>rfl
attribute [go_sem] uF
@[go_sem] theorem GB (s:St) (rs:List oo):jS s rs false=(aA (c9 s) rs).bind fun vs=>aA (bO s.h false) vs:=by
 simp[jS]
theorem yD (s:St) (rs:List oo):jS s rs true=(aA (c9 s) rs).bind fun vs=>if distinct (eo vs) then aA (bO s.h true) vs else none:=by
 simp[jS]
attribute [go_sem] yD
@[go_sem] theorem PQ (h:af) (cs:List V):bO h false (.agg cs)=(aA (aV h 4) cs).map .agg:=by
 simp only[bO,Bool.false_eq_true,if_false]
 cases aA (aV h 4) cs<;>rfl
@[go_sem] theorem Nl (h:af) (b:Bool):bO h false (.pv (.bool b))=aV h 4 (.pv (.bool b)):=rfl
@[go_sem] theorem PR (h:af) (k:IntKind) (n:Int):bO h false (.pv (.int k n))=aV h 4 (.pv (.int k n)):=rfl
@[go_sem] theorem PS (h:af) (s:ByteArray):bO h false (.pv (.str s))=aV h 4 (.pv (.str s)):=rfl
@[go_sem] theorem Nn (h:af):bO h false (.pv (.oj))=aV h 4 (.pv (.oj)):=rfl
@[go_sem] theorem No (h:af):bO h false (.pv (.rF))=aV h 4 (.pv (.rF)):=rfl
@[go_sem] theorem PT (h:af) (t:Nat) (rows:List (List PV)):bO h false (.pv (.aa t rows))=aV h 4 (.pv (.aa t rows)):=rfl
@[go_sem] theorem Jb (h:af) (f:Nat) (cap:List PV):bO h false (.pv (.func f cap))=aV h 4 (.pv (.func f cap)):=rfl
@[go_sem] theorem Np (h:af) (cs:List PV):bO h false (.pv (.agg cs))=aV h 4 (.pv (.agg cs)):=rfl
@[go_sem] theorem R9 (h:af) (r:List (List PV)):bO h false (.tl r)=aV h 4 (.tl r):=rfl
@[go_sem] theorem PU (h:af) (a b c d:Nat):bO h false (.own a b c d)=aV h 4 (.own a b c d):=rfl
@[go_sem] theorem Nq (h:af) (a:Nat) (c:List V):bO h false (.func a c)=aV h 4 (.func a c):=rfl
@[go_sem] theorem sW (h:af) (d:Nat) (p:PV):aV h d (.pv p)=if p.perm then some p else none:=by cases d<;>rfl
@[go_sem] theorem PW (h:af) (d:Nat) (r:List (List PV)):aV h d (.tl r)=some (.aa 0 r):=by cases d<;>rfl
@[go_sem] theorem Nr (b:Bool):PV.perm (.bool b)=true:=rfl
@[go_sem] theorem PX (k:IntKind) (n:Int):PV.perm (.int k n)=true:=rfl
@[go_sem] theorem PY (s:ByteArray):PV.perm (.str s)=true:=rfl
@[go_sem] theorem Ns:PV.perm .oj=true:=rfl
@[go_sem] theorem PZ (t:Nat) (r:List (List PV)):PV.perm (.aa t r)=(t==0):=rfl
@[go_sem] theorem HK (off len:Nat) (x:List (List PV)):aI off len (.inl x)=.inl ((x.drop off).take len):=rfl
@[go_sem] theorem HL (off len:Nat) (x:List (List V)):aI off len (.inr x)=.inr ((x.drop off).take len):=rfl
def dD (f:V→Option PV):Sum (List (List PV)) (List (List V))→Option PV
 |.inl rows=>some (.aa 0 rows)
 |.inr rows=>(aA (aA f) rows).map (.aa 0)
@[go_sem] theorem GC (f:V→Option PV) (rows:List (List PV)):dD f (.inl rows)=some (.aa 0 rows):=rfl
@[go_sem] theorem GD (f:V→Option PV) (rows:List (List V)):dD f (.inr rows)=(aA (aA f) rows).map (.aa 0):=rfl
theorem fC (h:af) (d id aq off len:Nat):aV h (d+1) (.own id aq off len)=(aF h id aq).bind fun a=>dD (aV h d) (aI off len a.body):=by
 simp only[aV]
 cases aF h id aq with
 |none=>rfl
 |some a=>
  simp only[Option.bind_some]
  cases aI off len a.body with
  |inl r=>rfl
  |inr r=>
   simp only[dD]
   cases aA (aA (aV h d)) r<;>rfl
@[go_sem] theorem Jc (h:af) (id aq off len:Nat):aV h 4 (.own id aq off len)=(aF h id aq).bind fun a=>dD (aV h 3) (aI off len a.body):=fC h 3 id aq off len
def l8 (f:V→Option PV):Sum (List (List PV)) (List (List V))→Option PV
 |.inl rows=>some (.aa 1 rows)
 |.inr rows=>(aA (aA f) rows).map (.aa 2)
@[go_sem] theorem GF (f:V→Option PV) (rows:List (List PV)):l8 f (.inl rows)=some (.aa 1 rows):=rfl
@[go_sem] theorem GG (f:V→Option PV) (rows:List (List V)):l8 f (.inr rows)=(aA (aA f) rows).map (.aa 2):=rfl
@[go_sem] theorem FV (h:af) (vs:List V):cA h false vs=(aA (cM h) vs).bind fun l=>some (l,none):=by
 simp only[cA,Bool.false_eq_true,if_false]
 cases aA (cM h) vs<;>rfl
@[go_sem] theorem Nt (h:af) (b:Bool):cM h (.pv (.bool b))=some (.bool b):=rfl
@[go_sem] theorem P0 (h:af) (k:IntKind) (n:Int):cM h (.pv (.int k n))=some (.int k n):=rfl
@[go_sem] theorem P1 (h:af) (s:ByteArray):cM h (.pv (.str s))=some (.str s):=rfl
@[go_sem] theorem P2 (h:af) (t:Nat) (r:List (List PV)):cM h (.pv (.aa t r))=some (.aa t r):=rfl
@[go_sem] theorem Sa (h:af) (t:Nat) (r:List PV):cM h (.pv (.ro t r))=some (.ro t r):=rfl
@[go_sem] theorem Jd (h:af) (t:Nat) (r:List PV):cM h (.pv (.func t r))=some (.func t r):=rfl
@[go_sem] theorem Nu (h:af) (r:List PV):cM h (.pv (.agg r))=some (.agg r):=rfl
@[go_sem] theorem Sb (h:af) (r:List (List PV)):cM h (.tl r)=some (.aa 0 r):=rfl
@[go_sem] theorem P3 (h:af) (cs:List V):cM h (.agg cs)=(aA (bf h 4) cs).map .agg:=by
 simp only[cM]
 cases aA (bf h 4) cs<;>rfl
theorem CD (h:af) (d id aq off len:Nat):bf h (d+1) (.own id aq off len)=(aF h id aq).bind fun a=>l8 (bf h d) (aI off len a.body):=by
 simp only[bf]
 cases aF h id aq with
 |none=>rfl
 |some a=>
  simp only[Option.bind_some]
  cases aI off len a.body with
  |inl r=>rfl
  |inr r=>
   simp only[l8]
   cases aA (aA (bf h d)) r<;>rfl
@[go_sem] theorem P4 (h:af) (id aq off len:Nat):cM h (.own id aq off len)=(aF h id aq).bind fun a=>l8 (bf h 3) (aI off len a.body):=CD h 3 id aq off len
theorem vj (h:af) (d slot off:Nat):bf h (d+1) (.ptr slot off)=(aG slot h.bx).bind fun cs=>(aA (bf h d) (cs.drop off)).map (.ro 2):=by
 simp only[bf]
 cases aG slot h.bx with
 |none=>rfl
 |some cs=>
  simp only[Option.bind_some]
  cases aA (bf h d) (cs.drop off)<;>rfl
@[go_sem] theorem P5 (h:af) (slot off:Nat):cM h (.ptr slot off)=(aG slot h.bx).bind fun cs=>(aA (bf h 3) (cs.drop off)).map (.ro 2):=vj h 3 slot off
@[go_sem] theorem Je (h:af) (slot off:Nat):bf h 3 (.ptr slot off)=(aG slot h.bx).bind fun cs=>(aA (bf h 2) (cs.drop off)).map (.ro 2):=vj h 2 slot off
theorem AD (h:af) (d f:Nat) (cap:List V):bf h (d+1) (.func f cap)=(aA (bf h d) cap).map (.func f):=by
 simp only[bf]
 cases aA (bf h d) cap<;>rfl
@[go_sem] theorem Nv (h:af) (f:Nat) (cap:List V):cM h (.func f cap)=(aA (bf h 3) cap).map (.func f):=AD h 3 f cap
@[go_sem] theorem Jf (h:af) (d:Nat) (b:Bool):bf h d (.pv (.bool b))=some (.bool b):=by cases d<;>rfl
@[go_sem] theorem Nw (h:af) (d:Nat) (k:IntKind) (n:Int):bf h d (.pv (.int k n))=some (.int k n):=by cases d<;>rfl
@[go_sem] theorem Ny (h:af) (d:Nat) (s:ByteArray):bf h d (.pv (.str s))=some (.str s):=by cases d<;>rfl
@[go_sem] theorem Nz (h:af) (d t:Nat) (r:List (List PV)):bf h d (.pv (.aa t r))=some (.aa t r):=by cases d<;>rfl
@[go_sem] theorem P6 (h:af) (d:Nat) (r:List (List PV)):bf h d (.tl r)=some (.aa 0 r):=by cases d<;>rfl
def PV.still:PV→Bool
 |.fr _ _=>false
 |_=>true
@[go_sem] theorem NA (n:Nat):dw n []=([],[]):=rfl
@[go_sem] theorem P7 (n k:Nat) (rows:List (List PV)) (r:List PV):dw n (.fr k rows::r)=(.own n 0 0 rows.length::(dw (n+1) r).1,⟨0,k,.inl rows⟩::(dw (n+1) r).2):=rfl
@[go_sem] theorem Jg (n:Nat) (b:Bool) (r:List PV):dw n (.bool b::r)=(.pv (.bool b)::(dw n r).1,(dw n r).2):=rfl
@[go_sem] theorem NB (n:Nat) (k:IntKind) (i:Int) (r:List PV):dw n (.int k i::r)=(.pv (.int k i)::(dw n r).1,(dw n r).2):=rfl
@[go_sem] theorem NC (n:Nat) (s:ByteArray) (r:List PV):dw n (.str s::r)=(.pv (.str s)::(dw n r).1,(dw n r).2):=rfl
@[go_sem] theorem ND (n t:Nat) (l:List (List PV)) (r:List PV):dw n (.aa t l::r)=(.pv (.aa t l)::(dw n r).1,(dw n r).2):=rfl
@[go_sem] theorem NF (n:Nat) (cs:List PV):eU n (.agg cs)=(.agg (dw n cs).1,(dw n cs).2):=rfl
@[go_sem] theorem P8 (n k:Nat) (rows:List (List PV)):eU n (.fr k rows)=(.own n 0 0 rows.length,[⟨0,k,.inl rows⟩]):=rfl
@[go_sem] theorem Jh (n:Nat) (b:Bool):eU n (.bool b)=(.pv (.bool b),[]):=rfl
@[go_sem] theorem NG (n:Nat) (k:IntKind) (i:Int):eU n (.int k i)=(.pv (.int k i),[]):=rfl
@[go_sem] theorem NH (n:Nat) (s:ByteArray):eU n (.str s)=(.pv (.str s),[]):=rfl
@[go_sem] theorem NI (n t:Nat) (l:List (List PV)):eU n (.aa t l)=(.pv (.aa t l),[]):=rfl
@[go_sem] theorem HM (n:Nat):bF n []=([],[]):=rfl
@[go_sem] theorem GH (n:Nat) (p:PV) (r:List PV):bF n (p::r)=((eU n p).1::(bF (n+(eU n p).2.length) r).1,(eU n p).2++(bF (n+(eU n p).2.length) r).2):=rfl
@[go_sem] theorem Ji (v:V):eP [v]=v:=rfl
@[go_sem] theorem Jj (v w:V) (r:List V):eP (v::w::r)=.dH (v::w::r):=rfl
@[go_sem] theorem Jk:eP []=.dH []:=rfl
def CN (A:Nat→Option ae) (Pr:br) (t:Bool) (fn:Nat) (vs:List V) (h:af) (K:V→Tn→Prop) (_t:oT K:=.mk):Prop:=
 cd (cA h t vs) fun q=>cd (res A Pr fn q.1) fun rs=>K (eP (bF h.ar.length rs).1) { ar:=q.2,push:=(bF h.ar.length rs).2,eX:=!(vs.all V.jO),base:=if (bF h.ar.length rs).2.isEmpty then 0 else h.ar.length }
theorem yE {fn:Nat} (hi:ry A fn=false) (hp:Pr fn=none) {t:Bool} (ht:dP A fn=t) (vs:List V) (h:af) (K:V→Tn→Prop):CW A Pr fn vs h K=CN A Pr t fn vs h K:=Gg hi hp ht vs h K
@[go_sem] theorem UJ (t:Bool) (fn:Nat) (vs:List V) (h:af) (K:V→Tn→Prop):CN A Pr t fn vs h K=cd (cA h t vs) fun q=>cd (res A Pr fn q.1) fun rs=>K (eP (bF h.ar.length rs).1) { ar:=q.2,push:=(bF h.ar.length rs).2,eX:=!(vs.all V.jO),base:=if (bF h.ar.length rs).2.isEmpty then 0 else h.ar.length }:=rfl
@[go_sem] theorem Sc (p:PV):V.jO (.pv p)=true:=rfl
@[go_sem] theorem Sd (r:List (List PV)):V.jO (.tl r)=true:=rfl
@[go_sem] theorem P9 (a b c d:Nat):V.jO (.own a b c d)=false:=rfl
@[go_sem] theorem Qa (a b:Nat):V.jO (.ptr a b)=false:=rfl
@[go_sem] theorem NJ (f:Nat) (cap:List V):V.jO (.func f cap)=cap.isEmpty:=rfl
def GI:V→Bool
 |.pv _=>true
 |.tl _=>true
 |_=>false
@[go_sem] theorem Se (p:PV):GI (.pv p)=true:=rfl
@[go_sem] theorem Sf (r:List (List PV)):GI (.tl r)=true:=rfl
@[go_sem] theorem Qb (a b c d:Nat):GI (.own a b c d)=false:=rfl
@[go_sem] theorem Qc (cs:List V):V.jO (.agg cs)=cs.all GI:=by
 show (cs.all fun|.pv _=>true|.tl _=>true|_=>false)=_
 congr 1
@[go_sem] theorem NK (j:Nat) (un:List Nat) (t:Tn) (done:List Tn) (X:Prop):held (j::un) t done X=rA (((done[j]?).map fun u=>u.apart t)=some true) (held un t done X):=by
 unfold held rA ez
 simp only[List.all_cons,Bool.and_eq_true]
 apply propext
 cases done[j]? with
 |none=>simp
 |some u=>simp[and_assoc]
@[go_sem] theorem Qd (a b:Tn):a.apart b=(a.off b&&b.zQ a):=rfl
@[go_sem] theorem Sg (a b:Tn):a.zQ b=(jZ (a.bx.map (·.1)) (b.bx.map (·.1)) (·==·)&&jZ (a.bx.map (·.1)) b.rb (·==·)&&
 jZ (a.ar.map (·.1)) (b.ar.map (·.1)) (·==·)&&jZ (a.ar.map (·.1)) b.ra (·==·)&&jZ (a.ar.map (·.1)) b.nD (·==·)&&
 (a.push.isEmpty||(b.push.isEmpty&&b.gG a.base))&&a.mp.isNone&&!a.pR&&(a.all.isNone&&b.all.isNone)&&
 (!b.eX||((a.bx.isNone||a.new)&&a.ar.isNone))):=rfl
@[go_sem] theorem Ta (a b:Tn):a.off b=(jZ (a.bx.map (·.1)) (b.bx.map (·.1)) (·==·)&&jZ (a.bx.map (·.1)) b.rb (·==·)&&
 jZ (a.ar.map (·.1)) (b.ar.map (·.1)) (·==·)&&jZ (a.ar.map (·.1)) b.ra (·==·)&&jZ (a.ar.map (·.1)) b.nD (·==·)&&
 (a.push.isEmpty||(b.push.isEmpty&&b.gG a.base))&&a.mp.isNone&&!a.pR&&(a.all.isNone&&b.all.isNone)&&
 (!b.eX||(a.bx.isNone&&a.ar.isNone&&a.push.isEmpty))):=rfl
@[go_sem] theorem Tb (a:Tn) (n:Nat):a.gG n=(a.ar.all (·.1<n)&&a.ra.all (·<n)&&a.nD.all (·<n)):=rfl
@[go_sem] theorem NL {α:Type} (a b:α) (eq:α→α→Bool):jZ (some a) (some b) eq=!eq a b:=rfl
@[go_sem] theorem NM {α:Type} (p:Option α) (eq:α→α→Bool):jZ none p eq=true:=rfl
@[go_sem] theorem Jl {α:Type} (a:α) (eq:α→α→Bool):jZ (some a) none eq=true:=rfl
attribute [go_sem] Option.all_some Option.all_none
def BI (r:Option (List (List PV))) (h:af) (k len:Nat) (cs:List V):Option (V×Tn):=
 match r with
 |some rows=>some (.tl rows,{})
 |none=>if cs.all V.calm then some (.own h.ar.length 0 0 len,{ push:=[⟨0,k,.inr (fX k len cs)⟩],base:=h.ar.length }) else none
@[go_sem] theorem Jm (rows:List (List PV)) (h:af) (k len:Nat) (cs:List V):BI (some rows) h k len cs=some (.tl rows,{}):=rfl
@[go_sem] theorem Jn (h:af) (k len:Nat) (cs:List V):BI none h k len cs=if cs.all V.calm then some (.own h.ar.length 0 0 len,{ push:=[⟨0,k,.inr (fX k len cs)⟩],base:=h.ar.length }) else none:=rfl
@[go_sem] theorem NN (h:af) (k len:Nat) (cs:List V):IJ h k len cs=BI (aA (aA V.bN) (fX k len cs)) h k len cs:=by
 unfold IJ iU BI
 cases aA (aA V.bN) (fX k len cs)<;>rfl
@[go_sem] theorem NO {α:Type} (k:Nat) (l:List α):fX k 0 l=[]:=rfl
@[go_sem] theorem NP {α:Type} (k n:Nat) (l:List α):fX k (n+1) l=l.take k::fX k n (l.drop k):=rfl
@[go_sem] theorem Qe (p:PV):V.bN (.pv p)=if p.perm then some p else none:=rfl
@[go_sem] theorem Qf (r:List (List PV)):V.bN (.tl r)=none:=rfl
@[go_sem] theorem NQ (a b c d:Nat):V.bN (.own a b c d)=none:=rfl
@[go_sem] theorem Jo:V.bN .ej=none:=rfl
attribute [go_sem] List.map_cons List.map_nil List.length_cons List.length_nil List.all_cons List.all_nil Option.isNone_none Option.isNone_some Bool.and_true Bool.true_and Bool.and_false Bool.false_and Bool.or_true Bool.true_or Bool.or_false Bool.false_or Bool.not_true Bool.not_false and_self and_true true_and and_false false_and Bool.and_self
 List.drop_zero List.drop_succ_cons List.drop_nil List.take_zero List.take_succ_cons List.take_nil List.nil_append List.cons_append Wj Option.bind_some Option.bind_none Xb Option.map_none List.contains_cons List.contains_nil Nat.reduceBEq beq_self_eq_true List.isEmpty_nil List.isEmpty_cons VB VF
 decide_true decide_false Bool.false_eq_true if_true if_false VE WY Xi List.getElem?_cons_zero List.getElem?_cons_succ List.set_cons_zero List.set_cons_succ List.map_drop WK beq_true beq_false List.getElem?_nil
attribute [go_sem] Nat.reduceAdd Nat.reduceSub Nat.reduceMul Nat.reduceDiv Nat.reduceMod Nat.reduceLeDiff Nat.reduceEqDiff Nat.reduceLT Int.reduceAdd Int.reduceSub Int.reduceMul Int.reduceNeg Int.reduceLT Int.reduceLE Int.reduceEq Int.reduceToNat Int.toNat_natCast Int.toNat_zero Int.toNat_one
attribute [go_sem] List.range_succ List.range_zero List.range_eq_range' List.range'_succ List.range'_zero List.getD_cons_zero List.getD_cons_succ
attribute [go_sem ↓] reduceIte
end Go.Pv
namespace Go.Pv
open Go.Sort
variable {P:Program} {N:Nat→Nat} {W:Nat→Prop} {L:Lx} {e:bn} {h:af} {w:World}
def qg:PV→Bool
 |.bool _|.int _ _|.str _=>true
 |_=>false
def sv:PV→Value
 |.bool b=>.bool b
 |.int k n=>.int k n
 |.str s=>.string s
 |_=>undef
theorem yF {p:PV} (hp:qg p=true):dL N L w p (sv p):=by
 cases p<;>simp[qg]at hp
 .exact .bool _
 .exact .int _ _
 .exact .str _
theorem GJ {p:PV} {v:Value} (hp:qg p=true) (h:dL N L w p v):v=sv p:=by
 cases h<;>simp[qg]at hp<;>rfl
theorem vk {p:PV} (hp:qg p=true):(V.pv p).calm=true∧p.perm=true:=by
 cases p<;>simp[qg]at hp<;>exact⟨rfl,rfl⟩
theorem wN {i j k n:Nat} (hi:i<n) (hj:j<k):i*k+j<n*k:=by
 have:=VL k (show i+1≤n from hi)
 rw[VZ,Wv]at this
 omega
theorem BJ (hr:HR N L e W h w) {id0:Nat} {a:aL} {rows:List (List PV)} {off len:Nat} (h0:h.ar[id0]?=some a) (hb:a.body=.inl rows) (hk:a.k≠0) (hol:off+len≤rows.length)
  {news:List (List PV)} (hn:news.length=len) (hnk:∀r∈news,r.length=a.k∧∀c∈r,qg c=true) (F:Array Value) (hF:F.size=len*a.k)
  (hFv:∀i j c,fx news i j=some c→F[i*a.k+j]! =sv c) (n:Nat) (os:Array Obj) (F0:Array Value) (hF0:Holds id w (e.ar id0) (e.ad id0+off*a.k) F0) (hF0s:F0.size=F.size):
  ∃e',Nx N W L e w L e' { h with ar:=h.ar.set id0 ⟨a.aq,a.k,.inl (rows.take off++news++rows.drop (off+len))⟩ } (grow (putRow id (Sort.ahead w n) (e.ar id0) (e.ad id0+off*a.k) F) os):=by
 have hid:id0<e.na:=by rw[hr.na]; exact(Vy.1 h0).1
 obtain⟨v1,v2,v3,_⟩:=hr.aq id0 a h0
 have hak:e.ak id0≠0:=by rw[v2]; exact hk
 have hown:=hr.nF id0 hid hak
 have hlt:=hr.ir hid hak
 obtain⟨c1,c2,c3,c4,c5⟩:=hr.ar id0 a h0 hk
 have hsz:a.size=rows.length:=by simp[aL.size,hb]
 have hrw:a.rows=rows.map (·.map .pv):=by simp[aL.rows,hb]
 have hlen:(rows.take off++news++rows.drop (off+len)).length=rows.length:=by
  simp only[List.length_append,List.length_take,List.length_drop,hn]
  omega
 have hbig:(putRow id (Sort.ahead w n) (e.ar id0) (e.ad id0+off*a.k) F).heap.size=w.heap.size:=by simp[putRow,mapBlock,Sort.ahead]
 have hother:∀g,g<w.heap.size→g≠e.ar id0→(grow (putRow id (Sort.ahead w n) (e.ar id0) (e.ad id0+off*a.k) F) os).heap[g]?=w.heap[g]?:=by
  intro g hg hne
  rw[heap_grow_old _ _ (by rw[hbig]; exact hg)]
  simp only[putRow,mapBlock,Sort.ahead,Array.getElem?_modify]
  rw[if_neg (Ne.symm hne)]
 have hcell:∀o,(grow (putRow id (Sort.ahead w n) (e.ar id0) (e.ad id0+off*a.k) F) os).cell? ⟨e.ar id0,o,none⟩=(putRow id (Sort.ahead w n) (e.ar id0) (e.ad id0+off*a.k) F).cell? ⟨e.ar id0,o,none⟩:=
  fun o=>cell?_grow _ _ _ (by rw[hbig]; exact hlt)
 refine⟨_,Nx.pW hr (b:=e.ar id0) (d:=e.ad id0) (c:=e.cap id0) ⟨a.aq,a.k,.inl (rows.take off++news++rows.drop (off+len))⟩ h0 hk hother (by simp[hbig]) ?_ (.inr ⟨rfl,rfl,rfl,rfl,rfl,by rw[hsz]; exact hlen⟩) (.inl rfl) hk (by
  show (rows.take off++news++rows.drop (off+len)).length≤_
  rw[hlen,← hsz]; exact c1) ?_ ?_ ?_ ?_⟩
 .refine⟨rfl,rfl,rfl,by simp[hbig],fun g hg hw=>hother g hg (fun he=>hw (he ▸ hown.1)),?_⟩
  show w.drawn≤w.drawn+n
  omega
 .obtain⟨arr,ty,h1,h2⟩:=c2.out
  refine⟨putCells id (e.ad id0+off*a.k) F arr,ty,?_,by simpa [putCells]using h2⟩
  rw[heap_grow_old _ _ (by rw[hbig]; exact hlt)]
  simp only[putRow,mapBlock,Sort.ahead,Array.getElem?_modify,if_true,h1]
  rfl
 .intro r hr'
  simp only[aL.rows]at hr'
  obtain⟨q,hq,rfl⟩:=VP.1 hr'
  simp only[List.length_map]
  rcases Wm.1 hq with hq|hq
  .rcases Wm.1 hq with hq|hq
   .have:=c3 (q.map .pv) (by rw[hrw]; exact VP.2 ⟨q,WL hq,rfl⟩)
    simpa using this
   .exact(hnk q hq).1
  .have:=c3 (q.map .pv) (by rw[hrw]; exact VP.2 ⟨q,W8 hq,rfl⟩)
   simpa using this
 .intro i r hi j x hj
  simp only[aL.rows]at hi
  rw[VF]at hi
  obtain⟨q,hq,rfl⟩:=Wf.1 hi
  obtain⟨p,hp,rfl⟩:=dA hj
  rw[hcell]
  have gG:∀i',rows[i']?=some q→(i'<off∨off+len≤i')→i'=i→(V.pv p).calm=true∧∃v,(putRow id (Sort.ahead w n) (e.ar id0) (e.ad id0+off*a.k) F).cell? ⟨e.ar id0,e.ad id0+i*a.k+j,none⟩=some v∧VR N L e w (.pv p) v:=by
   rintro i' hq' hor rfl
   have hrow:a.rows[i']?=some (q.map .pv):=by rw[hrw,VF,hq']; rfl
   obtain⟨g1,v,g2,g3⟩:=c4 i' _ hrow j (.pv p) (by rw[VF,hp]; rfl)
   refine⟨g1,v,?_,g3⟩
   have hjk:j<a.k:=by
    have h1:=c3 (q.map .pv) (Vz hrow)
    have h2:=(Vy.1 hp).1
    simp at h1
    omega
   rw[cell?_putRow_other id _ _ _ _ _ (.inr ?_)]
   .exact g2
   .rw[hF]
    show e.ad id0+i'*a.k+j<_∨_≤e.ad id0+i'*a.k+j
    rcases hor with hlt'|hge
    .left
     have:=wN (k:=a.k) hlt' hjk
     omega
    .right
     have:=VL a.k hge
     rw[VZ]at this
     omega
  rcases VG i off with h1|h1
  .refine gG i ?_ (.inl h1) rfl
   rw[VO,VC (by rw[VH]; omega),VN,if_pos h1]at hq
   exact hq
  .rcases VG i (off+len)with h2|h2
   .have htl:(rows.take off).length=off:=by rw[VH]; omega
    rw[List.getElem?_append_left (by simp only[List.length_append,htl,hn]; omega),List.getElem?_append_right (by rw[htl]; exact h1),htl]at hq
    have hmem:=hnk q (Vz hq)
    have hpm:=hmem.2 p (Vz hp)
    have hjk:j<a.k:=by rw[← hmem.1]; exact(Vy.1 hp).1
    refine⟨(vk hpm).1,sv p,?_,.pv _ _ (yF hpm)⟩
    have hf:=hFv (i - off) j p (by simp[fx,hq,hp])
    have hlt2:=wN (k:=a.k) (show i - off<len by omega) hjk
    have hadd:i*a.k=off*a.k+(i - off)*a.k:=by rw[← VZ]; congr 1; omega
    have:=cell?_putRow id (Sort.ahead w n) (e.ar id0) (e.ad id0+off*a.k) F0 F (holds_ahead id w n _ _ F0 hF0) hF0s.symm ((i - off)*a.k+j) (by rw[hF]; exact hlt2)
    rw[show e.ad id0+i*a.k+j=e.ad id0+off*a.k+((i - off)*a.k+j) by omega,this,hf]
    rfl
   .refine gG i ?_ (.inr h2) rfl
    have hl2:(rows.take off++news).length=off+len:=by simp only[List.length_append,List.length_take,hn]; omega
    rw[VM (by rw[hl2]; exact h2),hl2,Wg]at hq
    rw[show off+len+(i - (off+len))=i by omega]at hq
    exact hq
 .intro r hr' c hc
  rcases Wm.1 hr' with hq|hq
  .rcases Wm.1 hq with hq|hq
   .have:=c5
    rw[hb]at this
    exact this r (WL hq) c hc
   .exact(vk ((hnk r hq).2 c hc)).2
  .have:=c5
   rw[hb]at this
   exact this r (W8 hq) c hc
theorem vo (hr:HR N L e W h w) {id0:Nat} {a:aL} {rows:List (List PV)} {off len:Nat} (h0:h.ar[id0]?=some a) (hb:a.body=.inl rows) (hk:a.k≠0) (hol:off+len≤rows.length)
  (hs:∀r∈(rows.drop off).take len,∀c∈r,qg c=true) (F:Array Value) (hF:F.size=len*a.k) (hFv:∀i j c,fx ((rows.drop off).take len) i j=some c→F[i*a.k+j]! =sv c):
  Holds id w (e.ar id0) (e.ad id0+off*a.k) F:=by
 obtain⟨c1,c2,c3,c4,c5⟩:=hr.ar id0 a h0 hk
 have hrw:a.rows=rows.map (·.map .pv):=by simp[aL.rows,hb]
 have kp:0<a.k:=Nat.pos_of_ne_zero hk
 intro t ht
 rw[hF]at ht
 have hi:t/a.k<len:=Nat.div_lt_of_lt_mul (by rw[Nat.mul_comm]; exact ht)
 have hj:t%a.k<a.k:=Wa _ kp
 have hq:rows[off+t/a.k]?=some rows[off+t/a.k]:=VA (by omega)
 generalize rows[off+t/a.k]'(by omega)=q at hq
 have hrow:a.rows[off+t/a.k]?=some (q.map .pv):=by rw[hrw,VF,hq]; rfl
 have hql:q.length=a.k:=by
  have:=c3 _ (Vz hrow)
  simpa using this
 have hp:q[t%a.k]?=some (q[t%a.k]'(by omega)):=VA (by omega)
 generalize q[t%a.k]'(by omega)=p at hp
 have hin:((rows.drop off).take len)[t/a.k]?=some q:=by
  rw[VN,if_pos hi,Wg]
  exact hq
 have hsc:=hs q (Vz hin) p (Vz hp)
 obtain⟨g1,v,g2,g3⟩:=c4 _ _ hrow (t%a.k) (.pv p) (by rw[VF,hp]; rfl)
 have hv:v=sv p:=by
  cases g3 with
  |pv _ _ g=>exact GJ hsc g
 have hdm:off*a.k+t=(off+t/a.k)*a.k+t%a.k:=by
  rw[VZ]
  have:=Nat.div_add_mod t a.k
  rw[Nat.mul_comm]at this
  omega
 have hft:F[t]! =sv p:=by
  have:=hFv (t/a.k) (t%a.k) p (by simp[fx,hin,hp])
  rw[Nat.mul_comm,Nat.div_add_mod]at this
  exact this
 refine⟨?_,?_⟩
 .rw[show e.ad id0+off*a.k+t=e.ad id0+(off+t/a.k)*a.k+t%a.k by omega,g2,hv,hft]
  rfl
 .obtain⟨arr,ty,h1,_⟩:=c2.out
  simp[World.frozen?,h1]
end Go.Pv
namespace Go.Pv
open Go.Sort
def ins {α:Type} (lt:α→α→Bool) (x:α):List α→List α
 |[]=>[x]
 |y::r=>if lt y x then y::ins lt x r else x::y::r
def ct {α:Type} (lt:α→α→Bool):List α→List α
 |[]=>[]
 |x::r=>ins lt x (ct lt r)
def rising {α:Type} (lt:α→α→Bool):List α→Bool
 |[]=>true
 |[_]=>true
 |x::y::r=>lt x y&&rising lt (y::r)
theorem pc {α:Type} (lt:α→α→Bool) (x:α):∀l,(ins lt x l).Perm (x::l)
 |[]=>List.Perm.refl _
 |y::r=>by
  unfold ins
  split
  .exact((pc lt x r).cons y).trans (List.Perm.swap x y r)
  .exact List.Perm.refl _
theorem bJ {α:Type} (lt:α→α→Bool):∀l,(ct lt l).Perm l
 |[]=>List.Perm.refl _
 |x::r=>(pc lt x _).trans ((bJ lt r).cons x)
theorem sX {α:Type} {lt:α→α→Bool} (ht:∀x y z,lt x y=true→lt y z=true→lt x z=true):∀l,rising lt l=true→l.Pairwise (fun a b=>lt a b=true)
 |[],_=>List.Pairwise.nil
 |[x],_=>WQ _ _
 |x::y::r,h=>by
  simp only[rising,Bool.and_eq_true]at h
  have h2:=sX ht (y::r) h.2
  refine List.Pairwise.cons (fun z hz=>?_) h2
  rcases V6.1 hz with rfl|hz
  .exact h.1
  .exact ht _ _ _ h.1 ((VQ.1 h2).1 z hz)
theorem qT {α:Type} {lt:α→α→Bool}:∀(m d:List α),m.Pairwise (fun a b=>lt a b=true)→d.Pairwise (fun a b=>lt b a=false)→d.Perm m→d=m
 |[],d,_,_,hp=>List.Perm.eq_nil hp
 |x::m,[],_,_,hp=>by simp at hp
 |x::m,y::d,hm,hd,hp=>by
  have hxy:y=x:=by
   have hy:y∈x::m:=hp.subset (We ..)
   have hx:x∈y::d:=hp.symm.subset (We ..)
   rcases V6.1 hy with h|h
   .exact h
   .rcases V6.1 hx with h'|h'
    .exact h'.symm
    .have h1:=(VQ.1 hm).1 y h
     have h2:=(VQ.1 hd).1 x h'
     rw[h1]at h2
     cases h2
  subst hxy
  rw[qT m d (VQ.1 hm).2 (VQ.1 hd).2 (List.Perm.cons_inv hp)]
variable {P:Program} {N:Nat→Nat} {W:Nat→Prop} {L:Lx} {e:bn} {h:af} {w:World} {α:Type} [Inhabited α]
def gR (enc:α→List PV) (dec:List PV→Option α) (lt:α→α→Bool) (rows:List (List PV)):Option (List (List PV)):=
 match aA dec rows with
 |some l=>if rising lt (ct lt l)=true then some ((ct lt l).map enc) else none
 |none=>none
def j7 (k:Nat) (f:List (List PV)→Option (List (List PV))) (g:Nat):List V→af→Option (V×Tn)
 |[x,.func g' []],h=>if g'=g then (match x with
  |.tl []=>some (.dH [],{})
  |.own id aq off len=>match aF h id aq with
   |some a=>if len=0 then some (.dH [],{ ra:=some id }) else (match a.body with
    |.inl rows=>if a.k=k∧off+len≤rows.length∧len≤aT then (match f ((rows.drop off).take len)with
     |some news=>some (.dH [],{ ar:=some (id,⟨aq,k,.inl (rows.take off++news++rows.drop (off+len))⟩) })
     |none=>none) else none
    |.inr _=>none)
   |none=>none
  |_=>none) else none
 |_,_=>none
theorem qh {β γ:Type} {f:β→Option γ}:∀{l:List β} {r:List γ},aA f l=some r→r.length=l.length∧∀(i:Nat) (x:β) (y:γ),l[i]?=some x→r[i]?=some y→f x=some y
 |[],r,h=>by cases h; exact⟨rfl,fun i x y hx=>by simp at hx⟩
 |b::l,r,h=>by
  simp only[aA]at h
  split at h
  .rename_i y l' h1 h2
   cases h
   obtain⟨k1,k2⟩:=qh h2
   refine⟨by simp[k1],fun i x z hx hz=>?_⟩
   cases i with
   |zero=>simp at hx hz; subst hx; subst hz; exact h1
   |succ i=>exact k2 i x z (by simpa using hx) (by simpa using hz)
  .cases h
def qi (enc:α→List PV) (x:α):List Value:=(enc x).map sv
theorem yG {enc:α→List PV} {k:Nat} (hk:∀x,(enc x).length=k) (l:List α) (i j:Nat) (c:PV) (hc:fx (l.map enc) i j=some c):(flatK (qi enc) k l.toArray)[i*k+j]! =sv c:=by
 unfold fx at hc
 rw[VF]at hc
 cases hx:l[i]? with
 |none=>simp[hx]at hc
 |some x=>
  simp only[hx,Option.map_some,Option.bind_some]at hc
  have hi:=(Vy.1 hx).1
  have hj:j<k:=by rw[← hk x]; exact(Vy.1 hc).1
  have hlt:i*k+j<l.toArray.size*k:=wN (by simpa using hi) hj
  rw[get_flatK _ _ _ _ hlt]
  have h1:(i*k+j)/k=i:=by
   rw[Nat.mul_comm,Nat.mul_add_div (by omega),Nat.div_eq_of_lt hj,Xi]
  have h2:(i*k+j)%k=j:=by
   rw[Nat.mul_comm,Nat.mul_add_mod,Xm hj]
  rw[h1,h2]
  have h3:l.toArray[i]! =x:=by
   rw[getElem!_pos _ i (by simpa using hi)]
   have:=(Vy.1 hx).2
   simpa using this
  rw[h3]
  have h4:(qi enc x)[j]?=some (sv c):=by simp[qi,hc]
  rw[List.getElem!_eq_getElem?_getD,h4]
  rfl
theorem sY (i:Nat) (a:aL) (h:af):Tn.apply { ar:=some (i,a) } h={ h with ar:=h.ar.set i a }:=by
 cases h
 simp[Tn.apply]
theorem Es {k:Nat} (hk0:k≠0) {enc:α→List PV} {dec:List PV→Option α} (hde:∀r x,dec r=some x→enc x=r) (hk:∀x,(enc x).length=k) (hsc:∀x,∀c∈enc x,qg c=true)
  {lt:α→α→Bool} (hO:SWO lt) {fn g:Nat}
  (hent:∀args w,(callFunc (N fn) args).run P w=.ok (.enter (N fn) args) w)
  (hnone:∀(a:Option Addr) (cap:Nat) (w:World),Calls P (N fn) #[.slice a 0 cap,.func (.func (N g)) #[] #[]] w fun e w'=>e=.returned (.tuple #[])∧w'=w)
  (hcon:∀(blk off cap:Nat) (d:Array α) (w:World),HoldsK (qi enc) k w blk off d→blk<w.heap.size→d.size<4611686018427387904→sh N L w→(∀t,¬L t blk)→
   Calls P (N fn) #[.slice (some ⟨blk,off,none⟩) d.size cap,.func (.func (N g)) #[] #[]] w fun e w'=>e=.returned (.tuple #[])∧∃d' n os,PermIn 0 d.size d d'∧SortedIn lt 0 d.size d'∧w'=Go.Proofs.sortWorldK (qi enc) k w blk off n d' os)
  {vs:List V} {args:Array Value} {v:V} {tn:Tn} (hp:j7 k (gR enc dec lt) g vs h=some (v,tn)) (hr:HR N L e W h w)
  (hs:args.size=vs.length) (hv:∀(j:Nat) (x:V),vs[j]?=some x→VR N L e w x (args.getD j undef)):
  dI P (N fn) args w fun v' w'=>∃L' e',Nx N W L e w L' e' (tn.apply h) w'∧VR N L' e' w' v v':=by
 have key:∀(x:V) (g':Nat),vs=[x,.func g' []]→g'=g→∃v0,args=#[v0,.func (.func (N g)) #[] #[]]∧VR N L e w x v0:=by
  rintro x g' rfl rfl
  have h0:=hv 0 x rfl
  have h1:=hv 1 (.func g' []) rfl
  have hsz:args.size=2:=hs
  obtain⟨l⟩:=args
  match l,hsz with
  |[v0,v1],_=>
   refine⟨v0,?_,h0⟩
   have h1':VR N L e w (.func g' []) v1:=h1
   cases h1' with
   |func _ _ arr ha _=>
    have:arr=#[]:=Array.eq_empty_of_size_eq_zero ha
    subst this
    rfl
 have fin0:∀(a:Option Addr) (cap:Nat),args=#[.slice a 0 cap,.func (.func (N g)) #[] #[]]→tn.apply h=h→v=.dH []→dI P (N fn) args w fun v' w'=>∃L' e',Nx N W L e w L' e' (tn.apply h) w'∧VR N L' e' w' v v':=by
  rintro a cap rfl ht rfl
  refine .inr ⟨hent _ _,(hnone a cap w).mono ?_⟩
  rintro en w' ⟨rfl,rfl⟩
  exact⟨L,e,by rw[ht]; exact Nx.refl hr,.dH [] #[] rfl (fun j c hj=>by simp at hj)⟩
 unfold j7 at hp
 split at hp<;>first|(cases hp; done)|skip
 rename_i _ x g'
 split at hp<;>first|(cases hp; done)|skip
 rename_i hg
 obtain⟨v0,hargs,hv0⟩:=key x g' rfl hg
 split at hp<;>first|(cases hp; done)|skip
 .injection hp with hp
  injection hp with e1 e2
  subst e1
  subst e2
  cases hv0 with
  |tl rows a hh=>exact fin0 a 0 hargs (by cases h; simp[Tn.apply]) rfl
 .rename_i id0 aq off len
  split at hp<;>first|(cases hp; done)|skip
  rename_i a ha
  obtain⟨ha1,ha2⟩:=bB ha
  split at hp
  .rename_i hl
   subst hl
   injection hp with hp
   injection hp with e1 e2
   subst e1
   subst e2
   cases hv0 with
   |own _ _ _ _ a' cap _ _ _ _=>exact fin0 a' cap hargs (by cases h; simp[Tn.apply]) rfl
  .rename_i hl
   split at hp<;>first|(cases hp; done)|skip
   rename_i rows hb
   split at hp<;>first|(cases hp; done)|skip
   rename_i hc
   obtain⟨hak,hol,hm⟩:=hc
   split at hp<;>first|(cases hp; done)|skip
   rename_i news hnews
   injection hp with hp
   injection hp with e1 e2
   subst e1
   subst e2
   unfold gR at hnews
   split at hnews<;>first|(cases hnews; done)|skip
   rename_i l hl2
   split at hnews<;>first|(cases hnews; done)|skip
   rename_i hris
   injection hnews with hnews
   subst hnews
   obtain⟨m1,m2⟩:=qh hl2
   have hcut:((rows.drop off).take len).length=len:=by simp only[List.length_take,List.length_drop]; omega
   have hrl:(rows.drop off).take len=l.map enc:=by
    apply Wi
    intro i
    rw[VF]
    rcases VG i len with hi|hi
    .have h1:((rows.drop off).take len)[i]?=some (((rows.drop off).take len)[i]'(by omega)):=VA (by omega)
     have h2:l[i]?=some (l[i]'(by omega)):=VA (by omega)
     rw[h2,h1]
     exact congrArg some (hde _ _ (m2 i _ _ h1 h2)).symm
    .rw[V8 (by omega),V8 (by omega)]
     rfl
   have hll:l.length=len:=by omega
   have hk':a.k≠0:=by rw[hak]; exact hk0
   obtain⟨v1,v2,v3,_⟩:=hr.aq id0 a ha1
   have hid:id0<e.na:=by rw[hr.na]; exact(Vy.1 ha1).1
   cases hv0 with
   |own _ _ _ _ a' cap g0 g1 g2 g3=>
    obtain⟨k1,k2,k3,k4⟩:=g3 (by rw[v1,ha2])
    have ha':=k4 (by omega)
    subst ha'
    have hH:Holds id w (e.ar id0) (e.ad id0+off*a.k) (flatK (qi enc) k l.toArray):=by
     refine vo hr ha1 hb hk' hol ?_ _ (by simp[hll,hak]) ?_
     .intro r hr' c hc
      rw[hrl]at hr'
      obtain⟨y,_,rfl⟩:=VP.1 hr'
      exact hsc y c hc
     .intro i j c hc
      rw[hrl]at hc
      rw[hak]
      exact yG hk l i j c hc
    have hblk:=hr.ir hid (by rw[v2]; exact hk')
    rw[hargs]
    refine .inr ⟨hent _ _,?_⟩
    have hcall:=hcon (e.ar id0) (e.ad id0+off*e.ak id0) cap l.toArray w (by rw[v2]; exact hH) hblk (by simp[hll]; unfold aT at hm; omega) hr.zN (hr.nF id0 hid (by rw[v2]; exact hk')).2
    rw[show l.toArray.size=len by simp[hll]]at hcall
    refine hcall.mono ?_
    rintro en w' ⟨rfl,d',n,os,hp1,hp2,rfl⟩
    have hd':d'=(ct lt l).toArray:=by
     obtain⟨p1,p2,p3⟩:=hp1
     have hsz:d'.size=len:=by simpa [hll]using p1
     have hperm:d'.toList.Perm l:=by
      have e1:d'.extract 0 len=d':=by rw[← hsz]; exact Array.extract_size
      have e2:l.toArray.extract 0 len=l.toArray:=by rw[show len=l.toArray.size by simp[hll]]; exact Array.extract_size
      rw[e1,e2]at p3
      simpa using p3
     have hsort:d'.toList.Pairwise (fun a b=>lt b a=false):=by
      rw[List.pairwise_iff_getElem]
      intro i j hi hj hij
      have:=hp2 i j (Nat.zero_le _) hij (by rw[← hsz]; simpa using hj)
      rw[getElem!_pos d' i (by simpa using hi),getElem!_pos d' j (by simpa using hj)]at this
      simpa using this
     have:=qT (ct lt l) d'.toList (sX hO.trans _ hris) hsort (hperm.trans (bJ lt l).symm)
     rw[← this]
    subst hd'
    have hlen2:(ct lt l).length=len:=by rw[(bJ lt l).length_eq,hll]
    obtain⟨e',hnx⟩:=BJ hr ha1 hb hk' hol (news:=(ct lt l).map enc) (by simp[hlen2]) (by
     intro r hr'
     obtain⟨y,_,rfl⟩:=VP.1 hr'
     exact⟨by rw[hak]; exact hk y,hsc y⟩) (flatK (qi enc) k (ct lt l).toArray) (by simp[hlen2,hak]) (by
     intro i j c hc
     rw[hak]
     exact yG hk _ i j c hc) n os _ hH (by simp[hll,hlen2])
    refine⟨L,e',?_,.dH [] #[] rfl (fun j c hj=>by simp at hj)⟩
    rw[sY,← ha2,← hak]
    have:Go.Proofs.sortWorldK (qi enc) a.k w (e.ar id0) (e.ad id0+off*e.ak id0) n (ct lt l).toArray os=grow (putRow id (Sort.ahead w n) (e.ar id0) (e.ad id0+off*a.k) (flatK (qi enc) k (ct lt l).toArray)) os:=by
     rw[v2,hak]
     rfl
    rw[this]
    exact hnx
end Go.Pv
namespace Go.Pv
open Go.Sort
variable {P:Program} {N:Nat→Nat} {W:Nat→Prop} {L:Lx} {e:bn} {h:af} {w w':World}
theorem Fr.grown (hf:Fr (Wc w none) w w'):∃q os,w'=grow (w.drewN q) os:=by
 refine⟨w'.drawn - w.drawn,w'.heap.extract w.heap.size w'.heap.size,?_⟩
 obtain⟨h1,h2,h3,h4,h5,h6⟩:=hf
 have hh:w'.heap=w.heap++w'.heap.extract w.heap.size w'.heap.size:=by
  apply Array.ext_getElem?
  intro i
  rcases VG i w.heap.size with hi|hi
  .rw[Array.getElem?_append_left hi]
   exact h5 i hi (fun hc=>by rcases hc with hc|hc<;>first|omega|cases hc)
  .rw[Array.getElem?_append_right hi,Array.getElem?_extract]
   rcases VG i w'.heap.size with hi2|hi2
   .rw[if_pos (by omega)]
    congr 1
    omega
   .rw[Array.getElem?_eq_none hi2,if_neg (by omega)]
 obtain⟨heap,tape,drawn,os,output⟩:=w
 obtain⟨heap',tape',drawn',os',output'⟩:=w'
 simp only at h1 h2 h3 h4 h5 h6 hh
 subst h1
 subst h2
 subst h3
 show _=grow (Sort.ahead _ _) _
 simp only[grow,Sort.ahead]
 rw[← hh]
 congr 1
 show drawn'=drawn+(drawn' - drawn)
 omega
theorem Et {p:PV} (hp:qg p=true):p.one=true:=by
 cases p<;>simp[qg]at hp<;>rfl
theorem sZ {ps:List PV} (hp:∀c∈ps,qg c=true):dL N L w (.agg ps) (.agg (ps.map sv).toArray):=by
 refine .agg _ _ (by simp) (fun j c hj=>?_) (fun c hc=>Et (hp c hc))
 have:(ps.map sv).toArray.getD j undef=sv c:=by
  simp[Array.getD_eq_getD_getElem?,hj]
 rw[this]
 exact yF (hp c (Vz hj))
theorem CE {g:Nat} {ps:List PV} {k:IntKind} {n:Int} (hF:uW P N g ps [.int k n]) {args:Array Value} (w:World) (ht:sh N L w)
  (eg:∀args w,(callFunc (N g) args).run P w=.ok (.enter (N g) args) w) (hl:args.toList.length=ps.length) (ha:∀(j:Nat) (p:PV),ps[j]?=some p→∃v,args.toList[j]?=some v∧∀L',dL N L' w p v):
  Calls P (N g) args w fun e w'=>e=.returned (.int k n)∧∃q os',w'=grow (w.drewN q) os':=by
 have hc:=hF (fun t b=>t=7777∧L t b∧b<w.heap.size) w none args (fun _ _ h=>h.2.2) (fun g hg=>by
  obtain⟨h1,ty,z,h2⟩:=ht g hg
  exact⟨⟨rfl,h1,(VV.1 h2).1⟩,ty,z,h2⟩) (.plain _ _ hl fun j p hj=>by
  obtain⟨v,h1,h2⟩:=ha j p hj
  exact⟨v,h1,h2 _⟩)
 rcases hc with⟨v,w',h1,h2⟩|⟨h1,h2⟩
 .rw[eg]at h1
  cases h1
 .refine h2.mono fun en w' hh=>?_
  cases en with
  |returned v=>
   obtain⟨L1,bs,vals,f1,f2,f3,f4,f5,f6,f7,rfl⟩:=hh
   refine⟨?_,f1.grown⟩
   cases f5 with
   |cons p u b1 ps vs b2 q1 q2=>
    cases q2
    cases q1 with
    |cell _ _ _ q=>
     cases q with
     |bO _ _ _ q=>cases q; rfl
  |panicked=>exact hh.elim
  |outgrown=>exact hh.elim
theorem Eu {α:Type} [Inhabited α] {g:Nat} {enc:α→List PV} (hsc:∀x,∀c∈enc x,qg c=true) {cf:α→α→Int} (hF:∀x y,uW P N g [.agg (enc x),.agg (enc y)] [.int .i64 (cf x y)])
  (eg:∀args w,(callFunc (N g) args).run P w=.ok (.enter (N g) args) w) (k blk off size:Nat) (w:World) (ht:sh N L w) (hb:∀t,¬L t blk):Go.Proofs.CmpLays P (N g) #[] (qi enc) k cf blk off size w:=by
 intro m os dk hs x y
 refine CE (L:=L) (hF x y) _ (fun b hg=>?_) eg rfl fun j p hj=>?_
 .obtain⟨h1,ty,z,h2⟩:=ht b hg
  refine⟨h1,ty,z,?_⟩
  have hlt:=(VV.1 h2).1
  have hne:blk≠b:=fun he=>hb _ (he ▸ h1)
  show (grow (putRow id (Sort.ahead w m) blk off (flatK (qi enc) k dk)) os).heap[b]?=_
  rw[heap_grow_old _ _ (by simp[putRow,mapBlock,Sort.ahead]; exact hlt)]
  simp only[putRow,mapBlock,Sort.ahead,Array.getElem?_modify]
  rw[if_neg hne]
  exact h2
 .match j,hj with
  |0,hj=>
   cases hj
   exact⟨_,rfl,fun _=>sZ (hsc x)⟩
  |1,hj=>
   cases hj
   exact⟨_,rfl,fun _=>sZ (hsc y)⟩
  |j+2,hj=>simp at hj
end Go.Pv
namespace Go.Proofs
open Go.Shelf Go.RowKit Go.Lib
variable {P:Program} {ρ:Ren}
theorem s6 {ops:Array Oper} {rest:List Oper} {o:Oper} {a:Act} {w:World} {Q:Exit→Act→World→Prop} (hgd:o.guard=none) (s x:Operand) (t:TypeId)
  (ho:o.op=.call { callee:=.builtin .append,args:=#[s,x],argTypes:=#[t,t] }) (e:TypeId) (i:TypeInfo) (ht:P.underlying t=some (.slice e)) (hi:P.info? e=some i)
  (g:Nat) (hg:w.heap[g]?=some (.cells #[] e (0,0))) (hs:a.eval s=.slice (some ⟨g,0,none⟩) 0 0) (ad:Addr) (c:Nat) (hx:a.eval x=.slice (some ad) 0 c)
  (h:wpList P ops Q rest (a.put o.dst (.slice (some ⟨g,0,none⟩) 0 0)) w):wpList P ops Q (o::rest) a w:=by
 refine wpList_plain hgd fun K hK=>?_
 have hr:=run_append_room (P:=P) w t o.type e i ht hi g 0 0 #[] hg ad 0 c [] (by simp) (fun j u hj=>by simp at hj) (fun u hu=>by simp at hu) (Nat.le_refl _) (by simp)
 have hw:w.setRow g (([]:List Value).take (0*i.size)++[]++([]:List Value).drop (0*i.size+([]:List Value).length)).toArray=w:=by
  simp only[List.take_nil,List.drop_nil,List.append_nil]
  unfold World.setRow
  have:w.heap.modify g (fun|.cells _ t f=>.cells #[] t f|o=>o)=w.heap:=by
   apply Array.ext_getElem?
   intro k
   rw[Array.getElem?_modify]
   split
   .rename_i hk
    subst hk
    rw[hg]
    rfl
   .rfl
  first|rw[this]|(congr 1)
 rw[show (#[]:Array Value).toList=[] from rfl,hw]at hr
 unfold Oper.wp execOp
 simp only[ho,resolve,invoke,builtin,Sem.run_bind,Sem.run_pure,Result.andThen_ok,List.map_toArray,List.map_cons,List.map_nil,hs,hx,hr]
 exact hK _ _ h
set_option maxHeartbeats 1000000 in
theorem s7 (L:SlLaysE0.n41 P ρ) (i0:TypeInfo) (z:Value) (hi:P.info? (ρ.t 23)=some i0) (_hz0:i0.zero=some z)
  (z23:∀w,(Go.sizeOf (ρ.t 23)).run P w=.ok i0.size w) (ad:Addr) (c:Nat) (w:World):
  Calls P (ρ.f 41) #[.slice (some ad) 0 c] w fun e w'=>∃g,e=.returned (.slice (some ⟨g,0,none⟩) 0 0)∧w'=w.alloc (.cells #[] (ρ.t 23)):=by
 have mixed:=L.mixed; have t4:=L.t4; have a4:=L.a4; have z4:=L.z4; have v4:=L.v4; have t22:=L.t22; have a22:=L.a22; have z22:=L.z22; have v22:=L.v22
 have q22:∀(w:World) (a:Option Addr) (n c n' c':Nat),(binOp .eql (ρ.t 22) (.slice a n c) (.slice none n' c')).run P w=.ok (.bool a.isNone) w:=fun w a n c n' c'=>Lib.run_eql_slice_nil w _ _ a n c n' c' L.t22
 have u22:∀w,Sem.run P (underlying (ρ.t 22)) w=.ok (TypeDesc.slice (ρ.t 23)) w:=run_underlying t22
 obtain⟨_,_,FG⟩:=L.f41
 go_enter FG,SlBodyN.n41_ntmps ρ
 go_wp2_with (at_builtin; refine s6 rfl _ _ (ρ.t 22) rfl (ρ.t 23) i0 t22 hi w.heap.size ?qc1 rfl ad c rfl ?_)
 case qc1=>exact heap_alloc_new w _
 go_wp2
 go_ret
 exact⟨_,rfl,rfl⟩
theorem s8 {ops:Array Oper} {rest:List Oper} {o:Oper} {a:Act} {w:World} {Q:Exit→Act→World→Prop} (hgd:o.guard=none) (s x:Operand) (t:TypeId)
  (ho:o.op=.call { callee:=.builtin .append,args:=#[s,x],argTypes:=#[t,t] }) (e:TypeId) (i:TypeInfo) (z:Value) (ht:P.underlying t=some (.slice e)) (hi:P.info? e=some i) (hz:i.zero=some z) (zc:Array Value) (hzc:z.cells=zc)
  (g:Nat) (hs:a.eval s=.slice (some ⟨g,0,none⟩) 0 0) (ad:Addr) (n c:Nat) (hx:a.eval x=.slice (some ad) n c) (news:List Value) (hl:news.length=n*i.size) (hnews:∀j v,news[j]?=some v→w.cell? (ad.add j)=some v)
  (hn:0<n) (hm:n≤maxLen) (hb:n*i.bytes≤140737488355328)
  (h:wpList P ops Q rest (a.put o.dst (.slice (some ⟨w.heap.size,0,none⟩) n (grownCap w n 0 e))) (w.drew.alloc (.cells (news.toArray++Builtin.zeroCells zc (grownCap w n 0 e - n)) e))):wpList P ops Q (o::rest) a w:=by
 subst hzc
 refine wpList_plain hgd fun K hK=>?_
 have hr:=run_append_grow (P:=P) w t o.type e i z ht hi hz ⟨g,0,none⟩ 0 0 [] (by simp) (fun j v hj=>by simp at hj) ad n c news hl hnews (by omega) (by unfold maxLen at hm; omega) (by rw[Nat.zero_add,nextslicecap_zero hn]; omega)
 simp only[Nat.zero_add,Array.empty_append]at hr
 unfold Oper.wp execOp
 simp only[ho,resolve,invoke,builtin,Sem.run_bind,Sem.run_pure,Result.andThen_ok,List.map_toArray,List.map_cons,List.map_nil,hs,hx,hr]
 exact hK _ _ h
def nW (w:World) (e:TypeId) (zc:Array Value) (n:Nat) (news:List Value):World:=
 (w.alloc (.cells #[] e)).drew.alloc (.cells (news.toArray++Builtin.zeroCells zc (grownCap (w.alloc (.cells #[] e)) n 0 e - n)) e)
set_option maxHeartbeats 1000000 in
theorem uG (L:SlLaysE0.n41 P ρ) (i0:TypeInfo) (z:Value) (hi:P.info? (ρ.t 23)=some i0) (hz0:i0.zero=some z) (zc:Array Value) (hzc:z.cells=zc)
  (z23:∀w,(Go.sizeOf (ρ.t 23)).run P w=.ok i0.size w) (ad:Addr) (n c:Nat) (news:List Value) (w:World) (hl:news.length=n*i0.size) (hn0:0<n) (hn:n≤maxLen) (hbig:n*i0.bytes≤140737488355328)
  (hc:∀j u,news[j]?=some u→w.cell? (ad.add j)=some u):
  Calls P (ρ.f 41) #[.slice (some ad) n c] w fun e w'=>e=.returned (.slice (some ⟨w.heap.size+1,0,none⟩) n (grownCap (w.alloc (.cells #[] (ρ.t 23))) n 0 (ρ.t 23)))∧w'=nW w (ρ.t 23) zc n news:=by
 have mixed:=L.mixed; have t4:=L.t4; have a4:=L.a4; have z4:=L.z4; have v4:=L.v4; have t22:=L.t22; have a22:=L.a22; have z22:=L.z22; have v22:=L.v22
 have q22:∀(w:World) (a:Option Addr) (n c n' c':Nat),(binOp .eql (ρ.t 22) (.slice a n c) (.slice none n' c')).run P w=.ok (.bool a.isNone) w:=fun w a n c n' c'=>Lib.run_eql_slice_nil w _ _ a n c n' c' L.t22
 have u22:∀w,Sem.run P (underlying (ρ.t 22)) w=.ok (TypeDesc.slice (ρ.t 23)) w:=run_underlying t22
 have A:Aside (∀j u,news[j]?=some u→w.cell? (ad.add j)=some u):=hc
 clear hc
 unfold nW
 obtain⟨_,_,FG⟩:=L.f41
 go_enter FG,SlBodyN.n41_ntmps ρ
 go_wp2_with (at_builtin; refine s8 rfl _ _ (ρ.t 22) rfl (ρ.t 23) i0 z t22 hi hz0 zc hzc w.heap.size rfl ad n c rfl news ?qc1 ?qc2 ?qc3 ?qc4 ?qc5 ?_)
 case qc1=>exact hl
 case qc2=>
  intro j u hj
  exact Lib.cell?_alloc_some _ (A.out j u hj)
 case qc3=>exact hn0
 case qc4=>exact hn
 case qc5=>exact hbig
 go_wp2
 go_ret
 exact⟨by simp,rfl⟩
end Go.Proofs
namespace Go.Pv
open Go.Shelf
variable {P:Program} {N:Nat→Nat} {W:Nat→Prop} {L:Lx} {e:bn} {h:af} {w:World}
def dn (k:Nat):List V→af→Option (V×Tn)
 |[x],h=>match bg h x with
  |some (.inl rows,rd)=>if aP k (.inl rows)=true∧rows.length≤aT then
    (if rows.length=0 then some (.tl [],{ ra:=rd }) else some (.own h.ar.length 0 0 rows.length,{ push:=[⟨0,k,.inl rows⟩],ra:=rd,base:=h.ar.length })) else none
  |_=>none
 |_,_=>none
theorem dL.nil (a:Option Addr):dL N L w (.aa 0 []) (.slice a 0 0):=
 .aa 0 [] a ⟨0,0,none⟩ 0 0 (fun _ _=>undef) (fun r hr=>by simp at hr) (Nat.le_refl _) (fun h=>by simp at h) (fun i j c hc=>by simp[fx]at hc) (fun i j c hc=>by simp[fx]at hc) (fun _ i j c hc=>by simp[fx]at hc) (fun i j c hc=>by simp[fx]at hc)
theorem j8 {ρ:Ren} (LL:Go.Proofs.SlLaysE0.n41 P ρ) {fn:Nat} (hfn:N fn=ρ.f 41) {k:Nat} (hk:k≠0) (i0:TypeInfo) (z:Value) (hi:P.info? (ρ.t 23)=some i0) (hz0:i0.zero=some z) (hzs:z.cells.size=k) (his:i0.size=k) (hby:i0.bytes≤32768)
  (z23k:∀w,(Go.sizeOf (ρ.t 23)).run P w=.ok k w) (hent:∀args w,(callFunc (N fn) args).run P w=.ok (.enter (N fn) args) w)
  {vs:List V} {args:Array Value} {v:V} {tn:Tn} (hp:dn k vs h=some (v,tn)) (hr:HR N L e W h w)
  (hs:args.size=vs.length) (hv:∀(j:Nat) (x:V),vs[j]?=some x→VR N L e w x (args.getD j undef)):
  dI P (N fn) args w fun v' w'=>∃L' e',Nx N W L e w L' e' (tn.apply h) w'∧VR N L' e' w' v v':=by
 have z23:∀w,(Go.sizeOf (ρ.t 23)).run P w=.ok i0.size w:=fun w=>by rw[his]; exact z23k w
 unfold dn at hp
 split at hp<;>first|(cases hp; done)|skip
 rename_i x
 split at hp<;>first|(cases hp; done)|skip
 rename_i rows rd hsrc
 split at hp<;>first|(cases hp; done)|skip
 rename_i hc
 obtain⟨hfit,hmost⟩:=hc
 have hargs:∃v0,args=#[v0]∧VR N L e w x v0:=by
  have h0:=hv 0 x rfl
  have hsz:args.size=1:=hs
  obtain⟨l⟩:=args
  match l,hsz with
  |[v0],_=>exact⟨v0,rfl,h0⟩
 obtain⟨v0,rfl,hv0⟩:=hargs
 obtain⟨B,c,ad,vals,rfl,s1,s2,s3,s4,s5⟩:=oE hr hv0 hsrc hfit hk
 have hlen:aB (.inl rows:Sum (List (List PV)) (List (List V)))=rows.length:=rfl
 rw[hlen]at s1 ⊢
 split at hp
 .rename_i h0
  injection hp with hp
  injection hp with e1 e2
  subst e1
  subst e2
  rw[h0]
  have hap:Tn.apply { ra:=rd } h=h:=by cases h; simp[Tn.apply]
  rw[hap]
  have h2:VR N L e w (.tl []) (.slice none 0 0):=.tl [] none (dL.nil _) wv.nil
  cases B with
  |none=>
   refine .inr ⟨hent _ _,?_⟩
   rw[hfn]
   refine(Go.Proofs.AnyE.slices_Clone_nil LL 0 c w).mono ?_
   rintro en w' ⟨rfl,rfl⟩
   exact⟨L,e,Nx.refl hr,h2⟩
  |some a=>
   refine .inr ⟨hent _ _,?_⟩
   rw[hfn]
   refine(Go.Proofs.s7 LL i0 z hi hz0 z23 a c w).mono ?_
   rintro en w' ⟨g,rfl,rfl⟩
   exact⟨L,e,Nx.idle hr _,.tl [] _ (dL.nil _) wv.nil⟩
 .rename_i h0
  injection hp with hp
  injection hp with e1 e2
  subst e1
  subst e2
  have hB:=s1 (by omega)
  subst hB
  refine .inr ⟨hent _ _,?_⟩
  rw[hfn]
  have hvl:vals.length=rows.length*k:=by rw[s2.1,cH]; rfl
  refine(Go.Proofs.uG LL i0 z hi hz0 z.cells rfl z23 ad rows.length c vals w (by rw[his]; exact hvl) (by omega) (by unfold maxLen; unfold aT at hmost; omega) (by
   have:rows.length*i0.bytes≤2147483648*32768:=Nat.mul_le_mul hmost hby
   omega) s3).mono ?_
  rintro en w' ⟨rfl,rfl⟩
  unfold Go.Proofs.nW
  have n1:=Nx.idle hr (.cells #[] (ρ.t 23))
  have n2:=Nx.drew n1.hr
  have n12:=n1.trans n2
  have hG:=grownCap_ge (w.alloc (.cells #[] (ρ.t 23))) rows.length 0 (ρ.t 23)
  generalize grownCap (w.alloc (.cells #[] (ρ.t 23))) rows.length 0 (ρ.t 23)=G at hG ⊢
  have hsz:(vals.toArray++Builtin.zeroCells z.cells (G - rows.length)).size=G*k:=by
   simp only[Array.size_append,List.size_toArray,size_zeroCells,hzs,hvl,← Nat.add_mul]
   congr 1
   omega
  obtain⟨n3,v3⟩:=wz n2.hr hk (n:=rows.length) (c:=G) (body:=.inl rows) (arr:=vals.toArray++Builtin.zeroCells z.cells (G - rows.length)) (el:=ρ.t 23) (by
   rw[Array.toList_append,List.take_append_of_le_length (by simp[hvl])]
   rw[show (vals.toArray.toList).take (rows.length*k)=vals by simp[← hvl]]
   exact s2.mono n12.ext) rfl hG (by rw[hsz]; exact VI _) s4
  refine⟨L,_,by rw[Tn.i7]; exact n12.trans n3,?_⟩
  have hheap:((w.alloc (.cells #[] (ρ.t 23))).drew).heap.size=w.heap.size+1:=by simp[World.drew]
  rw[← hheap]
  exact v3
end Go.Pv
namespace Go.Pv
abbrev Prim:=List V→af→Option (V×Tn)
structure Prim.Sh (pr:Prim):Prop where
 loc:∀vs h1 h2 v t,pr vs h1=some (v,t)→gI t h1 h2→pr vs h2=some (v,t)
 fit:∀vs h v t,pr vs h=some (v,t)→t.fit h
 gG:∀vs h v t,pr vs h=some (v,t)→t.new=false
def Prim.Ok (P:Program) (N:Nat→Nat) (fn:Nat) (pr:Prim):Prop:=
 ∀(L:Lx) (e:bn) (W:Nat→Prop) (h:af) (w:World) (vs:List V) (args:Array Value) (v:V) (tn:Tn),pr vs h=some (v,tn)→HR N L e W h w→
  args.size=vs.length→(∀(j:Nat) (x:V),vs[j]?=some x→VR N L e w x (args.getD j undef))→
  dI P (N fn) args w fun v' w'=>∃L' e',Nx N W L e w L' e' (tn.apply h) w'∧VR N L' e' w' v v'
theorem iQ {α:Type} {n:Nat} {x:α}:∀{l:List (Nat×α)},aG n l=some x→(n,x)∈l
 |[],h=>by cases h
 |(m,y)::r,h=>by
  simp only[aG]at h
  split at h
  .rename_i hm
   cases h
   subst hm
   exact We ..
  .exact Wl _ (iQ h)
theorem vp {l:List (Nat×Prim)} (hl:∀x∈l,Prim.Sh x.2):cX (fun n=>aG n l):=
 ⟨fun _fn _pr hf=>(hl _ (iQ hf)).loc,fun _fn _pr hf=>(hl _ (iQ hf)).fit,fun _fn _pr hf=>(hl _ (iQ hf)).gG⟩
theorem yH {P:Program} {N:Nat→Nat} {l:List (Nat×Prim)} (hl:∀x∈l,Prim.Ok P N x.1 x.2):ep P N (fun n=>aG n l):=
 fun _fn _pr hf=>hl _ (iQ hf)
theorem CF (k:Nat) (f:List (List PV)→Option (List (List PV))) (g:Nat):Prim.Sh (j7 k f g) where
 gG:=by
  intro vs h v t hh
  unfold j7 at hh
  repeat' split at hh
  all_goals first|(cases hh; done)|(injection hh with hh; injection hh with e1 e2; subst e2; rfl)
 loc:=by
  intro vs h1 h2 v t hh ha
  unfold j7 at hh ⊢
  split at hh<;>first|(cases hh; done)|skip
  split at hh<;>first|(cases hh; done)|skip
  rename_i hg
  simp only[hg,if_true]
  split at hh<;>first|(cases hh; done)|skip
  .exact hh
  .rename_i id aq off len
   split at hh<;>first|(cases hh; done)|skip
   rename_i a ho
   have:(t.ra=some id∨t.nD=some id∨∃a,t.ar=some (id,a))→aF h2 id aq=some a:=fun hi=>(ha.own hi).trans ho
   split at hh
   .rename_i h0
    injection hh with hh
    injection hh with e1 e2
    subst e1
    subst e2
    rw[this (.inl rfl)]
    simp only[h0,if_true]
   .rename_i h0
    split at hh<;>first|(cases hh; done)|skip
    rename_i rows hb
    split at hh<;>first|(cases hh; done)|skip
    rename_i hc
    split at hh<;>first|(cases hh; done)|skip
    rename_i news hn
    injection hh with hh
    injection hh with e1 e2
    subst e1
    subst e2
    rw[this (.inr (.inr ⟨_,rfl⟩))]
    simp only[h0,if_false,hb,hn]
    rw[if_pos hc]
 fit:=by
  intro vs h v t hh
  unfold j7 at hh
  split at hh<;>first|(cases hh; done)|skip
  split at hh<;>first|(cases hh; done)|skip
  split at hh<;>first|(cases hh; done)|skip
  .injection hh with hh
   injection hh with e1 e2
   subst e2
   exact⟨fun hp=>absurd rfl hp,fun i a hia=>by cases hia⟩
  .split at hh<;>first|(cases hh; done)|skip
   rename_i a ho
   split at hh
   .injection hh with hh
    injection hh with e1 e2
    subst e2
    exact⟨fun hp=>absurd rfl hp,fun i a hia=>by cases hia⟩
   .split at hh<;>first|(cases hh; done)|skip
    split at hh<;>first|(cases hh; done)|skip
    split at hh<;>first|(cases hh; done)|skip
    injection hh with hh
    injection hh with e1 e2
    subst e2
    refine⟨fun hp=>absurd rfl hp,fun i a' hia=>?_⟩
    cases hia
    exact gn ho
theorem jh (k:Nat):Prim.Sh (dn k) where
 gG:=by
  intro vs h v t hh
  unfold dn at hh
  repeat' split at hh
  all_goals first|(cases hh; done)|(injection hh with hh; injection hh with e1 e2; subst e2; rfl)
 loc:=by
  intro vs h1 h2 v t hh ha
  unfold dn at hh ⊢
  split at hh<;>first|(cases hh; done)|skip
  split at hh<;>first|(cases hh; done)|skip
  rename_i rows rd hs
  split at hh<;>first|(cases hh; done)|skip
  rename_i hc
  split at hh
  .rename_i h0
   injection hh with hh
   injection hh with e1 e2
   subst e1
   subst e2
   rw[gJ hs (fun i hi=>ha.ar i (.inl hi))]
   simp only
   rw[if_pos hc,if_pos h0]
  .rename_i h0
   injection hh with hh
   injection hh with e1 e2
   subst e1
   subst e2
   rw[gJ hs (fun i hi=>ha.ar i (.inl hi))]
   simp only
   rw[if_pos hc,if_neg h0,ha.len (by simp)]
 fit:=by
  intro vs h v t hh
  unfold dn at hh
  split at hh<;>first|(cases hh; done)|skip
  split at hh<;>first|(cases hh; done)|skip
  split at hh<;>first|(cases hh; done)|skip
  split at hh
  all_goals
   injection hh with hh
   injection hh with e1 e2
   subst e2
   refine⟨fun hp=>?_,fun i a hia=>by cases hia⟩
   first|rfl|exact absurd rfl hp
end Go.Pv
