/-
 The interpreter over plain values,and that it is sound.
-/
import Derived.Test.YtpchfogcccagjaaGreatA2
import Derived.ProofKit
import Derived.Carry
import Derived.Attr
import Derived.Sort.Grow
import Derived.Shelf.GgSortFunc.InsertionK
import Derived.Shelf.SlSortCmp.InsertionK
import Derived.Shelf.SlicesE.Clone
open List renaming mem_of_getElem? → aaj, getElem?_eq_some_iff → aak, getElem?_eq_getElem → aal, length_map → aam, mem_iff_getElem? → aan, getElem?_append_left → aao, getElem?_map → aap, mem_map → aaq, length_append → aas, getElem?_append_right → aav, getElem?_take → aax, append_assoc → aay, mem_cons_of_mem → aaz, length_take → aaA, findIdx?_eq_some_iff_getElem → aaC, eq_nil_of_length_eq_zero → aaD, mem_cons → aaE, all_eq_true → aaF, pairwise_cons → aaI, mem_cons_self → aaN, getElem?_eq_none → aaX, mem_append → aaY, ext_getElem? → aa0, getElem?_drop → aa1, mem_append_left → aa2, mem_filterMap → aba, append_nil → abb, pairwise_iff_getElem → abh, map_take → abl, take_append_drop → abr, mem_of_mem_take → abF, pairwise_singleton → abN, isEmpty_iff → abO, contains_iff_mem → abR, map_cons → abV, mem_of_mem_drop → abY
open Nat renaming lt_or_ge → aar, le_refl → aau, mul_le_mul_right → aaw, add_mul → aaO, mod_lt → aaP, zero_le → aaS, le_trans → aa5, lt_of_lt_of_le → abi, one_mul → abm, add_assoc → abx, not_lt_zero → abz, le_max_right → abJ, zero_add → ab2, mod_eq_of_lt → ab3, add_zero → ab4
open Array renaming getElem?_toList → aaK, getElem?_eq_some_iff → aaM
open Option renaming map_eq_some_iff → aaT, bind_eq_some_iff → ab6, map_some → ab7
open Bool renaming eq_false_iff → abp
open Int renaming eq_ofNat_of_zero_le → abM
namespace Go.Pv
variable {P:Program} {N M:Nat→Nat} {W:Nat→Prop} {L L':Lx} {e e':bA} {h:aq} {w w':World} {Φ:Nat→List PV→Option (List PV)} {Pr:bD} {Tk:Nat→Bool}
def bA.cut (e:bA)(kb:List Nat):bA:={e with sl:=λs=>e.sl s/\(s∈kb\/ew s=true)}
theorem uV (s:Nat):∀bx:List (Nat×List V),aH s (pins bx)=if ew s=true then aH s bx else none
 |[]=>by simp[pins,aH]
 |(t,cs)::r=>by
  have ih:=uV s r;simp only[pins];by_cases ht:ew t=true
  .rw[if_pos ht];simp only[aH];by_cases hs:t=s
   .subst hs;simp[ht]
   .rw[if_neg hs,if_neg hs];exact ih
  .rw[if_neg ht,ih];by_cases hs:ew s=true
   .have:t≠s:=λh=>ht (h ▸ hs);simp[hs,aH,this]
   .simp[hs]
theorem uW (kb:List Nat)(bx:List (Nat×List V))(s:Nat):aH s (jf kb bx)=if s∈kb\/ew s=true then aH s bx else none:=by
 induction kb with
 |nil=>
  have:=uV s bx;simp only[jf];rw[this];simp
 |cons k r ih=>
  simp only[jf];cases hk:aH k bx with
  |none=>
   simp only;rw[ih];by_cases hs:s=k
   .subst hs;simp[hk]
   .simp[hs]
  |some cs=>
   simp only[aH];by_cases hs:k=s
   .subst hs;simp[hk]
   .rw[if_neg hs,ih];simp[Ne.symm hs]
theorem Hs (kt kb:List Nat)(env:List (Nat×V))(t:Nat):get (jr kt kb env) t=if t∈kt then ez kb (get env t) else .any:=by
 induction kt with
 |nil=>simp[jr,get,aH]
 |cons k r ih=>
  have:jr (k::r) kb env=(k,ez kb (get env k))::jr r kb env:=rfl;rw[this];simp only[get,aH];by_cases hk:k=t
  .subst hk;simp[]
  .rw[if_neg hk];have:=ih;simp only[get]at this;rw[this];simp[Ne.symm hk]
theorem VR.cut {x:V}{v:Value}(hv:VR N L e w x v){kb:List Nat}(hk:uv kb x=true):VR N L (e.cut kb) w x v:=by
 cases hv with
 |pv p v hp=>exact .pv p v hp
 |tl rows a hp hs=>exact .tl rows a hp hs
 |own id aw off len a cap h0 h1 h2 h3=>exact .own id aw off len a cap h0 h1 h2 h3
 |ptr s off hs=>exact .ptr (e:=e.cut kb) s off ⟨hs,by simpa [uv]using hk⟩
 |dC id aw row col a h1 h2 h3=>exact .dC id aw row col a h1 h2 h3
 |func f cap arr hs hv=>
  have:cap=[]:=by simpa [uv]using hk
  subst this;exact .func f [] arr hs (λj c hj=>by simp at hj)
 |map id hi=>exact .map (e:=e.cut kb) id hi
 |eP=>exact .eP
 |agg=>simp[uv]at hk
 |dR=>simp[uv]at hk
 |any v=>exact .any v
theorem VR.ez {x:V}{v:Value}(hv:VR N L e w x v)(kb:List Nat):VR N L (e.cut kb) w (Pv.ez kb x) v:=by
 cases x with
 |ptr s o=>
  simp only[Pv.ez];split
  .rename_i hk;exact hv.cut (by simpa [uv]using hk)
  .exact .any v
 |func f cap=>
  simp only[Pv.ez];split
  .rename_i hk;cases hv with
   |func _ _ arr hs hvv=>exact .func f cap arr hs (λj c hj=>(hvv j c hj).cut (aaF.1 hk c (aaj hj)))
  .exact .any v
 |agg cs=>
  simp only[Pv.ez];split
  .rename_i hk;cases hv with
   |agg _ arr hs hvv=>exact .agg cs arr hs (λj c hj=>(hvv j c hj).cut (aaF.1 hk c (aaj hj)))
  .exact .any v
 |dR vs=>exact .any v
 |pv p=>exact hv.cut rfl
 |tl r=>exact hv.cut rfl
 |own=>exact hv.cut rfl
 |dC=>exact hv.cut rfl
 |map=>exact hv.cut rfl
 |eP=>exact hv.cut rfl
 |any=>exact hv.cut rfl
theorem AA {x:V}(hc:x.calm=true)(kb:List Nat):uv kb x=true:=by
 cases x with
 |pv p=>rfl
 |tl r=>rfl
 |own=>rfl
 |func f cap=>simpa [V.calm,uv]using hc
 |_=>simp[V.calm]at hc
theorem Fm {x:V}(hc:x.ey=true)(kb:List Nat):uv kb x=true:=by
 cases x with
 |ptr s o=>
  have:ew s=true:=hc;simp[uv,this]
 |map=>rfl
 |eP=>rfl
 |pv p=>rfl
 |tl r=>rfl
 |own=>rfl
 |dC=>rfl
 |func f cap=>exact AA (x:=.func f cap) hc kb
 |agg cs=>simp[V.ey,V.calm]at hc
 |dR cs=>simp[V.ey,V.calm]at hc
 |any=>rfl
theorem gx.cut {b off:Nat}{cs:List V}(hc:gx N L e w b off cs)(kb:List Nat):gx N L (e.cut kb) w b off cs:=by
 intro j c hj;obtain⟨h1,v,h2,h3⟩:=hc j c hj;exact⟨h1,v,h2,h3.cut (AA h1 kb)⟩
theorem mX.cut {b:Nat}{cs:List V}(hc:mX N L e w b cs)(kb:List Nat):mX N L (e.cut kb) w b cs:=by
 intro j c hj;obtain⟨h1,v,h2,h3⟩:=hc j c hj;exact⟨h1,v,h2,h3.cut (Fm h1 kb)⟩
theorem HR.cut (hr:HR N L e W h w)(kb:List Nat):HR N L (e.cut kb) W {h with bx:=jf kb h.bx} w:=by
 refine⟨λs=>?_,λs cs hs=>?_,hr.na,hr.aw,λid a ha hk=>?_,hr.nm,hr.mp,λs hs=>hr.wA s hs.1,hr.oY,hr.yG,λs s' hs hs'=>hr.Cg s s' hs.1 hs'.1,λs id hs=>hr.yH s id hs.1,hr.yI,hr.Cj,hr.oZ,hr.wide,hr.Ch⟩
 .simp only[bA.cut,uW];by_cases hk:s∈kb\/ew s=true
  .simp only[hk,and_true,if_true,hr.sl s]
  .simp[hk]
 .simp only[uW]at hs;by_cases hk:s∈kb\/ew s=true
  .simp only[hk,if_true]at hs;obtain⟨h1,h2⟩:=hr.bx s cs hs;exact⟨h1,h2.cut kb⟩
  .simp[hk]at hs
 .obtain⟨h1,h2,h3,h4,h5⟩:=hr.ar id a ha hk;exact⟨h1,h2,h3,λi r hi=>(h4 i r hi).cut kb,h5⟩
theorem SR.mask {nt:Nat}{s:St}{a:Act}(hs:SR N W L e nt s a w)(kt kb:List Nat):SR N W L (e.cut kb) nt (s.mask kt kb) a w:=by
 refine⟨hs.hr.cut kb,λt=>?_,hs.size,hs.defers⟩;simp only[St.mask,Hs];split
 .exact(hs.env t).ez kb
 .exact .any _
structure rP (L:Lx)(e:bA)(w:World)(L':Lx)(e':bA)(w':World):Prop where
 sub:∀t b,L t b->L' t b
 kept:∀t b,L t b->w'.heap[b]?=w.heap[b]?
 sl:∀s,ew s=true->e.sl s->e'.sl s/\e'.bx s=e.bx s
 na:e.na<=e'.na
 av:∀id,id<e.na->e.av id<=e'.av id/\(e'.av id=e.av id->e'.ar id=e.ar id/\e'.ad id=e.ad id/\e'.cap id=e.cap id/\e'.ak id=e.ak id/\e'.an id=e.an id)
 nm:e.nm<=e'.nm
 mp:∀id,id<e.nm->e'.mp id=e.mp id
theorem Ext.x (h:Ext L e w L' e' w'):rP L e w L' e' w':=⟨h.sub,h.kept,λs _ hs=>h.sl s hs,h.na,h.av,h.nm,h.mp⟩
theorem rP.ext (h:rP L e w L' e' w'){e1 e2:bA}(h1:e1={e with sl:=e1.sl,bx:=e1.bx})(h2:e2={e' with sl:=e2.sl,bx:=e2.bx})(hs:∀s,e1.sl s->e2.sl s/\e2.bx s=e1.bx s):Ext L e1 w L' e2 w':=by
 have g1:e1.na=e.na/\e1.av=e.av/\e1.ar=e.ar/\e1.ad=e.ad/\e1.cap=e.cap/\e1.ak=e.ak/\e1.an=e.an/\e1.nm=e.nm/\e1.mp=e.mp:=by rw[h1];exact⟨rfl,rfl,rfl,rfl,rfl,rfl,rfl,rfl,rfl⟩
 have g2:e2.na=e'.na/\e2.av=e'.av/\e2.ar=e'.ar/\e2.ad=e'.ad/\e2.cap=e'.cap/\e2.ak=e'.ak/\e2.an=e'.an/\e2.nm=e'.nm/\e2.mp=e'.mp:=by rw[h2];exact⟨rfl,rfl,rfl,rfl,rfl,rfl,rfl,rfl,rfl⟩
 obtain⟨a1,a2,a3,a4,a5,a6,a7,a8,a9⟩:=g1;obtain⟨b1,b2,b3,b4,b5,b6,b7,b8,b9⟩:=g2;refine⟨h.sub,h.kept,hs,by rw[a1,b1];exact h.na,?_,by rw[a8,b8];exact h.nm,?_⟩
 .rw[a1,a2,a3,a4,a5,a6,a7,b2,b3,b4,b5,b6,b7];exact h.av
 .rw[a8,a9,b9];exact h.mp
theorem rP.trans {L'':Lx}{e'':bA}{w'':World}(h:rP L e w L' e' w')(k:rP L' e' w' L'' e'' w''):rP L e w L'' e'' w'':=by
 refine⟨λt b hb=>k.sub _ _ (h.sub _ _ hb),λt b hb=>(k.kept _ _ (h.sub _ _ hb)).trans (h.kept _ _ hb),λs hp hs=>?_,aa5 h.na k.na,λid hid=>?_,aa5 h.nm k.nm,λid hid=>?_⟩
 .obtain⟨h1,h2⟩:=h.sl s hp hs;obtain⟨h3,h4⟩:=k.sl s hp h1;exact⟨h3,h4.trans h2⟩
 .obtain⟨h1,h2⟩:=h.av id hid;obtain⟨h3,h4⟩:=k.av id (abi hid h.na);refine⟨aa5 h1 h3,λhe=>?_⟩;have e1:e'.av id=e.av id:=by omega
  have e2:e''.av id=e'.av id:=by omega
  obtain⟨a1,a2,a3,a4,a5⟩:=h2 e1;obtain⟨b1,b2,b3,b4,b5⟩:=h4 e2;exact⟨b1.trans a1,b2.trans a2,b3.trans a3,b4.trans a4,b5.trans a5⟩
 .exact(k.mp id (abi hid h.nm)).trans (h.mp id hid)
theorem rP.cut (h:rP L e w L' e' w')(kb:List Nat):rP L e w L' (e'.cut kb) w':=
 ⟨h.sub,h.kept,λs hp hs=>⟨⟨(h.sl s hp hs).1,.inr hp⟩,(h.sl s hp hs).2⟩,h.na,h.av,h.nm,h.mp⟩
def FS (N:Nat->Nat)(W:Nat->Prop)(nt:Nat)(L0:Lx)(e0:bA)(w0:World)(s:St)(a:Act)(w:World):Prop:=
 ∃L e,SR N W L e nt s a w/\Fr W w0 w/\(∀t b,L0 t b->L t b)/\(∀t b,L t b->L0 t b\/(t=0/\W b))/\rP L0 e0 w0 L e w
theorem FS.mask {nt:Nat}{L0:Lx}{e0:bA}{w0:World}{s:St}{a:Act}(hs:FS N W nt L0 e0 w0 s a w)(kt kb:List Nat):FS N W nt L0 e0 w0 (s.mask kt kb) a w:=by
 obtain⟨L,e,h1,h2,h3,h4,h5⟩:=hs;exact⟨L,_,h1.mask kt kb,h2,h3,h4,h5.cut kb⟩
theorem FS.step {nt:Nat}{L0:Lx}{e0:bA}{w0:World}{s':St}{a':Act}(hf:Fr W w0 w)(h1:∀t b,L0 t b->L t b)(h2:∀t b,L t b->L0 t b\/(t=0/\W b))(hx:rP L0 e0 w0 L e w)(hn:Nx N W L e w L' e' s'.h w')(hs:SR N W L' e' nt s' a' w'):FS N W nt L0 e0 w0 s' a' w':=by
 refine⟨L',e',hs,hf.trans hn.fr,λt b hb=>hn.ext.sub _ _ (h1 t b hb),λt b hb=>?_,hx.trans hn.ext.x⟩;rcases hn.new t b hb with hb|hb
 .exact h2 t b hb
 .exact .inr hb
def Ht:Ex->Exit
 |.normal=>.normal
 |.exit id=>.exit id
 |.ret=>.ret
def QQ (N:Nat->Nat)(W:Nat->Prop)(nt:Nat)(L0:Lx)(e0:bA)(w0:World)(ex:Ex)(s':St):Exit->Act->World->Prop:=λx a w=>x=Ht ex/\FS N W nt L0 e0 w0 s' a w
def l6 (P:Program)(N M:Nat->Nat)(A:Nat->Option af)(Pr:bD)(n:Nat):Prop:=
 ∀(nt:Nat)(code:Code)(an:G5)(ac:AC)(an':G5),eE P N M nt code an=some (ac,an')->∀(W:Nat->Prop)(L0:Lx)(e0:bA)(w0:World)(s:St)(ex:Ex)(s':St)(a:Act)(w:World),
  exec A Pr n ac s=some (ex,s')->FS N W nt L0 e0 w0 s a w->code.wp P (QQ N W nt L0 e0 w0 ex s') a w
def Hu (P:Program)(N:Nat->Nat)(A:Nat->Option af)(Pr:bD)(n:Nat):Prop:=∀f ps rs,dv A (exec A Pr n) f ps=some rs->w7 P N f ps rs
theorem AB {A:Nat->Option af}{nt:Nat}{code:Code}{an an':G5}{x:AC}{kt kb:List Nat}(htr:eE P N M nt code an=some (x,an')){W:Nat->Prop}{L0:Lx}{e0:bA}{w0:World}:∀(k:Nat),(∀j,j<k->l6 P N M A Pr j)->∀(s:St)(ex:Ex)(s':St)(a:Act)(w:World),
  exec A Pr k (.loop (.mask kt kb x)) s=some (ex,s')->FS N W nt L0 e0 w0 s a w->Code.rounds P code (QQ N W nt L0 e0 w0 ex s') k a w:=by
 intro k
 induction k with
 |zero=>intro _ s ex s' a w he _;simp[exec]at he
 |succ k ih=>
  intro hall s ex s' a w he hs;have he':ct A Pr (exec A Pr k) (.loop (.mask kt kb x)) s=some (ex,s'):=he;simp only[ct]at he';rw[rounds_succ];cases k with
  |zero=>simp[exec]at he'
  |succ j=>
   have hmask:exec A Pr (j+1) (.mask kt kb x) s=exec A Pr j x (s.mask kt kb):=rfl;rw[hmask]at he';cases hx:exec A Pr j x (s.mask kt kb)with
   |none=>simp[hx]at he'
   |some r=>
    obtain⟨ex1,s1⟩:=r;have hwp:=hall j (by omega) nt code an x an' htr W L0 e0 w0 _ ex1 s1 a w hx (hs.mask kt kb);refine wp_mono hwp λxx a1 w1 hq=>?_;obtain⟨rfl,hs1⟩:=hq;cases ex1 with
    |normal=>
     simp only[hx]at he';exact ih (λi hi=>hall i (by omega)) s1 ex s' a1 w1 he' hs1
    |exit id=>
     simp only[hx]at he';injection he' with he';injection he' with e1 e2;subst e1;subst e2;exact⟨rfl,hs1⟩
    |ret=>
     simp only[hx]at he';injection he' with he';injection he' with e1 e2;subst e1;subst e2;exact⟨rfl,hs1⟩
theorem Fo (hm:P.follows .mixedOrders=true){A:Nat->Option af}(n:Nat)(hPL:dp (bT A (exec A Pr n) Pr))(hPr:eR P N (bT A (exec A Pr n) Pr))(hall:∀j,j<=n->l6 P N M A Pr j)(hfn:Hu P N A Pr n):l6 P N M A Pr (n+1):=by
 intro nt code an ac an' htr W L0 e0 w0 s ex s' a w he hs;have he':ct A Pr (exec A Pr n) ac s=some (ex,s'):=he;cases code with
 |skip=>
  simp only[eE]at htr;injection htr with htr;injection htr with e1 e2;subst e1;simp only[ct]at he';injection he' with he';injection he' with e1 e2;subst e1;subst e2;exact wp_skip ⟨rfl,hs⟩
 |exit id=>
  simp only[eE]at htr;injection htr with htr;injection htr with e1 e2;subst e1;simp only[ct]at he';injection he' with he';injection he' with e1 e2;subst e1;subst e2;exact wp_exit ⟨rfl,hs⟩
 |ret=>
  simp only[eE]at htr;injection htr with htr;injection htr with e1 e2;subst e1;simp only[ct]at he';injection he' with he';injection he' with e1 e2;subst e1;subst e2;exact wp_ret ⟨rfl,hs⟩
 |seq x y=>
  simp only[eE]at htr;split at htr<;>first|(cases htr;done)|skip
  rename_i x' an1 hx;split at htr<;>first|(cases htr;done)|skip
  rename_i y' an2 hy;injection htr with htr;injection htr with e1 e2;subst e1;simp only[ct]at he';refine wp_seq ?_;cases hex:exec A Pr n x' s with
  |none=>simp[hex]at he'
  |some r=>
   obtain⟨ex1,s1⟩:=r;refine wp_mono (hall n (aau _) nt x an x' an1 hx W L0 e0 w0 s ex1 s1 a w hex hs) λxx a1 w1 hq=>?_;obtain⟨rfl,hs1⟩:=hq;cases ex1 with
   |normal=>
    simp only[hex]at he';exact hall n (aau _) nt y an1 y' an2 hy W L0 e0 w0 s1 ex s' a1 w1 he' hs1
   |exit id=>
    simp only[hex]at he';injection he' with he';injection he' with e1 e2;subst e1;subst e2;exact⟨rfl,hs1⟩
   |ret=>
    simp only[hex]at he';injection he' with he';injection he' with e1 e2;subst e1;subst e2;exact⟨rfl,hs1⟩
 |cond c x y=>
  simp only[eE]at htr;split at htr<;>first|(cases htr;done)|skip
  rename_i c' x' an1 hc hx;split at htr<;>first|(cases htr;done)|skip
  rename_i y' an2 hy;injection htr with htr;injection htr with e1 e2;subst e1;simp only[ct]at he';obtain⟨L,e,hsr,hrest⟩:=hs;have hv:=(hsr.or (M:=M)) c c' hc;have hs:FS N W nt L0 e0 w0 s a w:=⟨L,e,hsr,hrest⟩;split at he'<;>first|(cases he';done)|skip
  .rename_i hg;rw[hg]at hv;exact wp_cond_true hv.bool (hall n (aau _) nt x an x' an1 hx W L0 e0 w0 s ex s' a w he' hs)
  .rename_i hg;rw[hg]at hv;exact wp_cond_false hv.bool (hall n (aau _) nt y an1 y' an2 hy W L0 e0 w0 s ex s' a w he' hs)
 |block id x=>
  simp only[eE]at htr;split at htr<;>first|(cases htr;done)|skip
  rename_i x' an1 hx;injection htr with htr;injection htr with e1 e2;subst e1;simp only[ct]at he';refine wp_block ?_;cases hex:exec A Pr n x' s with
  |none=>simp[hex]at he'
  |some r=>
   obtain⟨ex1,s1⟩:=r;refine wp_mono (hall n (aau _) nt x an x' an1 hx W L0 e0 w0 s ex1 s1 a w hex hs) λxx a1 w1 hq=>?_;obtain⟨rfl,hs1⟩:=hq;cases ex1 with
   |normal=>
    simp only[hex]at he';injection he' with he';injection he' with e1 e2;subst e1;subst e2;exact⟨rfl,hs1⟩
   |exit j=>
    simp only[hex]at he';simp only[Ht,Exit.inBlock];split at he'
    .rename_i hj;injection he' with he';injection he' with e1 e2;subst e1;subst e2;rw[if_pos hj];exact⟨rfl,hs1⟩
    .rename_i hj;injection he' with he';injection he' with e1 e2;subst e1;subst e2;rw[if_neg hj];exact⟨rfl,hs1⟩
   |ret=>
    simp only[hex]at he';injection he' with he';injection he' with e1 e2;subst e1;subst e2;exact⟨rfl,hs1⟩
 |loop x=>
  simp only[eE]at htr;split at htr<;>first|(cases htr;done)|skip
  rename_i kt kb r;split at htr<;>first|(cases htr;done)|skip
  rename_i x' an1 hx;injection htr with htr;injection htr with e1 e2;subst e1;exact wp_loop_rounds (n+1) (AB hx (n+1) (λj hj=>hall j (by omega)) s ex s' a w he hs)
 |region id ops draw=>
  simp only[eE]at htr;split at htr<;>first|(cases htr;done)|skip
  rename_i kt kb r;split at htr
  .injection htr with htr;injection htr with e1 e2;subst e1;have hno:ct A Pr (exec A Pr n) yM s=none:=rfl;rw[hno]at he';cases he'
  split at htr<;>first|(cases htr;done)|skip
  rename_i l hl;obtain⟨L,e,hsr,hf,h1,h2,hx⟩:=hs;split at htr
  .rename_i hdraw;subst hdraw;split at htr<;>first|(cases htr;done)|skip
   rename_i hok;split at htr
   .injection htr with htr;injection htr with e1 e2;subst e1;simp only[ct]at he';split at he'<;>first|(cases he';done)|skip
    rename_i s1 hex;injection he' with he';injection he' with e1 e2;subst e1;subst e2;exact Az (M:=M) hm hPL hfn hPr hl hok hsr (jH l 0).1 (jH l 0).2 hex λa' w' L' e' hn hs'=>⟨rfl,(FS.step hf h1 h2 hx hn hs').mask kt (iP kb)⟩
   split at htr
   .injection htr with htr;injection htr with e1 e2;subst e1;simp only[ct]at he';split at he'<;>first|(cases he';done)|skip
    rename_i s1 hex;injection he' with he';injection he' with e1 e2;subst e1;subst e2;exact Az (M:=M) hm hPL hfn hPr hl hok hsr (oh l 0).1 (oh l 0).2 hex λa' w' L' e' hn hs'=>⟨rfl,(FS.step hf h1 h2 hx hn hs').mask kt (iP kb)⟩
   injection htr with htr;injection htr with e1 e2;subst e1;simp only[ct]at he';split at he'<;>first|(cases he';done)|skip
   rename_i s1 hex;injection he' with he';injection he' with e1 e2;subst e1;subst e2;exact Hr (M:=M) hm hPL hfn hPr hl hok hsr hex λa' w' L' e' hn hs'=>⟨rfl,(FS.step hf h1 h2 hx hn hs').mask kt (iP kb)⟩
  .rename_i hdraw;have hdraw':draw=false:=by simpa using hdraw
   subst hdraw';split at htr
   .injection htr with htr;injection htr with e1 e2;subst e1;simp only[ct]at he';split at he'<;>first|(cases he';done)|skip
    rename_i s1 hex;injection he' with he';injection he' with e1 e2;subst e1;subst e2;exact CI (M:=M) hfn hPr hl hsr (jH l 0).1 (jH l 0).2 hex λa' w' L' e' hn hs'=>⟨rfl,(FS.step hf h1 h2 hx hn hs').mask kt (iP kb)⟩
   injection htr with htr;injection htr with e1 e2;subst e1;simp only[ct]at he';split at he'<;>first|(cases he';done)|skip
   rename_i s1 hex;injection he' with he';injection he' with e1 e2;subst e1;subst e2;exact Fl (M:=M) hfn hPr hl hsr hex λa' w' L' e' hn hs'=>⟨rfl,(FS.step hf h1 h2 hx hn hs').mask kt (iP kb)⟩
 |_=>simp[eE]at htr
end Go.Pv
namespace Go.Pv
variable {P:Program} {N M:Nat→Nat} {W:Nat→Prop} {L L':Lx} {e e':bA} {h:aq} {w w':World} {Pr:bD}
def bA.empty:bA:=⟨λ_=>False,λ_=>0,0,λ_=>0,λ_=>0,λ_=>0,λ_=>0,λ_=>0,λ_=>0,0,λ_=>0⟩
theorem HR.start (hl:∀t b,L t b->b<w.heap.size)(ht:uA N L w)(hw:∀b,w.heap.size<=b->W b):HR N L .empty W aq.empty w:=by
 refine⟨λs=>?_,λs cs hs=>?_,rfl,λid a ha=>?_,λid a ha=>?_,rfl,λid m hm=>?_,λs hs=>hs.elim,λid hi=>absurd hi (abz _),λid hi=>absurd hi (abz _),
  λs _ hs=>hs.elim,λs _ hs=>hs.elim,λi _ hi=>absurd hi (abz _),λi _ hi=>absurd hi (abz _),hl,hw,ht⟩
 .simp[bA.empty,aq.empty,aH]
 .simp[aq.empty,aH]at hs
 .simp[aq.empty]at ha
 .simp[aq.empty]at ha
 .simp[aq.empty]at hm
theorem xj:∀(ps:List PV)(n t:Nat),get (entry n ps) t=if n<=t then (match ps[t - n]? with|some p=>V.kA p|none=>.any) else .any
 |[],n,t=>by simp[entry,get,aH]
 |p::r,n,t=>by
  have ih:=xj r (n+1) t;simp only[entry,get,aH]at ih |-;by_cases hn:n=t
  .subst hn;simp
  .rw[if_neg hn,ih];by_cases hlt:n<=t
   .rw[if_pos (show n+1<=t by omega),if_pos hlt,show t - n=(t - (n+1))+1 by omega];simp
   .rw[if_neg (by omega),if_neg hlt]
theorem xk {p:PV}{v:Value}(hp:eb N L w p v):VR N L e w (V.kA p) v:=by
 cases p with
 |agg cs=>
  cases hp with
  |agg _ arr hs hv _=>
   refine .agg _ arr (by simpa using hs) (λj c hj=>?_);obtain⟨q,hq,rfl⟩:=dM hj;exact .pv _ _ (hv j q hq)
 |fr k rows=>cases hp
 |_=>exact .pv _ _ hp
theorem M1 {k:Nat}{rows:List (List PV)}{v:Value}(hp:eb N L w (.fr k rows) v):False:=by cases hp
theorem Fp {T:Option Nat}{ps:List PV}{args:Array Value}(hl:∀t b,L t b->b<w.heap.size)(ht:uA N L w)(ha:Am N L w T ps args.toList):
  ∃e,HR N L e (Wc w T) (cY ps) w/\∀(j:Nat)(p:PV),ps[j]?=some p->∃v,args.toList[j]?=some v/\VR N L e w (V.kA p) v:=by
 generalize hargs:args.toList=al at ha;cases ha with
 |plain _ _ hlen hv=>
  have h0:cY ps=aq.empty:=by
   cases ps with
   |nil=>rfl
   |cons p r=>
    cases p with
    |fr k rows=>
     obtain⟨v,_,h2⟩:=hv 0 _ rfl;exact(M1 h2).elim
    |_=>rfl
  rw[h0];refine⟨.empty,HR.start hl ht (λb hb=>.inl hb),λj p hj=>?_⟩;obtain⟨v,h1,h2⟩:=hv j p hj;exact⟨v,h1,xk h2⟩
 |take b k rows v qs vs hf hlen hv=>
  have hst:HR N L .empty (Wc w (some b)) aq.empty w:=HR.start hl ht (λb hb=>.inl hb);obtain⟨e,h1,h2,h3⟩:=hf.own hst (.inr rfl) (λho=>by
   rcases ho with⟨s,hs,_⟩|⟨id,hi,_⟩
   .exact hs
   .exact absurd hi (abz _))
  refine⟨e,h1.hr,λj p hj=>?_⟩
  match j,hj with
  |0,hj=>simp at hj;subst hj;exact⟨v,rfl,h2⟩
  |j+1,hj=>
   obtain⟨u,k1,k2⟩:=hv j p (by simpa using hj);exact⟨u,by simpa using k1,xk k2⟩
theorem CJ {t:TypeId}{n:Nat}{ag:Bool}(hl:loadT P t=some (n,ag))(hr:HR N L e W h w){x:V}{xv:Value}(hx:VR N L e w x xv){cs:List V}{tn:Tn}(hla:loadAt h n x=some (cs,tn)){v:V}(hc:eZ ag cs=some v):
  ∃a v',xv=.pointer (some a)/\(loadVar t a).run P w=.ok v' w/\VR N L e w v v':=by
 obtain⟨a1,a2,b,off,a3,a4⟩:=sM hr hx hla;obtain⟨v',r1,r2⟩:=zU (P:=P) hl a2 a4 hc;exact⟨_,v',a3,r1,r2⟩
theorem qq {nt:Nat}{s:St}{a:Act}(hs:SR N W L e nt s a w):∀(rs:List ResultVar)(rv:List p5)(vs:List V),aA (uz P) rs=some rv->aA (du s) rv=some vs->
  ∃vals:List Value,(rs.mapM (λr=>(match r with|.tmp t=>pure (a.tmps.getD t undef)|.cell x t=>do loadVar t (<- asAddr (a.tmps.getD x undef)):Sem Value))).run P w=.ok vals w/\vals.length=vs.length/\
   ∀(j:Nat)(v:V),vs[j]?=some v->∃u,vals[j]?=some u/\VR N L e w v u
 |[],rv,vs,h1,h2=>by
  simp[aA]at h1;subst h1;simp[aA]at h2;subst h2;exact⟨[],by simp,rfl,λj v hj=>by simp at hj⟩
 |r::rs,rv,vs,h1,h2=>by
  simp only[aA]at h1;split at h1<;>first|(cases h1;done)|skip
  rename_i q qs hq hqs;injection h1 with h1;subst h1;simp only[aA]at h2;split at h2<;>first|(cases h2;done)|skip
  rename_i v vr hv hvr;injection h2 with h2;subst h2;obtain⟨vals,g1,g2,g3⟩:=qq hs rs qs vr hqs hvr;have hone:∃u,(match r with|.tmp t=>pure (a.tmps.getD t undef)|.cell x t=>do loadVar t (<- asAddr (a.tmps.getD x undef)):Sem Value).run P w=.ok u w/\VR N L e w v u:=by
   cases r with
   |tmp t=>
    simp[uz]at hq;subst hq;simp[du]at hv;subst hv;exact⟨_,by simp,hs.env t⟩
   |cell x t=>
    simp only[uz]at hq;split at hq<;>first|(cases hq;done)|skip
    rename_i n b hl;injection hq with hq;subst hq;simp only[du]at hv;split at hv<;>first|(cases hv;done)|skip
    rename_i cs tn hla;obtain⟨ad,u,k1,k2,k3⟩:=CJ hl hs.hr (hs.env x) hla hv;refine⟨u,?_,k3⟩;simp only[Sem.run_bind];rw[k1];simpa [asAddr]using k2
  obtain⟨u,k1,k2⟩:=hone;refine⟨u::vals,?_,by simp[g2],λj x hj=>?_⟩
  .rw[List.mapM_cons];simp only[Sem.run_bind,k1,Result.andThen_ok,g1,Sem.run_pure]
  .match j,hj with
   |0,hj=>simp at hj;subst hj;exact⟨u,rfl,k2⟩
   |j+1,hj=>simpa using g3 j x (by simpa using hj)
theorem Hv (vs:Array Value):(if h:vs.size=1 then vs[0] else .tuple vs)=uM vs.toList:=by
 obtain⟨l⟩:=vs
 match l with
 |[]=>rfl
 |[v]=>rfl
 |_::_::_=>rfl
theorem sX {nt:Nat}{s:St}{a:Act}(hs:SR N W L e nt s a w){go:Func}{rv:List p5}(hrv:aA (uz P) go.results.toList=some rv){vs:List V}(hv:aA (du s) rv=some vs):
  ∃vals:List Value,(results go a.tmps).run P w=.ok (uM vals) w/\vals.length=vs.length/\∀(j:Nat)(v:V),vs[j]?=some v->∃u,vals[j]?=some u/\VR N L e w v u:=by
 obtain⟨vals,h1,h2,h3⟩:=qq hs go.results.toList rv vs hrv hv;refine⟨vals,?_,h2,h3⟩;unfold results;rw[Array.mapM_eq_mapM_toList];have h1':((go.results.toList.mapM (λr=>(match r with|.tmp t=>pure (a.tmps.getD t undef)|.cell x t=>do loadVar t (<- asAddr (a.tmps.getD x undef)):Sem Value))).run P w)=.ok vals w:=h1;simp only[Sem.run_bind,map_eq_pure_bind];have:∀(f:ResultVar->Sem Value),(∀r,f r=(match r with|.tmp t=>pure (a.tmps.getD t undef)|.cell x t=>do loadVar t (<- asAddr (a.tmps.getD x undef)):Sem Value))->(go.results.toList.mapM f).run P w=.ok vals w:=by
  intro f hf;have:f=_:=funext hf;rw[this];exact h1'
 rw[this _ (λr=>by cases r<;>rfl)];simp only[Result.andThen_ok,Sem.run_pure];rw[Hv]
theorem pw (hr:HR N L e W h w)(hL:∀b,L 0 b->L' 0 b)(hown:∀id,id<e.na->e.ak id≠0->L' 0 (e.ar id)){x:V}{p:PV}{v:Value}(hk:bd h 4 x=some p)(hv:VR N L e w x v):CR N L' w p v []:=by
 obtain⟨h1,h2⟩:=nj hr hL 4 x p v hk hv (λ_=>hown);exact .bV p v h2 h1
def dN (e:bA)(cs:List V):List Nat:=(cs.filterMap gY).map e.ar
theorem ns (hr:HR N L e W h w)(hL:∀b,L 0 b->L' 0 b){x:V}(hno:∀b∈dN e [x],∀t,¬L' t b){p:PV}{v:Value}(hk:fC h x=some p)(hv:VR N L e w x v):CR N L' w p v (dN e [x])/\∀id,gY x=some id->id<e.na/\e.ak id≠0:=by
 unfold fC at hk;split at hk
 .rename_i id aw len;cases ho:aC h id aw with
  |none=>simp[ho]at hk
  |some a=>
   simp only[ho]at hk;split at hk<;>first|(cases hk;done)|skip
   rename_i rows hb;split at hk<;>first|(cases hk;done)|skip
   rename_i hk0;injection hk with hk;subst hk;obtain⟨ho1,ho2⟩:=bJ ho;obtain⟨v1,v2,v3,v4⟩:=hr.aw id a ho1;obtain⟨g1,g2,g3,g4,g5⟩:=hr.ar id a ho1 hk0;have hid:id<e.na:=by rw[hr.na];exact(aak.1 ho1).1
   refine⟨?_,λj hj=>by simp[gY]at hj;subst hj;exact⟨hid,by rw[v2];exact hk0⟩⟩;have hbl:dN e [.own id aw 0 len]=[e.ar id]:=rfl;rw[hbl]at hno |-;refine .fresh a.k (rows.take len) (e.ar id) v ?_;obtain⟨A,cap,rfl⟩:=tV hv;cases hv with
   |own _ _ _ _ _ _ h0 h1 h2 h3=>
    obtain⟨q1,q2,q3,q4⟩:=h3 (by omega);have hsz:a.size=rows.length:=by simp[aL.size,hb]
    simp only[Nat.zero_mul,Nat.add_zero,Nat.zero_add]at q1 q3 q4;have hlen:(rows.take len).length=len:=by simp;omega
    have hrows:a.rows=rows.map (·.map V.pv):=by simp[aL.rows,hb]
    refine⟨A,cap,e.ad id,e.cap id,by rw[hlen],hk0,by omega,q3,q4,g2,λr hr'=>?_,hno (e.ar id) (by simp),λi j c hcc=>?_⟩
    .have:=g3 (r.map V.pv) (by rw[hrows];exact aaq.2 ⟨r,abF hr',rfl⟩)
     simpa using this
    .unfold fZ at hcc;cases hi:(rows.take len)[i]? with
     |none=>simp[hi]at hcc
     |some r=>
      simp[hi]at hcc;have hi':rows[i]?=some r:=by
       rw[aax]at hi;split at hi
       .exact hi
       .cases hi
      obtain⟨_,u,k1,k2⟩:=g4 i (r.map V.pv) (by rw[hrows];exact lW hi') j (.pv c) (by simp[hcc]);have hperm:c.perm=true:=by
       rw[hb]at g5;exact g5 r (aaj hi') c (aaj hcc)
      refine⟨hperm,u,by rw[<- abx];exact k1,?_⟩;cases k2 with
      |pv _ _ hq=>exact hq.hJ hperm (λb hb=>⟨hL b hb,rfl⟩)
 .cases hk
 .rename_i hn1 hn2;have hnone:gY x=none:=by
   cases x with
   |own id aw off len=>
    cases off with
    |zero=>exact absurd rfl (hn1 id aw len)
    |succ off=>exact absurd rfl (hn2 id aw (off+1) len)
   |_=>rfl
  have hb0:dN e [x]=[]:=by simp[dN,hnone]
  rw[hb0];obtain⟨k1,k2⟩:=nj hr hL 4 x p v hk hv (λhne=>absurd hnone hne);exact⟨.bV p v k2 k1,λid hid=>by rw[hnone]at hid;cases hid⟩
theorem AD (e:bA)(x:V)(cs:List V):dN e (x::cs)=dN e [x]++dN e cs:=by
 cases hx:gY x<;>simp[dN,hx]
theorem sY (hr:HR N L e W h w)(hL:∀b,L 0 b->L' 0 b):∀(cs:List V)(ps:List PV)(vs:List Value),(∀b∈dN e cs,∀t,¬L' t b)->aA (fC h) cs=some ps->vs.length=cs.length->(∀(j:Nat)(x:V),cs[j]?=some x->∃u,vs[j]?=some u/\VR N L e w x u)->
  G0 N L' w ps vs (dN e cs)/\∀id∈cs.filterMap gY,id<e.na/\e.ak id≠0
 |[],ps,vs,_,hm,hl,_=>by
  simp[aA]at hm;subst hm;have:vs=[]:=List.eq_nil_of_length_eq_zero (by simpa using hl);subst this;exact⟨.nil,by simp⟩
 |x::cs,ps,vs,hno,hm,hl,hv=>by
  simp only[aA]at hm;split at hm<;>first|(cases hm;done)|skip
  rename_i p pr hp hpr;injection hm with hm;subst hm
  match vs,hl with
  |v::vs,hl=>
   obtain⟨u,h1,h2⟩:=hv 0 x rfl;simp at h1;subst h1;rw[AD]at hno |-;obtain⟨c1,c2⟩:=ns hr hL (λb hb=>hno b (aa2 _ hb)) hp h2;obtain⟨d1,d2⟩:=sY hr hL cs pr vs (λb hb=>hno b (List.mem_append_right _ hb)) hpr (by simpa using hl) (λj y hj=>by simpa using hv (j+1) y (by simpa using hj));refine⟨.cons _ _ _ _ _ _ c1 d1,λid hid=>?_⟩;obtain⟨y,hy1,hy2⟩:=aba.1 hid;rcases aaE.1 hy1 with rfl|hy1
   .exact c2 id hy2
   .exact d2 id (aba.2 ⟨y,hy1,hy2⟩)
theorem uX (hr:HR N L e W h w)(hL:∀b,L 0 b->L' 0 b)(hown:∀id,id<e.na->e.ak id≠0->L' 0 (e.ar id)):∀(cs:List V)(ps:List PV)(vs:List Value),aA (bd h 4) cs=some ps->vs.length=cs.length->(∀(j:Nat)(x:V),cs[j]?=some x->∃u,vs[j]?=some u/\VR N L e w x u)->G0 N L' w ps vs []
 |[],ps,vs,hm,hl,_=>by
  simp[aA]at hm;subst hm;have:vs=[]:=List.eq_nil_of_length_eq_zero (by simpa using hl);subst this;exact .nil
 |x::cs,ps,vs,hm,hl,hv=>by
  simp only[aA]at hm;split at hm<;>first|(cases hm;done)|skip
  rename_i p pr hp hpr;injection hm with hm;subst hm
  match vs,hl with
  |v::vs,hl=>
   obtain⟨u,h1,h2⟩:=hv 0 x rfl;simp at h1;subst h1;exact G0.cons _ _ [] _ _ [] (pw hr hL hown hp h2) (uX hr hL hown cs pr vs hpr (by simpa using hl) (λj y hj=>by simpa using hv (j+1) y (by simpa using hj)))
end Go.Pv
namespace Go.Pv
variable {P:Program} {N M:Nat→Nat} {W:Nat→Prop} {L L':Lx} {e e':bA} {h:aq} {w w':World} {Pr:bD}
theorem gC:∀(r l:List Nat),l.Nodup->(cE l r).Nodup
 |[],_,h=>h
 |s::r,l,h=>by
  simp only[cE];split
  .exact gC r l h
  .rename_i hc;refine gC r _ (List.nodup_append.2 ⟨h,by simp,λa ha b hb=>?_⟩);have hb:b=s:=by simpa using hb
   subst hb
   rintro rfl
   exact hc (by simpa using ha)
theorem qt (bx:List (Nat×List V)):∀(n:Nat)(l:List Nat),l.Nodup->(ea bx n l).Nodup
 |0,_,h=>h
 |n+1,l,h=>qt bx n _ (gC _ l h)
def bA.on (e:bA)(sl:Nat->Prop)(bx:Nat->Nat):bA:={e with sl:=sl,bx:=bx}
theorem Fq {c:V}(hc:c.calm=true)(f:Nat->Option Nat):gn f c=some c:=by
 cases c with
 |func k cap=>
  have:cap.isEmpty=true:=hc;simp[gn,this]
 |ptr=>simp[V.calm]at hc
 |agg=>simp[V.calm]at hc
 |dR=>simp[V.calm]at hc
 |_=>rfl
theorem VR.gn {f:Nat->Option Nat}{c c':V}{v:Value}{sl:Nat->Prop}{bx:Nat->Nat}(hh:Pv.gn f c=some c')(hv:VR N L e w c v)(hf:∀s t,f s=some t->e.sl s->sl t/\bx t=e.bx s):VR N L (e.on sl bx) w c' v:=by
 cases c with
 |ptr s o=>
  simp only[Pv.gn]at hh;split at hh<;>first|(cases hh;done)|skip
  rename_i t ht;cases hh;cases hv with
  |ptr _ _ hs=>
   obtain⟨h1,h2⟩:=hf s t ht hs;rw[<- h2];exact .ptr (e:=e.on sl bx) t o h1
 |func k cap=>
  simp only[Pv.gn]at hh;split at hh<;>first|(cases hh;done)|skip
  rename_i hc;cases hh;cases hv with
  |func _ _ arr hs _=>
   refine .func k cap arr hs (λj c hj=>?_);rw[abO.1 hc]at hj;simp at hj
 |agg cs=>cases hh
 |dR cs=>cases hh
 |pv p=>cases hh;cases hv with|pv _ _ hp=>exact .pv p v hp
 |tl rows=>cases hh;cases hv with|tl _ a hp hs=>exact .tl rows a hp hs
 |own id aw off len=>cases hh;cases hv with|own _ _ _ _ a cap h0 h1 h2 h3=>exact .own (e:=e.on sl bx) id aw off len a cap h0 h1 h2 h3
 |dC id aw row col=>cases hh;cases hv with|dC _ _ _ _ a h1 h2 h3=>exact .dC (e:=e.on sl bx) id aw row col a h1 h2 h3
 |map id=>cases hh;cases hv with|map _ hi=>exact .map (e:=e.on sl bx) id hi
 |eP=>cases hh;cases hv;exact .eP
 |any=>cases hh;exact .any v
theorem VR.mR {f:Nat->Option Nat}{c c':V}{v:Value}{sl:Nat->Prop}{bx:Nat->Nat}(hh:Pv.mR f c=some c')(hv:VR N L e w c v)(hf:∀s t,f s=some t->e.sl s->sl t/\bx t=e.bx s):VR N L (e.on sl bx) w c' v:=by
 cases c with
 |func k cap=>
  simp only[Pv.mR]at hh;split at hh<;>first|(cases hh;done)|skip
  rename_i l hm;cases hh;cases hv with
  |func _ _ arr hs hvv=>
   refine .func k l arr (by rw[hs,bZ hm]) (λj c hj=>?_);obtain⟨x,h1,h2⟩:=bK hm j c hj;exact(hvv j x h1).gn h2 hf
 |agg cs=>
  simp only[Pv.mR]at hh;split at hh<;>first|(cases hh;done)|skip
  rename_i l hm;cases hh;cases hv with
  |agg _ arr hs hvv=>
   refine .agg l arr (by rw[hs,bZ hm]) (λj c hj=>?_);obtain⟨x,h1,h2⟩:=bK hm j c hj;exact(hvv j x h1).gn h2 hf
 |pv p=>exact VR.gn (c:=.pv p) hh hv hf
 |tl rows=>exact VR.gn (c:=.tl rows) hh hv hf
 |own id aw off len=>exact VR.gn (c:=.own id aw off len) hh hv hf
 |ptr s o=>exact VR.gn (c:=.ptr s o) hh hv hf
 |dC id aw row col=>exact VR.gn (c:=.dC id aw row col) hh hv hf
 |map id=>exact VR.gn (c:=.map id) hh hv hf
 |eP=>exact VR.gn (c:=.eP) hh hv hf
 |dR cs=>exact VR.gn (c:=.dR cs) hh hv hf
 |any=>exact VR.gn (c:=.any) hh hv hf
theorem CK {f:Nat->Option Nat}{c c':V}(hh:gn f c=some c')(hc:c.ey=true)(hf:∀s t,f s=some t->ew t=true):c'.ey=true:=by
 cases c with
 |ptr s o=>
  simp only[gn]at hh;split at hh<;>first|(cases hh;done)|skip
  rename_i t ht;cases hh;exact hf s t ht
 |func k cap=>
  simp only[gn]at hh;split at hh<;>first|(cases hh;done)|skip
  cases hh;exact hc
 |agg cs=>cases hh
 |dR cs=>cases hh
 |_=>cases hh;exact hc
theorem gx.on {b off:Nat}{cs:List V}(hc:gx N L e w b off cs)(sl:Nat->Prop)(bx:Nat->Nat):gx N L (e.on sl bx) w b off cs:=by
 intro j c hj;obtain⟨h1,v,h2,h3⟩:=hc j c hj;exact⟨h1,v,h2,h3.gn (Fq h1 λ_=>none) (λs t ht=>by cases ht)⟩
theorem xm {f:Nat->Option Nat}{bx:List (Nat×List V)}:∀(ss:List Nat)(n:Nat)(b:List (Nat×List V)),uw f bx n ss=some b->
  (∀i s,ss[i]?=some s->∃cs l,aH s bx=some cs/\aA (gn f) cs=some l/\aH (n+i) b=some l)/\∀t,(t<n\/n+ss.length<=t)->aH t b=none
 |[],n,b,hh=>by
  cases hh;exact⟨λi s hi=>by simp at hi,λt _=>rfl⟩
 |s::r,n,b,hh=>by
  simp only[uw]at hh;split at hh<;>first|(cases hh;done)|skip
  rename_i cs hcs;split at hh<;>first|(cases hh;done)|skip
  rename_i l b' hl hb';cases hh;obtain⟨i1,i2⟩:=xm r (n+1) b' hb';refine⟨λi s' hi=>?_,λt ht=>?_⟩
  .cases i with
   |zero=>
    cases hi;exact⟨cs,l,hcs,hl,by simp[aH]⟩
   |succ i=>
    obtain⟨cs',l',g1,g2,g3⟩:=i1 i s' (by simpa using hi);refine⟨cs',l',g1,g2,?_⟩;simp only[aH];rw[if_neg (by omega),show n+(i+1)=n+1+i by omega];exact g3
  .simp only[aH,List.length_cons]at ht |-;rw[if_neg (by omega)];exact i2 t (by omega)
theorem uY {f:Nat->Option Nat}{bx:List (Nat×List V)}:∀(ss:List Nat)(n:Nat)(bs:List (Nat×List V)),mS f bx n ss=some bs->ss.Nodup->∀b0:List (Nat×List V),
  (∀i s,ss[i]?=some s->∃cs l,aH (n+i) bx=some cs/\aA (gn f) cs=some l/\l.all V.ey=true/\aH s (fM bs b0)=some l)/\∀t,t∉ss->aH t (fM bs b0)=aH t b0
 |[],n,bs,hh,_,b0=>by
  cases hh;exact⟨λi s hi=>by simp at hi,λt _=>rfl⟩
 |s::r,n,bs,hh,hn,b0=>by
  simp only[mS]at hh;split at hh<;>first|(cases hh;done)|skip
  rename_i cs hcs;split at hh<;>first|(cases hh;done)|skip
  rename_i l b' hl hb';split at hh<;>first|(cases hh;done)|skip
  rename_i hcalm;cases hh;obtain⟨h1,h2⟩:=List.nodup_cons.1 hn;obtain⟨i1,i2⟩:=uY r (n+1) b' hb' h2 (eK s l b0);have hset:∀t,aH t (eK s l b0)=if s=t then some l else aH t b0:=λt=>ej (α:=Unit) s t l b0
  refine⟨λi s' hi=>?_,λt ht=>?_⟩
  .cases i with
   |zero=>
    cases hi;refine⟨cs,l,hcs,hl,hcalm,?_⟩;show aH s (fM b' (eK s l b0))=some l;rw[i2 s h1,hset,if_pos rfl]
   |succ i=>
    obtain⟨cs',l',g1,g2,g3,g4⟩:=i1 i s' (by simpa using hi);exact⟨cs',l',by rw[show n+(i+1)=n+1+i by omega];exact g1,g2,g3,g4⟩
  .show aH t (fM b' (eK s l b0))=aH t b0;simp only[List.mem_cons,not_or]at ht;rw[i2 t ht.2,hset,if_neg (λhe=>ht.1 he.symm)]
theorem rQ {ss:List Nat}{s t:Nat}(hh:rD ss s=some t):∃i,ss[i]?=some s/\t=outer+i:=by
 unfold rD at hh;obtain⟨i,h1,rfl⟩:=aaT.1 hh;rw[aaC]at h1;obtain⟨h2,h3,_⟩:=h1;refine⟨i,?_,rfl⟩;rw[aal h2];simpa using h3
theorem uZ {ss:List Nat}{s t:Nat}(hh:gZ ss t=some s):∃i,ss[i]?=some s/\t=outer+i:=by
 unfold gZ at hh;split at hh
 .exact⟨t - outer,hh,by omega⟩
 .cases hh
theorem rR (i:Nat):ew (outer+i)=true:=by
 unfold ew outer;rw[Nat.ble_eq];omega
def LU (e:bA)(W:Nat->Prop)(ss:List Nat)(b:Nat):Prop:=W b/\∀s,e.sl s->s∉ss->e.bx s≠b
def Fs (ss:List Nat)(t:Nat):Prop:=∃i s,ss[i]?=some s/\t=outer+i
def CL (e:bA)(ss:List Nat)(t:Nat):Nat:=e.bx (ss.getD (t - outer) 0)
theorem l7 (e:bA){ss:List Nat}{i s:Nat}(h:ss[i]?=some s):CL e ss (outer+i)=e.bx s:=by
 unfold CL;rw[Nat.add_sub_cancel_left];simp[h]
theorem HR.CM (hr:HR N L e W h w){s id:Nat}(hs:e.sl s)(hi:id<e.nm):e.bx s≠e.mp id:=by
 obtain⟨m,hm⟩:=hr.Cm hi;obtain⟨es,cl,k1,_⟩:=hr.mp id m hm;have hl:=(hr.sl s).1 hs;cases hc:aH s h.bx with
 |none=>simp[hc]at hl
 |some cs=>
  obtain⟨⟨arr,ty,k2,_⟩,_⟩:=hr.bx s cs hc;exact(ga k1 k2).symm
theorem HR.cp (hr:HR N L e W h w){ss:List Nat}(hnd:ss.Nodup){b:List (Nat×List V)}(hb:uw (rD ss) h.bx outer ss=some b):
  HR N L (e.on (Fs ss) (CL e ss)) (LU e W ss) ⟨b,h.ar,h.mp⟩ w/\∀s∈ss,e.sl s:=by
 obtain⟨b1,b2⟩:=xm ss outer b hb;have hsl:∀s∈ss,e.sl s:=λs hs=>by
  obtain⟨i,hi⟩:=aan.1 hs;obtain⟨cs,l,g1,_⟩:=b1 i s hi;exact(hr.sl s).2 (by rw[g1];rfl)
 have hf:∀s t,rD ss s=some t->e.sl s->Fs ss t/\CL e ss t=e.bx s:=λs t ht _=>by
  obtain⟨i,h1,rfl⟩:=rQ ht;exact⟨⟨i,s,h1,rfl⟩,l7 e h1⟩
 have hlook:∀t,(aH t b).isSome=true->∃i s,ss[i]?=some s/\t=outer+i:=λt ht=>by
  rcases aar t outer with h1|h1
  .rw[b2 t (.inl h1)]at ht;cases ht
  .rcases aar t (outer+ss.length)with h2|h2
   .exact⟨t - outer,ss[t - outer]'(by omega),aal (by omega),by omega⟩
   .rw[b2 t (.inr h2)]at ht;cases ht
 refine⟨⟨λt=>⟨?_,hlook t⟩,λt cs ht=>?_,hr.na,hr.aw,λid a ha hk=>?_,hr.nm,hr.mp,?_,λid hi hk=>?_,λid hi=>?_,?_,?_,hr.yI,hr.Cj,hr.oZ,λg hg=>?_,hr.Ch⟩,hsl⟩
 .rintro ⟨i,s,h1,rfl⟩
  obtain⟨cs,l,_,_,g3⟩:=b1 i s h1;show (aH (outer+i) b).isSome=true;rw[g3];rfl
 .obtain⟨i,s,h1,rfl⟩:=hlook t (by rw[ht];rfl);obtain⟨cs0,l,g1,g2,g3⟩:=b1 i s h1;rw[show aH (outer+i) (⟨b,h.ar,h.mp⟩:aq).bx=aH (outer+i) b from rfl,g3]at ht;cases ht;obtain⟨k1,k2⟩:=hr.bx s cs0 g1;show Block w (CL e ss (outer+i)) _/\mX N L _ w (CL e ss (outer+i)) _;rw[l7 e h1];refine⟨by rw[bZ g2];exact k1,λj c hj=>?_⟩;obtain⟨x,p1,p2⟩:=bK g2 j c hj;obtain⟨q1,v,q2,q3⟩:=k2 j x p1;refine⟨CK p2 q1 (λs t ht=>?_),v,q2,q3.gn p2 hf⟩;obtain⟨i',_,rfl⟩:=rQ ht;exact rR i'
 .obtain⟨g1,g2,g3,g4,g5⟩:=hr.ar id a ha hk;exact⟨g1,g2,g3,λi r hi=>(g4 i r hi).on _ _,g5⟩
 .rintro t ⟨i,s,h1,rfl⟩
  show LU e W ss (CL e ss (outer+i))/\∀t,¬L t (CL e ss (outer+i));rw[l7 e h1];have hs:=aaj h1;refine⟨⟨(hr.wA s (hsl s hs)).1,λs' hs' hn he=>?_⟩,(hr.wA s (hsl s hs)).2⟩;exact hn (hr.Cg s' s hs' (hsl s hs) he ▸ hs)
 .exact⟨⟨(hr.oY id hi hk).1,λs' hs' _=>hr.yH s' id hs' hi hk⟩,(hr.oY id hi hk).2⟩
 .exact⟨⟨(hr.yG id hi).1,λs' hs' _=>hr.CM hs' hi⟩,(hr.yG id hi).2⟩
 .rintro t t' ⟨i,s,h1,rfl⟩ ⟨i',s',h2,rfl⟩ he
  change CL e ss (outer+i)=CL e ss (outer+i')at he;rw[l7 e h1,l7 e h2]at he;have:=hr.Cg s s' (hsl s (aaj h1)) (hsl s' (aaj h2)) he;subst this;have:=(List.getElem?_inj (aak.1 h1).1 hnd).1 (h1.trans h2.symm);rw[this]
 .rintro t id ⟨i,s,h1,rfl⟩ hi hk
  show CL e ss (outer+i)≠_;rw[l7 e h1];exact hr.yH s id (hsl s (aaj h1)) hi hk
 .exact⟨hr.wide g hg,λs' hs' _ he=>by have:=hr.mG hs';omega⟩
theorem Nx.out (hr:HR N L e W h w){ss:List Nat}(hnd:ss.Nodup)(hsl:∀s∈ss,e.sl s){h1:aq}(hr1:HR N L' e' (LU e W ss) h1 w')(hx:rP L (e.on (Fs ss) (CL e ss)) w L' e' w')
  (hf:Fr (LU e W ss) w w')(hnew:∀t b,L' t b->L t b\/(t=0/\LU e W ss b)){bs:List (Nat×List V)}(ho:mS (gZ ss) h1.bx outer ss=some bs):
  Nx N W L e w L' (e'.on e.sl e.bx) ⟨fM bs h.bx,h1.ar,h1.mp⟩ w':=by
 obtain⟨o1,o2⟩:=uY ss outer bs ho hnd h.bx;have hat:∀i s,ss[i]?=some s->e'.sl (outer+i)/\e'.bx (outer+i)=e.bx s:=λi s hi=>by
  obtain⟨g1,g2⟩:=hx.sl (outer+i) (rR i) ⟨i,s,hi,rfl⟩;exact⟨g1,g2.trans (l7 e hi)⟩
 have hext:Ext L e w L' (e'.on e.sl e.bx) w':=hx.ext rfl rfl (λs hs=>⟨hs,rfl⟩);have hfo:∀t u,gZ ss t=some u->e'.sl t->e.sl u/\e.bx u=e'.bx t:=λt u ht _=>by
  obtain⟨i,g1,rfl⟩:=uZ ht;exact⟨hsl u (aaj g1),(hat i u g1).2.symm⟩
 have hframe:∀s,e.sl s->s∉ss->¬LU e W ss (e.bx s):=λs hs hn hw=>hw.2 s hs hn rfl;refine⟨⟨λs=>?_,λs cs hs=>?_,hr1.na,hr1.aw,λid a ha hk=>?_,hr1.nm,hr1.mp,λs hs=>?_,λid hi hk=>?_,λid hi=>?_,hr.Cg,λs id hs hi hk=>?_,hr1.yI,hr1.Cj,hr1.oZ,λg hg=>?_,hr1.Ch⟩,hext,?_,λt b hb=>?_⟩
 .show e.sl s↔(aH s (fM bs h.bx)).isSome=true;by_cases hm:s∈ss
  .obtain⟨i,hi⟩:=aan.1 hm;obtain⟨cs,l,_,_,_,g4⟩:=o1 i s hi;rw[g4];exact⟨λ_=>rfl,λ_=>hsl s hm⟩
  .rw[o2 s hm];exact hr.sl s
 .change aH s (fM bs h.bx)=some cs at hs;show Block w' (e.bx s) cs.length/\mX N L' (e'.on e.sl e.bx) w' (e.bx s) cs;by_cases hm:s∈ss
  .obtain⟨i,hi⟩:=aan.1 hm;obtain⟨cs0,l,g1,g2,g3,g4⟩:=o1 i s hi;rw[g4]at hs;cases hs;obtain⟨k1,k2⟩:=hr1.bx (outer+i) cs0 g1;rw[(hat i s hi).2]at k1 k2;refine⟨by rw[bZ g2];exact k1,λj c hj=>?_⟩;obtain⟨x,p1,p2⟩:=bK g2 j c hj;obtain⟨_,v,q2,q3⟩:=k2 j x p1;exact⟨aaF.1 g3 c (aaj hj),v,q2,q3.gn p2 hfo⟩
  .rw[o2 s hm]at hs;obtain⟨k1,k2⟩:=hr.bx s cs hs;have hse:=(hr.sl s).2 (by rw[hs];rfl);have hsame:=hf.kept (e.bx s) k1.lt (hframe s hse hm);exact⟨k1.same hsame,k2.mono hext hsame⟩
 .obtain⟨g1,g2,g3,g4,g5⟩:=hr1.ar id a ha hk;exact⟨g1,g2,g3,λi r hi=>(g4 i r hi).on _ _,g5⟩
 .refine⟨(hr.wA s hs).1,λt ht=>?_⟩;by_cases hm:s∈ss
  .obtain⟨i,hi⟩:=aan.1 hm;obtain⟨g1,g2⟩:=hat i s hi;exact(hr1.wA (outer+i) g1).2 t (by rw[g2];exact ht)
  .rcases hnew t _ ht with h2|⟨_,h2⟩
   .exact(hr.wA s hs).2 t h2
   .exact hframe s hs hm h2
 .exact⟨(hr1.oY id hi hk).1.1,(hr1.oY id hi hk).2⟩
 .exact⟨(hr1.yG id hi).1.1,(hr1.yG id hi).2⟩
 .show e.bx s≠e'.ar id;by_cases hm:s∈ss
  .obtain⟨i,hi'⟩:=aan.1 hm;obtain⟨g1,g2⟩:=hat i s hi';rw[<- g2];exact hr1.yH (outer+i) id g1 hi hk
  .exact(hr1.oY id hi hk).1.2 s hs hm
 .exact hr.wide g (aa5 hf.size hg)
 .exact⟨hf.os,hf.tape,hf.output,hf.size,λb hb hw=>hf.kept b hb (λhc=>hw hc.1),hf.drawn⟩
 .rcases hnew t b hb with h2|⟨h2,h3⟩
  .exact .inl h2
  .exact .inr ⟨h2,h3.1⟩
theorem u5:∀(vs:List V)(n t:Nat),get (mT n vs) t=if n<=t then (vs[t - n]?).getD .any else .any
 |[],n,t=>by simp[mT,get,aH]
 |p::r,n,t=>by
  have ih:=u5 r (n+1) t;simp only[mT,get,aH]at ih |-;by_cases hn:n=t
  .subst hn;simp
  .rw[if_neg hn,ih];by_cases hlt:n<=t
   .rw[if_pos (show n+1<=t by omega),if_pos hlt,show t - n=(t - (n+1))+1 by omega];simp
   .rw[if_neg (by omega),if_neg hlt]
theorem nu {fn:af}{ss:List Nat}{s:St}{v:V}{tn:Tn}(hh:pc fn ss s=some (v,tn)):∃rs ws bs,aA (du s) fn.results=some rs/\aA (mR (gZ ss)) rs=some ws/\mS (gZ ss) s.h.bx outer ss=some bs/\v=fD ws/\tn={all:=some (bs,s.h.ar,s.h.mp)}:=by
 unfold pc at hh;split at hh<;>first|(cases hh;done)|skip
 rename_i rs h1;split at hh<;>first|(cases hh;done)|skip
 rename_i ws bs h2 h3;cases hh;exact⟨rs,ws,bs,h1,h2,h3,rfl,rfl⟩
theorem nw {E:AC->St->Option (Ex×St)}{fn:af}{vs:List V}{h:aq}{r:V×Tn}(hh:gu E fn vs h=some r):∃ss us bx ex s,ss=ea h.bx 2 (cE [] (vs.flatMap slotsOf))/\ss.Nodup/\vs.length=fn.rA/\aA (mR (rD ss)) vs=some us/\uw (rD ss) h.bx outer ss=some bx/\
  E fn.body ⟨mT 0 us,⟨bx,h.ar,h.mp⟩⟩=some (ex,s)/\(ex=.normal\/ex=.ret)/\pc fn ss s=some r:=by
 unfold gu at hh;split at hh<;>first|(cases hh;done)|skip
 rename_i hn;split at hh<;>first|(cases hh;done)|skip
 rename_i us bx h1 h2;have hnd:=qt h.bx 2 (cE [] (vs.flatMap slotsOf)) (gC _ [] List.nodup_nil);split at hh<;>first|(cases hh;done)|skip
 .rename_i s h3;exact⟨_,us,bx,.normal,s,rfl,hnd,hn,h1,h2,h3,.inl rfl,hh⟩
 .rename_i s h3;exact⟨_,us,bx,.ret,s,rfl,hnd,hn,h1,h2,h3,.inr rfl,hh⟩
theorem Ft {A:Nat->Option af}{n:Nat}(hcode:l6 P N M A Pr n){f:Nat}{fn:af}{an:G5}(hfn:zQ P N M (N f) an fn){vs:List V}{args:Array Value}{v:V}{tn:Tn}(hh:gu (exec A Pr n) fn vs h=some (v,tn))(hr:HR N L e W h w)
  (hs:args.size=vs.length)(hv:∀(j:Nat)(x:V),vs[j]?=some x->VR N L e w x (args.getD j undef)):
  dW P (N f) args w λv' w'=>∃L' e',Nx N W L e w L' e' (tn.apply h) w'/\VR N L' e' w' v v':=by
 obtain⟨ss,us,bx,ex,s',_,hnd,hn,hus,hbx,hex,hex2,hend⟩:=nw hh;obtain⟨rs,ws,bs,hrs,hws,hbs,rfl,rfl⟩:=nu hend;obtain⟨go,code,f1,f2,f3,f4,f5,f6⟩:=hfn;refine .inr ⟨by simp only[beq_eq_false_iff_ne,ne_eq]at f3;simp[callFunc,f1,f2,f3],?_⟩;refine calls_of_wp f1 f2 ?_;obtain⟨hri,hsl⟩:=hr.cp hnd hbx;have hfi:∀s t,rD ss s=some t->e.sl s->Fs ss t/\CL e ss t=e.bx s:=λs t ht _=>by
  obtain⟨i,h1,rfl⟩:=rQ ht;exact⟨⟨i,s,h1,rfl⟩,l7 e h1⟩
 have hlen:us.length=vs.length:=bZ hus;have hst:FS N (LU e W ss) go.ntmps L (e.on (Fs ss) (CL e ss)) w ⟨mT 0 us,⟨bx,h.ar,h.mp⟩⟩ {tmps:=args++Array.replicate (go.ntmps - args.size) undef,defers:=[]} w:=by
  refine⟨L,_,⟨hri,λt=>?_,?_,rfl⟩,Fr.refl _ _,λ_ _ hb=>hb,λ_ _ hb=>.inl hb,(Ext.refl _ _ _).x⟩
  .rw[u5];simp only[Nat.zero_le,if_true,Nat.sub_zero];cases hp:us[t]? with
   |none=>exact .any _
   |some u=>
    obtain⟨x,h1,h2⟩:=bK hus t u hp;have hlt:t<args.size:=by rw[hs];exact(aak.1 h1).1
    have:(args++Array.replicate (go.ntmps - args.size) undef).getD t undef=args.getD t undef:=by
     apply cx;rw[Array.toList_append,List.getElem?_append_left (by simpa using hlt),Array.getElem?_toList];exact bq hlt
    rw[this];exact(hv t x h1).mR h2 hfi
  .simp;omega
 have key:∀a1 w1,FS N (LU e W ss) go.ntmps L (e.on (Fs ss) (CL e ss)) w s' a1 w1->a1.defers=[]/\∃v',(results go a1.tmps).run P w1=.ok v' w1/\∃L' e',Nx N W L e w L' e' (Tn.apply {all:=some (bs,s'.h.ar,s'.h.mp)} h) w1/\VR N L' e' w1 (fD ws) v':=by
  rintro a1 w1 ⟨L1,e1,hsr,hf,_,hnew,hx⟩
  obtain⟨vals,r1,r2,r3⟩:=sX hsr f6 hrs;refine⟨hsr.defers,_,r1,L1,e1.on e.sl e.bx,Nx.out hr hnd hsl hsr.hr hx hf hnew hbs,?_⟩;refine w9 (by rw[r2,bZ hws]) (λj x hj=>?_);obtain⟨y,h1,h2⟩:=bK hws j x hj;obtain⟨u,h3,h4⟩:=r3 j y h1;refine⟨u,h3,h4.mR h2 λt q ht _=>?_⟩;obtain⟨i,g1,rfl⟩:=uZ ht;obtain⟨_,k2⟩:=hx.sl (outer+i) (rR i) ⟨i,q,g1,rfl⟩;exact⟨hsl q (aaj g1),(k2.trans (l7 e g1)).symm⟩
 refine wp_mono (hcode go.ntmps code an fn.body [] f5 _ L _ w _ ex s' _ w hex hst) λxx a1 w1 hq=>?_;obtain⟨rfl,hs1⟩:=hq;obtain⟨k1,v',k2,k3⟩:=key a1 w1 hs1;rcases hex2 with rfl|rfl
 .exact⟨k1,v',k2,k3⟩
 .exact⟨k1,v',k2,k3⟩
theorem AE {f:Nat->Option Nat}{b1 b2:List (Nat×List V)}(hb:∀s,aH s b1=aH s b2):∀(ss:List Nat)(n:Nat),uw f b1 n ss=uw f b2 n ss
 |[],_=>rfl
 |s::r,n=>by simp only[uw,hb s,AE hb r (n+1)]
theorem u6 {b1 b2:List (Nat×List V)}(hb:∀s,aH s b1=aH s b2):∀(n:Nat)(l:List Nat),ea b1 n l=ea b2 n l
 |0,_=>rfl
 |n+1,l=>by
  have:tS b1=tS b2:=funext λs=>by simp only[tS,hb s]
  simp only[ea,this];exact u6 hb n _
theorem CO {E:AC->St->Option (Ex×St)}{fn:af}{vs:List V}{h1 h2:aq}(k:rK h1 h2):gu E fn vs h1=gu E fn vs h2:=by
 unfold gu;rw[u6 k.bx,AE k.bx,k.ar,k.mp]
theorem px {E:AC->St->Option (Ex×St)}{fn:af}{vs:List V}{h:aq}{v:V}{t:Tn}(hh:gu E fn vs h=some (v,t)):∃x,t={all:=some x}:=by
 obtain⟨ss,us,bx,ex,s',_,_,_,_,_,_,_,hend⟩:=nw hh;obtain⟨rs,ws,bs,_,_,_,_,rfl⟩:=nu hend;exact⟨_,rfl⟩
theorem AF (A:Nat->Option af)(E:AC->St->Option (Ex×St))(hPL:dp Pr):dp (bT A E Pr):=by
 have two:∀fn pr,bT A E Pr fn=some pr->Pr fn=some pr\/∃g,pr=gu E g:=by
  intro fn pr hf;unfold bT at hf;split at hf
  .split at hf
   .cases hf;exact .inr ⟨_,rfl⟩
   .exact .inl hf
  .exact .inl hf
 refine⟨λfn pr hf vs h1 h2 v t he ha=>?_,λfn pr hf vs h v t he=>?_,λfn pr hf vs h v t he=>?_⟩
 .rcases two fn pr hf with h|⟨g,rfl⟩
  .exact hPL.loc fn pr h vs h1 h2 v t he ha
  .obtain⟨x,rfl⟩:=px he;rw[<- CO (ha.whole rfl)];exact he
 .rcases two fn pr hf with h'|⟨g,rfl⟩
  .exact hPL.fit fn pr h' vs h v t he
  .obtain⟨x,rfl⟩:=px he;exact⟨λhp=>absurd rfl hp,λi a hia=>by cases hia⟩
 .rcases two fn pr hf with h'|⟨g,rfl⟩
  .exact hPL.iO fn pr h' vs h v t he
  .obtain⟨x,rfl⟩:=px he;rfl
theorem CP {A:Nat->Option af}{n:Nat}(hPr:eR P N Pr)(hcode:l6 P N M A Pr n)(hA:∀f fn,A f=some fn->∃an,zQ P N M (N f) an fn):eR P N (bT A (exec A Pr n) Pr):=by
 intro f pr hf L e W h w vs args v tn he hr hs hv;unfold bT at hf;split at hf
 .rename_i fn hfn;split at hf
  .cases hf;obtain⟨an,hok⟩:=hA f fn hfn;exact Ft hcode hok he hr hs hv
  .exact hPr f pr hf L e W h w vs args v tn he hr hs hv
 .exact hPr f pr hf L e W h w vs args v tn he hr hs hv
end Go.Pv
namespace Go.Pv
variable {P:Program} {N M:Nat→Nat} {W:Nat→Prop} {L L':Lx} {e e':bA} {h:aq} {w w':World} {Pr:bD}
theorem xn {cs:List V}{v:Value}(hv:VR N L e w (.agg cs) v):∃arr:Array Value,v=.agg arr/\arr.toList.length=cs.length/\∀(j:Nat)(x:V),cs[j]?=some x->∃u,arr.toList[j]?=some u/\VR N L e w x u:=by
 cases hv with
 |agg _ arr hs hvv=>
  refine⟨arr,rfl,by simpa using hs,λj x hj=>?_⟩;have hlt:j<arr.size:=by rw[hs];exact(aak.1 hj).1
  exact⟨arr.getD j undef,by rw[aaK];exact bq hlt,hvv j x hj⟩
theorem Hw (hr:HR N L e W h w)(hL:∀b,L 0 b->L' 0 b)(hown:∀id,id<e.na->e.ak id≠0->L' 0 (e.ar id))(hbox:∀s,e.sl s->L' 0 (e.bx s)){slot off:Nat}{cs:List V}{l:List PV}(hs:aH slot h.bx=some cs)(hm:aA (bd h 4) (cs.drop off)=some l){v:Value}(hv:VR N L e w (.ptr slot off) v):CR N L' w (.ro 0 l) v []:=by
 cases hv with
 |ptr _ _ hsl=>
  have hcell:∀(j:Nat)(c:PV),l[j]?=some c->c.perm=true/\∃v,w.cell? ⟨e.bx slot,off+j,none⟩=some v/\eb N L' w c v:=by
   intro j c hj;obtain⟨x,k1,k2⟩:=bK hm j c hj;rw[aa1]at k1;obtain⟨_,v,k3,k4⟩:=(hr.bx slot cs hs).2 (off+j) x k1;obtain⟨i1,i2⟩:=nj hr hL 4 x c v k2 k4 (λ_=>hown);exact⟨i2,v,k3,i1⟩
  refine .ro l _ (λc hc=>?_) (.ro 0 l (e.bx slot) off (λj=>(w.cell? ⟨e.bx slot,off+j,none⟩).getD undef) (λ_=>.inl (hbox slot hsl)) (λj c hj=>?_) (λj c hj=>?_) (λc hc=>?_))
  .obtain⟨j,hj⟩:=aan.1 hc;exact(hcell j c hj).1
  .obtain⟨_,v,k1,_⟩:=hcell j c hj;simp[k1]
  .obtain⟨_,v,k1,k2⟩:=hcell j c hj;simp only[k1,Option.getD_some];exact k2
  .obtain⟨j,hj⟩:=aan.1 hc;exact PV.zR (hcell j c hj).1
theorem Fu (hr:HR N L e W h w)(hL:∀b,L 0 b->L' 0 b){x:V}{p:PV}{v:Value}(hno:∀b∈dN e x.cells,∀t,¬L' t b)(hk:bV h true x=some p)(hv:VR N L e w x v):
  RR N L' w p v (dN e x.cells)/\∀id∈x.cells.filterMap gY,id<e.na/\e.ak id≠0:=by
 cases x with
 |agg cs=>
  simp only[bV,if_true]at hk;cases hm:aA (fC h) cs with
  |none=>simp[hm]at hk
  |some l=>
   simp[hm]at hk;subst hk;obtain⟨arr,rfl,h1,h2⟩:=xn hv;obtain⟨k1,k2⟩:=sY hr hL cs l arr.toList hno hm h1 h2;exact⟨.agg l arr _ k1,k2⟩
 |pv q=>
  cases q with
  |ro t cs=>
   simp only[bV]at hk;rw[if_neg (λhh=>by cases hh.1)]at hk;cases hk
  |_=>
   simp only[bV,if_true]at hk;obtain⟨k1,k2⟩:=ns hr hL hno hk hv;refine⟨.cell _ _ _ k1,λid hid=>?_⟩;obtain⟨y,hy1,hy2⟩:=aba.1 hid;simp[V.cells]at hy1;subst hy1;exact k2 id hy2
 |_=>
  simp only[bV,if_true]at hk;obtain⟨k1,k2⟩:=ns hr hL hno hk hv;refine⟨.cell _ _ _ k1,λid hid=>?_⟩;obtain⟨y,hy1,hy2⟩:=aba.1 hid;simp[V.cells]at hy1;subst hy1;exact k2 id hy2
theorem Hx (hr:HR N L e W h w)(hL:∀b,L 0 b->L' 0 b)(hown:∀id,id<e.na->e.ak id≠0->L' 0 (e.ar id))(hbox:∀s,e.sl s->L' 0 (e.bx s)){x:V}{p:PV}{v:Value}(hk:bV h false x=some p)(hv:VR N L e w x v):RR N L' w p v []:=by
 cases x with
 |agg cs=>
  simp only[bV,Bool.false_eq_true,if_false]at hk;cases hm:aA (bd h 4) cs with
  |none=>simp[hm]at hk
  |some l=>
   simp[hm]at hk;subst hk;obtain⟨arr,rfl,h1,h2⟩:=xn hv;exact .agg l arr _ (uX hr hL hown cs l arr.toList hm h1 h2)
 |ptr slot off=>
  simp only[bV,Bool.false_eq_true,if_false]at hk;cases hs:aH slot h.bx with
  |none=>simp[hs]at hk
  |some cs=>
   simp only[hs]at hk;cases hm:aA (bd h 4) (cs.drop off)with
   |none=>simp[hm]at hk
   |some l=>
    simp only[hm]at hk;cases hk;exact .cell _ _ _ (Hw hr hL hown hbox hs hm hv)
 |pv q=>
  cases q with
  |ro t cs=>
   simp only[bV]at hk;split at hk<;>first|(cases hk;done)|skip
   rename_i hc;obtain⟨_,rfl,hp⟩:=hc;cases hk;have hp:∀c∈cs,c.perm=true:=λc hc=>aaF.1 hp c hc;cases hv with
   |pv _ _ hq=>exact .cell _ _ _ (.ro cs _ hp (eb.Zy hp hq λb hb=>⟨hL b hb,rfl⟩))
  |_=>
   simp only[bV,Bool.false_eq_true,if_false]at hk;exact .cell _ _ _ (pw hr hL hown hk hv)
 |_=>
  simp only[bV,Bool.false_eq_true,if_false]at hk;exact .cell _ _ _ (pw hr hL hown hk hv)
theorem u7 (hr:HR N L e W h w)(hL:∀b,L 0 b->L' 0 b):∀(xs:List V)(rs:List PV)(vals:List Value),(∀b∈(eQ xs).map e.ar,∀t,¬L' t b)->aA (bV h true) xs=some rs->vals.length=xs.length->(∀(j:Nat)(x:V),xs[j]?=some x->∃u,vals[j]?=some u/\VR N L e w x u)->
  G1 N L' w rs vals ((eQ xs).map e.ar)/\∀id∈eQ xs,id<e.na/\e.ak id≠0
 |[],rs,vals,_,hm,hl,_=>by
  simp[aA]at hm;subst hm;have:vals=[]:=List.eq_nil_of_length_eq_zero (by simpa using hl);subst this;exact⟨.nil,by simp[eQ]⟩
 |x::xs,rs,vals,hno,hm,hl,hv=>by
  simp only[aA]at hm;split at hm<;>first|(cases hm;done)|skip
  rename_i p pr hp hpr;injection hm with hm;subst hm
  match vals,hl with
  |v::vals,hl=>
   obtain⟨u,h1,h2⟩:=hv 0 x rfl;simp at h1;subst h1;have hsplit:(eQ (x::xs)).map e.ar=dN e x.cells++(eQ xs).map e.ar:=by simp[eQ,dN]
   rw[hsplit]at hno |-;obtain⟨c1,c2⟩:=Fu hr hL (λb hb=>hno b (aa2 _ hb)) hp h2;obtain⟨d1,d2⟩:=u7 hr hL xs pr vals (λb hb=>hno b (List.mem_append_right _ hb)) hpr (by simpa using hl) (λj y hj=>by simpa using hv (j+1) y (by simpa using hj));refine⟨.cons _ _ _ _ _ _ c1 d1,λid hid=>?_⟩;simp only[eQ,List.mem_append]at hid;rcases hid with hid|hid
   .exact c2 id hid
   .exact d2 id hid
theorem xp (hr:HR N L e W h w)(hL:∀b,L 0 b->L' 0 b)(hown:∀id,id<e.na->e.ak id≠0->L' 0 (e.ar id))(hbox:∀s,e.sl s->L' 0 (e.bx s)):∀(xs:List V)(rs:List PV)(vals:List Value),aA (bV h false) xs=some rs->vals.length=xs.length->(∀(j:Nat)(x:V),xs[j]?=some x->∃u,vals[j]?=some u/\VR N L e w x u)->G1 N L' w rs vals []
 |[],rs,vals,hm,hl,_=>by
  simp[aA]at hm;subst hm;have:vals=[]:=List.eq_nil_of_length_eq_zero (by simpa using hl);subst this;exact .nil
 |x::xs,rs,vals,hm,hl,hv=>by
  simp only[aA]at hm;split at hm<;>first|(cases hm;done)|skip
  rename_i p pr hp hpr;injection hm with hm;subst hm
  match vals,hl with
  |v::vals,hl=>
   obtain⟨u,h1,h2⟩:=hv 0 x rfl;simp at h1;subst h1;exact G1.cons _ _ [] _ _ [] (Hx hr hL hown hbox hp h2) (xp hr hL hown hbox xs pr vals hpr (by simpa using hl) (λj y hj=>by simpa using hv (j+1) y (by simpa using hj)))
theorem ny:∀{l:List Nat},distinct l=true->l.Nodup
 |[],_=>List.nodup_nil
 |x::r,hd=>by
  simp only[distinct,Bool.and_eq_true,Bool.not_eq_true']at hd;refine List.nodup_cons.2 ⟨λhx=>?_,ny hd.2⟩;have:=abR.2 hx;rw[hd.1]at this;cases this
theorem xq {f:Nat->Nat}:∀{l:List Nat},l.Nodup->(∀a∈l,∀b∈l,f a=f b->a=b)->(l.map f).Nodup
 |[],_,_=>List.nodup_nil
 |x::r,hn,hf=>by
  obtain⟨h1,h2⟩:=List.nodup_cons.1 hn;rw[abV];refine List.nodup_cons.2 ⟨λhx=>?_,xq h2 (λa ha b hb=>hf a (by simp[ha]) b (by simp[hb]))⟩;obtain⟨y,hy1,hy2⟩:=aaq.1 hx;have:=hf y (by simp[hy1]) x (by simp) hy2;subst this;exact h1 hy1
theorem Kd (hr:HR N L e W h w):∀{xs:List V}{rs:List PV},aA (bV h true) xs=some rs->∀id∈eQ xs,id<e.na/\e.ak id≠0:=by
 have hc:∀{x:V}{p:PV},fC h x=some p->∀id,gY x=some id->id<e.na/\e.ak id≠0:=by
  intro x p hk id hid;cases x with
  |own id' aw off len=>
   simp[gY]at hid;subst hid;cases off with
   |succ off=>simp[fC]at hk
   |zero=>
    simp only[fC]at hk;cases ho:aC h id' aw with
    |none=>simp[ho]at hk
    |some a=>
     simp only[ho]at hk;split at hk<;>first|(cases hk;done)|skip
     split at hk<;>first|(cases hk;done)|skip
     rename_i hk0;obtain⟨ho1,_⟩:=bJ ho;exact⟨by rw[hr.na];exact(aak.1 ho1).1,by rw[(hr.aw id' a ho1).2.1];exact hk0⟩
  |_=>simp[gY]at hid
 intro xs
 induction xs with
 |nil=>intro rs _ id hid;simp[eQ]at hid
 |cons x xs ih=>
  intro rs hm id hid;simp only[aA]at hm;split at hm<;>first|(cases hm;done)|skip
  rename_i p pr hp hpr;simp only[eQ,List.mem_append]at hid;rcases hid with hid|hid
  .obtain⟨y,hy1,hy2⟩:=aba.1 hid;cases x with
   |agg cs=>
    simp only[bV,if_true]at hp;cases hmm:aA (fC h) cs with
    |none=>simp[hmm]at hp
    |some l=>
     obtain⟨j,hj⟩:=aan.1 (show y∈cs from hy1);obtain⟨q,_,hq⟩:=p9 hmm j y hj;exact hc hq id hy2
   |ptr s o=>simp[bV]at hp
   |pv q=>
    simp[V.cells]at hy1;subst hy1;simp[gY]at hy2
   |_=>
    simp only[bV,if_true]at hp;simp[V.cells]at hy1;subst hy1;exact hc hp id hy2
  .exact ih hpr id hid
theorem sZ {T:Option Nat}{nt:Nat}{L0:Lx}{e0:bA}{w0:World}{s:St}{a:Act}{fn:af}{go:Func}(hs:FS N (Wc w0 T) nt L0 e0 w0 s a w)(hrv:aA (uz P) go.results.toList=some fn.results){rs:List PV}(hl:leave fn s=some rs):
  ∃v,(results go a.tmps).run P w=.ok v w/\Hg N L0 w0 T rs v w:=by
 obtain⟨L,e,hsr,hf,h1,h2,_⟩:=hs;unfold leave at hl;split at hl<;>first|(cases hl;done)|skip
 rename_i xs hxs;split at hl<;>first|(cases hl;done)|skip
 rename_i hcond;obtain⟨vals,r1,r2,r3⟩:=sX hsr hrv hxs;refine⟨uM vals,r1,?_⟩;have hr:=hsr.hr;cases hfr:fn.fresh with
 |false=>
  rw[hfr]at hl
  let L1:Lx:=λt b=>L t b\/(t=0/\Wc w0 T b/\b<w.heap.size)
  refine⟨L1,[],vals,hf,λt b hb=>.inl (h1 t b hb),λt b hb=>?_,λt b hb=>?_,?_,List.nodup_nil,by simp,rfl⟩
  .rcases hb with hb|⟨h3,h4,_⟩
   .exact h2 t b hb
   .exact .inr ⟨h3,h4⟩
  .rcases hb with hb|⟨_,_,h5⟩
   .exact hr.oZ t b hb
   .exact h5
  .exact xp (L':=L1) hr (λb hb=>.inl hb) (λid hi hk=>.inr ⟨rfl,(hr.oY id hi hk).1,hr.jj hi hk⟩) (λs hs=>.inr ⟨rfl,(hr.wA s hs).1,hr.mG hs⟩) xs rs vals hl r2 r3
 |true=>
  rw[hfr]at hl hcond;simp only[Bool.not_true,Bool.false_or]at hcond
  let bs:List Nat:=(eQ xs).map e.ar
  let L1:Lx:=λt b=>(L t b\/(t=0/\Wc w0 T b/\b<w.heap.size))/\b∉bs
  -- the blocks of what is given away are no one's
  have hids:∀id∈eQ xs,id<e.na/\e.ak id≠0:=Kd hr hl;have hfree:∀b∈bs,Wc w0 T b/\∀t,¬L t b:=λb hb=>by
   obtain⟨id,hid,rfl⟩:=aaq.1 hb;exact⟨(hr.oY id (hids id hid).1 (hids id hid).2).1,(hr.oY id (hids id hid).1 (hids id hid).2).2⟩
  refine⟨L1,bs,vals,hf,λt b hb=>⟨.inl (h1 t b hb),λhbb=>(hfree b hbb).2 t (h1 t b hb)⟩,λt b hb=>?_,λt b hb=>?_,?_,?_,λb hb=>(hfree b hb).1,rfl⟩
  .rcases hb.1 with hb|⟨h3,h4,_⟩
   .exact h2 t b hb
   .exact .inr ⟨h3,h4⟩
  .rcases hb.1 with hb|⟨_,_,h5⟩
   .exact hr.oZ t b hb
   .exact h5
  .exact(u7 (L':=L1) hr (λb hb=>⟨.inl hb,λhbb=>(hfree b hbb).2 0 hb⟩) xs rs vals (λb hb t ht=>ht.2 hb) hl r2 r3).1
  .exact xq (ny hcond) (λi hi j hj heq=>hr.yI i j (hids i hi).1 (hids j hj).1 (hids i hi).2 (hids j hj).2 heq)
theorem AG {A:Nat->Option af}{n:Nat}(hcode:l6 P N M A Pr n)(hA:∀f fn,A f=some fn->∃an,zQ P N M (N f) an fn):Hu P N A Pr n:=by
 intro f ps rs hcall;unfold dv at hcall;split at hcall<;>first|(cases hcall;done)|skip
 rename_i fn hfn;obtain⟨an,go,code,f1,f2,f3,f4,f5,f6⟩:=hA f fn hfn;unfold D8 at hcall;split at hcall<;>first|(cases hcall;done)|skip
 rename_i hargs;intro L w T args hlsz htab har;refine .inr ⟨by simp only[beq_eq_false_iff_ne,ne_eq]at f3;simp[callFunc,f1,f2,f3],?_⟩;refine calls_of_wp f1 f2 ?_;obtain⟨e,e1,e2⟩:=Fp hlsz htab har;have hlen:args.size=ps.length:=by
  have:args.toList.length=ps.length:=by
   generalize args.toList=al at har;cases har with
   |plain _ _ hl _=>exact hl
   |take _ _ _ _ _ _ _ hl _=>simp[hl]
  simpa using this
 have hst:FS N (Wc w T) go.ntmps L e w ⟨entry 0 ps,cY ps⟩ {tmps:=args++Array.replicate (go.ntmps - args.size) undef,defers:=[]} w:=by
  refine⟨L,e,⟨e1,λt=>?_,?_,rfl⟩,Fr.refl _ _,λ_ _ hb=>hb,λ_ _ hb=>.inl hb,(Ext.refl _ _ _).x⟩
  .rw[xj];simp only[Nat.zero_le,if_true,Nat.sub_zero];cases hp:ps[t]? with
   |none=>exact .any _
   |some p=>
    obtain⟨v,h1,h2⟩:=e2 t p hp;have hlt:t<args.size:=by rw[hlen];exact(aak.1 hp).1
    have:(args++Array.replicate (go.ntmps - args.size) undef).getD t undef=v:=by
     apply cx;rw[Array.toList_append,List.getElem?_append_left (by simpa using hlt)];exact h1
    show VR N L e w (V.kA p) _;rw[this];exact h2
  .simp;omega
 split at hcall<;>first|(cases hcall;done)|skip
 .rename_i s' hex;refine wp_mono (hcode go.ntmps code an fn.body [] f5 (Wc w T) L e w _ _ s' _ w hex hst) λxx a1 w1 hq=>?_;obtain⟨rfl,hs1⟩:=hq;obtain⟨v,r1,r2⟩:=sZ hs1 f6 hcall;exact⟨hs1.choose_spec.choose_spec.1.defers,v,r1,r2⟩
 .rename_i s' hex;refine wp_mono (hcode go.ntmps code an fn.body [] f5 (Wc w T) L e w _ _ s' _ w hex hst) λxx a1 w1 hq=>?_;obtain⟨rfl,hs1⟩:=hq;obtain⟨v,r1,r2⟩:=sZ hs1 f6 hcall;exact⟨hs1.choose_spec.choose_spec.1.defers,v,r1,r2⟩
theorem sound (hm:P.follows .mixedOrders=true)(hPL:dp Pr)(hPr:eR P N Pr){A:Nat->Option af}(hA:∀f fn,A f=some fn->∃an,zQ P N M (N f) an fn):∀n,(∀j,j<=n->l6 P N M A Pr j)/\Hu P N A Pr n:=by
 have zero:l6 P N M A Pr 0:=λnt code an ac an' _ W L0 e0 w0 s ex s' a w he _=>by simp[exec]at he
 intro n
 induction n with
 |zero=>
  have hall:∀j,j<=0->l6 P N M A Pr j:=λj hj=>by
   obtain rfl:j=0:=by omega
   exact zero
  exact⟨hall,AG zero hA⟩
 |succ n ih=>
  have hstep:=Fo hm n (AF A _ hPL) (CP hPr (ih.1 n (aau _)) hA) ih.1 ih.2;refine⟨λj hj=>?_,AG hstep hA⟩;rcases aar j (n+1)with h1|h1
  .exact ih.1 j (by omega)
  .obtain rfl:j=n+1:=by omega
   exact hstep
end Go.Pv
namespace Go.Pv
variable {A:Nat→Option af} {Pr:bD}
def TB (Φ Φ':Nat->List PV->Option (List PV)):Prop:=∀f ps rs,Φ f ps=some rs->Φ' f ps=some rs
def Ke (Pr Pr':bD):Prop:=∀f,match Pr f with
 |some pr=>∃pr',Pr' f=some pr'/\∀vs h r,pr vs h=some r->pr' vs h=some r
 |none=>Pr' f=none
theorem Ke.refl (Pr:bD):Ke Pr Pr:=λf=>by
 cases h:Pr f with
 |none=>rfl
 |some pr=>exact⟨pr,rfl,λ_ _ _ hh=>hh⟩
theorem yY {Φ Φ':Nat->List PV->Option (List PV)}{Pr':bD}(hle:TB Φ Φ')(hp:Ke Pr Pr'){Tk:Nat->Bool}{g:cd->V}{h:aq}{q:eJ}{r:V×Tn}(he:evalOp Φ Pr Tk g h q=some r):evalOp Φ' Pr' Tk g h q=some r:=by
 cases q with
 |call f args=>
  simp only[evalOp]at he |-;split at he<;>first|(cases he;done)|skip
  rename_i fn cap _;have hf:=hp fn;split at he
  .rename_i pr hpr;rw[hpr]at hf;obtain⟨pr',h1,h2⟩:=hf;rw[h1];exact h2 _ _ _ he
  .rename_i hpr;rw[hpr]at hf;rw[hf];split at he<;>first|(cases he;done)|skip
   split at he<;>first|(cases he;done)|skip
   rename_i rs hrs;rw[hle _ _ _ hrs];exact he
 |_=>exact he
theorem tY {Φ Φ':Nat->List PV->Option (List PV)}{Pr':bD}(hle:TB Φ Φ')(hp:Ke Pr Pr'){Tk:Nat->Bool}{o:aG}{s:St}{r:St×Tn}(he:bH Φ Pr Tk o s=some r):bH Φ' Pr' Tk o s=some r:=by
 unfold bH at he |-;split at he
 .cases he
 .exact he
 .split at he<;>first|(cases he;done)|skip
  rename_i v t hev;rw[yY hle hp hev];exact he
theorem CQ {Φ Φ':Nat->List PV->Option (List PV)}{Pr':bD}(hle:TB Φ Φ')(hp:Ke Pr Pr'){Tk:Nat->Bool}:∀{l:List aG}{s s':St},eD Φ Pr Tk l s=some s'->eD Φ' Pr' Tk l s=some s'
 |[],s,s',he=>he
 |o::r,s,s',he=>by
  simp only[eD]at he |-;split at he<;>first|(cases he;done)|skip
  rename_i hst;rw[tY hle hp hst];exact CQ hle hp he
theorem tZ {Φ Φ':Nat->List PV->Option (List PV)}{Pr':bD}(hle:TB Φ Φ')(hp:Ke Pr Pr'){Tk:Nat->Bool}:∀{l:List (aG×List Nat)}{done:List Tn}{s s':St},cS Φ Pr Tk l done s=some s'->cS Φ' Pr' Tk l done s=some s'
 |[],_,s,s',he=>he
 |(o,un)::r,done,s,s',he=>by
  simp only[cS]at he |-;split at he<;>first|(cases he;done)|skip
  rename_i hst;rw[tY hle hp hst];simp only;split at he<;>first|(cases he;done)|skip
  rename_i hh;rw[if_pos hh];exact tZ hle hp he
def Rq (E E':AC->St->Option (Ex×St)):Prop:=∀c s r,E c s=some r->E' c s=some r
theorem l8 {E E':AC->St->Option (Ex×St)}(hle:Rq E E'):Ke (bT A E Pr) (bT A E' Pr):=by
 intro f;unfold bT;cases hf:A f with
 |none=>exact Ke.refl Pr f
 |some fn=>
  simp only;by_cases hi:fn.inl=true
  .rw[if_pos hi,if_pos hi];refine⟨_,rfl,λvs h r he=>?_⟩;unfold gu at he |-;split at he<;>first|(cases he;done)|skip
   rename_i hn;rw[if_pos hn];split at he<;>first|(cases he;done)|skip
   split at he<;>first|(cases he;done)|skip
   all_goals
    rename_i hex;rw[hle _ _ _ hex];exact he
  .rw[if_neg hi,if_neg hi];exact Ke.refl Pr f
theorem gD {E E':AC->St->Option (Ex×St)}(hle:Rq E E'):TB (dv A E) (dv A E'):=by
 intro f ps rs he;unfold dv at he |-;split at he<;>first|(cases he;done)|skip
 rename_i fn hfn;unfold D8 at he |-;split at he<;>first|(cases he;done)|skip
 rename_i hc;rw[if_pos hc];split at he<;>first|(cases he;done)|skip
 all_goals
  rename_i hex;rw[hle _ _ _ hex];exact he
theorem Hy {E E':AC->St->Option (Ex×St)}(hle:Rq E E'):Rq (ct A Pr E) (ct A Pr E'):=by
 intro c s r he;cases c with
 |skip=>exact he
 |exit id=>exact he
 |ret=>exact he
 |mask kt kb a=>exact hle _ _ _ he
 |region ops kt kb=>
  simp only[ct]at he |-;split at he<;>first|(cases he;done)|skip
  rename_i hex;rw[CQ (gD hle) (l8 hle) hex];exact he
 |draw ops kt kb=>
  simp only[ct]at he |-;split at he<;>first|(cases he;done)|skip
  rename_i hex;rw[tZ (gD hle) (l8 hle) hex];exact he
 |tG n ops kt kb=>
  simp only[ct]at he |-;split at he<;>first|(cases he;done)|skip
  rename_i hex;rw[tZ (gD hle) (l8 hle) hex];exact he
 |cond x a b=>
  simp only[ct]at he |-;split at he<;>first|(cases he;done)|exact hle _ _ _ he
 |seq a b=>
  simp only[ct]at he |-;cases ha:E a s with
  |none=>simp[ha]at he
  |some q=>
   obtain⟨ex,s1⟩:=q;rw[hle _ _ _ ha];rw[ha]at he;cases ex with
   |normal=>exact hle _ _ _ he
   |exit id=>exact he
   |ret=>exact he
 |block id a=>
  simp only[ct]at he |-;cases ha:E a s with
  |none=>simp[ha]at he
  |some q=>
   rw[hle _ _ _ ha];rw[ha]at he;exact he
 |loop a=>
  simp only[ct]at he |-;cases ha:E a s with
  |none=>simp[ha]at he
  |some q=>
   obtain⟨ex,s1⟩:=q;rw[hle _ _ _ ha];rw[ha]at he;cases ex with
   |normal=>exact hle _ _ _ he
   |exit id=>exact he
   |ret=>exact he
theorem Fv (n:Nat):Rq (exec A Pr n) (exec A Pr (n+1)):=by
 induction n with
 |zero=>intro c s r he;simp[exec]at he
 |succ n ih=>exact Hy ih
theorem dD {m n:Nat}(hmn:m<=n):Rq (exec A Pr m) (exec A Pr n):=by
 induction hmn with
 |refl=>exact λ_ _ _ h=>h
 |step _ ih=>exact λc s r h=>Fv _ c s r (ih c s r h)
def cI (A:Nat->Option af)(Pr:bD)(c:AC)(s:St)(ex:Ex)(s':St):Prop:=∃n,exec A Pr n c s=some (ex,s')
def hY (A:Nat->Option af)(Pr:bD)(f:Nat)(ps rs:List PV):Prop:=∃n,dv A (exec A Pr n) f ps=some rs
def ju (A:Nat->Option af)(Pr:bD)(ops:List aG)(s s':St):Prop:=∃n,eD (dv A (exec A Pr n)) (bT A (exec A Pr n) Pr) (ef A) ops s=some s'
def gE (A:Nat->Option af)(Pr:bD)(ops:List (aG×List Nat))(done:List Tn)(s s':St):Prop:=∃n,cS (dv A (exec A Pr n)) (bT A (exec A Pr n) Pr) (ef A) ops done s=some s'
theorem cI.skip (s:St):cI A Pr .skip s .normal s:=⟨1,rfl⟩
theorem cI.exit (id:Nat)(s:St):cI A Pr (.exit id) s (.exit id) s:=⟨1,rfl⟩
theorem cI.ret (s:St):cI A Pr .ret s .ret s:=⟨1,rfl⟩
theorem cI.mask {kt kb:List Nat}{a:AC}{s s':St}{ex:Ex}(h:cI A Pr a (s.mask kt kb) ex s'):cI A Pr (.mask kt kb a) s ex s':=by
 obtain⟨n,hn⟩:=h;exact⟨n+1,hn⟩
theorem cI.seq {a b:AC}{s s1 s':St}{ex:Ex}(h1:cI A Pr a s .normal s1)(h2:cI A Pr b s1 ex s'):cI A Pr (.seq a b) s ex s':=by
 obtain⟨n,hn⟩:=h1;obtain⟨m,hm⟩:=h2;refine⟨max n m+1,?_⟩;show ct A Pr (exec A Pr (max n m)) (.seq a b) s=_;simp only[ct,dD (Nat.le_max_left n m) _ _ _ hn,dD (Nat.le_max_right n m) _ _ _ hm]
theorem cI.Ej {a b:AC}{s s1:St}{ex:Ex}(h1:cI A Pr a s ex s1)(hx:ex≠.normal):cI A Pr (.seq a b) s ex s1:=by
 obtain⟨n,hn⟩:=h1;refine⟨n+1,?_⟩;show ct A Pr (exec A Pr n) (.seq a b) s=_;cases ex<;>simp_all [ct]
theorem cI.cond {c:cd}{a b:AC}{s s':St}{ex:Ex}{t:Bool}(hc:bC s.env c=.pv (.bool t))(h:cI A Pr (if t then a else b) s ex s'):cI A Pr (.cond c a b) s ex s':=by
 obtain⟨n,hn⟩:=h;refine⟨n+1,?_⟩;show ct A Pr (exec A Pr n) (.cond c a b) s=_;cases t<;>simpa [ct,hc]using hn
theorem cI.block {id:Nat}{a:AC}{s s':St}{ex:Ex}(h:cI A Pr a s ex s'):cI A Pr (.block id a) s (match ex with|.exit j=>if j=id then .normal else .exit j|e=>e) s':=by
 obtain⟨n,hn⟩:=h;refine⟨n+1,?_⟩;show ct A Pr (exec A Pr n) (.block id a) s=_;cases ex with
 |exit j=>
  simp only[ct,hn];by_cases hj:j=id<;>simp[hj]
 |_=>simp[ct,hn]
theorem cI.xt {a:AC}{s s1 s':St}{ex:Ex}(h1:cI A Pr a s .normal s1)(h2:cI A Pr (.loop a) s1 ex s'):cI A Pr (.loop a) s ex s':=by
 obtain⟨n,hn⟩:=h1;obtain⟨m,hm⟩:=h2;refine⟨max n m+1,?_⟩;show ct A Pr (exec A Pr (max n m)) (.loop a) s=_;simp only[ct,dD (Nat.le_max_left n m) _ _ _ hn,dD (Nat.le_max_right n m) _ _ _ hm]
theorem cI.iT {a:AC}{s s':St}{ex:Ex}(h:cI A Pr a s ex s')(hx:ex≠.normal):cI A Pr (.loop a) s ex s':=by
 obtain⟨n,hn⟩:=h;refine⟨n+1,?_⟩;show ct A Pr (exec A Pr n) (.loop a) s=_;cases ex<;>simp_all [ct]
theorem cI.region {ops:List aG}{kt kb:List Nat}{s s':St}(h:ju A Pr ops s s'):cI A Pr (.region ops kt kb) s .normal (s'.mask kt kb):=by
 obtain⟨n,hn⟩:=h;exact⟨n+1,by show ct A Pr (exec A Pr n) _ _=_;simp only[ct,hn]⟩
theorem cI.draw {ops:List (aG×List Nat)}{kt kb:List Nat}{s s':St}(h:gE A Pr ops [] s s'):cI A Pr (.draw ops kt kb) s .normal (s'.mask kt kb):=by
 obtain⟨n,hn⟩:=h;exact⟨n+1,by show ct A Pr (exec A Pr n) _ _=_;simp only[ct,hn]⟩
theorem hY.of {f:Nat}{fn:af}{ps rs:List PV}{ex:Ex}{s':St}(hf:A f=some fn)(hl:ps.length=fn.rA)(ha:rC fn.take ps=true)(hr:cI A Pr fn.body ⟨entry 0 ps,cY ps⟩ ex s')(hx:ex=.normal\/ex=.ret)(hv:leave fn s'=some rs):hY A Pr f ps rs:=by
 obtain⟨n,hn⟩:=hr;refine⟨n,?_⟩;simp only[dv,hf,D8,hl,ha,and_self,if_true,hn];rcases hx with rfl|rfl<;>exact hv
theorem hY.sound {P:Program}{N M:Nat->Nat}(hm:P.follows .mixedOrders=true)(hPL:dp Pr)(hPr:eR P N Pr)(hA:∀f fn,A f=some fn->∃an,zQ P N M (N f) an fn){f:Nat}{ps rs:List PV}(h:hY A Pr f ps rs):w7 P N f ps rs:=by
 obtain⟨n,hn⟩:=h;exact(Pv.sound hm hPL hPr hA n).2 f ps rs hn
theorem ju.nil (s:St):ju A Pr [] s s:=⟨0,rfl⟩
theorem ju.cons {o:aG}{r:List aG}{s s1 s':St}{t:Tn}{n:Nat}(h1:bH (dv A (exec A Pr n)) (bT A (exec A Pr n) Pr) (ef A) o s=some (s1,t))(h2:ju A Pr r s1 s'):ju A Pr (o::r) s s':=by
 obtain⟨m,hm⟩:=h2;refine⟨max n m,?_⟩;simp only[eD,tY (gD (dD (Nat.le_max_left n m))) (l8 (dD (Nat.le_max_left n m))) h1];exact CQ (gD (dD (abJ n m))) (l8 (dD (abJ n m))) hm
theorem gE.nil (done:List Tn)(s:St):gE A Pr [] done s s:=⟨0,rfl⟩
theorem gE.cons {o:aG}{un:List Nat}{r:List (aG×List Nat)}{done:List Tn}{s s1 s':St}{t:Tn}{n:Nat}(h1:bH (dv A (exec A Pr n)) (bT A (exec A Pr n) Pr) (ef A) o s=some (s1,t))(hh:e9 un t done=true)(h2:gE A Pr r (done++[t]) s1 s'):gE A Pr ((o,un)::r) done s s':=by
 obtain⟨m,hm⟩:=h2;refine⟨max n m,?_⟩;simp only[cS,tY (gD (dD (Nat.le_max_left n m))) (l8 (dD (Nat.le_max_left n m))) h1,hh,if_true];exact tZ (gD (dD (abJ n m))) (l8 (dD (abJ n m))) hm
end Go.Pv
namespace Go.Pv
variable {P:Program} {N:Nat→Nat} {w:World}
def Hz (N:Nat->Nat)(w:World):Prop:=∀g,N 1000000=100000+g->∃ty z,w.heap[g]?=some (.cells zS ty z)
theorem Hz.none {N:Nat->Nat}{w:World}(h:N 1000000<100000):Hz N w:=λg hg=>by omega
def rS (w:World):Lx:=λt b=>(t=0\/t=7777)/\b<w.heap.size
theorem Hz.rS {N:Nat->Nat}{w:World}(h:Hz N w):uA N (rS w) w:=λg hg=>by
 obtain⟨ty,z,h1⟩:=h g hg;exact⟨⟨.inr rfl,(aaM.1 h1).1⟩,ty,z,h1⟩
def plainData (P:Program):Nat->TypeId->Bool
 |0,_=>false
 |n+1,t=>match P.underlying t with
  |some .bool=>true
  |some (.int _)=>true
  |some .string=>true
  |some (.slice e)=>plainData P n e&&decide (0<P.cellsOf e)
  |some (.struct fs)=>kP P 0 fs.toList&&(fs.toList.all λf=>plainData P n f.type&&(dm P f.type).isSome)&&((fs.toList.map λf=>P.cellsOf f.type).sum==P.cellsOf t)
  |some (.array m e)=>plainData P n e&&m*P.cellsOf e==P.cellsOf t
  |_=>false
def typed (P:Program):Nat->TypeId->List PV->Prop
 |0,_,_=>False
 |n+1,t,cs=>match P.underlying t with
  |some .bool=>∃b,cs=[.bool b]
  |some (.int k)=>∃x,cs=[.int k x]/\k.min<=x/\x<=k.max
  |some .string=>∃s,cs=[.str s]/\s.size<=maxLen
  |some (.slice e)=>∃rows,cs=[.ae 0 rows]/\rows.length<=maxLen/\∀r∈rows,typed P n e r
  |some (.struct fs)=>∃parts:List (List PV),parts.length=fs.size/\cs=parts.flatten/\∀(i:Nat)(f:Field)(r:List PV),fs[i]?=some f->parts[i]?=some r->typed P n f.type r
  |some (.array m e)=>∃parts:List (List PV),parts.length=m/\cs=parts.flatten/\∀r∈parts,typed P n e r
  |_=>False
def iU (N:Nat->Nat)(w:World)(ps:List PV)(cs:List Value):Prop:=ps.length=cs.length/\∀(j:Nat)(c:PV)(v:Value),ps[j]?=some c->cs[j]?=some v->eb N (rS w) w c v/\c.perm=true
theorem iU.nil:iU N w [] []:=⟨rfl,λj c v hj=>by simp at hj⟩
theorem iU.one {c:PV}{v:Value}(h:eb N (rS w) w c v)(hp:c.perm=true):iU N w [c] [v]:=by
 refine⟨rfl,λj c' v' hj hv=>?_⟩
 match j,hj with
 |0,hj=>simp at hj hv;subst hj;subst hv;exact⟨h,hp⟩
 |j+1,hj=>simp at hj
theorem iU.append {p q:List PV}{a b:List Value}(h:iU N w p a)(k:iU N w q b):iU N w (p++q) (a++b):=by
 refine⟨by simp[h.1,k.1],λj c v hj hv=>?_⟩;rcases aar j p.length with h1|h1
 .rw[aao h1]at hj;rw[aao (by rw[<- h.1];exact h1)]at hv;exact h.2 j c v hj hv
 .rw[aav h1]at hj;rw[aav (by rw[<- h.1];exact h1)]at hv;rw[<- h.1]at hv;exact k.2 _ c v hj hv
theorem CS {t:TypeId}(_hs:(dm P t).isSome=true):(dm P t).getD 0=P.cellsOf t:=by
 unfold dm at _hs |-;unfold Program.cellsOf;rfl
theorem rT {base:Nat}{a:Addr}{n:Nat}{cs:List Value}(hc:w.cells? base a n=some cs):cs.length=n/\∀(j:Nat)(v:Value),cs[j]?=some v->w.cell? (a.add j)=some v:=by
 unfold World.cells? at hc;split at hc<;>first|(cases hc;done)|skip
 have gen:∀(l:List Nat)(cs:List Value),l.mapM (λi=>w.cell? (a.add i))=some cs->cs.length=l.length/\∀(j:Nat)(v:Value)(i:Nat),cs[j]?=some v->l[j]?=some i->w.cell? (a.add i)=some v:=by
  intro l
  induction l with
  |nil=>intro cs h;simp at h;subst h;exact⟨rfl,λj v i hj=>by simp at hj⟩
  |cons x l ih=>
   intro cs h;rw[List.mapM_cons]at h;simp only[bind,Option.bind_eq_some_iff,pure,Option.some.injEq]at h;obtain⟨y,h1,ys,h2,rfl⟩:=h;obtain⟨k1,k2⟩:=ih ys h2;refine⟨by simp[k1],λj v i hj hi=>?_⟩
   match j,hj,hi with
   |0,hj,hi=>simp at hj hi;subst hj;subst hi;exact h1
   |j+1,hj,hi=>exact k2 j v i (by simpa using hj) (by simpa using hi)
 obtain⟨k1,k2⟩:=gen _ _ hc;refine⟨by simpa using k1,λj v hj=>k2 j v j hj ?_⟩;have hlt:j<n:=by have:=(List.getElem?_eq_some_iff.1 hj).1;rw[k1]at this;simpa using this
 simp[hlt]
theorem add_add (a:Addr)(ha:a.spot=none)(n j:Nat):(a.add n).add j=⟨a.block,a.off+(n+j),none⟩:=by
 obtain⟨b,o,s⟩:=a;simp only at ha;subst ha;rw[ek,ek,abx]
theorem qu {α β:Type}{f:α->Option β}:∀{l:List α}{r:List β},l.mapM f=some r->r.length=l.length/\∀(j:Nat)(x:α),l[j]?=some x->∃y,r[j]?=some y/\f x=some y
 |[],r,h=>by simp at h;subst h;exact⟨rfl,λj x hj=>by simp at hj⟩
 |a::l,r,h=>by
  rw[List.mapM_cons]at h;simp only[bind,Option.bind_eq_some_iff,pure,Option.some.injEq]at h;obtain⟨y,h1,ys,h2,rfl⟩:=h;obtain⟨k1,k2⟩:=qu h2;refine⟨by simp[k1],λj x hj=>?_⟩
  match j,hj with
  |0,hj=>simp at hj;subst hj;exact⟨y,rfl,h1⟩
  |j+1,hj=>simpa using k2 j x (by simpa using hj)
theorem kF {α β:Type}(Q:Nat->α->β->Prop):∀(l:List α),(∀(j:Nat)(x:α),l[j]?=some x->∃y,Q j x y)->∃r:List β,r.length=l.length/\∀(j:Nat)(x:α)(y:β),l[j]?=some x->r[j]?=some y->Q j x y
 |[],_=>⟨[],rfl,λj x y hj=>by simp at hj⟩
 |a::l,h=>by
  obtain⟨y,hy⟩:=h 0 a rfl;obtain⟨r,h1,h2⟩:=kF (λj=>Q (j+1)) l (λj x hj=>h (j+1) x (by simpa using hj));refine⟨y::r,by simp[h1],λj x z hj hz=>?_⟩
  match j,hj,hz with
  |0,hj,hz=>simp at hj hz;subst hj;subst hz;exact hy
  |j+1,hj,hz=>exact h2 j x z (by simpa using hj) (by simpa using hz)
theorem u9 {cs:List Value}:∀(fs:List Field)(o:Nat)(parts:List (List PV)),kP P o fs=true->(∀f∈fs,(dm P f.type).isSome=true)->parts.length=fs.length->o+(fs.map λf=>P.cellsOf f.type).sum=cs.length->
  (∀(i:Nat)(f:Field)(r:List PV),fs[i]?=some f->parts[i]?=some r->iU N w r ((cs.drop f.offset).take (P.cellsOf f.type)))->iU N w parts.flatten (cs.drop o)
 |[],o,parts,_,_,hl,hsum,_=>by
  have:parts=[]:=List.eq_nil_of_length_eq_zero (by simpa using hl);subst this;simp only[List.map_nil,List.sum_nil,Nat.add_zero]at hsum;rw[hsum,List.drop_length];exact iU.nil
 |f::fs,o,parts,ho,hs,hl,hsum,hr=>by
  match parts,hl with
  |p::parts,hl=>
   simp only[kP,Bool.and_eq_true,beq_iff_eq]at ho;obtain⟨rfl,ho2⟩:=ho;rw[CS (hs f (by simp))]at ho2;simp only[List.map_cons,List.sum_cons]at hsum;have h1:=hr 0 f p rfl rfl;have h2:=u9 fs (f.offset+P.cellsOf f.type) parts ho2 (λq hq=>hs q (by simp[hq])) (by simpa using hl) (by omega) (λi f' r hf hp=>hr (i+1) f' r (by simpa using hf) (by simpa using hp));have h3:=h1.append h2;rw[<- List.drop_drop,abr]at h3;exact h3
theorem xu {cs:List Value}{k:Nat}:∀(m o:Nat)(parts:List (List PV)),parts.length=m->(o+m)*k=cs.length->(∀(i:Nat)(r:List PV),parts[i]?=some r->iU N w r ((cs.drop ((o+i)*k)).take k))->iU N w parts.flatten (cs.drop (o*k))
 |0,o,parts,hl,hsum,_=>by
  have:parts=[]:=aaD hl;subst this;rw[ab4]at hsum;rw[hsum,List.drop_length];exact iU.nil
 |m+1,o,parts,hl,hsum,hr=>by
  match parts,hl with
  |p::parts,hl=>
   have h1:=hr 0 p rfl;have h2:=xu (cs:=cs) (k:=k) m (o+1) parts (by simpa using hl) (by rw[<- hsum];congr 1;omega) (λi r hi=>by
    have:=hr (i+1) r (by simpa using hi);rw[show o+1+i=o+(i+1) by omega];exact this)
   rw[ab4]at h1;have h3:=h1.append h2;rw[Nat.succ_mul,<- List.drop_drop,abr]at h3;exact h3
theorem CT {a:Addr}{v:Value}(hc:w.cell? a=some v):a.spot=none/\a.block<w.heap.size:=by
 unfold World.cell? at hc;split at hc<;>first|(cases hc;done)|skip
 rename_i c x y hh;split at hc<;>first|(cases hc;done)|skip
 rename_i hs;exact⟨by simpa using hs,(Array.getElem?_eq_some_iff.1 hh).1⟩
theorem M3 {a:Addr}{len cap k base:Nat}(hk:0<k)(hlc:len<=cap){Ty:List PV->Prop}
  (he:∀i,i<len->∃cs,w.cells? base (a.add (i*k)) k=some cs/\∃ps,Ty ps/\iU N w ps cs):
  ∃rows:List (List PV),rows.length=len/\(∀r∈rows,Ty r)/\eb N (rS w) w (.ae 0 rows) (.slice (some a) rows.length cap):=by
 obtain⟨rows,h1,h2⟩:=kF (λi (_:Nat) (ps:List PV)=>∃cs,w.cells? base (a.add (i*k)) k=some cs/\Ty ps/\iU N w ps cs) (List.range len) (λj x hj=>by
  have hjl:j<len:=by have:=(List.getElem?_eq_some_iff.1 hj).1;simpa using this
  obtain⟨cs,k1,ps,k2,k3⟩:=he j hjl;exact⟨ps,cs,k1,k2,k3⟩)
 have hrl:rows.length=len:=by simpa using h1
 have hrow:∀(i:Nat)(r:List PV),rows[i]?=some r->∃cs,w.cells? base (a.add (i*k)) k=some cs/\Ty r/\iU N w r cs:=λi r hi=>by
  have hlt:i<len:=by rw[<- hrl];exact(aak.1 hi).1
  exact h2 i i r (by simp[hlt]) hi
 have hsp:0<rows.length->a.spot=none/\a.block<w.heap.size:=λhpos=>by
  obtain⟨cs,k1,_,_⟩:=hrow 0 rows[0] (aal hpos);obtain⟨c1,c2⟩:=rT k1;have:=c2 0 (cs[0]'(by omega)) (aal (by omega));rw[Nat.zero_mul]at this;have h0:(a.add 0).add 0=a:=by simp[Addr.add]
  rw[h0]at this;exact CT this
 have hcell:∀(i j:Nat)(c:PV),fZ rows i j=some c->∃v,w.cell? ⟨a.block,a.off+(i*k+j),none⟩=some v/\eb N (rS w) w c v/\c.perm=true:=by
  intro i j c hc;unfold fZ at hc;cases hi:rows[i]? with
  |none=>simp[hi]at hc
  |some r=>
   simp[hi]at hc;obtain⟨cs,k1,_,k3⟩:=hrow i r hi;obtain⟨c1,c2⟩:=rT k1;have hjl:j<cs.length:=by rw[<- k3.1];exact(aak.1 hc).1
   have hv:=c2 j cs[j] (aal hjl);rw[add_add a (hsp (by have:=(aak.1 hi).1;omega)).1]at hv;obtain⟨q1,q2⟩:=k3.2 j c cs[j] hc (aal hjl);exact⟨_,hv,q1,q2⟩
 refine⟨rows,hrl,λr hr=>?_,.ae 0 rows (some a) a cap k (λi j=>(w.cell? ⟨a.block,a.off+(i*k+j),none⟩).getD undef) (λr hr=>?_) (by omega) (λhpos=>⟨rfl,(hsp hpos).1,.inl ⟨.inl rfl,(hsp hpos).2⟩⟩) (λi j c hc=>?_) (λi j c hc=>?_) (λ_ i j c hc=>?_) (λi j c hc=>?_)⟩
 .obtain⟨i,hi⟩:=aan.1 hr;exact(hrow i r hi).choose_spec.2.1
 .obtain⟨i,hi⟩:=aan.1 hr;obtain⟨cs,k1,_,k3⟩:=hrow i r hi;rw[k3.1];exact(rT k1).1
 .obtain⟨v,q1,_⟩:=hcell i j c hc;simp[q1]
 .obtain⟨v,q1,q2,_⟩:=hcell i j c hc;simp only[q1,Option.getD_some];exact q2
 .exact(hcell i j c hc).choose_spec.2.2
 .exact lV (hcell i j c hc).choose_spec.2.2
end Go.Pv
namespace Go.Pv
open Go.RowKit
variable {P:Program} {N:Nat→Nat} {w:World}
def lg (P:Program)(t:TypeId)(cs:List PV):PV:=if dL P t=some true then .agg cs else cs.headD .pZ
end Go.Pv
namespace Go.Pv
open Go.RowKit Go.ChangeShapes
variable {H:Type} {enc:TypeId×Value→H} {P:Program}
theorem va (hl:laidOutB P=true){W W':World}(hb:Below W.heap.size W W'):∀(ts:List TypeId)(vs:List Value)(ds:List (DataW H))(ps:List MemPlace),(∀t∈ts,P.readableRec t=true/\t<P.types.size)->
  DataW.TrodAll enc P W 0 (λ_=>true) true ts vs ds ps->(∀x∈ps,x.block<W.heap.size)->DataW.TrodAll enc P W' 0 (λb=>decide (b<W.heap.size)) true ts vs ds ps
 |[],_,_,_,_,h,_=>by
  obtain⟨rfl,rfl,rfl⟩:=trodAll_nil h;exact h
 |t::ts,vs,ds,ps,hr,h,hp=>by
  obtain⟨v,vs',d,ds',p,q,rfl,rfl,rfl,h1,h2⟩:=trodAll_cons h;obtain⟨r1,r2⟩:=hr t (by simp);exact⟨p,q,Below.trod hl r1 r2 h1 hb (λx hx=>hp x (by simp[hx])),va hl hb ts vs' ds' q (λu hu=>hr u (by simp[hu])) h2 (λx hx=>hp x (by simp[hx])),rfl⟩
theorem Fw {W:World}{b:Nat}{sp:Nat->Bool}{hd:Bool}{t:TypeId}(ht:P.underlying t=some .bool)(x:Bool):DataW.TrodAll enc P W b sp hd [t] [.bool x] [.lit (.bool x)] []:=
 trodAll_mk1 ⟨1,by simp[DataW.trod,Value.cells,ht]⟩
theorem HA {f:Func}{s:ChangeSpec}{W W':World}{args:Array Value}{ds gs:List (DataW H)}{before:List MemPlace}(hl:laidOutB P=true)
  (hW:DataW.Whole enc P f.params.toList s.vars false W args.toList ds gs before)(hsv:s.vars=[]){tb:TypeId}(hres:f.resultTypes=#[tb])(htb:P.underlying tb=some .bool)
  (hsf:s.fn H (ds++gs)={results:=[.lit (.bool true)],args:=ds})(hr:∀t∈f.params.toList,P.readableRec t=true/\t<P.types.size)(hb:Below W.heap.size W W'):
  s.post enc P f false true false false W args (.bool true) W':=by
 have hlt:∀p∈before,p.block<W.heap.size:=λp hp=>hW.lt p hp;obtain⟨p,q,h1,h2,h3,h4,h5⟩:=hW;have hq:q=[]/\gs=[]:=by
  rw[hsv]at h2;obtain⟨rfl,rfl⟩:=trodVars_none h2;exact⟨rfl,rfl⟩
 obtain⟨rfl,rfl⟩:=hq;have hp:before=p:=by rw[h3,abb]
 refine⟨ds,[],before,[],p,[],⟨p,[],h1,h2,h3,h4,h5⟩,?_,?_,?_,?_,?_⟩
 .rw[hsf,hres];exact Fw htb true
 .rw[hsf];exact va hl hb _ _ _ _ hr h1 (λx hx=>hlt x (by rw[hp];exact hx))
 .rw[hsf];rw[hsv]at h2 |-;exact h2
 .exact Below.frame hb _
 .intro hh;cases hh
end Go.Pv
namespace Go.Pv
open Go.RowKit Go.ChangeShapes
variable {P:Program} {N:Nat→Nat} {w:World}
def oi (P:Program)(S:List TypeId)(t:TypeId):Bool:=
 match P.underlying t with
  |some .bool=>true
  |some (.int _)=>true
  |some .string=>true
  |some (.slice e)=>S.contains e&&decide (0<P.cellsOf e)
  |some (.struct fs)=>kP P 0 fs.toList&&(fs.toList.all λf=>S.contains f.type&&(dm P f.type).isSome)&&((fs.toList.map λf=>P.cellsOf f.type).sum==P.cellsOf t)
  |some (.array m e)=>S.contains e&&m*P.cellsOf e==P.cellsOf t
  |_=>false
def oj (P:Program)(S:List TypeId):Bool:=S.all (oi P S)
theorem AH {S:List TypeId}(h:oj P S=true){t:TypeId}(ht:t∈S):oi P S t=true:=aaF.1 h t ht
theorem qw {S:List TypeId}(hS:oj P S=true){H:Type}{enc:TypeId×Value->H}{base:Nat}{spare:Nat->Bool}{held:Bool}:∀(fuel:Nat)(t:TypeId),t∈S->∀(cs:List Value)(r:DataW H×List MemPlace),DataW.trod enc P w base spare held fuel t cs=some r->
  ∃ps,typed P fuel t ps/\iU N w ps cs
 |0,t,_,cs,r,ht=>by simp[DataW.trod]at ht
 |fuel+1,t,hp,cs,r,ht=>by
   have hp:=AH hS hp;unfold oi at hp;cases hu:P.underlying t with
   |none=>simp[hu]at hp
   |some de=>
    simp only[hu]at hp;cases de with
    |bool=>
     rcases cs with _|⟨v,_|⟨v2,l⟩⟩
     .simp[DataW.trod,hu]at ht
     .cases v<;>simp[DataW.trod,hu]at ht;rename_i b;exact⟨[.bool b],by simp only[typed,hu];exact⟨b,rfl⟩,iU.one (.bool b) rfl⟩
     .simp[DataW.trod,hu]at ht
    |int k=>
     rcases cs with _|⟨v,_|⟨v2,l⟩⟩
     .simp[DataW.trod,hu]at ht
     .cases v<;>simp[DataW.trod,hu]at ht;rename_i k' x;obtain⟨⟨rfl,hwf⟩,_⟩:=ht;simp[Lit.wf]at hwf;exact⟨[.int k' x],by simp only[typed,hu];exact⟨x,rfl,hwf.1,hwf.2⟩,iU.one (.int k' x) rfl⟩
     .simp[DataW.trod,hu]at ht
    |string=>
     rcases cs with _|⟨v,_|⟨v2,l⟩⟩
     .simp[DataW.trod,hu]at ht
     .cases v<;>simp[DataW.trod,hu]at ht;rename_i x;exact⟨[.str x],by simp only[typed,hu];exact⟨x,rfl,ht.1⟩,iU.one (.str x) rfl⟩
     .simp[DataW.trod,hu]at ht
    |slice el=>
     simp only[Bool.and_eq_true,decide_eq_true_eq]at hp;obtain⟨hpe,hk⟩:=hp;rcases cs with _|⟨v,_|⟨v2,l⟩⟩
     .simp[DataW.trod,hu]at ht
     .cases v with
      |slice A len cap=>
       cases A with
       |none=>
        rcases len with _|len<;>rcases cap with _|cap<;>simp[DataW.trod,hu]at ht;refine⟨[.ae 0 []],by simp only[typed,hu];exact⟨[],rfl,by simp,by simp⟩,iU.one (.ae 0 [] none default 0 0 (λ_ _=>undef) (by simp) (by simp) (by simp) (by simp[fZ]) (by simp[fZ]) (by simp[fZ]) (by simp[fZ])) rfl⟩
       |some a=>
        simp only[DataW.trod,hu]at ht;split at ht<;>first|(cases ht;done)|skip
        rename_i hc;rw[ab6]at ht;obtain⟨elems,hel,_⟩:=ht;obtain⟨k1,k2⟩:=qu hel;obtain⟨rows,q1,q2,q3⟩:=M3 (N:=N) (w:=w) (a:=a) (len:=len) (cap:=cap) (base:=base) (Ty:=typed P fuel el) hk hc.2.1 (λi hi=>by
         obtain⟨y,_,hy⟩:=k2 i i (by simp[hi]);rw[ab6]at hy;obtain⟨ci,hci,htr⟩:=hy;exact⟨ci,hci,qw hS fuel el (abR.1 hpe) ci y htr⟩)
        refine⟨[.ae 0 rows],by simp only[typed,hu];exact⟨rows,rfl,by omega,q2⟩,?_⟩;rw[q1]at q3;exact iU.one q3 rfl
      |_=>simp[DataW.trod,hu]at ht
     .simp[DataW.trod,hu]at ht
    |struct fs=>
     simp only[Bool.and_eq_true,List.all_eq_true,beq_iff_eq]at hp;obtain⟨⟨ho,hf⟩,hsum⟩:=hp;simp only[DataW.trod,hu]at ht;split at ht<;>first|(cases ht;done)|skip
     rename_i hlen;obtain⟨xs,hxs,_⟩:=aaT.1 ht;obtain⟨k1,k2⟩:=qu hxs;obtain⟨parts,p1,p2⟩:=kF (λ(_:Nat) (f:Field) (ps:List PV)=>typed P fuel f.type ps/\iU N w ps ((cs.drop f.offset).take (P.cellsOf f.type))) fs.toList (λj f hj=>by
      obtain⟨y,_,hy⟩:=k2 j f hj;exact qw hS fuel f.type (abR.1 (hf f (aaj hj)).1) _ y hy)
     refine⟨parts.flatten,by simp only[typed,hu];exact⟨parts,by simpa using p1,rfl,λi f r hi hr=>(p2 i f r (by simpa using hi) hr).1⟩,?_⟩;have:=u9 (N:=N) (w:=w) (cs:=cs) fs.toList 0 parts ho (λf hff=>(hf f hff).2) p1 (by rw[ab2,hsum,hlen]) (λi f r hi hr=>(p2 i f r hi hr).2);simpa using this
    |array m el=>
     simp only[Bool.and_eq_true,beq_iff_eq]at hp;simp only[DataW.trod,hu]at ht;split at ht<;>first|(cases ht;done)|skip
     rename_i hlen;obtain⟨xs,hxs,_⟩:=aaT.1 ht;obtain⟨k1,k2⟩:=qu hxs;obtain⟨parts,p1,p2⟩:=kF (λ(i:Nat) (_:Nat) (ps:List PV)=>typed P fuel el ps/\iU N w ps ((cs.drop (i*P.cellsOf el)).take (P.cellsOf el))) (List.range m) (λj x hj=>by
      obtain⟨y,_,hy⟩:=k2 j x hj;have hjx:x=j:=by
       have hlt:j<m:=by have:=(List.getElem?_eq_some_iff.1 hj).1;simpa using this
       simp[hlt]at hj;exact hj.symm
      subst hjx;exact qw hS fuel el (abR.1 hp.1) _ y hy)
     have hpl:parts.length=m:=by simpa using p1
     refine⟨parts.flatten,by simp only[typed,hu];exact⟨parts,hpl,rfl,λr hr=>by
      obtain⟨i,hi⟩:=aan.1 hr;have hlt:i<m:=by rw[<- hpl];exact(aak.1 hi).1
      exact(p2 i i r (by simp[hlt]) hi).1⟩,?_⟩
     have:=xu (N:=N) (w:=w) (cs:=cs) (k:=P.cellsOf el) m 0 parts hpl (by rw[ab2,hp.2,hlen]) (λi r hi=>by
      have hlt:i<m:=by rw[<- hpl];exact(aak.1 hi).1
      rw[ab2];exact(p2 i i r (by simp[hlt]) hi).2)
     simpa using this
    |_=>simp at hp
theorem Kf {n:Nat}{S:List TypeId}{t:TypeId}(hp:oi P S t=true){r:Reach}{base:Nat}{v:Value}(hv:Value.okWide P w r base t v){ps:List PV}(ht:typed P n t ps)(hr:iU N w ps v.cells.toList):eb N (rS w) w (lg P t ps) v:=by
  cases hu:P.underlying t with
  |none=>simp[oi,hu]at hp
  |some de=>
   have agg:dL P t=some true->(∃cs,v=.agg cs)->eb N (rS w) w (lg P t ps) v:=by
    rintro hag ⟨cs,rfl⟩
    simp only[lg,hag,if_true];refine .agg ps cs (by have:=hr.1;simpa [Value.cells]using this.symm) (λj c hj=>?_) (λc hc=>?_)
    .have hlt:j<cs.size:=by
      have:=hr.1;simp only[Value.cells,Array.length_toList]at this;rw[<- this];exact(aak.1 hj).1
     exact(hr.2 j c _ hj (by simp only[Value.cells,Array.getElem?_toList];exact bq hlt)).1
    .obtain⟨j,hj⟩:=aan.1 hc;have hlt':j<cs.size:=by
      have:=hr.1;simp only[Value.cells,Array.length_toList]at this;rw[<- this];exact(aak.1 hj).1
     exact PV.zR (hr.2 j c _ hj (by simp only[Value.cells,Array.getElem?_toList];exact bq hlt')).2
   have one:dL P t=some false->v.cells=#[v]->eb N (rS w) w (lg P t ps) v:=by
    intro hag hc;simp only[lg,hag];have hl:=hr.1;rw[hc]at hl hr
    match ps,hl with
    |[c],_=>exact(hr.2 0 c v rfl rfl).1
   cases de with
   |bool=>
    refine one (by simp[dL,hu]) ?_;simp only[Value.okWide,hu,Cell.okWide,Cell.ok]at hv;cases v<;>first|rfl|(simp at hv)
   |int k=>
    refine one (by simp[dL,hu]) ?_;simp only[Value.okWide,hu,Cell.okWide,Cell.ok]at hv;cases v<;>first|rfl|(simp at hv)
   |string=>
    refine one (by simp[dL,hu]) ?_;simp only[Value.okWide,hu,Cell.okWide,Cell.ok]at hv;cases v<;>first|rfl|(simp at hv)
   |slice el=>
    refine one (by simp[dL,hu]) ?_;simp only[Value.okWide,hu,Cell.okWide,Cell.ok]at hv;cases v<;>first|rfl|(simp at hv)
   |struct fs=>
    refine agg (by simp[dL,hu]) ?_;simp only[Value.okWide,hu]at hv;obtain⟨cs,rfl,_⟩:=hv;exact⟨cs,rfl⟩
   |array m el=>
    refine agg (by simp[dL,hu]) ?_;simp only[Value.okWide,hu]at hv;obtain⟨cs,rfl,_⟩:=hv;exact⟨cs,rfl⟩
   |_=>simp[oi,hu]at hp
theorem AI {S:List TypeId}(hS:oj P S=true){H:Type}{enc:TypeId×Value->H}{base b0:Nat}{spare:Nat->Bool}{held:Bool}{r:Reach}:∀(ts:List TypeId)(vs:List Value)(ds:List (DataW H))(pl:List MemPlace),DataW.TrodAll enc P w base spare held ts vs ds pl->(∀t∈ts,t∈S)->
  (∀(j:Nat)(t:TypeId)(v:Value),ts[j]?=some t->vs[j]?=some v->Value.okWide P w r b0 t v)->
  ∃css:List (List PV),css.length=ts.length/\vs.length=ts.length/\(∀(j:Nat)(t:TypeId)(cs:List PV),ts[j]?=some t->css[j]?=some cs->∃n,typed P n t cs)/\
   ∀(j:Nat)(p:PV),(List.zipWith (lg P) ts css)[j]?=some p->∃v,vs[j]?=some v/\eb N (rS w) w p v
 |[],[],[],pl,_,_,_=>⟨[],rfl,rfl,λj t cs hj=>by simp at hj,λj p hj=>by simp at hj⟩
 |t::ts,v::vs,d::ds,pl,h,hp,hv=>by
  obtain⟨p,q,⟨fuel,h1⟩,h2,_⟩:=h;obtain⟨ps,k1,k2⟩:=qw (N:=N) hS fuel t (hp t (by simp)) _ _ h1;have hone:=Kf (AH hS (hp t (by simp))) (hv 0 t v rfl rfl) k1 k2;obtain⟨css,g1,g2,g3,g4⟩:=AI hS ts vs ds q h2 (λu hu=>hp u (by simp[hu])) (λj u x hj hx=>hv (j+1) u x (by simpa using hj) (by simpa using hx));refine⟨ps::css,by simp[g1],by simp[g2],λj u cs hj hc=>?_,λj p hj=>?_⟩
  .match j,hj,hc with
   |0,hj,hc=>simp at hj hc;subst hj;subst hc;exact⟨_,k1⟩
   |j+1,hj,hc=>exact g3 j u cs (by simpa using hj) (by simpa using hc)
  .match j,hj with
   |0,hj=>simp at hj;subst hj;exact⟨v,rfl,hone⟩
   |j+1,hj=>simpa using g4 j p (by simpa using hj)
theorem wI {S : List TypeId} (hS : oj P S = true) {H : Type} {enc : TypeId × Value->H} {base b0 : Nat} {spare : Nat->Bool} {held : Bool} {r : Reach} {f : Nat} {ts : List TypeId} (hF : ∀ css : List (List PV),css.length = ts.length->(∀ (j : Nat) (t : TypeId) (cs : List PV),ts[j]? = some t->css[j]? = some cs->∃ n,typed P n t cs)->
   w7 P N f (List.zipWith (lg P) ts css) [.bool true]) (htab : Hz N w) {go : Func} {code : Code} (h1 : P.funcs[N f]? = some go) (h2 : go.body = some code) (h3 : (go.name == "runtime.NumGoroutine") = false)
  {args : Array Value} {ds : List (DataW H)} {pl : List MemPlace} (hA : DataW.TrodAll enc P w base spare held ts args.toList ds pl) (hp : ∀ t ∈ ts,t ∈ S)
  (hv : ∀ (j : Nat) (t : TypeId) (v : Value),ts[j]? = some t->args.toList[j]? = some v->Value.okWide P w r b0 t v) :
  Calls P (N f) args w λe w' => e = .returned (.bool true) /\ Below w.heap.size w w' := by
 obtain ⟨css,g1,g2,g3,g4⟩ := AI (N := N) hS ts args.toList ds pl hA hp hv;have hlen : args.toList.length = (List.zipWith (lg P) ts css).length := by rw [g2,List.length_zipWith,g1];simp
 have hcg := hF css g1 g3 (rS w) w none args (λt b hb => hb.2) htab.rS (.plain _ _ hlen g4);have hpost : ∀ v w',Hg N (rS w) w none [.bool true] v w'->v = .bool true /\ Below w.heap.size w w' := by
  rintro v w' ⟨L1,bs,vals,f1,f2,f3,f4,f5,f6,f7,rfl⟩
  refine ⟨?_,f1.os,f1.tape,f1.output,f1.size,λk hk => f1.kept k hk (λhc => by
   rcases hc with hc | hc
   .omega
   .cases hc)⟩
  cases f5 with
  | cons p u b1 ps vs b2 q1 q2 =>
   cases q2;cases q1 with
   | cell _ _ _ q =>
    cases q with
    | bV _ _ _ q => cases q;rfl
 rcases hcg with ⟨v,w',k1,k2⟩ | ⟨k1,k2⟩
 .exfalso;have : (callFunc (N f) args).run P w = .ok (.enter (N f) args) w := by simp only [beq_eq_false_iff_ne,ne_eq] at h3;simp [callFunc,h1,h2,h3]
  rw [this] at k1;cases k1
 .refine k2.mono λe w' hh => ?_;cases e with
  | returned v =>
   obtain ⟨rfl,hb⟩ := hpost v w' hh;exact ⟨rfl,hb⟩
  | panicked => exact hh.elim
  | outgrown => exact hh.elim
theorem vb {H:Type} {S:List TypeId} {C:Checked} {os:Os} {N:Nat->Nat} {f:Nat} {fn:Func} {s:ChangeSpec} {code:Code} {tb:TypeId} (enc:TypeId×Value->H)
  (hF:∀css:List (List PV),css.length=fn.params.toList.length->(∀(j:Nat) (t:TypeId) (cs:List PV),fn.params.toList[j]?=some t->css[j]?=some cs->∃n,typed C.prog n t cs)->w7 C.prog N f (List.zipWith (lg C.prog) fn.params.toList css) [.bool true])
  (hN:N 1000000<100000:=by decide) (own:ownKnob C.prog.godebug=none) (hl:laidOutB C.prog=true) (started:os.Started) (noInit:C.prog.inits.idxOf? (N f)=none) (hfn:C.prog.funcs[N f]?=some fn) (hcode:fn.body=some code) (hname:(fn.name=="runtime.NumGoroutine")=false)
  (wit:∃(w:World) (tape:Tape) (i:Input),w.os=os/\(w.forCall tape i).Shaped C.prog/\i.vars=[]/\Input.okWide C.prog (w.forCall tape i) .any w.heap.size (N f) i/\
   s.pre6 enc C.prog fn [] false (w.forCall tape i).memory i.args/\({}:Assume).holds C.prog (lone (Frame.enter C.prog (N f) i.args .normal) [] (w.forCall tape i)))
  (hres:fn.resultTypes=#[tb]) (htb:C.prog.underlying tb=some .bool) (hsv:s.vars=[]) (hsf:∀ds:List (DataW H),ds.length=fn.params.toList.length->s.fn H ds={results:=[.lit (.bool true)],args:=ds})
  (hr:∀t∈fn.params.toList,C.prog.readableRec t=true/\t<C.prog.types.size) (hS:oj C.prog S=true) (hp:∀t∈fn.params.toList,t∈S):
  ReturnsInHanded {} C os (N f) .any (s.pre6 enc C.prog fn [] false) (s.post enc C.prog fn false true false false):=by
 refine returnsInHanded_of_change own started noInit hfn wit ?_;intro W base args ds gs before hval hW _ _;have hW':=hW;obtain⟨p,q,h1,h2,h3,h4,h5⟩:=hW;have hlen:ds.length=fn.params.toList.length:=by
  have key:∀(ts:List TypeId) (vs:List Value) (ds:List (DataW H)) (ps:List MemPlace),DataW.TrodAll enc C.prog W 0 (λ_=>true) true ts vs ds ps->ds.length=ts.length:=by
   intro ts
   induction ts with
   |nil=>intro vs ds ps h;obtain⟨rfl,rfl,rfl⟩:=trodAll_nil h;rfl
   |cons t ts ih=>
    intro vs ds ps h;obtain⟨v,vs',d,ds',p,q,rfl,rfl,rfl,_,g2⟩:=trodAll_cons h;simp[ih _ _ _ g2]
  exact key _ _ _ _ h1
 have hgs:gs=[]:=by
  rw[hsv]at h2;obtain⟨g1,g2⟩:=trodVars_none h2
  first|exact g2|exact g1
 refine(wI hS hF (.none hN) hfn hcode hname h1 hp (λj t v hj hv=>hval j t v (by simpa using hj) (by simpa using hv))).mono λe W' ⟨he,hb⟩=>?_;subst he;exact⟨_,rfl,HA hl hW' hsv hres htb (by rw[hgs,abb];exact hsf ds hlen) hr hb⟩
end Go.Pv
namespace Go.Pv
variable {A:Nat→Option af} {Pr:bD}
inductive qx {α:Sort _}(a:α):Type
 |mk
def cy {α:Type}(o:Option α)(K:α->Prop)(_t:qx K:=.mk):Prop:=∃v,o=some v/\K v
@[congr] theorem M4 {α:Type}{o o':Option α}{K:α->Prop}(h:o=o'):cy o K=cy o' K:=by rw[h]
@[go_sem] theorem Rr {α:Type}(v:α)(K:α->Prop):cy (some v) K=K v:=by simp[cy]
def Br (c:Bool)(X Y:Prop)(_t:qx (X/\Y):=.mk):Prop:=if c=true then X else Y
@[congr] theorem TC {c c':Bool}{X Y:Prop}(h:c=c'):Br c X Y=Br c' X Y:=by rw[h]
@[go_sem] theorem uc (X Y:Prop):Br true X Y=X:=rfl
@[go_sem] theorem qy (X Y:Prop):Br false X Y=Y:=by simp[Br]
theorem Br.of {c:Bool}{X Y:Prop}(h1:c=true->X)(h2:c=false->Y):Br c X Y:=by
 cases c
 .simpa [Br]using h2 rfl
 .simpa [Br]using h1 rfl
theorem Br.aF {p:Prop}{i:Decidable p}{X Y:Prop}(h1:p->X)(h2:¬p->Y):Br (@decide p i) X Y:=by
 by_cases h:p<;>simp[Br,h,h1,h2]
def Ek (v:V)(K:Bool->Prop)(_t:qx K:=.mk):Prop:=∃b,v=.pv (.bool b)/\K b
@[go_sem] theorem TD (b:Bool)(K:Bool->Prop):Ek (.pv (.bool b)) K=K b:=by simp[Ek]
open Classical in
noncomputable def res (A:Nat->Option af)(Pr:bD)(f:Nat)(ps:List PV):Option (List PV):=if h:∃rs,hY A Pr f ps rs then some h.choose else none
theorem hY.uniq {f:Nat}{ps rs rs':List PV}(h:hY A Pr f ps rs)(h':hY A Pr f ps rs'):rs=rs':=by
 obtain⟨n,hn⟩:=h;obtain⟨m,hm⟩:=h';have h1:=gD (dD (A:=A) (Pr:=Pr) (Nat.le_max_left n m)) _ _ _ hn;have h2:=gD (dD (A:=A) (Pr:=Pr) (abJ n m)) _ _ _ hm;rw[h1]at h2;exact Option.some.inj h2
theorem lh {f:Nat}{ps rs:List PV}:res A Pr f ps=some rs↔hY A Pr f ps rs:=by
 unfold res;constructor
 .intro h;split at h
  .rename_i hh;cases h;exact hh.choose_spec
  .cases h
 .intro h;have hh:∃rs,hY A Pr f ps rs:=⟨rs,h⟩;rw[dif_pos hh];rw[hY.uniq hh.choose_spec h]
def W (A:Nat->Option af)(Pr:bD)(c:AC)(s:St)(Q:Ex->St->Prop)(_t:qx (c,Q):=.mk):Prop:=∃ex s',cI A Pr c s ex s'/\Q ex s'
def WO (A:Nat->Option af)(Pr:bD)(l:List aG)(s:St)(K:St->Prop)(_t:qx (l,K):=.mk):Prop:=∃s',ju A Pr l s s'/\K s'
def WD (A:Nat->Option af)(Pr:bD)(l:List (aG×List Nat))(done:List Tn)(s:St)(K:St->Prop)(_t:qx (l,K):=.mk):Prop:=∃s',gE A Pr l done s s'/\K s'
def Kg (A:Nat->Option af)(Pr:bD)(b:AC)(Q:Ex->St->Prop)(_t:qx (b,Q):=.mk):Ex->St->Prop
 |.normal,s=>W A Pr b s Q
 |.exit i,s=>Q (.exit i) s
 |.ret,s=>Q .ret s
def nz (id:Nat)(Q:Ex->St->Prop)(_t:qx Q:=.mk):Ex->St->Prop
 |.normal,s=>Q .normal s
 |.exit i,s=>if i=id then Q .normal s else Q (.exit i) s
 |.ret,s=>Q .ret s
@[go_sem] theorem LV (b:AC)(Q:Ex->St->Prop)(s:St):Kg A Pr b Q .mk .normal s=W A Pr b s Q:=rfl
@[go_sem] theorem Rs (b:AC)(Q:Ex->St->Prop)(i:Nat)(s:St):Kg A Pr b Q .mk (.exit i) s=Q (.exit i) s:=rfl
@[go_sem] theorem TE (b:AC)(Q:Ex->St->Prop)(s:St):Kg A Pr b Q .mk .ret s=Q .ret s:=rfl
@[go_sem] theorem JN (i:Nat)(Q:Ex->St->Prop)(s:St):nz i Q .mk .normal s=Q .normal s:=rfl
@[go_sem] theorem LW (i j:Nat)(Q:Ex->St->Prop)(s:St):nz i Q .mk (.exit j) s=if j=i then Q .normal s else Q (.exit j) s:=rfl
@[go_sem] theorem M5 (i:Nat)(Q:Ex->St->Prop)(s:St):nz i Q .mk .ret s=Q .ret s:=rfl
theorem cI.uniq {c:AC}{s s1 s2:St}{e1 e2:Ex}(h1:cI A Pr c s e1 s1)(h2:cI A Pr c s e2 s2):e1=e2/\s1=s2:=by
 obtain⟨n,hn⟩:=h1;obtain⟨m,hm⟩:=h2;have h1:=dD (A:=A) (Pr:=Pr) (Nat.le_max_left n m) _ _ _ hn;have h2:=dD (A:=A) (Pr:=Pr) (abJ n m) _ _ _ hm;rw[h1]at h2;cases h2;exact⟨rfl,rfl⟩
theorem W.uniq {c:AC}{s s':St}{ex:Ex}{Q:Ex->St->Prop}(h:cI A Pr c s ex s'):W A Pr c s Q=Q ex s':=by
 apply propext;constructor
 .rintro ⟨e2,s2,h1,h2⟩
  obtain⟨rfl,rfl⟩:=cI.uniq h h1;exact h2
 .exact λhq=>⟨_,_,h,hq⟩
@[go_sem] theorem XB (s:St)(Q:Ex->St->Prop):W A Pr .skip s Q=Q .normal s:=W.uniq (cI.skip s)
@[go_sem] theorem XC (i:Nat)(s:St)(Q:Ex->St->Prop):W A Pr (.exit i) s Q=Q (.exit i) s:=W.uniq (cI.exit i s)
@[go_sem] theorem Zz (s:St)(Q:Ex->St->Prop):W A Pr .ret s Q=Q .ret s:=W.uniq (cI.ret s)
theorem oo {c:AC}{s s':St}{ex:Ex}(h:cI A Pr c s ex s'):∃n,ct A Pr (exec A Pr n) c s=some (ex,s'):=by
 obtain⟨n,hn⟩:=h;cases n with
 |zero=>simp[exec]at hn
 |succ n=>exact⟨n,hn⟩
@[go_sem] theorem ZA (a b:AC)(s:St)(Q:Ex->St->Prop):W A Pr (.seq a b) s Q=W A Pr a s (Kg A Pr b Q):=by
 apply propext;constructor
 .rintro ⟨ex,s',h,hq⟩
  obtain⟨n,hn⟩:=oo h;simp only[ct]at hn;cases ha:exec A Pr n a s with
  |none=>simp[ha]at hn
  |some r=>
   obtain⟨e1,s1⟩:=r;rw[ha]at hn;refine⟨e1,s1,⟨n,ha⟩,?_⟩;cases e1 with
   |normal=>exact⟨ex,s',⟨n,hn⟩,hq⟩
   |exit i=>cases hn;exact hq
   |ret=>cases hn;exact hq
 .rintro ⟨ex,s',h,hq⟩
  cases ex with
  |normal=>
   obtain⟨e2,s2,h2,hq2⟩:=hq;exact⟨e2,s2,cI.seq h h2,hq2⟩
  |exit i=>exact⟨_,_,cI.Ej h (by simp),hq⟩
  |ret=>exact⟨_,_,cI.Ej h (by simp),hq⟩
@[go_sem] theorem Wr (id:Nat)(a:AC)(s:St)(Q:Ex->St->Prop):W A Pr (.block id a) s Q=W A Pr a s (nz id Q):=by
 apply propext;constructor
 .rintro ⟨ex,s',h,hq⟩
  obtain⟨n,hn⟩:=oo h;simp only[ct]at hn;cases ha:exec A Pr n a s with
  |none=>simp[ha]at hn
  |some r=>
   obtain⟨e1,s1⟩:=r;rw[ha]at hn;refine⟨e1,s1,⟨n,ha⟩,?_⟩;cases e1 with
   |normal=>cases hn;exact hq
   |exit i=>
    simp only[nz];split
    .rename_i hi;simp only[hi,if_true]at hn;cases hn;exact hq
    .rename_i hi;simp only[hi,if_false]at hn;cases hn;exact hq
   |ret=>cases hn;exact hq
 .rintro ⟨ex,s',h,hq⟩
  have hb:=cI.block (id:=id) h;cases ex with
  |normal=>exact⟨_,_,hb,hq⟩
  |exit i=>
   simp only[nz]at hq;refine⟨_,_,hb,?_⟩;show Q (if i=id then Ex.normal else Ex.exit i) s';by_cases hi:i=id
   .rw[if_pos hi]at hq |-;exact hq
   .rw[if_neg hi]at hq |-;exact hq
  |ret=>exact⟨_,_,hb,hq⟩
@[go_sem] theorem XD (kt kb:List Nat)(a:AC)(s:St)(Q:Ex->St->Prop):W A Pr (.mask kt kb a) s Q=W A Pr a (s.mask kt kb) Q:=by
 apply propext;constructor
 .rintro ⟨ex,s',h,hq⟩
  obtain⟨n,hn⟩:=oo h;exact⟨ex,s',⟨n,hn⟩,hq⟩
 .rintro ⟨ex,s',h,hq⟩
  exact⟨ex,s',cI.mask h,hq⟩
@[go_sem] theorem XE (c:cd)(a b:AC)(s:St)(Q:Ex->St->Prop):W A Pr (.cond c a b) s Q=Ek (bC s.env c) λt=>Br t (W A Pr a s Q) (W A Pr b s Q):=by
 apply propext;constructor
 .rintro ⟨ex,s',h,hq⟩
  obtain⟨n,hn⟩:=oo h;simp only[ct]at hn;split at hn
  .rename_i he;exact⟨true,he,ex,s',⟨n,hn⟩,hq⟩
  .rename_i he;exact⟨false,he,by simpa [Br]using ⟨ex,s',⟨n,hn⟩,hq⟩⟩
  .cases hn
 .rintro ⟨t,ht,hb⟩
  cases t with
  |true=>
   obtain⟨ex,s',h,hq⟩:W A Pr a s Q:=hb;exact⟨ex,s',cI.cond ht h,hq⟩
  |false=>
   have hb':W A Pr b s Q:=by simpa [Br]using hb
   obtain⟨ex,s',h,hq⟩:=hb';exact⟨ex,s',cI.cond ht h,hq⟩
@[go_sem] theorem TF (ops:List aG)(kt kb:List Nat)(s:St)(Q:Ex->St->Prop):W A Pr (.region ops kt kb) s Q=WO A Pr ops s λs'=>Q .normal (s'.mask kt kb):=by
 apply propext;constructor
 .rintro ⟨ex,s',h,hq⟩
  obtain⟨n,hn⟩:=oo h;simp only[ct]at hn;split at hn
  .rename_i s1 he;cases hn;exact⟨s1,⟨n,he⟩,hq⟩
  .cases hn
 .rintro ⟨s',h,hq⟩
  exact⟨_,_,cI.region h,hq⟩
@[go_sem] theorem XF (ops:List (aG×List Nat))(kt kb:List Nat)(s:St)(Q:Ex->St->Prop):W A Pr (.draw ops kt kb) s Q=WD A Pr ops [] s λs'=>Q .normal (s'.mask kt kb):=by
 apply propext;constructor
 .rintro ⟨ex,s',h,hq⟩
  obtain⟨n,hn⟩:=oo h;simp only[ct]at hn;split at hn
  .rename_i s1 he;cases hn;exact⟨s1,⟨n,he⟩,hq⟩
  .cases hn
 .rintro ⟨s',h,hq⟩
  exact⟨_,_,cI.draw h,hq⟩
def WE (A:Nat->Option af)(Pr:bD)(env:List (Nat×V))(h:aq)(q:eJ)(K:V->Tn->Prop)(_t:qx (q,K):=.mk):Prop:=∃n v t,evalOp (dv A (exec A Pr n)) (bT A (exec A Pr n) Pr) (ef A) (bC env) h q=some (v,t)/\K v t
theorem WE.uniq {env:List (Nat×V)}{h:aq}{q:eJ}{K:V->Tn->Prop}{n:Nat}{v:V}{t:Tn}(he:evalOp (dv A (exec A Pr n)) (bT A (exec A Pr n) Pr) (ef A) (bC env) h q=some (v,t)):WE A Pr env h q K=K v t:=by
 apply propext;constructor
 .rintro ⟨m,v',t',h1,hk⟩
  have e1:=yY (gD (dD (A:=A) (Pr:=Pr) (Nat.le_max_left n m))) (l8 (dD (A:=A) (Pr:=Pr) (Nat.le_max_left n m))) he;have e2:=yY (gD (dD (A:=A) (Pr:=Pr) (abJ n m))) (l8 (dD (A:=A) (Pr:=Pr) (abJ n m))) h1;rw[e1]at e2;cases e2;exact hk
 .exact λhk=>⟨n,v,t,he,hk⟩
def yZ:eJ->Bool
 |.call _ _=>false
 |_=>true
def ev (env:List (Nat×V))(h:aq)(q:eJ):Option (V×Tn):=evalOp (λ_ _=>none) (λ_=>none) (λ_=>false) (bC env) h q
theorem AJ {Φ:Nat->List PV->Option (List PV)}{Tk:Nat->Bool}{env:List (Nat×V)}{h:aq}{q:eJ}(hq:yZ q=true):evalOp Φ Pr Tk (bC env) h q=ev env h q:=by
 cases q<;>first|rfl|(simp[yZ]at hq)
theorem ca {env:List (Nat×V)}{h:aq}{q:eJ}{K:V->Tn->Prop}(hq:yZ q=true):WE A Pr env h q K=cy (ev env h q) λr=>K r.1 r.2:=by
 apply propext;constructor
 .rintro ⟨n,v,t,h1,hk⟩
  rw[AJ hq]at h1;exact⟨_,h1,hk⟩
 .rintro ⟨⟨v,t⟩,h1,hk⟩
  exact⟨0,v,t,by rw[AJ hq];exact h1,hk⟩
def rU (A:Nat->Option af)(fn:Nat):Bool:=
 match A fn with
 |some g=>g.inl
 |none=>false
def Fx (rv:List p5)(ss:List Nat)(K:V->Tn->Prop)(_t:qx (rv,K):=.mk):Ex->St->Prop
 |.exit _,_=>False
 |_,s=>cy (aA (du s) rv) λrs=>cy (aA (mR (gZ ss)) rs) λws=>cy (mS (gZ ss) s.h.bx outer ss) λbs=>K (fD ws) {all:=some (bs,s.h.ar,s.h.mp)}
@[go_sem] theorem LX (rv:List p5)(ss:List Nat)(K:V->Tn->Prop)(s:St):Fx rv ss K .mk .normal s=cy (aA (du s) rv) λrs=>cy (aA (mR (gZ ss)) rs) λws=>cy (mS (gZ ss) s.h.bx outer ss) λbs=>K (fD ws) {all:=some (bs,s.h.ar,s.h.mp)}:=rfl
@[go_sem] theorem TG (rv:List p5)(ss:List Nat)(K:V->Tn->Prop)(s:St):Fx rv ss K .mk .ret s=cy (aA (du s) rv) λrs=>cy (aA (mR (gZ ss)) rs) λws=>cy (mS (gZ ss) s.h.bx outer ss) λbs=>K (fD ws) {all:=some (bs,s.h.ar,s.h.mp)}:=rfl
def ud (vs:List V)(bx:List (Nat×List V)):List Nat:=ea bx 2 (cE [] (vs.flatMap slotsOf))
def IW (A:Nat->Option af)(Pr:bD)(fn:Nat)(vs:List V)(h:aq)(K:V->Tn->Prop)(_t:qx K:=.mk):Prop:=
 ∃g n v t,A fn=some g/\gu (exec A Pr n) g vs h=some (v,t)/\K v t
def CW (A:Nat->Option af)(Pr:bD)(fn:Nat)(vs:List V)(h:aq)(K:V->Tn->Prop)(_t:qx K:=.mk):Prop:=
 if rU A fn=true then IW A Pr fn vs h K else
 match Pr fn with
 |some pr=>cy (pr vs h) λr=>K r.1 r.2
 |none=>cy (cu h (ef A fn) vs) λq=>cy (res A Pr fn q.1) λrs=>K (fD (bO h.ar.length rs).1) {ar:=q.2,push:=(bO h.ar.length rs).2,fK:=!(vs.all V.kO),base:=if (bO h.ar.length rs).2.isEmpty then 0 else h.ar.length}
theorem El {fn:Nat}(hi:rU A fn=false)(hp:Pr fn=none){t:Bool}(ht:ef A fn=t)(vs:List V)(h:aq)(K:V->Tn->Prop):CW A Pr fn vs h K=cy (cu h t vs) λq=>cy (res A Pr fn q.1) λrs=>K (fD (bO h.ar.length rs).1) {ar:=q.2,push:=(bO h.ar.length rs).2,fK:=!(vs.all V.kO),base:=if (bO h.ar.length rs).2.isEmpty then 0 else h.ar.length}:=by
 unfold CW;rw[hi,hp,ht];rfl
theorem l9 {fn:Nat}{pr:List V->aq->Option (V×Tn)}(hi:rU A fn=false)(hp:Pr fn=some pr)(vs:List V)(h:aq)(K:V->Tn->Prop):CW A Pr fn vs h K=cy (pr vs h) λr=>K r.1 r.2:=by
 unfold CW;rw[hi,hp];rfl
theorem M6 {fn:Nat}(hi:rU A fn=true)(vs:List V)(h:aq)(K:V->Tn->Prop):CW A Pr fn vs h K=IW A Pr fn vs h K:=if_pos hi
theorem LY {fn:Nat}{g:af}(hg:A fn=some g)(vs:List V)(h:aq)(K:V->Tn->Prop):IW A Pr fn vs h K=(vs.length=g.rA/\cy (aA (mR (rD (ud vs h.bx))) vs) λus=>cy (uw (rD (ud vs h.bx)) h.bx outer (ud vs h.bx)) λbx=>
  W A Pr g.body ⟨mT 0 us,⟨bx,h.ar,h.mp⟩⟩ (Fx g.results (ud vs h.bx) K)):=by
 apply propext;constructor
 .rintro ⟨g',n,v,t,h1,h2,hk⟩
  rw[hg]at h1;cases h1;obtain⟨ss,us,bx,ex,s',hss,_,h3,h4,h5,h6,h7,h8⟩:=nw h2;subst hss;obtain⟨rs,ws,bs,g1,g2,g3,rfl,rfl⟩:=nu h8;refine⟨h3,us,h4,bx,h5,ex,s',⟨n,h6⟩,?_⟩;rcases h7 with rfl|rfl
  .exact⟨rs,g1,ws,g2,bs,g3,hk⟩
  .exact⟨rs,g1,ws,g2,bs,g3,hk⟩
 .rintro ⟨h3,us,h4,bx,h5,ex,s',⟨n,h6⟩,hq⟩
  have h4:aA (mR (rD (ea h.bx 2 (cE [] (vs.flatMap slotsOf))))) vs=some us:=h4;have h5:uw (rD (ea h.bx 2 (cE [] (vs.flatMap slotsOf)))) h.bx outer (ea h.bx 2 (cE [] (vs.flatMap slotsOf)))=some bx:=h5;cases ex with
  |exit i=>exact hq.elim
  |normal=>
   obtain⟨rs,g1,ws,g2,bs,g3,hk⟩:=hq;have g2:aA (mR (gZ (ea h.bx 2 (cE [] (vs.flatMap slotsOf))))) rs=some ws:=g2;have g3:mS (gZ (ea h.bx 2 (cE [] (vs.flatMap slotsOf)))) s'.h.bx outer (ea h.bx 2 (cE [] (vs.flatMap slotsOf)))=some bs:=g3;refine⟨g,n,_,_,hg,?_,hk⟩;simp only[gu,h3,if_true,h4,h5,h6,pc,g1,g2,g3]
  |ret=>
   obtain⟨rs,g1,ws,g2,bs,g3,hk⟩:=hq;have g2:aA (mR (gZ (ea h.bx 2 (cE [] (vs.flatMap slotsOf))))) rs=some ws:=g2;have g3:mS (gZ (ea h.bx 2 (cE [] (vs.flatMap slotsOf)))) s'.h.bx outer (ea h.bx 2 (cE [] (vs.flatMap slotsOf)))=some bs:=g3;refine⟨g,n,_,_,hg,?_,hk⟩;simp only[gu,h3,if_true,h4,h5,h6,pc,g1,g2,g3]
theorem py {fn:Nat}(hi:rU A fn=false)(E:AC->St->Option (Ex×St)):bT A E Pr fn=Pr fn:=by
 unfold rU at hi;unfold bT;cases hf:A fn with
 |none=>rfl
 |some g=>
  rw[hf]at hi;simp only at hi |-;rw[hi];simp
theorem s6 {fn:Nat}(hi:rU A fn=true)(E:AC->St->Option (Ex×St)):∃g,A fn=some g/\bT A E Pr fn=some (gu E g):=by
 unfold rU at hi;unfold bT;cases hf:A fn with
 |none=>rw[hf]at hi;cases hi
 |some g=>
  rw[hf]at hi;simp only at hi |-;rw[hi];exact⟨g,rfl,rfl⟩
@[go_sem] theorem Ws (env:List (Nat×V))(h:aq)(f:cd)(args:List cd)(K:V->Tn->Prop):WE A Pr env h (.call f args) K=cy (funcOf (bC env f)) λfc=>CW A Pr fc.1 (args.map (bC env)++fc.2) h K:=by
 apply propext;constructor
 .rintro ⟨n,v,t,h1,hk⟩
  simp only[evalOp]at h1;split at h1<;>first|(cases h1;done)|skip
  rename_i fn cap hf;refine⟨(fn,cap),hf,?_⟩;unfold CW;cases hi:rU A fn with
  |true=>
   obtain⟨g,g1,g2⟩:=s6 (Pr:=Pr) hi (exec A Pr n);rw[g2]at h1;dsimp only;rw[if_pos hi];exact⟨g,n,v,t,g1,h1,hk⟩
  |false=>
   rw[py hi]at h1;dsimp only;rw[if_neg (by rw[hi];simp)];cases hp:Pr fn with
   |some pr=>
    simp only[hp]at h1 |-;exact⟨_,h1,hk⟩
   |none=>
    simp only[hp]at h1 |-;split at h1<;>first|(cases h1;done)|skip
    rename_i ps a hl;split at h1<;>first|(cases h1;done)|skip
    rename_i rs hrs;cases h1;exact⟨(ps,a),hl,⟨rs,lh.2 ⟨n,hrs⟩,hk⟩⟩
 .rintro ⟨⟨fn,cap⟩,hf,hc⟩
  unfold CW at hc;cases hi:rU A fn with
  |true=>
   simp only at hc;rw[hi,if_pos rfl]at hc;obtain⟨g,n,v,t,g1,g2,hk⟩:=hc;obtain⟨g',k1,k2⟩:=s6 (Pr:=Pr) hi (exec A Pr n);rw[g1]at k1;cases k1;refine⟨n,v,t,?_,hk⟩;simp only[evalOp,hf,k2];exact g2
  |false=>
   simp only at hc;rw[hi,if_neg (by simp)]at hc;cases hp:Pr fn with
   |some pr=>
    simp only[hp]at hc;obtain⟨⟨v,t⟩,h1,hk⟩:=hc;refine⟨0,v,t,?_,hk⟩;simp only[evalOp,hf,py hi,hp];exact h1
   |none=>
    simp only[hp]at hc;obtain⟨⟨ps,a⟩,hl,rs,hrs,hk⟩:=hc;obtain⟨n,hn⟩:=lh.1 hrs;refine⟨n,_,_,?_,hk⟩;simp only[evalOp,hf,py hi,hp,hl,hn]
@[go_sem] theorem XG (s:St)(K:St->Prop):WO A Pr [] s K=K s:=by
 apply propext;constructor
 .rintro ⟨s',⟨n,hn⟩,hk⟩
  simp only[eD]at hn;cases hn;exact hk
 .exact λhk=>⟨s,ju.nil s,hk⟩
theorem qz {o:aG}{r:List aG}{s:St}{K:St->Prop}:WO A Pr (o::r) s K=∃n s1 t,bH (dv A (exec A Pr n)) (bT A (exec A Pr n) Pr) (ef A) o s=some (s1,t)/\WO A Pr r s1 K:=by
 apply propext;constructor
 .rintro ⟨s',⟨n,hn⟩,hk⟩
  simp only[eD]at hn;split at hn
  .rename_i s1 t h1;exact⟨n,s1,t,h1,s',⟨n,hn⟩,hk⟩
  .cases hn
 .rintro ⟨n,s1,t,h1,s',h2,hk⟩
  exact⟨s',ju.cons h1 h2,hk⟩
@[go_sem] theorem Kh (d:Option Nat)(q:eJ)(r:List aG)(env:List (Nat×V))(h:aq)(K:St->Prop):WO A Pr (⟨d,q,none⟩::r) ⟨env,h⟩ K=WE A Pr env h q λv t=>WO A Pr r ⟨put env d v,t.apply h⟩ K:=by
 rw[qz];apply propext;constructor
 .rintro ⟨n,s1,t,h1,hk⟩
  simp only[bH,wanted]at h1;split at h1
  .rename_i v t' he;cases h1;exact⟨n,v,t,he,hk⟩
  .cases h1
 .rintro ⟨n,v,t,he,hk⟩
  exact⟨n,_,t,by simp only[bH,wanted,he],hk⟩
def bare (t:Nat)(b:Bool):List aG->List aG
 |[]=>[]
 |o::r=>if o.guard=some (t,b)/\o.dst≠some t then ⟨o.dst,o.op,none⟩::bare t b r else o::r
def tI (t:Nat)(b:Bool):List aG->List (Nat×V)->List (Nat×V)×List aG
 |[],env=>(env,[])
 |o::r,env=>if o.guard=some (t,b)/\o.dst≠some t then tI t b r (put env o.dst (.dR [])) else (env,o::r)
theorem HB {env:List (Nat×V)}{d:Option Nat}{v:V}{t:Nat}(h:d≠some t):get (put env d v) t=get env t:=by
 cases d with
 |none=>rfl
 |some d=>
  simp only[put,get,aH];rw[if_neg (by intro he;exact h (by rw[he]))]
theorem wanted_put {env:List (Nat×V)}{d:Option Nat}{v:V}{t:Nat}{b:Bool}(h:d≠some t):wanted (put env d v) (some (t,b))=wanted env (some (t,b)):=by
 simp only[wanted,HB h]
theorem y3 {t:Nat}{b:Bool}:∀(l:List aG)(s:St)(K:St->Prop),wanted s.env (some (t,b))=some true->WO A Pr l s K=WO A Pr (bare t b l) s K
 |[],s,K,_=>rfl
 |o::r,s,K,he=>by
  by_cases hg:o.guard=some (t,b)/\o.dst≠some t
  .rw[show bare t b (o::r)=⟨o.dst,o.op,none⟩::bare t b r from if_pos hg];obtain⟨env,h⟩:=s;rw[qz,qz];have:∀n,bH (dv A (exec A Pr n)) (bT A (exec A Pr n) Pr) (ef A) o ⟨env,h⟩=bH (dv A (exec A Pr n)) (bT A (exec A Pr n) Pr) (ef A) ⟨o.dst,o.op,none⟩ ⟨env,h⟩:=by
    intro n;have e1:wanted env o.guard=some true:=by rw[hg.1];exact he
    have e2:wanted env (none:Option (Nat×Bool))=some true:=rfl;simp only[bH,e1,e2]
   simp only[this];apply propext;have hr:∀n s1 tn,bH (dv A (exec A Pr n)) (bT A (exec A Pr n) Pr) (ef A) ⟨o.dst,o.op,none⟩ ⟨env,h⟩=some (s1,tn)->wanted s1.env (some (t,b))=some true:=by
    intro n s1 tn h1;have e2:wanted env (none:Option (Nat×Bool))=some true:=rfl;simp only[bH,e2]at h1;split at h1
    .cases h1;exact(wanted_put hg.2).trans he
    .cases h1
   constructor
   .rintro ⟨n,s1,tn,h1,hk⟩
    exact⟨n,s1,tn,h1,by rw[<- y3 r s1 K (hr _ _ _ h1)];exact hk⟩
   .rintro ⟨n,s1,tn,h1,hk⟩
    exact⟨n,s1,tn,h1,by rw[y3 r s1 K (hr _ _ _ h1)];exact hk⟩
  .rw[show bare t b (o::r)=o::r from if_neg hg]
theorem Em {t:Nat}{b:Bool}:∀(l:List aG)(env:List (Nat×V))(h:aq)(K:St->Prop),wanted env (some (t,b))=some false->WO A Pr l ⟨env,h⟩ K=WO A Pr (tI t b l env).2 ⟨(tI t b l env).1,h⟩ K
 |[],env,h,K,_=>rfl
 |o::r,env,h,K,he=>by
  by_cases hg:o.guard=some (t,b)/\o.dst≠some t
  .rw[show tI t b (o::r) env=tI t b r (put env o.dst (.dR [])) from if_pos hg];rw[qz,<- Em r (put env o.dst (.dR [])) h K ((wanted_put hg.2).trans he)];have:∀n,bH (dv A (exec A Pr n)) (bT A (exec A Pr n) Pr) (ef A) o ⟨env,h⟩=some (⟨put env o.dst (.dR []),h⟩,{}):=by
    intro n;have e1:wanted env o.guard=some false:=by rw[hg.1];exact he
    simp only[bH,e1]
   simp only[this];apply propext;constructor
   .rintro ⟨n,s1,tn,h1,hk⟩
    cases h1;exact hk
   .exact λhk=>⟨0,_,_,rfl,hk⟩
  .rw[show tI t b (o::r) env=(env,o::r) from if_neg hg]
def TH (v:V)(b:Bool)(X Y:Prop)(_t:qx (X/\Y):=.mk):Prop:=
 match v with
 |.pv (.bool c)=>Br (c==b) X Y
 |.dR _=>Y
 |_=>False
@[go_sem] theorem HC (c b:Bool)(X Y:Prop):TH (.pv (.bool c)) b X Y=Br (c==b) X Y:=rfl
@[go_sem] theorem Ki (l:List V)(b:Bool)(X Y:Prop):TH (.dR l) b X Y=Y:=rfl
theorem En {env:List (Nat×V)}{t:Nat}{b:Bool}{X Y Z:Prop}(h0:Z->∃c,wanted env (some (t,b))=some c)(h1:wanted env (some (t,b))=some true->Z=X)(h2:wanted env (some (t,b))=some false->Z=Y):Z=TH (get env t) b X Y:=by
 simp only[wanted]at h0 h1 h2;apply propext;cases hv:get env t with
 |pv p=>
  cases p with
  |bool c=>
   simp only[hv,Option.some.injEq]at h1 h2;rw[HC];cases hcb:(c==b)with
   |true=>rw[uc,h1 hcb]
   |false=>rw[qy,h2 hcb]
  |_=>
   simp only[hv]at h0;exact⟨λhz=>(h0 hz).elim (λ_ h=>by cases h),λh=>h.elim⟩
 |dR l=>
  simp only[hv]at h2;rw[Ki,h2 trivial]
 |_=>
  simp only[hv]at h0;exact⟨λhz=>(h0 hz).elim (λ_ h=>by cases h),λh=>h.elim⟩
def WB (A:Nat->Option af)(Pr:bD)(t:Nat)(b:Bool)(l:List aG)(s:St)(K:St->Prop)(_t:qx (l,K):=.mk):Prop:=WO A Pr (bare t b l) s K
def WN (A:Nat->Option af)(Pr:bD)(t:Nat)(b:Bool)(l:List aG)(s:St)(K:St->Prop)(_t:qx (l,K):=.mk):Prop:=WO A Pr (tI t b l s.env).2 ⟨(tI t b l s.env).1,s.h⟩ K
def oH (t:Nat):Option Nat->Bool
 |some d=>!(d==t)
 |none=>true
@[go_sem] theorem Rt (t d:Nat):oH t (some d)=!(d==t):=rfl
@[go_sem] theorem Ru (t:Nat):oH t none=true:=rfl
theorem lj {t:Nat}{d:Option Nat}:oH t d=true↔d≠some t:=by
 cases d<;>simp[oH]
@[congr] theorem TI {t:Nat}{b:Bool}{l:List aG}{s s':St}{K:St->Prop}(h:s=s'):WB A Pr t b l s K=WB A Pr t b l s' K:=by rw[h]
@[congr] theorem TJ {t:Nat}{b:Bool}{l:List aG}{s s':St}{K:St->Prop}(h:s=s'):WN A Pr t b l s K=WN A Pr t b l s' K:=by rw[h]
@[go_sem] theorem Wt (t:Nat)(b:Bool)(d:Option Nat)(q:eJ)(r:List aG)(s:St)(K:St->Prop):WB A Pr t b (⟨d,q,none⟩::r) s K=WO A Pr (⟨d,q,none⟩::r) s K:=by
 simp[WB,bare]
@[go_sem] theorem Wu (t:Nat)(b:Bool)(d:Option Nat)(q:eJ)(r:List aG)(s:St)(K:St->Prop):WN A Pr t b (⟨d,q,none⟩::r) s K=WO A Pr (⟨d,q,none⟩::r) s K:=by
 simp[WN,tI]
@[go_sem] theorem Wv (t:Nat)(b:Bool)(d:Option Nat)(q:eJ)(t':Nat)(b':Bool)(r:List aG)(env:List (Nat×V))(h:aq)(K:St->Prop):WB A Pr t b (⟨d,q,some (t',b')⟩::r) ⟨env,h⟩ K=Br (t'==t&&b'==b&&oH t d) (WE A Pr env h q λv tn=>WB A Pr t b r ⟨put env d v,tn.apply h⟩ K) (WO A Pr (⟨d,q,some (t',b')⟩::r) ⟨env,h⟩ K):=by
 by_cases hc:t'=t/\b'=b/\d≠some t
 .obtain⟨rfl,rfl,hd⟩:=hc;rw[show (t'==t'&&b'==b'&&oH t' d)=true by simp[lj.2 hd],uc];unfold WB;rw[<- Kh,show bare t' b' (⟨d,q,some (t',b')⟩::r)=⟨d,q,none⟩::bare t' b' r from if_pos ⟨rfl,hd⟩]
 .rw[show (t'==t&&b'==b&&oH t d)=false by
   cases hx:(t'==t&&b'==b&&oH t d)with
   |false=>rfl
   |true=>
    simp only[Bool.and_eq_true,beq_iff_eq]at hx;exact(hc ⟨hx.1.1,hx.1.2,lj.1 hx.2⟩).elim,qy]
  have:¬(some (t',b')=some (t,b)/\d≠some t):=λ⟨h1,h2⟩=>hc ⟨by cases h1;rfl,by cases h1;rfl,h2⟩;unfold WB;rw[show bare t b (⟨d,q,some (t',b')⟩::r)=⟨d,q,some (t',b')⟩::r from if_neg this]
@[go_sem] theorem Ww (t:Nat)(b:Bool)(d:Option Nat)(q:eJ)(t':Nat)(b':Bool)(r:List aG)(env:List (Nat×V))(h:aq)(K:St->Prop):WN A Pr t b (⟨d,q,some (t',b')⟩::r) ⟨env,h⟩ K=Br (t'==t&&b'==b&&oH t d) (WN A Pr t b r ⟨put env d (.dR []),h⟩ K) (WO A Pr (⟨d,q,some (t',b')⟩::r) ⟨env,h⟩ K):=by
 by_cases hc:t'=t/\b'=b/\d≠some t
 .obtain⟨rfl,rfl,hd⟩:=hc;rw[show (t'==t'&&b'==b'&&oH t' d)=true by simp[lj.2 hd],uc];unfold WN;dsimp only;rw[show tI t' b' (⟨d,q,some (t',b')⟩::r) env=tI t' b' r (put env d (.dR [])) from if_pos ⟨rfl,hd⟩]
 .rw[show (t'==t&&b'==b&&oH t d)=false by
   cases hx:(t'==t&&b'==b&&oH t d)with
   |false=>rfl
   |true=>
    simp only[Bool.and_eq_true,beq_iff_eq]at hx;exact(hc ⟨hx.1.1,hx.1.2,lj.1 hx.2⟩).elim,qy]
  have:¬(some (t',b')=some (t,b)/\d≠some t):=λ⟨h1,h2⟩=>hc ⟨by cases h1;rfl,by cases h1;rfl,h2⟩;unfold WN;dsimp only;rw[show tI t b (⟨d,q,some (t',b')⟩::r) env=(env,⟨d,q,some (t',b')⟩::r) from if_neg this]
@[go_sem] theorem TK (d:Option Nat)(q:eJ)(t:Nat)(b:Bool)(r:List aG)(env:List (Nat×V))(h:aq)(K:St->Prop):WO A Pr (⟨d,q,some (t,b)⟩::r) ⟨env,h⟩ K=TH (get env t) b (WB A Pr t b (⟨d,q,some (t,b)⟩::r) ⟨env,h⟩ K) (WN A Pr t b (⟨d,q,some (t,b)⟩::r) ⟨env,h⟩ K):=by
 refine En (λhw=>?_) (λhw=>y3 _ ⟨env,h⟩ K hw) (λhw=>Em _ env h K hw);rw[qz]at hw;obtain⟨n,s1,tn,h1,_⟩:=hw;cases hx:wanted env (some (t,b))with
 |none=>simp only[bH,hx]at h1;cases h1
 |some c=>exact⟨c,rfl⟩
@[go_sem] theorem XH (done:List Tn)(s:St)(K:St->Prop):WD A Pr [] done s K=K s:=by
 apply propext;constructor
 .rintro ⟨s',⟨n,hn⟩,hk⟩
  simp only[cS]at hn;cases hn;exact hk
 .exact λhk=>⟨s,gE.nil done s,hk⟩
theorem qA {o:aG}{un:List Nat}{r:List (aG×List Nat)}{done:List Tn}{s:St}{K:St->Prop}:WD A Pr ((o,un)::r) done s K=∃n s1 t,bH (dv A (exec A Pr n)) (bT A (exec A Pr n) Pr) (ef A) o s=some (s1,t)/\e9 un t done=true/\WD A Pr r (done++[t]) s1 K:=by
 apply propext;constructor
 .rintro ⟨s',⟨n,hn⟩,hk⟩
  simp only[cS]at hn;split at hn
  .rename_i s1 t h1;split at hn
   .rename_i hh;exact⟨n,s1,t,h1,hh,s',⟨n,hn⟩,hk⟩
   .cases hn
  .cases hn
 .rintro ⟨n,s1,t,h1,hh,s',h2,hk⟩
  exact⟨s',gE.cons h1 hh h2,hk⟩
def held (un:List Nat)(t:Tn)(done:List Tn)(X:Prop)(_t:qx X:=.mk):Prop:=e9 un t done=true/\X
@[congr] theorem M7 {un:List Nat}{t t':Tn}{done done':List Tn}{X:Prop}(h:t=t')(h':done=done'):held un t done X=held un t' done' X:=by rw[h,h']
@[go_sem] theorem TL (t:Tn)(done:List Tn)(X:Prop):held [] t done X=X:=by simp[held,e9]
@[go_sem] theorem Kj (d:Option Nat)(q:eJ)(un:List Nat)(r:List (aG×List Nat))(done:List Tn)(env:List (Nat×V))(h:aq)(K:St->Prop):WD A Pr ((⟨d,q,none⟩,un)::r) done ⟨env,h⟩ K=WE A Pr env h q λv t=>held un t done (WD A Pr r (done++[t]) ⟨put env d v,t.apply h⟩ K):=by
 rw[qA];apply propext;constructor
 .rintro ⟨n,s1,t,h1,hh,hk⟩
  simp only[bH,wanted]at h1;split at h1
  .rename_i v t' he;cases h1;exact⟨n,v,t,he,hh,hk⟩
  .cases h1
 .rintro ⟨n,v,t,he,hh,hk⟩
  exact⟨n,_,t,by simp only[bH,wanted,he],hh,hk⟩
def oR (t:Nat)(b:Bool):List (aG×List Nat)->List (aG×List Nat)
 |[]=>[]
 |(o,un)::r=>if o.guard=some (t,b)/\o.dst≠some t then (⟨o.dst,o.op,none⟩,un)::oR t b r else (o,un)::r
theorem y4 {t:Nat}{b:Bool}:∀(l:List (aG×List Nat))(done:List Tn)(s:St)(K:St->Prop),wanted s.env (some (t,b))=some true->WD A Pr l done s K=WD A Pr (oR t b l) done s K
 |[],_,s,K,_=>rfl
 |(o,un)::r,done,s,K,he=>by
  by_cases hg:o.guard=some (t,b)/\o.dst≠some t
  .rw[show oR t b ((o,un)::r)=(⟨o.dst,o.op,none⟩,un)::oR t b r from if_pos hg];obtain⟨env,h⟩:=s;rw[qA,qA];have:∀n,bH (dv A (exec A Pr n)) (bT A (exec A Pr n) Pr) (ef A) o ⟨env,h⟩=bH (dv A (exec A Pr n)) (bT A (exec A Pr n) Pr) (ef A) ⟨o.dst,o.op,none⟩ ⟨env,h⟩:=by
    intro n;have e1:wanted env o.guard=some true:=by rw[hg.1];exact he
    have e2:wanted env (none:Option (Nat×Bool))=some true:=rfl;simp only[bH,e1,e2]
   simp only[this];apply propext;have hr:∀n s1 tn,bH (dv A (exec A Pr n)) (bT A (exec A Pr n) Pr) (ef A) ⟨o.dst,o.op,none⟩ ⟨env,h⟩=some (s1,tn)->wanted s1.env (some (t,b))=some true:=by
    intro n s1 tn h1;have e2:wanted env (none:Option (Nat×Bool))=some true:=rfl;simp only[bH,e2]at h1;split at h1
    .cases h1;exact(wanted_put hg.2).trans he
    .cases h1
   constructor
   .rintro ⟨n,s1,tn,h1,hh,hk⟩
    exact⟨n,s1,tn,h1,hh,by rw[<- y4 r _ s1 K (hr _ _ _ h1)];exact hk⟩
   .rintro ⟨n,s1,tn,h1,hh,hk⟩
    exact⟨n,s1,tn,h1,hh,by rw[y4 r _ s1 K (hr _ _ _ h1)];exact hk⟩
  .rw[show oR t b ((o,un)::r)=(o,un)::r from if_neg hg]
theorem HD {o:aG}{un:List Nat}{r:List (aG×List Nat)}{done:List Tn}{env:List (Nat×V)}{h:aq}{K:St->Prop}(he:wanted env o.guard=some false):WD A Pr ((o,un)::r) done ⟨env,h⟩ K=held un ({}:Tn) done (WD A Pr r (done++[({}:Tn)]) ⟨put env o.dst (.dR []),h⟩ K):=by
 rw[qA];have:∀n,bH (dv A (exec A Pr n)) (bT A (exec A Pr n) Pr) (ef A) o ⟨env,h⟩=some (⟨put env o.dst (.dR []),h⟩,{}):=by
  intro n;simp only[bH,he]
 simp only[this];apply propext;constructor
 .rintro ⟨n,s1,tn,h1,hh,hk⟩
  cases h1;exact⟨hh,hk⟩
 .rintro ⟨hh,hk⟩
  exact⟨0,_,_,rfl,hh,hk⟩
def Kk (A:Nat->Option af)(Pr:bD)(t:Nat)(b:Bool)(l:List (aG×List Nat))(done:List Tn)(s:St)(K:St->Prop)(_t:qx (l,K):=.mk):Prop:=WD A Pr (oR t b l) done s K
@[congr] theorem Rv {t:Nat}{b:Bool}{l:List (aG×List Nat)}{done done':List Tn}{s s':St}{K:St->Prop}(h':done=done')(h:s=s'):Kk A Pr t b l done s K=Kk A Pr t b l done' s' K:=by rw[h,h']
@[go_sem] theorem TM (t:Nat)(b:Bool)(d:Option Nat)(q:eJ)(un:List Nat)(r:List (aG×List Nat))(done:List Tn)(s:St)(K:St->Prop):Kk A Pr t b ((⟨d,q,none⟩,un)::r) done s K=WD A Pr ((⟨d,q,none⟩,un)::r) done s K:=by
 simp[Kk,oR]
@[go_sem] theorem TN (t:Nat)(b:Bool)(d:Option Nat)(q:eJ)(t':Nat)(b':Bool)(un:List Nat)(r:List (aG×List Nat))(done:List Tn)(env:List (Nat×V))(h:aq)(K:St->Prop):Kk A Pr t b ((⟨d,q,some (t',b')⟩,un)::r) done ⟨env,h⟩ K=Br (t'==t&&b'==b&&oH t d) (WE A Pr env h q λv tn=>held un tn done (Kk A Pr t b r (done++[tn]) ⟨put env d v,tn.apply h⟩ K)) (WD A Pr ((⟨d,q,some (t',b')⟩,un)::r) done ⟨env,h⟩ K):=by
 by_cases hc:t'=t/\b'=b/\d≠some t
 .obtain⟨rfl,rfl,hd⟩:=hc;rw[show (t'==t'&&b'==b'&&oH t' d)=true by simp[lj.2 hd],uc];unfold Kk;rw[<- Kj,show oR t' b' ((⟨d,q,some (t',b')⟩,un)::r)=(⟨d,q,none⟩,un)::oR t' b' r from if_pos ⟨rfl,hd⟩]
 .rw[show (t'==t&&b'==b&&oH t d)=false by
   cases hx:(t'==t&&b'==b&&oH t d)with
   |false=>rfl
   |true=>
    simp only[Bool.and_eq_true,beq_iff_eq]at hx;exact(hc ⟨hx.1.1,hx.1.2,lj.1 hx.2⟩).elim,qy]
  have:¬(some (t',b')=some (t,b)/\d≠some t):=λ⟨h1,h2⟩=>hc ⟨by cases h1;rfl,by cases h1;rfl,h2⟩;unfold Kk;rw[show oR t b ((⟨d,q,some (t',b')⟩,un)::r)=(⟨d,q,some (t',b')⟩,un)::r from if_neg this]
@[go_sem] theorem TO (d:Option Nat)(q:eJ)(t:Nat)(b:Bool)(un:List Nat)(r:List (aG×List Nat))(done:List Tn)(env:List (Nat×V))(h:aq)(K:St->Prop):WD A Pr ((⟨d,q,some (t,b)⟩,un)::r) done ⟨env,h⟩ K=TH (get env t) b (Kk A Pr t b ((⟨d,q,some (t,b)⟩,un)::r) done ⟨env,h⟩ K) (held un ({}:Tn) done (WD A Pr r (done++[({}:Tn)]) ⟨put env d (.dR []),h⟩ K)):=by
 refine En (λhw=>?_) (λhw=>y4 _ done ⟨env,h⟩ K hw) (λhw=>HD hw);rw[qA]at hw;obtain⟨n,s1,tn,h1,_⟩:=hw;cases hx:wanted env (some (t,b))with
 |none=>simp only[bH,hx]at h1;cases h1
 |some c=>exact⟨c,rfl⟩
def M8 {α:Type}(S:α->St)(P:α->Prop)(m:α->Nat)(x:α)(Q:Ex->St->Prop)(_t:qx (S,P,m,x,Q):=.mk):Ex->St->Prop
 |.normal,s=>∃y,P y/\m y<m x/\s=S y
 |.exit i,s=>Q (.exit i) s
 |.ret,s=>Q .ret s
@[go_sem] theorem Rw {α:Type}(S:α->St)(P:α->Prop)(m:α->Nat)(x:α)(Q:Ex->St->Prop)(i:Nat)(s:St):M8 S P m x Q .mk (.exit i) s=Q (.exit i) s:=rfl
@[go_sem] theorem TP {α:Type}(S:α->St)(P:α->Prop)(m:α->Nat)(x:α)(Q:Ex->St->Prop)(s:St):M8 S P m x Q .mk .ret s=Q .ret s:=rfl
theorem W.loop {α:Type}{a:AC}{s:St}{Q:Ex->St->Prop}(S:α->St)(P:α->Prop)(m:α->Nat)(x0:α)(hs:s=S x0)(h0:P x0)(hr:∀x,P x->W A Pr a (S x) (M8 S P m x Q)):W A Pr (.loop a) s Q:=by
 subst hs;have key:∀n x,m x<=n->P x->W A Pr (.loop a) (S x) Q:=by
  intro n
  induction n with
  |zero=>
   intro x hm hp;obtain⟨ex,s',h1,h2⟩:=hr x hp;cases ex with
   |normal=>obtain⟨y,_,h3,_⟩:=h2;omega
   |exit i=>exact⟨_,_,cI.iT h1 (by simp),h2⟩
   |ret=>exact⟨_,_,cI.iT h1 (by simp),h2⟩
  |succ n ih=>
   intro x hm hp;obtain⟨ex,s',h1,h2⟩:=hr x hp;cases ex with
   |normal=>
    obtain⟨y,hy,h3,rfl⟩:=h2;obtain⟨e2,s2,h4,h5⟩:=ih y (by omega) hy;exact⟨e2,s2,cI.xt h1 h4,h5⟩
   |exit i=>exact⟨_,_,cI.iT h1 (by simp),h2⟩
   |ret=>exact⟨_,_,cI.iT h1 (by simp),h2⟩
 exact key _ x0 (aau _) h0
def AK (S:Nat->St)(P:Nat->Prop)(n k:Nat)(Q:Ex->St->Prop)(_t:qx (S,P,n,k,Q):=.mk):Ex->St->Prop
 |.normal,s=>k<n/\s=S (k+1)/\P (k+1)
 |.exit i,s=>Q (.exit i) s
 |.ret,s=>Q .ret s
@[go_sem] theorem M9 (S:Nat->St)(P:Nat->Prop)(n k:Nat)(Q:Ex->St->Prop)(i:Nat)(s:St):AK S P n k Q .mk (.exit i) s=Q (.exit i) s:=rfl
@[go_sem] theorem Rx (S:Nat->St)(P:Nat->Prop)(n k:Nat)(Q:Ex->St->Prop)(s:St):AK S P n k Q .mk .ret s=Q .ret s:=rfl
theorem AK.of {S:Nat->St}{P:Nat->Prop}{n k:Nat}{Q:Ex->St->Prop}{s:St}(h1:k<n)(h2:s=S (k+1))(h3:P (k+1)):AK S P n k Q .mk .normal s:=⟨h1,h2,h3⟩
theorem W.dx {a:AC}{s:St}{Q:Ex->St->Prop}(n:Nat)(S:Nat->St)(P:Nat->Prop)(hs:s=S 0)(h0:P 0)(hr:∀k,k<=n->P k->W A Pr a (S k) (AK S P n k Q)):W A Pr (.loop a) s Q:=by
 refine W.loop S (λk=>k<=n/\P k) (λk=>n - k) 0 hs ⟨aaS _,h0⟩ λk hk=>?_;obtain⟨ex,s',h1,h2⟩:=hr k hk.1 hk.2;refine⟨ex,s',h1,?_⟩;cases ex with
 |normal=>
  obtain⟨g1,g2,g3⟩:=h2;exact⟨k+1,⟨g1,g3⟩,by show n - (k+1)<n - k;omega,g2⟩
 |exit i=>exact h2
 |ret=>exact h2
def kS (s:St)(rs:List p5)(fresh:Bool):Option (List PV):=
 (aA (du s) rs).bind λvs=>if !fresh||distinct (eQ vs) then aA (bV s.h fresh) vs else none
theorem AL (fn:af)(s:St):leave fn s=kS s fn.results fn.fresh:=by
 simp only[leave,kS];cases aA (du s) fn.results<;>rfl
def Kl (l:List p5)(fresh:Bool)(rs:List PV)(_t:qx (l,fresh,rs):=.mk):Ex->St->Prop
 |.normal,s=>kS s l fresh=some rs
 |.ret,s=>kS s l fresh=some rs
 |.exit _,_=>False
@[go_sem] theorem LZ (l:List p5)(fresh:Bool)(rs:List PV)(s:St):Kl l fresh rs .mk .normal s=(kS s l fresh=some rs):=rfl
@[go_sem] theorem TQ (l:List p5)(fresh:Bool)(rs:List PV)(s:St):Kl l fresh rs .mk .ret s=(kS s l fresh=some rs):=rfl
theorem hY.ZO {f:Nat}{fn:af}{ps rs:List PV}(hf:A f=some fn)(hl:ps.length=fn.rA)(ha:rC fn.take ps=true)(hw:W A Pr fn.body ⟨entry 0 ps,cY ps⟩ (Kl fn.results fn.fresh rs)):hY A Pr f ps rs:=by
 obtain⟨ex,s',h,hq⟩:=hw;cases ex with
 |normal=>exact hY.of hf hl ha h (.inl rfl) ((AL fn s').trans hq)
 |ret=>exact hY.of hf hl ha h (.inr rfl) ((AL fn s').trans hq)
 |exit i=>exact hq.elim
theorem ai {f:Nat}{fn:af}{ps rs:List PV}(hf:A f=some fn)(hl:ps.length=fn.rA)(ha:rC fn.take ps=true)(hw:W A Pr fn.body ⟨entry 0 ps,cY ps⟩ (Kl fn.results fn.fresh rs)):res A Pr f ps=some rs:=
 lh.2 (hY.ZO hf hl ha hw)
end Go.Pv
namespace Go.Pv
variable {A:Nat→Option af} {Pr:bD}
@[congr] theorem Wx {c:AC}{s s':St}{Q:Ex->St->Prop}(h:s=s'):W A Pr c s Q=W A Pr c s' Q:=by rw[h]
@[congr] theorem TR {l:List aG}{s s':St}{K:St->Prop}(h:s=s'):WO A Pr l s K=WO A Pr l s' K:=by rw[h]
@[congr] theorem TS {l:List (aG×List Nat)}{d d':List Tn}{s s':St}{K:St->Prop}(h':d=d')(h:s=s'):WD A Pr l d s K=WD A Pr l d' s' K:=by rw[h,h']
@[congr] theorem TT {fn:Nat}{vs vs':List V}{h h':aq}{K:V->Tn->Prop}(he:vs=vs')(hh:h=h'):CW A Pr fn vs h K=CW A Pr fn vs' h' K:=by rw[he,hh]
@[congr] theorem Km {i:Nat}{Q:Ex->St->Prop}{e e':Ex}{s s':St}(he:e=e')(hs:s=s'):nz i Q .mk e s=nz i Q .mk e' s':=by rw[he,hs]
def Eo {α:Type}(c:Bool)(x y:α)(_t:qx (x,y):=.mk):α:=if c=true then x else y
@[congr] theorem Ry {α:Type}{c c':Bool}{x y:α}(h:c=c'):Eo c x y=Eo c' x y:=by rw[h]
@[go_sem] theorem TU {α:Type}(x y:α):Eo true x y=x:=rfl
@[go_sem] theorem Rz {α:Type}(x y:α):Eo false x y=y:=by simp[Eo]
theorem CU {α:Type}(s t:Nat)(x y:α):Eo (s==t) x y=if s=t then x else y:=by simp[Eo]
@[go_sem] theorem TV (env:List (Nat×V))(t:Nat):bC env (.tmp t)=get env t:=rfl
@[go_sem] theorem TW (env:List (Nat×V))(v:V):bC env (.val v)=v:=rfl
@[go_sem] theorem TX (s:Nat)(x:V)(r:List (Nat×V))(t:Nat):get ((s,x)::r) t=Eo (s==t) x (get r t):=by
 simp only[get,aH,CU];split<;>rfl
@[go_sem] theorem get_nil (t:Nat):get [] t=.any:=rfl
@[go_sem] theorem TY (env:List (Nat×V))(d:Nat)(v:V):put env (some d) v=(d,v)::env:=rfl
@[go_sem] theorem TZ (env:List (Nat×V))(v:V):put env none v=env:=rfl
@[go_sem] theorem Na {α:Type}(s:Nat)(x:α)(r:List (Nat×α))(t:Nat):aH t ((s,x)::r)=Eo (s==t) (some x) (aH t r):=by rw[CU];rfl
@[go_sem] theorem RA {α:Type}(t:Nat):aH t ([]:List (Nat×α))=none:=rfl
@[go_sem] theorem RB (s:Nat)(c:List V):eK s c []=[(s,c)]:=rfl
@[go_sem] theorem Nb (s:Nat)(c:List V)(s':Nat)(c':List V)(r:List (Nat×List V)):eK s c ((s',c')::r)=Eo (s'==s) ((s,c)::r) ((s',c')::eK s c r):=by rw[CU];rfl
@[go_sem] theorem Wy (kt kb:List Nat)(env:List (Nat×V))(bx:List (Nat×List V))(ar:List aL)(mp:List (List (PV×PV))):St.mask kt kb ⟨env,⟨bx,ar,mp⟩⟩=⟨jr kt kb env,⟨jf kb bx,ar,mp⟩⟩:=rfl
@[go_sem] theorem Kn (t:Nat)(kt kb:List Nat)(env:List (Nat×V)):jr (t::kt) kb env=(t,ez kb (get env t))::jr kt kb env:=rfl
@[go_sem] theorem L3 (kb:List Nat)(env:List (Nat×V)):jr [] kb env=[]:=rfl
def HE (s:Nat)(o:Option (List V))(r:List (Nat×List V)):List (Nat×List V):=
 match o with
 |some c=>(s,c)::r
 |none=>r
@[go_sem] theorem Nc (s:Nat)(c:List V)(r:List (Nat×List V)):HE s (some c) r=(s,c)::r:=rfl
@[go_sem] theorem Nd (s:Nat)(r:List (Nat×List V)):HE s none r=r:=rfl
@[go_sem] theorem L4 (s:Nat)(kb:List Nat)(bx:List (Nat×List V)):jf (s::kb) bx=HE s (aH s bx) (jf kb bx):=by
 simp only[jf];split<;>rename_i h<;>rw[h]<;>rfl
@[go_sem] theorem Nf (bx:List (Nat×List V)):jf [] bx=pins bx:=rfl
@[go_sem] theorem T0:pins []=[]:=rfl
@[go_sem] theorem RC (s:Nat)(cs:List V)(r:List (Nat×List V)):pins ((s,cs)::r)=Eo (ew s) ((s,cs)::pins r) (pins r):=rfl
@[go_sem] theorem T1 {s:Nat}(h:s<100000):ew s=false:=by
 unfold ew;rw[abp];intro hh;rw[Nat.ble_eq]at hh;omega
@[go_sem] theorem T2 {s:Nat}(h:100000<=s):ew s=true:=by
 unfold ew;rw[Nat.ble_eq];exact h
@[go_sem] theorem T3 (kb:List Nat)(p:PV):ez kb (.pv p)=.pv p:=rfl
@[go_sem] theorem T4 (kb:List Nat)(r:List (List PV)):ez kb (.tl r)=.tl r:=rfl
@[go_sem] theorem RD (kb:List Nat)(a b c d:Nat):ez kb (.own a b c d)=.own a b c d:=rfl
@[go_sem] theorem Ng (kb:List Nat)(a b c d:Nat):ez kb (.dC a b c d)=.dC a b c d:=rfl
@[go_sem] theorem RE (kb:List Nat)(i:Nat):ez kb (.map i)=.map i:=rfl
@[go_sem] theorem Nh (kb:List Nat):ez kb .eP=.eP:=rfl
@[go_sem] theorem RF (kb:List Nat):ez kb .any=.any:=rfl
@[go_sem] theorem RG (kb:List Nat)(vs:List V):ez kb (.dR vs)=.any:=rfl
@[go_sem] theorem RH (kb:List Nat)(s o:Nat):ez kb (.ptr s o)=Eo (kb.contains s||ew s) (.ptr s o) .any:=rfl
@[go_sem] theorem Ni (kb:List Nat)(f:Nat)(cap:List V):ez kb (.func f cap)=Eo (cap.all (uv kb)) (.func f cap) .any:=rfl
@[go_sem] theorem RI (kb:List Nat)(cs:List V):ez kb (.agg cs)=Eo (cs.all (uv kb)) (.agg cs) .any:=rfl
@[go_sem] theorem XI (kb:List Nat)(p:PV):uv kb (.pv p)=true:=rfl
@[go_sem] theorem XJ (kb:List Nat)(r:List (List PV)):uv kb (.tl r)=true:=rfl
@[go_sem] theorem Wz (kb:List Nat)(a b c d:Nat):uv kb (.own a b c d)=true:=rfl
@[go_sem] theorem WA (kb:List Nat):uv kb .any=true:=rfl
@[go_sem] theorem WC (kb:List Nat)(i:Nat):uv kb (.map i)=true:=rfl
@[go_sem] theorem T5 (kb:List Nat):uv kb .eP=true:=rfl
@[go_sem] theorem T6 (kb:List Nat)(a b c d:Nat):uv kb (.dC a b c d)=true:=rfl
@[go_sem] theorem WG (kb:List Nat)(s o:Nat):uv kb (.ptr s o)=(kb.contains s||ew s):=rfl
@[go_sem] theorem T7 (kb:List Nat)(f:Nat)(cap:List V):uv kb (.func f cap)=cap.isEmpty:=rfl
@[go_sem] theorem Nj (new:Bool)(rb ra rm:Option Nat)(fK:Bool)(p4:Option Nat)(base:Nat)(h:aq):Tn.apply ⟨none,new,none,[],none,false,rb,ra,rm,fK,p4,base,none⟩ h=h:=by
 cases h;simp[Tn.apply]
@[go_sem] theorem uC (s:Nat)(c:List V)(new:Bool)(rb ra rm:Option Nat)(fK:Bool)(p4:Option Nat)(base:Nat)(bx:List (Nat×List V))(ar:List aL)(mp:List (List (PV×PV))):Tn.apply ⟨some (s,c),new,none,[],none,false,rb,ra,rm,fK,p4,base,none⟩ ⟨bx,ar,mp⟩=⟨eK s c bx,ar,mp⟩:=by
 simp[Tn.apply]
@[go_sem] theorem RJ (i:Nat)(a:aL)(new:Bool)(rb ra rm:Option Nat)(fK:Bool)(p4:Option Nat)(base:Nat)(bx:List (Nat×List V))(ar:List aL)(mp:List (List (PV×PV))):Tn.apply ⟨none,new,some (i,a),[],none,false,rb,ra,rm,fK,p4,base,none⟩ ⟨bx,ar,mp⟩=⟨bx,ar.set i a,mp⟩:=by
 simp[Tn.apply]
@[go_sem] theorem jX (x:aL)(l:List aL)(new:Bool)(rb ra rm:Option Nat)(fK:Bool)(p4:Option Nat)(base:Nat)(bx:List (Nat×List V))(ar:List aL)(mp:List (List (PV×PV))):Tn.apply ⟨none,new,none,x::l,none,false,rb,ra,rm,fK,p4,base,none⟩ ⟨bx,ar,mp⟩=⟨bx,ar++x::l,mp⟩:=by
 simp[Tn.apply]
@[go_sem] theorem Ko (i:Nat)(a:aL)(x:aL)(l:List aL)(new:Bool)(rb ra rm:Option Nat)(fK:Bool)(p4:Option Nat)(base:Nat)(bx:List (Nat×List V))(ar:List aL)(mp:List (List (PV×PV))):Tn.apply ⟨none,new,some (i,a),x::l,none,false,rb,ra,rm,fK,p4,base,none⟩ ⟨bx,ar,mp⟩=⟨bx,ar.set i a++x::l,mp⟩:=by
 simp[Tn.apply]
@[go_sem] theorem Ai (i:Nat)(m:List (PV×PV))(new:Bool)(rb ra rm:Option Nat)(fK:Bool)(p4:Option Nat)(base:Nat)(bx:List (Nat×List V))(ar:List aL)(mp:List (List (PV×PV))):Tn.apply ⟨none,new,none,[],some (i,m),false,rb,ra,rm,fK,p4,base,none⟩ ⟨bx,ar,mp⟩=⟨bx,ar,mp.set i m⟩:=by
 simp[Tn.apply]
@[go_sem] theorem L5 (new:Bool)(rb ra rm:Option Nat)(fK:Bool)(p4:Option Nat)(base:Nat)(bx:List (Nat×List V))(ar:List aL)(mp:List (List (PV×PV))):Tn.apply ⟨none,new,none,[],none,true,rb,ra,rm,fK,p4,base,none⟩ ⟨bx,ar,mp⟩=⟨bx,ar,mp++[[]]⟩:=by
 simp[Tn.apply]
@[go_sem] theorem RK (ob:Option (Nat×List V))(new:Bool)(oa:Option (Nat×aL))(l:List aL)(om:Option (Nat×List (PV×PV)))(pm:Bool)(rb ra rm:Option Nat)(fK:Bool)(p4:Option Nat)(base:Nat)(bs:List (Nat×List V))(ar:List aL)(mp:List (List (PV×PV)))(h:aq):Tn.apply ⟨ob,new,oa,l,om,pm,rb,ra,rm,fK,p4,base,some (bs,ar,mp)⟩ h=⟨fM bs h.bx,ar,mp⟩:=rfl
@[go_sem] theorem Nk (bx:List (Nat×List V)):fM [] bx=bx:=rfl
@[go_sem] theorem L6 (s:Nat)(cs:List V)(r bx:List (Nat×List V)):fM ((s,cs)::r) bx=fM r (eK s cs bx):=rfl
@[go_sem] theorem XK (env:List (Nat×V))(h:aq)(x:cd)(K:V->Tn->Prop):WE A Pr env h (.To x) K=K (bC env x) {}:=WE.uniq (n:=0) rfl
@[go_sem] theorem WH (env:List (Nat×V))(h:aq)(c a b:cd)(K:V->Tn->Prop):WE A Pr env h (.pick c a b) K=Ek (bC env c) λt=>Br t (K (bC env a) {}) (K (bC env b) {}):=by
 rw[ca rfl];apply propext;unfold ev;constructor
 .rintro ⟨⟨v,t⟩,h1,hk⟩
  simp only[evalOp]at h1;split at h1
  .rename_i hc;cases h1;exact⟨true,hc,hk⟩
  .rename_i hc;cases h1;exact⟨false,hc,by simpa [Br]using hk⟩
  .cases h1
 .rintro ⟨t,hc,hb⟩
  cases t with
  |true=>exact⟨(bC env a,{}),by simp only[evalOp,hc],hb⟩
  |false=>exact⟨(bC env b,{}),by simp only[evalOp,hc],by simpa [Br]using hb⟩
def XL (slot:Nat)(h:aq)(X:Prop)(_t:qx X:=.mk):Prop:=aH slot h.bx=none/\X
@[go_sem] theorem WI (slot:Nat)(bx:List (Nat×List V))(ar:List aL)(mp:List (List (PV×PV)))(X:Prop):XL slot ⟨bx,ar,mp⟩ X=(aH slot bx=none/\X):=rfl
def tJ (p:Prop)(X:Prop)(_t:qx X:=.mk):Prop:=p/\X
@[congr] theorem Nl {p p' X:Prop}(h:p=p'):tJ p X=tJ p' X:=by rw[h]
@[go_sem] theorem RL (X:Prop):tJ True X=X:=by simp[tJ]
@[go_sem] theorem T8 (env:List (Nat×V))(h:aq)(slot:Nat)(zero:List V)(K:V->Tn->Prop):WE A Pr env h (.alloc slot zero) K=tJ ((aH slot h.bx).isNone=true) (K (.ptr slot 0) {bx:=some (slot,zero),new:=true}):=by
 rw[ca rfl];apply propext;unfold ev;constructor
 .rintro ⟨⟨v,t⟩,h1,hk⟩
  simp only[evalOp]at h1;split at h1
  .rename_i hc;cases h1;exact⟨by rw[hc];rfl,hk⟩
  .cases h1
 .rintro ⟨hc,hk⟩
  refine⟨(_,_),?_,hk⟩;simp only[evalOp];cases hl:aH slot h.bx with
  |none=>rfl
  |some x=>simp[hl]at hc
@[go_sem] theorem XM (env:List (Nat×V))(h:aq)(slot n:Nat)(x:cd)(K:V->Tn->Prop):WE A Pr env h (.box slot n x) K=tJ ((aH slot h.bx).isNone=true/\(bC env x).cells.length=n/\(bC env x).cells.all V.ey=true) (K (.ptr slot 0) {bx:=some (slot,(bC env x).cells),new:=true}):=by
 rw[ca rfl];apply propext;unfold ev;constructor
 .rintro ⟨⟨v,t⟩,h1,hk⟩
  simp only[evalOp]at h1;split at h1
  .rename_i hc;split at h1
   .rename_i h2;cases h1;exact⟨⟨by rw[hc];rfl,h2⟩,hk⟩
   .cases h1
  .cases h1
 .rintro ⟨⟨hc,h2⟩,hk⟩
  refine⟨(_,_),?_,hk⟩;simp only[evalOp];cases hl:aH slot h.bx with
  |none=>simp only;rw[if_pos h2]
  |some x=>simp[hl]at hc
@[go_sem] theorem T9 (env:List (Nat×V))(h:aq)(zero:List V)(parts:List (Nat×Nat×cd))(K:V->Tn->Prop):WE A Pr env h (.build zero parts) K=cy (fA (bC env) zero parts) λcs=>K (.agg cs) {}:=by
 rw[ca rfl];apply propext;unfold ev;constructor
 .rintro ⟨⟨v,t⟩,h1,hk⟩
  simp only[evalOp]at h1;split at h1
  .rename_i cs hc;cases h1;exact⟨cs,hc,hk⟩
  .cases h1
 .rintro ⟨cs,hc,hk⟩
  exact⟨(_,_),by simp only[evalOp,hc],hk⟩
def Nn (h:aq)(k len:Nat)(cs:List V):Option (V×Tn):=
 match jP (gR k len cs)with
 |.inl rows=>some (.tl rows,{})
 |.inr rows=>if cs.all V.calm then some (.own h.ar.length 0 0 len,{push:=[⟨0,k,.inr rows⟩],base:=h.ar.length}) else none
@[go_sem] theorem XN (env:List (Nat×V))(h:aq)(k:Nat)(zero:List V)(len:Nat)(parts:List (Nat×Nat×cd))(K:V->Tn->Prop):WE A Pr env h (.lit k zero len parts) K=cy (fA (bC env) ((List.range (len*k)).map λi=>zero.getD (i%k) .any) parts) λcs=>cy (Nn h k len cs) λr=>K r.1 r.2:=by
 rw[ca rfl];apply propext;unfold ev;constructor
 .rintro ⟨⟨v,t⟩,h1,hk⟩
  simp only[evalOp]at h1;split at h1
  .rename_i cs hc;exact⟨cs,hc,_,h1,hk⟩
  .cases h1
 .rintro ⟨cs,hc,⟨v,t⟩,h1,hk⟩
  exact⟨(v,t),by simp only[evalOp,hc];exact h1,hk⟩
@[go_sem] theorem WJ (env:List (Nat×V))(h:aq)(n:Nat)(b:Bool)(x:cd)(K:V->Tn->Prop):WE A Pr env h (.load n b x) K=cy (loadAt h n (bC env x)) λr=>cy (eZ b r.1) λv=>K v r.2:=by
 rw[ca rfl];apply propext;unfold ev;constructor
 .rintro ⟨⟨v,t⟩,h1,hk⟩
  simp only[evalOp]at h1;split at h1
  .rename_i cs tq hc;split at h1
   .rename_i vq hv;cases h1;exact⟨_,hc,_,hv,hk⟩
   .cases h1
  .cases h1
 .rintro ⟨⟨cs,t⟩,hc,v,hv,hk⟩
  exact⟨(v,t),by simp only[evalOp,hc,hv],hk⟩
@[go_sem] theorem Ua (env:List (Nat×V))(h:aq)(n:Nat)(x v:cd)(K:V->Tn->Prop):WE A Pr env h (.store n x v) K=tJ ((bC env v).cells.length=n) (cy (storeAt h (bC env x) (bC env v).cells) λt=>K .any t):=by
 rw[ca rfl];apply propext;unfold ev;constructor
 .rintro ⟨⟨v,t⟩,h1,hk⟩
  simp only[evalOp]at h1;split at h1
  .rename_i hn;split at h1
   .rename_i t' ht;cases h1;exact⟨hn,_,ht,hk⟩
   .cases h1
  .cases h1
 .rintro ⟨hn,t,ht,hk⟩
  exact⟨(_,t),by simp only[evalOp,hn,ht,if_true],hk⟩
def rV:V->Option V
 |.func f cap=>some (.func f cap)
 |.pv (.func f cap)=>some (.pv (.func f cap))
 |.ptr s o=>some (.ptr s o)
 |.pv (.ro t cs)=>some (.pv (.ro t cs))
 |.dC i v r c=>some (.dC i v r c)
 |_=>none
theorem iJ {α β:Type}(o:Option α)(f:α->β)(K:β->Prop):cy (o.map f) K=cy o λv=>K (f v):=by
 cases o<;>simp[cy]
@[go_sem] theorem Ub (env:List (Nat×V))(h:aq)(x:cd)(K:V->Tn->Prop):WE A Pr env h (.yE x) K=cy (rV (bC env x)) λv=>K v {}:=by
 rw[ca rfl,<- iJ _ (λv=>(v,({}:Tn))) (λr=>K r.1 r.2)];congr 1;simp only[ev,evalOp];cases bC env x with
 |pv p=>cases p<;>rfl
 |_=>rfl
@[go_sem] theorem XO (env:List (Nat×V))(h:aq)(op:BinOp)(x y:cd)(K:V->Tn->Prop):WE A Pr env h (.bin op x y) K=cy (da op (bC env x) (bC env y)) λv=>K v {}:=by
 rw[ca rfl,<- iJ _ (λv=>(v,({}:Tn))) (λr=>K r.1 r.2)];rfl
def Kp (ag:Bool)(ks:List Nat)(neg:Bool)(x y:V):Option V:=
 match bN ag x,bN ag y with
 |some a,some b=>match bp ks a b with
  |some r=>some (.pv (.bool (if neg then !r else r)))
  |none=>none
 |_,_=>none
@[go_sem] theorem XP (env:List (Nat×V))(h:aq)(ag:Bool)(ks:List Nat)(neg:Bool)(x y:cd)(K:V->Tn->Prop):WE A Pr env h (.Tp ag ks neg x y) K=cy (Kp ag ks neg (bC env x) (bC env y)) λv=>K v {}:=by
 rw[ca rfl,<- iJ _ (λv=>(v,({}:Tn))) (λr=>K r.1 r.2)];congr 1;simp only[ev,evalOp,Kp];cases bN ag (bC env x)with
 |none=>rfl
 |some a=>
  cases bN ag (bC env y)with
  |none=>rfl
  |some b=>
   simp only;cases bp ks a b<;>rfl
@[go_sem] theorem ZB (env:List (Nat×V))(h:aq)(op:UnOp)(x:cd)(K:V->Tn->Prop):WE A Pr env h (.un op x) K=cy (Rp op (bC env x)) λv=>K v {}:=by
 rw[ca rfl,<- iJ _ (λv=>(v,({}:Tn))) (λr=>K r.1 r.2)];rfl
def L7 (k:IntKind):V->Option V
 |.pv (.int _ n)=>some (.pv (.int k (k.wrap n)))
 |_=>none
@[go_sem] theorem RM (k j:IntKind)(n:Int):L7 k (.pv (.int j n))=some (.pv (.int k (k.wrap n))):=rfl
@[go_sem] theorem WK (env:List (Nat×V))(h:aq)(k:IntKind)(x:cd)(K:V->Tn->Prop):WE A Pr env h (.conv k x) K=cy (L7 k (bC env x)) λv=>K v {}:=by
 rw[ca rfl,<- iJ _ (λv=>(v,({}:Tn))) (λr=>K r.1 r.2)];congr 1;simp only[ev,evalOp];cases bC env x with
 |pv p=>cases p<;>rfl
 |_=>rfl
def CV:V->Option V
 |.pv (.str s)=>some (.pv (.str s))
 |.pv (.int _ n)=>some (.pv (.str (Utf8.encode n)))
 |_=>none
@[go_sem] theorem No (s:ByteArray):CV (.pv (.str s))=some (.pv (.str s)):=rfl
@[go_sem] theorem Np (k:IntKind)(n:Int):CV (.pv (.int k n))=some (.pv (.str (Utf8.encode n))):=rfl
@[go_sem] theorem Uc (env:List (Nat×V))(h:aq)(x:cd)(K:V->Tn->Prop):WE A Pr env h (.yF x) K=cy (CV (bC env x)) λv=>K v {}:=by
 rw[ca rfl,<- iJ _ (λv=>(v,({}:Tn))) (λr=>K r.1 r.2)];congr 1;simp only[ev,evalOp];cases bC env x with
 |pv p=>cases p<;>rfl
 |_=>rfl
@[go_sem] theorem XQ (env:List (Nat×V))(h:aq)(off:Nat)(x:cd)(K:V->Tn->Prop):WE A Pr env h (.Wp off x) K=cy (uu off (bC env x)) λv=>K v {}:=by
 rw[ca rfl,<- iJ _ (λv=>(v,({}:Tn))) (λr=>K r.1 r.2)];rfl
@[go_sem] theorem XR (env:List (Nat×V))(h:aq)(k:Nat)(x i:cd)(K:V->Tn->Prop):WE A Pr env h (.idx k x i) K=cy (rB h k (bC env x) (intOf (bC env i))) λr=>K r.1 r.2:=by
 rw[ca rfl];rfl
@[go_sem] theorem WL (env:List (Nat×V))(h:aq)(len k:Nat)(x i:cd)(K:V->Tn->Prop):WE A Pr env h (.JJ len k x i) K=cy (cR (intOf (bC env i)) len) λj=>cy (uu (j*k) (bC env x)) λv=>K v {}:=by
 rw[ca rfl];apply propext;unfold ev;constructor
 .rintro ⟨⟨v,t⟩,h1,hk⟩
  simp only[evalOp]at h1;split at h1
  .rename_i j hj;obtain⟨vq,hv,he⟩:=aaT.1 h1;cases he;exact⟨j,hj,_,hv,hk⟩
  .cases h1
 .rintro ⟨j,hj,v,hv,hk⟩
  exact⟨(v,{}),by simp only[evalOp,hj,hv,Option.map_some],hk⟩
def Kq (i:Option Int):V->Option V
 |.pv (.str s)=>match cR i s.size with
  |some j=>match s[j]? with
   |some b=>some (.pv (.int .u8 b.toNat))
   |none=>none
  |none=>none
 |_=>none
@[go_sem] theorem XS (env:List (Nat×V))(h:aq)(x i:cd)(K:V->Tn->Prop):WE A Pr env h (.Wq x i) K=cy (Kq (intOf (bC env i)) (bC env x)) λv=>K v {}:=by
 rw[ca rfl,<- iJ _ (λv=>(v,({}:Tn))) (λr=>K r.1 r.2)];congr 1;simp only[ev,evalOp];cases bC env x with
 |pv p=>
  cases p<;>simp only[Kq]<;>first|rfl|skip
  rename_i str;cases cR (intOf (bC env i)) str.size with
  |none=>rfl
  |some j=>
   simp only;cases str[j]?<;>rfl
 |_=>rfl
@[go_sem] theorem ZC (env:List (Nat×V))(h:aq)(k:Nat)(x:cd)(lo hi mx:Option cd)(K:V->Tn->Prop):WE A Pr env h (.sl k x lo hi mx) K=cy (dS (bC env) h k (bC env x) lo hi mx) λr=>K r.1 r.2:=by
 rw[ca rfl];rfl
@[go_sem] theorem XT (env:List (Nat×V))(h:aq)(kd:Nat)(x:cd)(K:V->Tn->Prop):WE A Pr env h (.len kd x) K=cy (je h kd (bC env x)) λr=>K (.pv (.int .i64 r.1)) r.2:=by
 rw[ca rfl];apply propext;unfold ev;constructor
 .rintro ⟨⟨v,t⟩,h1,hk⟩
  simp only[evalOp]at h1;split at h1
  .rename_i n tq hc;cases h1;exact⟨_,hc,hk⟩
  .cases h1
 .rintro ⟨⟨n,t⟩,hc,hk⟩
  exact⟨(_,t),by simp only[evalOp,hc],hk⟩
@[go_sem] theorem XU (env:List (Nat×V))(h:aq)(k:Nat)(x y:cd)(K:V->Tn->Prop):WE A Pr env h (.app k x y) K=cy (aJ h k (bC env x) (bC env y)) λr=>K r.1 r.2:=by
 rw[ca rfl];rfl
@[go_sem] theorem WM (env:List (Nat×V))(h:aq)(k:Nat)(zero:List V)(n c:cd)(K:V->Tn->Prop):WE A Pr env h (.make k zero n c) K=cy (intOf (bC env n)) λa=>cy (intOf (bC env c)) λb=>tJ (0<=a/\a<=b/\b<=aU) (K (.own h.ar.length 0 0 a.toNat) {push:=[⟨0,k,cH a.toNat zero⟩],base:=h.ar.length}):=by
 rw[ca rfl];apply propext;unfold ev;constructor
 .rintro ⟨⟨v,t⟩,h1,hk⟩
  simp only[evalOp]at h1;split at h1
  .rename_i a b ha hb;split at h1
   .rename_i hc;cases h1;exact⟨a,ha,b,hb,hc,hk⟩
   .cases h1
  .cases h1
 .rintro ⟨a,ha,b,hb,hc,hk⟩
  exact⟨(_,_),by simp only[evalOp,ha,hb];rw[if_pos hc],hk⟩
@[go_sem] theorem RN (b:Nat):mU b []=[]:=rfl
@[go_sem] theorem Nq (b:Nat)(d:Option Nat)(q:eJ)(g:Option (Nat×Bool))(un:List Nat)(r:List (aG×List Nat)):mU b ((⟨d,q,g⟩,un)::r)=(⟨d,wB b q,g⟩,un)::mU b r:=rfl
def Ep:Nat->List aL
 |0=>[]
 |n+1=>⟨0,0,.inl []⟩::Ep n
@[go_sem] theorem Nr:Ep 0=[]:=rfl
@[go_sem] theorem Ns (n:Nat):Ep (n+1)=⟨0,0,.inl []⟩::Ep n:=rfl
attribute [go_sem] wB
@[go_sem] theorem Ud (env:List (Nat×V))(h:aq)(K:V->Tn->Prop):WE A Pr env h .tF K=K (.map h.mp.length) {oX:=true}:=WE.uniq (n:=0) rfl
def mapOf (h:aq):V->Option (List (PV×PV))
 |.eP=>some []
 |.map id=>h.mp[id]?
 |_=>none
def Nt:V->Tn
 |.map id=>{rm:=some id}
 |_=>{}
@[go_sem] theorem Ue (id:Nat):Nt (.map id)={rm:=some id}:=rfl
@[go_sem] theorem RO:Nt .eP={}:=rfl
@[go_sem] theorem Nu (h:aq):mapOf h .eP=some []:=rfl
@[go_sem] theorem RP (h:aq)(id:Nat):mapOf h (.map id)=h.mp[id]?:=rfl
def rW (zero:V)(ok:Bool)(r:Option (Nat×PV)):V:=
 if ok then .dR [match r with|some (_,p)=>.pv p|none=>zero,.pv (.bool r.isSome)] else match r with|some (_,p)=>.pv p|none=>zero
@[go_sem] theorem WQ (env:List (Nat×V))(h:aq)(ag:Bool)(ks:List Nat)(zero:V)(x i:cd)(ok:Bool)(K:V->Tn->Prop):WE A Pr env h (.look ag ks zero x i ok) K=cy (keyOf ag (bC env i)) λk=>cy (mapOf h (bC env x)) λm=>cy (findKey ag ks k m 0) λr=>K (rW zero ok r) (Nt (bC env x)):=by
 rw[ca rfl];apply propext;unfold ev;constructor
 .rintro ⟨⟨v,t⟩,h1,hk⟩
  simp only[evalOp]at h1;split at h1
  .cases h1
  .rename_i k hk';split at h1
   .cases h1
   .rename_i m hm;split at h1
    .cases h1
    .rename_i r hr;cases h1;refine⟨k,hk',m,?_,r,hr,hk⟩;cases hx:bC env x<;>simp only[hx]at hm<;>first|exact hm|cases hm
 .rintro ⟨k,hk',m,hm,r,hr,hk⟩
  refine⟨(_,_),?_,hk⟩;simp only[evalOp,hk'];cases hx:bC env x<;>simp only[hx,mapOf]at hm<;>first|(cases hm;done)|skip
  .simp only[hm,hr];rfl
  .cases hm;simp only[hr];rfl
def y5 (ag:Bool)(ks:List Nat)(q p:PV)(id:Nat)(l:List (PV×PV)):Option Tn:=
 match findKey ag ks q l 0 with
 |some (some (i,_))=>some {mp:=some (id,l.set i (q,p))}
 |some none=>some {mp:=some (id,l++[(q,p)])}
 |none=>none
def HF:V->Option Nat
 |.map id=>some id
 |_=>none
@[go_sem] theorem RQ (id:Nat):HF (.map id)=some id:=rfl
@[go_sem] theorem XV (env:List (Nat×V))(h:aq)(ag:Bool)(ks:List Nat)(m k v:cd)(K:V->Tn->Prop):WE A Pr env h (.JK ag ks m k v) K=cy (HF (bC env m)) λid=>cy (keyOf ag (bC env k)) λq=>cy (bC env v).bU λp=>cy h.mp[id]? λl=>cy (y5 ag ks q p id l) λt=>K .any t:=by
 rw[ca rfl];apply propext;unfold ev;constructor
 .rintro ⟨⟨v,t⟩,h1,hk⟩
  simp only[evalOp]at h1;split at h1
  .rename_i id q p h2 h3 h4;split at h1
   .rename_i l hl;refine⟨id,by rw[h2];rfl,q,h3,p,h4,l,hl,?_⟩;simp only[y5];split at h1
    .rename_i hf;cases h1;exact⟨_,by rw[hf],hk⟩
    .rename_i hf;cases h1;exact⟨_,by rw[hf],hk⟩
    .cases h1
   .cases h1
  .cases h1
 .rintro ⟨id,h2,q,h3,p,h4,l,hl,t,ht,hk⟩
  refine⟨(_,t),?_,hk⟩;have h2':bC env m=.map id:=by
   cases hx:bC env m<;>simp only[hx,HF]at h2<;>first|(cases h2;rfl)|cases h2
  simp only[evalOp,h2',h3,h4,hl];simp only[y5]at ht;split at ht
  .rename_i hf;cases ht;rw[hf]
  .rename_i hf;cases ht;rw[hf]
  .cases ht
@[go_sem] theorem WR (env:List (Nat×V))(h:aq)(f:Nat)(cap:List cd)(K:V->Tn->Prop):WE A Pr env h (.JL f cap) K=K (.func f (cap.map (bC env))) {}:=WE.uniq (n:=0) rfl
def Nv (i:Nat):V->Option V
 |.dR vs=>vs[i]?
 |_=>none
@[go_sem] theorem Uf (i:Nat)(vs:List V):Nv i (.dR vs)=vs[i]?:=rfl
@[go_sem] theorem XW (env:List (Nat×V))(h:aq)(x:cd)(i:Nat)(K:V->Tn->Prop):WE A Pr env h (.ext x i) K=cy (Nv i (bC env x)) λv=>K v {}:=by
 rw[ca rfl,<- iJ _ (λv=>(v,({}:Tn))) (λr=>K r.1 r.2)];congr 1;simp only[ev,evalOp];cases bC env x<;>simp only[Nv]<;>first|rfl|skip
 split<;>rename_i hh<;>rw[hh]<;>rfl
def ma (isMax:Bool):List V->Option V
 |.pv (.int k a)::r=>match jq isMax a r with
  |some n=>some (.pv (.int k n))
  |none=>none
 |_=>none
@[go_sem] theorem RS (env:List (Nat×V))(h:aq)(isMax:Bool)(args:List cd)(K:V->Tn->Prop):WE A Pr env h (.mF isMax args) K=cy (ma isMax (args.map (bC env))) λv=>K v {}:=by
 rw[ca rfl,<- iJ _ (λv=>(v,({}:Tn))) (λr=>K r.1 r.2)];congr 1;simp only[ev,evalOp];cases args.map (bC env)with
 |nil=>rfl
 |cons x r=>
  cases x with
  |pv p=>
   cases p with
   |int k a=>
    simp only[ma];cases jq isMax a r<;>rfl
   |_=>rfl
  |_=>rfl
@[go_sem] theorem L8 (k j:IntKind)(a b:Int):ma true [.pv (.int k a),.pv (.int j b)]=some (.pv (.int k (max a b))):=by
 simp only[ma,jq];congr 3;simp only[if_true];split<;>omega
@[go_sem] theorem Kr (k j:IntKind)(a b:Int):ma false [.pv (.int k a),.pv (.int j b)]=some (.pv (.int k (min a b))):=by
 simp only[ma,jq];congr 3;simp only[Bool.false_eq_true,if_false];split<;>omega
def HG (h:aq)(k:Nat)(zero:List V):V->Option (V×Tn)
 |.pv (.ae _ [])=>some (.dR [],{})
 |.tl []=>some (.dR [],{})
 |.own id aw off len=>match aC h id aw,aA V.bU zero with
  |some a,some z=>match a.body with
   |.inl rows=>if a.k=k/\off+len<=rows.length then
     some (.dR [],{ar:=some (id,⟨aw,k,.inl (rows.take off++List.replicate len z++rows.drop (off+len))⟩)}) else none
   |.inr _=>none
  |_,_=>none
 |_=>none
@[go_sem] theorem XX (env:List (Nat×V))(h:aq)(k:Nat)(zero:List V)(x:cd)(K:V->Tn->Prop):WE A Pr env h (.MJ k zero x) K=cy (HG h k zero (bC env x)) λr=>K r.1 r.2:=by
 rw[ca rfl];rfl
@[go_sem] theorem L9:ma true []=none:=rfl
end Go.Pv
namespace Go.Pv
variable {A:Nat→Option af} {Pr:bD}
@[go_sem] theorem XY (c:Bool)(X Y:Prop):Br (!c) X Y=Br c Y X:=by cases c<;>simp[Br]
theorem wrap_i64 {x:Int}(h1: -9223372036854775808<=x)(h2:x<=9223372036854775807):IntKind.wrap .i64 x=x:=by
 show (if (true&&decide (x%(2^64:Int)≥(2^63:Int)))=true then x%(2^64:Int) - (2^64:Int) else x%(2^64:Int))=x;simp only[Bool.true_and,decide_eq_true_eq,Int.reducePow];by_cases h:x%18446744073709551616≥9223372036854775808
 .rw[if_pos h];omega
 .rw[if_neg h];omega
attribute [go_sem] wrap_i64
theorem wrap_u8 {x:Int}(h1:0<=x)(h2:x<=255):IntKind.wrap .u8 x=x:=by
 show (if (false&&decide (x%(2^8:Int)≥(2^7:Int)))=true then x%(2^8:Int) - (2^8:Int) else x%(2^8:Int))=x;simp only[Bool.false_and,Bool.false_eq_true,if_false,Int.reducePow];omega
theorem ue {α:Type}[DecidableEq α](a b:α):(a==b)=decide (a=b):=by
 by_cases h:a=b<;>simp[h]
@[go_sem] theorem Ug (k:IntKind)(a b:Int):da .add (.pv (.int k a)) (.pv (.int k b))=some (.pv (.int k (k.wrap (a+b)))):=by simp[da,fN]
@[go_sem] theorem Uh (k:IntKind)(a b:Int):da .sub (.pv (.int k a)) (.pv (.int k b))=some (.pv (.int k (k.wrap (a - b)))):=by simp[da,fN]
@[go_sem] theorem Ui (k:IntKind)(a b:Int):da .mul (.pv (.int k a)) (.pv (.int k b))=some (.pv (.int k (k.wrap (a*b)))):=by simp[da,fN]
theorem AM {k:IntKind}{a b:Int}(h:b≠0):da .quo (.pv (.int k a)) (.pv (.int k b))=some (.pv (.int k (k.wrap (a.tdiv b)))):=by simp[da,fN,h]
theorem AN {k:IntKind}{a b:Int}(h:b≠0):da .rem (.pv (.int k a)) (.pv (.int k b))=some (.pv (.int k (a.tmod b))):=by simp[da,fN,h]
@[go_sem] theorem Uj (k:IntKind)(a b:Int):da .eql (.pv (.int k a)) (.pv (.int k b))=some (.pv (.bool (decide (a=b)))):=by simp[da,fN,ue]
@[go_sem] theorem Uk (k:IntKind)(a b:Int):da .neq (.pv (.int k a)) (.pv (.int k b))=some (.pv (.bool (!decide (a=b)))):=by simp[da,fN,bne,ue]
@[go_sem] theorem Ul (k:IntKind)(a b:Int):da .lss (.pv (.int k a)) (.pv (.int k b))=some (.pv (.bool (decide (a<b)))):=by simp[da,fN]
@[go_sem] theorem Um (k:IntKind)(a b:Int):da .leq (.pv (.int k a)) (.pv (.int k b))=some (.pv (.bool (decide (a<=b)))):=by simp[da,fN]
@[go_sem] theorem Un (k:IntKind)(a b:Int):da .gtr (.pv (.int k a)) (.pv (.int k b))=some (.pv (.bool (decide (b<a)))):=by simp[da,fN]
@[go_sem] theorem Uo (k:IntKind)(a b:Int):da .geq (.pv (.int k a)) (.pv (.int k b))=some (.pv (.bool (decide (b<=a)))):=by simp[da,fN]
theorem qB {a b:ByteArray}:(a.toList==b.toList)=decide (a=b):=by
 by_cases h:a=b
 .subst h;simp
 .have:¬a.toList=b.toList:=λhh=>h (ByteArray.ext (by
   have e:∀x:ByteArray,x.toList=x.data.toList:=λx=>by
    rw[ByteArray.toList_eq]
   rw[e,e]at hh;exact Array.toList_inj.1 hh))
  simp[h,this]
@[go_sem] theorem RT (a b:ByteArray):da .eql (.pv (.str a)) (.pv (.str b))=some (.pv (.bool (decide (a=b)))):=by simp only[da,mQ,Option.map_some,qB]
@[go_sem] theorem RU (a b:ByteArray):da .neq (.pv (.str a)) (.pv (.str b))=some (.pv (.bool (!decide (a=b)))):=by simp only[da,mQ,Option.map_some,qB]
@[go_sem] theorem WS (k:IntKind)(n:Int):Rp .neg (.pv (.int k n))=some (.pv (.int k (k.wrap (0 - n)))):=rfl
@[go_sem] theorem WT (b:Bool):Rp .not (.pv (.bool b))=some (.pv (.bool !b)):=rfl
@[go_sem] theorem intOf_int (k:IntKind)(n:Int):intOf (.pv (.int k n))=some n:=rfl
@[go_sem] theorem y6 {x:Int}{n:Nat}(h0:0<=x)(h1:x<n):cR (some x) n=some x.toNat:=by simp[cR,h0,h1]
@[go_sem] theorem WU {a b:Int}{X:Prop}(h0:0<=a)(h1:a<=b)(h2:b<=2147483648):tJ (0<=a/\a<=b/\b<=aU) X=X:=by
 unfold tJ aU;apply propext;constructor
 .exact λh=>h.2
 .exact λh=>⟨⟨h0,h1,h2⟩,h⟩
theorem xw {α β:Type}{f:α->Option β}:∀{l:List α}{r:List β},aA f l=some r->r.length=l.length
 |[],r,h=>by cases h;rfl
 |x::l,r,h=>by
  simp only[aA]at h;split at h
  .rename_i y l' h1 h2;cases h;simp[xw h2]
  .cases h
@[go_sem] theorem Up (p:PV):V.cells (.pv p)=[.pv p]:=rfl
@[go_sem] theorem Uq (r:List (List PV)):V.cells (.tl r)=[.tl r]:=rfl
@[go_sem] theorem RV (a b c d:Nat):V.cells (.own a b c d)=[.own a b c d]:=rfl
@[go_sem] theorem RW (cs:List V):V.cells (.agg cs)=cs:=rfl
@[go_sem] theorem RX (i:Nat):V.cells (.map i)=[.map i]:=rfl
@[go_sem] theorem Nw:V.cells .eP=[.eP]:=rfl
@[go_sem] theorem Ny (f:Nat)(c:List V):V.cells (.func f c)=[.func f c]:=rfl
@[go_sem] theorem RY (a b:Nat):V.cells (.ptr a b)=[.ptr a b]:=rfl
@[go_sem] theorem Nz (a b c d:Nat):V.cells (.dC a b c d)=[.dC a b c d]:=rfl
@[go_sem] theorem RZ (b:Bool):V.calm (.pv (.bool b))=true:=rfl
@[go_sem] theorem Ur (k:IntKind)(n:Int):V.calm (.pv (.int k n))=true:=rfl
@[go_sem] theorem Us (s:ByteArray):V.calm (.pv (.str s))=true:=rfl
@[go_sem] theorem Ut (t:Nat)(r:List (List PV)):V.calm (.pv (.ae t r))=true:=rfl
@[go_sem] theorem R0:V.calm (.pv .pZ)=true:=rfl
@[go_sem] theorem R1:V.calm (.pv .tR)=true:=rfl
@[go_sem] theorem NA (f:Nat)(c:List PV):V.calm (.pv (.func f c))=c.isEmpty:=rfl
@[go_sem] theorem WV (r:List (List PV)):V.calm (.tl r)=true:=rfl
@[go_sem] theorem Uu (a b c d:Nat):V.calm (.own a b c d)=true:=rfl
@[go_sem] theorem R2 (f:Nat)(c:List V):V.calm (.func f c)=c.isEmpty:=rfl
@[go_sem] theorem Uv (i:Nat):V.calm (.map i)=false:=rfl
@[go_sem] theorem R3:V.calm .eP=false:=rfl
@[go_sem] theorem Uw (a b:Nat):V.calm (.ptr a b)=false:=rfl
def HH:V->Bool
 |.ptr s _=>ew s
 |.map _|.eP=>true
 |_=>false
@[go_sem] theorem Ux (s o:Nat):HH (.ptr s o)=ew s:=rfl
@[go_sem] theorem Uy (i:Nat):HH (.map i)=true:=rfl
@[go_sem] theorem R4:HH .eP=true:=rfl
@[go_sem] theorem Uz (v:V):V.ey v=(V.calm v||HH v):=by cases v<;>simp[V.ey,V.calm,HH]
@[go_sem] theorem NB (b:Bool):V.sized (.pv (.bool b))=true:=rfl
@[go_sem] theorem R5 (k:IntKind)(n:Int):V.sized (.pv (.int k n))=true:=rfl
@[go_sem] theorem R6 (s:ByteArray):V.sized (.pv (.str s))=true:=rfl
@[go_sem] theorem R7 (t:Nat)(r:List (List PV)):V.sized (.pv (.ae t r))=true:=rfl
@[go_sem] theorem NC:V.sized (.pv .pZ)=true:=rfl
@[go_sem] theorem UA (r:List (List PV)):V.sized (.tl r)=true:=rfl
@[go_sem] theorem R8 (a b c d:Nat):V.sized (.own a b c d)=true:=rfl
@[go_sem] theorem R9 (cs:List V):V.sized (.agg cs)=true:=rfl
@[go_sem] theorem ND:V.sized .eP=true:=rfl
@[go_sem] theorem Sa (i:Nat):V.sized (.map i)=true:=rfl
@[go_sem] theorem NF (f:Nat)(c:List V):V.sized (.func f c)=true:=rfl
@[go_sem] theorem UB {α:Type}(off n:Nat)(l:List α):takeN off n l=if off+n<=l.length then some ((l.drop off).take n) else none:=rfl
@[go_sem] theorem Ma (cs:List V):eZ true cs=some (.agg cs):=rfl
@[go_sem] theorem NG (v:V):eZ false [v]=some v:=rfl
@[go_sem] theorem UC {α:Type}(l:List α)(off:Nat)(n:List α):setAt l off n=l.take off++n++l.drop (off+n.length):=rfl
@[go_sem] theorem Sb (g:cd->V)(cells:List V):fA g cells []=some cells:=rfl
@[go_sem] theorem NH (g:cd->V)(cells:List V)(off n:Nat)(x:cd)(r:List (Nat×Nat×cd)):fA g cells ((off,n,x)::r)=if (g x).sized=true/\(g x).cells.length=n/\off+n<=cells.length then fA g (setAt cells off (g x).cells) r else none:=rfl
@[go_sem] theorem Sc (h:aq)(n t:Nat)(cs:List PV):loadAt h n (.pv (.ro t cs))=(takeN 0 n cs).bind λl=>some (l.map .pv,{}):=by
 simp only[loadAt];cases takeN 0 n cs<;>rfl
@[go_sem] theorem NI (h:aq)(n slot off:Nat):loadAt h n (.ptr slot off)=(aH slot h.bx).bind λcs=>(takeN off n cs).bind λl=>some (l,{rb:=some slot}):=by
 simp only[loadAt];cases aH slot h.bx with
 |none=>rfl
 |some cs=>
  simp only[Option.bind_some];cases takeN off n cs<;>rfl
def mb (row:Nat):Sum (List (List PV)) (List (List V))->Option (List V)
 |.inl x=>x[row]?.map (·.map .pv)
 |.inr x=>x[row]?
@[go_sem] theorem Mb (row:Nat)(x:List (List PV)):mb row (.inl x)=x[row]?.map (·.map .pv):=rfl
@[go_sem] theorem Mc (row:Nat)(x:List (List V)):mb row (.inr x)=x[row]?:=rfl
@[go_sem] theorem Md (h:aq)(n id aw row col:Nat):loadAt h n (.dC id aw row col)=(aC h id aw).bind λa=>(mb row a.body).bind λr=>(takeN col n r).bind λl=>some (l,{ra:=some id}):=by
 simp only[loadAt];cases aC h id aw with
 |none=>rfl
 |some a=>
  simp only[Option.bind_some];cases a.body with
  |inl x=>
   simp only[mb];cases x[row]? with
   |none=>rfl
   |some r=>
    simp only[Option.map_some,Option.bind_some,takeN,List.length_map];by_cases hc:col+n<=r.length<;>simp[hc]
  |inr x=>
   simp only[mb];cases x[row]? with
   |none=>rfl
   |some r=>
    simp only[Option.bind_some];cases takeN col n r<;>rfl
@[go_sem] theorem Me (h:aq)(slot off:Nat)(news:List V):storeAt h (.ptr slot off) news=(aH slot h.bx).bind λcs=>if off+news.length<=cs.length/\news.all V.ey then some {bx:=some (slot,setAt cs off news)} else none:=by
 simp only[storeAt];cases aH slot h.bx<;>rfl
def dy (id row col:Nat)(news:List V)(a:aL):Option Tn:=
 if row<a.size/\col+news.length<=a.k/\news.all V.calm then some {ar:=some (id,{a with body:=setBody row col news a.body})} else none
@[go_sem] theorem Ks (h:aq)(id aw row col:Nat)(news:List V):storeAt h (.dC id aw row col) news=(aC h id aw).bind (dy id row col news):=by
 simp only[storeAt];cases aC h id aw<;>rfl
def over (row c:Nat)(news:List PV)(x:List (List PV)):List (List PV):=x.set row ((x.getD row []).take c++news++(x.getD row []).drop (c+news.length))
theorem jv {id row col aw k:Nat}{news:List V}{rows:List (List PV)}{l:List PV}(h1:row<rows.length)(h2:aA V.bU news=some l)(h3:col+news.length<=k)(h4:news.all V.calm=true):
  dy id row col news ⟨aw,k,.inl rows⟩=some {ar:=some (id,⟨aw,k,.inl (over row col l rows)⟩)}:=by
 have hl:l.length=news.length:=xw h2;have:row<(⟨aw,k,.inl rows⟩:aL).size:=h1;simp only[dy,this,h3,h4,true_and,if_true,setBody,h2,over,hl]
theorem qC {id row aw:Nat}{p:PV}{rows:List (List PV)}(h1:row<rows.length)(h2:p.perm=true)(h3:rows[row]?=none\/∃q,rows[row]?=some [q])(h4:(V.pv p).calm=true):
  dy id row 0 [.pv p] ⟨aw,1,.inl rows⟩=some {ar:=some (id,⟨aw,1,.inl (rows.set row [p])⟩)}:=by
 rw[jv (l:=[p]) h1 (by simp[aA,V.bU,h2]) (by simp) (by simp[h4])];have:rows.getD row []=[]\/∃q,rows.getD row []=[q]:=by
  rcases h3 with h|⟨q,h⟩
  .exact .inl (by simp[h])
  .exact .inr ⟨q,by simp[h]⟩
 unfold over;rcases this with h|⟨q,h⟩<;>rw[h]<;>rfl
@[go_sem] theorem WW (off t:Nat)(cs:List PV):uu off (.pv (.ro t cs))=some (.pv (.ro t (cs.drop off))):=rfl
@[go_sem] theorem UD (off s o:Nat):uu off (.ptr s o)=some (.ptr s (o+off)):=rfl
@[go_sem] theorem Sd (off i v r c:Nat):uu off (.dC i v r c)=some (.dC i v r (c+off)):=rfl
@[go_sem] theorem Mf (f:Nat)(cap:List V):rV (.func f cap)=some (.func f cap):=rfl
@[go_sem] theorem Kt (f:Nat)(cap:List PV):rV (.pv (.func f cap))=some (.pv (.func f cap)):=rfl
@[go_sem] theorem NJ (s o:Nat):rV (.ptr s o)=some (.ptr s o):=rfl
@[go_sem] theorem Se (t:Nat)(cs:List PV):rV (.pv (.ro t cs))=some (.pv (.ro t cs)):=rfl
@[go_sem] theorem Mg (i v r c:Nat):rV (.dC i v r c)=some (.dC i v r c):=rfl
@[go_sem] theorem Mh (f:Nat)(cap:List V):funcOf (.func f cap)=some (f,cap):=rfl
@[go_sem] theorem Ku (f:Nat)(cap:List PV):funcOf (.pv (.func f cap))=some (f,cap.map .pv):=rfl
@[go_sem] theorem iu (bx:List (Nat×List V))(ar:List aL)(mp:List (List (PV×PV)))(id aw:Nat):aC ⟨bx,ar,mp⟩ id aw=(ar[id]?).bind λa=>if a.aw=aw then some a else none:=by
 simp only[aC];cases ar[id]?<;>rfl
@[go_sem] theorem JO (p:PV):bN false (.pv p)=some [p]:=rfl
@[go_sem] theorem HI (cs:List V):bN true (.agg cs)=aA yJ cs:=rfl
@[go_sem] theorem WX (p:PV):yJ (.pv p)=some p:=rfl
@[go_sem] theorem UE {α β:Type}(f:α->Option β):aA f []=some []:=rfl
theorem pz {α β:Type}(f:α->Option β)(x:α)(r:List α):aA f (x::r)=(f x).bind λy=>(aA f r).bind λl=>some (y::l):=by
 simp only[aA];cases f x with
 |none=>rfl
 |some y=>cases aA f r<;>rfl
attribute [go_sem] pz
@[go_sem] theorem UF (p:PV):keyOf false (.pv p)=some p:=rfl
theorem Fy (cs:List V):keyOf true (.agg cs)=(aA yJ cs).map .agg:=by
 simp only[keyOf,bN];cases aA yJ cs<;>rfl
attribute [go_sem] Fy
@[go_sem] theorem CX:bp [] [] []=some true:=rfl
theorem s7 (k:Nat)(ks:List Nat)(a b:PV)(x y:List PV):bp (k::ks) (a::x) (b::y)=(PV.eqs k a b).bind λp=>(bp ks x y).bind λq=>some (p&&q):=by
 simp only[bp];cases PV.eqs k a b with
 |none=>rfl
 |some p=>cases bp ks x y<;>rfl
attribute [go_sem] s7
@[go_sem] theorem UG (a b:Bool):PV.eqs 0 (.bool a) (.bool b)=some (decide (a=b)):=by simp[PV.eqs,ue]
@[go_sem] theorem WY (k:IntKind)(a b:Int):PV.eqs 1 (.int k a) (.int k b)=some (decide (a=b)):=by simp[PV.eqs,ue]
@[go_sem] theorem Kv (a b:ByteArray):PV.eqs 2 (.str a) (.str b)=some (decide (a=b)):=by simp only[PV.eqs,qB]
theorem Kw (ag:Bool)(ks:List Nat)(neg:Bool)(x y:V):Kp ag ks neg x y=(bN ag x).bind λa=>(bN ag y).bind λb=>(bp ks a b).bind λr=>some (.pv (.bool (if neg then !r else r))):=by
 simp only[Kp];cases bN ag x with
 |none=>rfl
 |some a=>
  cases bN ag y with
  |none=>rfl
  |some b=>
   simp only[Option.bind_some];cases bp ks a b<;>rfl
attribute [go_sem] Kw
theorem qD (k t:Nat)(rows:List (List PV))(j:Nat):kx k t rows (some (j:Int))=(rows[j]?).bind λr=>if r.length=k then some (.pv (.ro t r)) else none:=by
 simp only[kx,cR];by_cases h:j<rows.length
 .rw[if_pos ⟨by omega,by omega⟩];simp only[Int.toNat_natCast];cases rows[j]?<;>rfl
 .rw[if_neg (by omega)];rw[aaX (by omega)];rfl
theorem fH (k t:Nat)(rows:List (List PV)){i:Int}(h:0<=i):kx k t rows (some i)=(rows[i.toNat]?).bind λr=>if r.length=k then some (.pv (.ro t r)) else none:=by
 obtain⟨j,rfl⟩:=abM h;exact qD k t rows j
attribute [go_sem] qD
@[go_sem] theorem UH (h:aq)(k t:Nat)(rows:List (List PV))(i:Option Int):rB h k (.pv (.ae t rows)) i=(kx k t rows i).map λv=>(v,{}):=rfl
@[go_sem] theorem WZ (h:aq)(k:Nat)(rows:List (List PV))(i:Option Int):rB h k (.tl rows) i=(kx k 0 rows i).map λv=>(v,{}):=rfl
theorem HJ (h:aq)(k id aw off len:Nat)(i:Option Int):rB h k (.own id aw off len) i=(cR i len).bind λj=>(aC h id aw).bind λa=>if a.k=k then some (.dC id aw (off+j) 0,{ra:=some id}) else none:=by
 simp only[rB];cases cR i len with
 |none=>rfl
 |some j=>cases aC h id aw<;>rfl
attribute [go_sem] HJ
@[go_sem] theorem UI (h:aq)(t:Nat)(rows:List (List PV)):je h 0 (.pv (.ae t rows))=some (rows.length,{}):=rfl
@[go_sem] theorem W0 (h:aq)(rows:List (List PV)):je h 0 (.tl rows)=some (rows.length,{}):=rfl
@[go_sem] theorem UJ (h:aq)(a b c d:Nat):je h 0 (.own a b c d)=some (d,{}):=rfl
@[go_sem] theorem UK (h:aq)(s:ByteArray):je h 1 (.pv (.str s))=some (s.size,{}):=rfl
theorem HK (h:aq)(id:Nat):je h 2 (.map id)=(h.mp[id]?).map λm=>(m.length,{rm:=some id}):=by
 simp only[je];cases h.mp[id]?<;>rfl
attribute [go_sem] HK
@[go_sem] theorem Sf (h:aq):je h 2 .eP=some (0,{}):=rfl
@[go_sem] theorem Sg (cs:List PV):V.kA (.agg cs)=.agg (cs.map .pv):=rfl
@[go_sem] theorem NK (b:Bool):V.kA (.bool b)=.pv (.bool b):=rfl
@[go_sem] theorem Sh (k:IntKind)(n:Int):V.kA (.int k n)=.pv (.int k n):=rfl
@[go_sem] theorem Si (s:ByteArray):V.kA (.str s)=.pv (.str s):=rfl
@[go_sem] theorem Sj (t:Nat)(r:List (List PV)):V.kA (.ae t r)=.pv (.ae t r):=rfl
@[go_sem] theorem UL (t:Nat)(r:List PV):V.kA (.ro t r)=.pv (.ro t r):=rfl
@[go_sem] theorem NL (f:Nat)(r:List PV):V.kA (.func f r)=.pv (.func f r):=rfl
@[go_sem] theorem UM (k:Nat)(r:List (List PV)):V.kA (.fr k r)=.own 0 0 0 r.length:=rfl
@[go_sem] theorem Sk (n:Nat):entry n []=[]:=rfl
@[go_sem] theorem NM (n:Nat)(p:PV)(r:List PV):entry n (p::r)=(n,V.kA p)::entry (n+1) r:=rfl
@[go_sem] theorem JP:cY []=⟨[],[],[]⟩:=rfl
@[go_sem] theorem Kx (k:Nat)(rows:List (List PV))(r:List PV):cY (.fr k rows::r)=⟨[],[⟨0,k,.inl rows⟩],[]⟩:=rfl
@[go_sem] theorem JQ (cs:List PV)(r:List PV):cY (.agg cs::r)=⟨[],[],[]⟩:=rfl
@[go_sem] theorem HL (b:Bool)(r:List PV):cY (.bool b::r)=⟨[],[],[]⟩:=rfl
@[go_sem] theorem JR (k:IntKind)(n:Int)(r:List PV):cY (.int k n::r)=⟨[],[],[]⟩:=rfl
@[go_sem] theorem JS (s:ByteArray)(r:List PV):cY (.str s::r)=⟨[],[],[]⟩:=rfl
@[go_sem] theorem JT (t:Nat)(rows:List (List PV))(r:List PV):cY (.ae t rows::r)=⟨[],[],[]⟩:=rfl
@[go_sem] theorem Ky (t:Nat)(rows:List PV)(r:List PV):cY (.ro t rows::r)=⟨[],[],[]⟩:=rfl
@[go_sem] theorem HM (t:Nat)(rows:List PV)(r:List PV):cY (.func t rows::r)=⟨[],[],[]⟩:=rfl
@[go_sem] theorem Kz (s:St)(t:Nat):du s (.tmp t)=some (get s.env t):=rfl
theorem wJ (s:St)(t n:Nat)(b:Bool):du s (.cell t n b)=(loadAt s.h n (get s.env t)).bind λr=>eZ b r.1:=by
 simp only[du];cases loadAt s.h n (get s.env t)<;>rfl
attribute [go_sem] wJ
@[go_sem] theorem KA (s:St)(rs:List p5):kS s rs false=(aA (du s) rs).bind λvs=>aA (bV s.h false) vs:=by
 simp[kS]
theorem AO (s:St)(rs:List p5):kS s rs true=(aA (du s) rs).bind λvs=>if distinct (eQ vs) then aA (bV s.h true) vs else none:=by
 simp[kS]
attribute [go_sem] AO
@[go_sem] theorem UN (h:aq)(cs:List V):bV h false (.agg cs)=(aA (bd h 4) cs).map .agg:=by
 simp only[bV,Bool.false_eq_true,if_false];cases aA (bd h 4) cs<;>rfl
@[go_sem] theorem Sl (h:aq)(b:Bool):bV h false (.pv (.bool b))=bd h 4 (.pv (.bool b)):=rfl
@[go_sem] theorem UO (h:aq)(k:IntKind)(n:Int):bV h false (.pv (.int k n))=bd h 4 (.pv (.int k n)):=rfl
@[go_sem] theorem UP (h:aq)(s:ByteArray):bV h false (.pv (.str s))=bd h 4 (.pv (.str s)):=rfl
@[go_sem] theorem Sm (h:aq):bV h false (.pv (.pZ))=bd h 4 (.pv (.pZ)):=rfl
@[go_sem] theorem Sn (h:aq):bV h false (.pv (.tR))=bd h 4 (.pv (.tR)):=rfl
@[go_sem] theorem UQ (h:aq)(t:Nat)(rows:List (List PV)):bV h false (.pv (.ae t rows))=bd h 4 (.pv (.ae t rows)):=rfl
@[go_sem] theorem NN (h:aq)(f:Nat)(cap:List PV):bV h false (.pv (.func f cap))=bd h 4 (.pv (.func f cap)):=rfl
@[go_sem] theorem Sp (h:aq)(cs:List PV):bV h false (.pv (.agg cs))=bd h 4 (.pv (.agg cs)):=rfl
@[go_sem] theorem W1 (h:aq)(r:List (List PV)):bV h false (.tl r)=bd h 4 (.tl r):=rfl
@[go_sem] theorem UR (h:aq)(a b c d:Nat):bV h false (.own a b c d)=bd h 4 (.own a b c d):=rfl
@[go_sem] theorem Sq (h:aq)(a:Nat)(c:List V):bV h false (.func a c)=bd h 4 (.func a c):=rfl
@[go_sem] theorem vc (h:aq)(d:Nat)(p:PV):bd h d (.pv p)=if p.perm then some p else none:=by cases d<;>rfl
@[go_sem] theorem US (h:aq)(d:Nat)(r:List (List PV)):bd h d (.tl r)=some (.ae 0 r):=by cases d<;>rfl
@[go_sem] theorem Sr (b:Bool):PV.perm (.bool b)=true:=rfl
@[go_sem] theorem UT (k:IntKind)(n:Int):PV.perm (.int k n)=true:=rfl
@[go_sem] theorem UU (s:ByteArray):PV.perm (.str s)=true:=rfl
@[go_sem] theorem Ss:PV.perm .pZ=true:=rfl
@[go_sem] theorem UW (t:Nat)(r:List (List PV)):PV.perm (.ae t r)=(t==0):=rfl
@[go_sem] theorem Mi (off len:Nat)(x:List (List PV)):aD off len (.inl x)=.inl ((x.drop off).take len):=rfl
@[go_sem] theorem Mj (off len:Nat)(x:List (List V)):aD off len (.inr x)=.inr ((x.drop off).take len):=rfl
def cb (f:V->Option PV):Sum (List (List PV)) (List (List V))->Option PV
 |.inl rows=>some (.ae 0 rows)
 |.inr rows=>(aA (aA f) rows).map (.ae 0)
@[go_sem] theorem KB (f:V->Option PV)(rows:List (List PV)):cb f (.inl rows)=some (.ae 0 rows):=rfl
@[go_sem] theorem KC (f:V->Option PV)(rows:List (List V)):cb f (.inr rows)=(aA (aA f) rows).map (.ae 0):=rfl
theorem eo (h:aq)(d id aw off len:Nat):bd h (d+1) (.own id aw off len)=(aC h id aw).bind λa=>cb (bd h d) (aD off len a.body):=by
 simp only[bd];cases aC h id aw with
 |none=>rfl
 |some a=>
  simp only[Option.bind_some];cases aD off len a.body with
  |inl r=>rfl
  |inr r=>
   simp only[cb];cases aA (aA (bd h d)) r<;>rfl
@[go_sem] theorem NO (h:aq)(id aw off len:Nat):bd h 4 (.own id aw off len)=(aC h id aw).bind λa=>cb (bd h 3) (aD off len a.body):=eo h 3 id aw off len
def lk (f:V->Option PV):Sum (List (List PV)) (List (List V))->Option PV
 |.inl rows=>some (.ae 1 rows)
 |.inr rows=>(aA (aA f) rows).map (.ae 2)
@[go_sem] theorem KD (f:V->Option PV)(rows:List (List PV)):lk f (.inl rows)=some (.ae 1 rows):=rfl
@[go_sem] theorem KE (f:V->Option PV)(rows:List (List V)):lk f (.inr rows)=(aA (aA f) rows).map (.ae 2):=rfl
@[go_sem] theorem JU (h:aq)(vs:List V):cu h false vs=(aA (cN h) vs).bind λl=>some (l,none):=by
 simp only[cu,Bool.false_eq_true,if_false];cases aA (cN h) vs<;>rfl
@[go_sem] theorem Su (h:aq)(b:Bool):cN h (.pv (.bool b))=some (.bool b):=rfl
@[go_sem] theorem UX (h:aq)(k:IntKind)(n:Int):cN h (.pv (.int k n))=some (.int k n):=rfl
@[go_sem] theorem UY (h:aq)(s:ByteArray):cN h (.pv (.str s))=some (.str s):=rfl
@[go_sem] theorem UZ (h:aq)(t:Nat)(r:List (List PV)):cN h (.pv (.ae t r))=some (.ae t r):=rfl
@[go_sem] theorem W2 (h:aq)(t:Nat)(r:List PV):cN h (.pv (.ro t r))=some (.ro t r):=rfl
@[go_sem] theorem NP (h:aq)(t:Nat)(r:List PV):cN h (.pv (.func t r))=some (.func t r):=rfl
@[go_sem] theorem Sv (h:aq)(r:List PV):cN h (.pv (.agg r))=some (.agg r):=rfl
@[go_sem] theorem W3 (h:aq)(r:List (List PV)):cN h (.tl r)=some (.ae 0 r):=rfl
@[go_sem] theorem U0 (h:aq)(cs:List V):cN h (.agg cs)=(aA (bc h 4) cs).map .agg:=by
 simp only[cN];cases aA (bc h 4) cs<;>rfl
theorem xy (h:aq)(d id aw off len:Nat):bc h (d+1) (.own id aw off len)=(aC h id aw).bind λa=>lk (bc h d) (aD off len a.body):=by
 simp only[bc];cases aC h id aw with
 |none=>rfl
 |some a=>
  simp only[Option.bind_some];cases aD off len a.body with
  |inl r=>rfl
  |inr r=>
   simp only[lk];cases aA (aA (bc h d)) r<;>rfl
@[go_sem] theorem U1 (h:aq)(id aw off len:Nat):cN h (.own id aw off len)=(aC h id aw).bind λa=>lk (bc h 3) (aD off len a.body):=xy h 3 id aw off len
@[go_sem] theorem NQ (h:aq)(id aw off len:Nat):bc h 2 (.own id aw off len)=(aC h id aw).bind λa=>lk (bc h 1) (aD off len a.body):=xy h 1 id aw off len
theorem xz (h:aq)(d slot off:Nat):bc h (d+1) (.ptr slot off)=(aH slot h.bx).bind λcs=>(aA (bc h d) (cs.drop off)).map (.ro 2):=by
 simp only[bc];cases aH slot h.bx with
 |none=>rfl
 |some cs=>
  simp only[Option.bind_some];cases aA (bc h d) (cs.drop off)<;>rfl
@[go_sem] theorem U2 (h:aq)(slot off:Nat):cN h (.ptr slot off)=(aH slot h.bx).bind λcs=>(aA (bc h 3) (cs.drop off)).map (.ro 2):=xz h 3 slot off
@[go_sem] theorem NR (h:aq)(slot off:Nat):bc h 3 (.ptr slot off)=(aH slot h.bx).bind λcs=>(aA (bc h 2) (cs.drop off)).map (.ro 2):=xz h 2 slot off
theorem CY (h:aq)(d f:Nat)(cap:List V):bc h (d+1) (.func f cap)=(aA (bc h d) cap).map (.func f):=by
 simp only[bc];cases aA (bc h d) cap<;>rfl
@[go_sem] theorem Sw (h:aq)(f:Nat)(cap:List V):cN h (.func f cap)=(aA (bc h 3) cap).map (.func f):=CY h 3 f cap
@[go_sem] theorem NS (h:aq)(d:Nat)(b:Bool):bc h d (.pv (.bool b))=some (.bool b):=by cases d<;>rfl
@[go_sem] theorem Sx (h:aq)(d:Nat)(k:IntKind)(n:Int):bc h d (.pv (.int k n))=some (.int k n):=by cases d<;>rfl
@[go_sem] theorem Sy (h:aq)(d:Nat)(s:ByteArray):bc h d (.pv (.str s))=some (.str s):=by cases d<;>rfl
@[go_sem] theorem Sz (h:aq)(d t:Nat)(r:List (List PV)):bc h d (.pv (.ae t r))=some (.ae t r):=by cases d<;>rfl
@[go_sem] theorem U3 (h:aq)(d:Nat)(r:List (List PV)):bc h d (.tl r)=some (.ae 0 r):=by cases d<;>rfl
def PV.still:PV->Bool
 |.fr _ _=>false
 |_=>true
@[go_sem] theorem SA (n:Nat):dI n []=([],[]):=rfl
@[go_sem] theorem U4 (n k:Nat)(rows:List (List PV))(r:List PV):dI n (.fr k rows::r)=(.own n 0 0 rows.length::(dI (n+1) r).1,⟨0,k,.inl rows⟩::(dI (n+1) r).2):=rfl
@[go_sem] theorem NT (n:Nat)(b:Bool)(r:List PV):dI n (.bool b::r)=(.pv (.bool b)::(dI n r).1,(dI n r).2):=rfl
@[go_sem] theorem SB (n:Nat)(k:IntKind)(i:Int)(r:List PV):dI n (.int k i::r)=(.pv (.int k i)::(dI n r).1,(dI n r).2):=rfl
@[go_sem] theorem SC (n:Nat)(s:ByteArray)(r:List PV):dI n (.str s::r)=(.pv (.str s)::(dI n r).1,(dI n r).2):=rfl
@[go_sem] theorem SD (n t:Nat)(l:List (List PV))(r:List PV):dI n (.ae t l::r)=(.pv (.ae t l)::(dI n r).1,(dI n r).2):=rfl
@[go_sem] theorem SE (n:Nat)(cs:List PV):fG n (.agg cs)=(.agg (dI n cs).1,(dI n cs).2):=rfl
@[go_sem] theorem U5 (n k:Nat)(rows:List (List PV)):fG n (.fr k rows)=(.own n 0 0 rows.length,[⟨0,k,.inl rows⟩]):=rfl
@[go_sem] theorem NU (n:Nat)(b:Bool):fG n (.bool b)=(.pv (.bool b),[]):=rfl
@[go_sem] theorem SF (n:Nat)(k:IntKind)(i:Int):fG n (.int k i)=(.pv (.int k i),[]):=rfl
@[go_sem] theorem SG (n:Nat)(s:ByteArray):fG n (.str s)=(.pv (.str s),[]):=rfl
@[go_sem] theorem SH (n t:Nat)(l:List (List PV)):fG n (.ae t l)=(.pv (.ae t l),[]):=rfl
@[go_sem] theorem Mk (n:Nat):bO n []=([],[]):=rfl
@[go_sem] theorem KF (n:Nat)(p:PV)(r:List PV):bO n (p::r)=((fG n p).1::(bO (n+(fG n p).2.length) r).1,(fG n p).2++(bO (n+(fG n p).2.length) r).2):=rfl
@[go_sem] theorem NV (v:V):fD [v]=v:=rfl
@[go_sem] theorem NW (v w:V)(r:List V):fD (v::w::r)=.dR (v::w::r):=rfl
@[go_sem] theorem NX:fD []=.dR []:=rfl
def CN (A:Nat->Option af)(Pr:bD)(t:Bool)(fn:Nat)(vs:List V)(h:aq)(K:V->Tn->Prop)(_t:qx K:=.mk):Prop:=
 cy (cu h t vs) λq=>cy (res A Pr fn q.1) λrs=>K (fD (bO h.ar.length rs).1) {ar:=q.2,push:=(bO h.ar.length rs).2,fK:=!(vs.all V.kO),base:=if (bO h.ar.length rs).2.isEmpty then 0 else h.ar.length}
theorem AP {fn:Nat}(hi:rU A fn=false)(hp:Pr fn=none){t:Bool}(ht:ef A fn=t)(vs:List V)(h:aq)(K:V->Tn->Prop):CW A Pr fn vs h K=CN A Pr t fn vs h K:=El hi hp ht vs h K
@[go_sem] theorem ZD (t:Bool)(fn:Nat)(vs:List V)(h:aq)(K:V->Tn->Prop):CN A Pr t fn vs h K=cy (cu h t vs) λq=>cy (res A Pr fn q.1) λrs=>K (fD (bO h.ar.length rs).1) {ar:=q.2,push:=(bO h.ar.length rs).2,fK:=!(vs.all V.kO),base:=if (bO h.ar.length rs).2.isEmpty then 0 else h.ar.length}:=rfl
@[go_sem] theorem W4 (p:PV):V.kO (.pv p)=true:=rfl
@[go_sem] theorem W5 (r:List (List PV)):V.kO (.tl r)=true:=rfl
@[go_sem] theorem U6 (a b c d:Nat):V.kO (.own a b c d)=false:=rfl
@[go_sem] theorem U7 (a b:Nat):V.kO (.ptr a b)=false:=rfl
@[go_sem] theorem SI (f:Nat)(cap:List V):V.kO (.func f cap)=cap.isEmpty:=rfl
def KG:V->Bool
 |.pv _=>true
 |.tl _=>true
 |_=>false
@[go_sem] theorem W6 (p:PV):KG (.pv p)=true:=rfl
@[go_sem] theorem W7 (r:List (List PV)):KG (.tl r)=true:=rfl
@[go_sem] theorem U8 (a b c d:Nat):KG (.own a b c d)=false:=rfl
@[go_sem] theorem U9 (cs:List V):V.kO (.agg cs)=cs.all KG:=by
 show (cs.all λ|.pv _=>true|.tl _=>true|_=>false)=_;congr 1
@[go_sem] theorem SJ (j:Nat)(un:List Nat)(t:Tn)(done:List Tn)(X:Prop):held (j::un) t done X=tJ (((done[j]?).map λu=>u.apart t)=some true) (held un t done X):=by
 unfold held tJ e9;simp only[List.all_cons,Bool.and_eq_true];apply propext;cases done[j]? with
 |none=>simp
 |some u=>simp[and_assoc]
@[go_sem] theorem Va (a b:Tn):a.apart b=(a.off b&&b.Ck a):=rfl
@[go_sem] theorem W8 (a b:Tn):a.Ck b=(kN (a.bx.map (·.1)) (b.bx.map (·.1)) (·==·)&&kN (a.bx.map (·.1)) b.rb (·==·)&&
 kN (a.ar.map (·.1)) (b.ar.map (·.1)) (·==·)&&kN (a.ar.map (·.1)) b.ra (·==·)&&kN (a.ar.map (·.1)) b.p4 (·==·)&&
 (a.push.isEmpty||(b.push.isEmpty&&b.iO a.base))&&a.mp.isNone&&!a.oX&&(a.all.isNone&&b.all.isNone)&&
 (!b.fK||((a.bx.isNone||a.new)&&a.ar.isNone))):=rfl
@[go_sem] theorem XZ (a b:Tn):a.off b=(kN (a.bx.map (·.1)) (b.bx.map (·.1)) (·==·)&&kN (a.bx.map (·.1)) b.rb (·==·)&&
 kN (a.ar.map (·.1)) (b.ar.map (·.1)) (·==·)&&kN (a.ar.map (·.1)) b.ra (·==·)&&kN (a.ar.map (·.1)) b.p4 (·==·)&&
 (a.push.isEmpty||(b.push.isEmpty&&b.iO a.base))&&a.mp.isNone&&!a.oX&&(a.all.isNone&&b.all.isNone)&&
 (!b.fK||(a.bx.isNone&&a.ar.isNone&&a.push.isEmpty))):=rfl
@[go_sem] theorem X1 (a:Tn)(n:Nat):a.iO n=(a.ar.all (·.1<n)&&a.ra.all (·<n)&&a.p4.all (·<n)):=rfl
@[go_sem] theorem SK {α:Type}(a b:α)(eq:α->α->Bool):kN (some a) (some b) eq=!eq a b:=rfl
@[go_sem] theorem SL {α:Type}(p:Option α)(eq:α->α->Bool):kN none p eq=true:=rfl
@[go_sem] theorem NY {α:Type}(a:α)(eq:α->α->Bool):kN (some a) none eq=true:=rfl
attribute [go_sem] Option.all_some Option.all_none
def Er (r:Option (List (List PV)))(h:aq)(k len:Nat)(cs:List V):Option (V×Tn):=
 match r with
 |some rows=>some (.tl rows,{})
 |none=>if cs.all V.calm then some (.own h.ar.length 0 0 len,{push:=[⟨0,k,.inr (gR k len cs)⟩],base:=h.ar.length}) else none
@[go_sem] theorem NZ (rows:List (List PV))(h:aq)(k len:Nat)(cs:List V):Er (some rows) h k len cs=some (.tl rows,{}):=rfl
@[go_sem] theorem N0 (h:aq)(k len:Nat)(cs:List V):Er none h k len cs=if cs.all V.calm then some (.own h.ar.length 0 0 len,{push:=[⟨0,k,.inr (gR k len cs)⟩],base:=h.ar.length}) else none:=rfl
@[go_sem] theorem SM (h:aq)(k len:Nat)(cs:List V):Nn h k len cs=Er (aA (aA V.bU) (gR k len cs)) h k len cs:=by
 unfold Nn jP Er;cases aA (aA V.bU) (gR k len cs)<;>rfl
@[go_sem] theorem SN {α:Type}(k:Nat)(l:List α):gR k 0 l=[]:=rfl
@[go_sem] theorem SO {α:Type}(k n:Nat)(l:List α):gR k (n+1) l=l.take k::gR k n (l.drop k):=rfl
@[go_sem] theorem Vb (p:PV):V.bU (.pv p)=if p.perm then some p else none:=rfl
@[go_sem] theorem Vc (r:List (List PV)):V.bU (.tl r)=none:=rfl
@[go_sem] theorem SP (a b c d:Nat):V.bU (.own a b c d)=none:=rfl
@[go_sem] theorem N1:V.bU .eP=none:=rfl
attribute [go_sem] List.map_cons List.map_nil List.length_cons List.length_nil List.all_cons List.all_nil Option.isNone_none Option.isNone_some Bool.and_true Bool.true_and Bool.and_false Bool.false_and Bool.or_true Bool.true_or Bool.or_false Bool.false_or Bool.not_true Bool.not_false and_self and_true true_and and_false false_and Bool.and_self
 List.drop_zero List.drop_succ_cons List.drop_nil List.take_zero List.take_succ_cons List.take_nil List.nil_append List.cons_append abb Option.bind_some Option.bind_none ab7 Option.map_none List.contains_cons List.contains_nil Nat.reduceBEq beq_self_eq_true List.isEmpty_nil List.isEmpty_cons aam aap
 decide_true decide_false Bool.false_eq_true if_true if_false aas ab2 ab4 List.getElem?_cons_zero List.getElem?_cons_succ List.set_cons_zero List.set_cons_succ List.map_drop abl beq_true beq_false List.getElem?_nil
attribute [go_sem] Nat.reduceAdd Nat.reduceSub Nat.reduceMul Nat.reduceDiv Nat.reduceMod Nat.reduceLeDiff Nat.reduceEqDiff Nat.reduceLT Int.reduceAdd Int.reduceSub Int.reduceMul Int.reduceNeg Int.reduceLT Int.reduceLE Int.reduceEq Int.reduceToNat Int.toNat_natCast Int.toNat_zero Int.toNat_one
attribute [go_sem] List.range_succ List.range_zero List.range_eq_range' List.range'_succ List.range'_zero List.getD_cons_zero List.getD_cons_succ
attribute [go_sem ↓] reduceIte
end Go.Pv
namespace Go.Pv
open Go.Sort
variable {P:Program} {N:Nat→Nat} {W:Nat→Prop} {L:Lx} {e:bA} {h:aq} {w:World}
def rX:PV->Bool
 |.bool _|.int _ _|.str _=>true
 |_=>false
def sv:PV->Value
 |.bool b=>.bool b
 |.int k n=>.int k n
 |.str s=>.string s
 |_=>undef
theorem AQ {p:PV}(hp:rX p=true):eb N L w p (sv p):=by
 cases p<;>simp[rX]at hp
 .exact .bool _
 .exact .int _ _
 .exact .str _
theorem KH {p:PV}{v:Value}(hp:rX p=true)(h:eb N L w p v):v=sv p:=by
 cases h<;>simp[rX]at hp<;>rfl
theorem xA {p:PV}(hp:rX p=true):(V.pv p).calm=true/\p.perm=true:=by
 cases p<;>simp[rX]at hp<;>exact⟨rfl,rfl⟩
theorem y7 {i j k n:Nat}(hi:i<n)(hj:j<k):i*k+j<n*k:=by
 have:=aaw k (show i+1<=n from hi);rw[aaO,abm]at this;omega
theorem Es (hr:HR N L e W h w){id0:Nat}{a:aL}{rows:List (List PV)}{off len:Nat}(h0:h.ar[id0]?=some a)(hb:a.body=.inl rows)(hk:a.k≠0)(hol:off+len<=rows.length)
  {news:List (List PV)}(hn:news.length=len)(hnk:∀r∈news,r.length=a.k/\∀c∈r,rX c=true)(F:Array Value)(hF:F.size=len*a.k)
  (hFv:∀i j c,fZ news i j=some c->F[i*a.k+j]! =sv c)(n:Nat)(os:Array Obj)(F0:Array Value)(hF0:Holds id w (e.ar id0) (e.ad id0+off*a.k) F0)(hF0s:F0.size=F.size):
  ∃e',Nx N W L e w L e' {h with ar:=h.ar.set id0 ⟨a.aw,a.k,.inl (rows.take off++news++rows.drop (off+len))⟩} (grow (putRow id (Sort.ahead w n) (e.ar id0) (e.ad id0+off*a.k) F) os):=by
 have hid:id0<e.na:=by rw[hr.na];exact(aak.1 h0).1
 obtain⟨v1,v2,v3,_⟩:=hr.aw id0 a h0;have hak:e.ak id0≠0:=by rw[v2];exact hk
 have hown:=hr.oY id0 hid hak;have hlt:=hr.jj hid hak;obtain⟨c1,c2,c3,c4,c5⟩:=hr.ar id0 a h0 hk;have hsz:a.size=rows.length:=by simp[aL.size,hb]
 have hrw:a.rows=rows.map (·.map .pv):=by simp[aL.rows,hb]
 have hlen:(rows.take off++news++rows.drop (off+len)).length=rows.length:=by
  simp only[List.length_append,List.length_take,List.length_drop,hn];omega
 have hbig:(putRow id (Sort.ahead w n) (e.ar id0) (e.ad id0+off*a.k) F).heap.size=w.heap.size:=by simp[putRow,mapBlock,Sort.ahead]
 have hother:∀g,g<w.heap.size->g≠e.ar id0->(grow (putRow id (Sort.ahead w n) (e.ar id0) (e.ad id0+off*a.k) F) os).heap[g]?=w.heap[g]?:=by
  intro g hg hne;rw[heap_grow_old _ _ (by rw[hbig];exact hg)];simp only[putRow,mapBlock,Sort.ahead,Array.getElem?_modify];rw[if_neg (Ne.symm hne)]
 have hcell:∀o,(grow (putRow id (Sort.ahead w n) (e.ar id0) (e.ad id0+off*a.k) F) os).cell? ⟨e.ar id0,o,none⟩=(putRow id (Sort.ahead w n) (e.ar id0) (e.ad id0+off*a.k) F).cell? ⟨e.ar id0,o,none⟩:=
  λo=>cell?_grow _ _ _ (by rw[hbig];exact hlt)
 refine⟨_,Nx.rF hr (b:=e.ar id0) (d:=e.ad id0) (c:=e.cap id0) ⟨a.aw,a.k,.inl (rows.take off++news++rows.drop (off+len))⟩ h0 hk hother (by simp[hbig]) ?_ (.inr ⟨rfl,rfl,rfl,rfl,rfl,by rw[hsz];exact hlen⟩) (.inl rfl) hk (by
  show (rows.take off++news++rows.drop (off+len)).length<=_;rw[hlen,<- hsz];exact c1) ?_ ?_ ?_ ?_⟩
 .refine⟨rfl,rfl,rfl,by simp[hbig],λg hg hw=>hother g hg (λhe=>hw (he ▸ hown.1)),?_⟩;show w.drawn<=w.drawn+n;omega
 .obtain⟨arr,ty,h1,h2⟩:=c2.out;refine⟨putCells id (e.ad id0+off*a.k) F arr,ty,?_,by simpa [putCells]using h2⟩;rw[heap_grow_old _ _ (by rw[hbig];exact hlt)];simp only[putRow,mapBlock,Sort.ahead,Array.getElem?_modify,if_true,h1];rfl
 .intro r hr';simp only[aL.rows]at hr';obtain⟨q,hq,rfl⟩:=aaq.1 hr';simp only[List.length_map];rcases aaY.1 hq with hq|hq
  .rcases aaY.1 hq with hq|hq
   .have:=c3 (q.map .pv) (by rw[hrw];exact aaq.2 ⟨q,abF hq,rfl⟩)
    simpa using this
   .exact(hnk q hq).1
  .have:=c3 (q.map .pv) (by rw[hrw];exact aaq.2 ⟨q,abY hq,rfl⟩)
   simpa using this
 .intro i r hi j x hj;simp only[aL.rows]at hi;rw[aap]at hi;obtain⟨q,hq,rfl⟩:=aaT.1 hi;obtain⟨p,hp,rfl⟩:=dM hj;rw[hcell];have iO:∀i',rows[i']?=some q->(i'<off\/off+len<=i')->i'=i->(V.pv p).calm=true/\∃v,(putRow id (Sort.ahead w n) (e.ar id0) (e.ad id0+off*a.k) F).cell? ⟨e.ar id0,e.ad id0+i*a.k+j,none⟩=some v/\VR N L e w (.pv p) v:=by
   rintro i' hq' hor rfl
   have hrow:a.rows[i']?=some (q.map .pv):=by rw[hrw,aap,hq'];rfl
   obtain⟨g1,v,g2,g3⟩:=c4 i' _ hrow j (.pv p) (by rw[aap,hp];rfl);refine⟨g1,v,?_,g3⟩;have hjk:j<a.k:=by
    have h1:=c3 (q.map .pv) (aaj hrow);have h2:=(aak.1 hp).1;simp at h1;omega
   rw[cell?_putRow_other id _ _ _ _ _ (.inr ?_)]
   .exact g2
   .rw[hF];show e.ad id0+i'*a.k+j<_\/_<=e.ad id0+i'*a.k+j;rcases hor with hlt'|hge
    .left;have:=y7 (k:=a.k) hlt' hjk;omega
    .right;have:=aaw a.k hge;rw[aaO]at this;omega
  rcases aar i off with h1|h1
  .refine iO i ?_ (.inl h1) rfl;rw[aay,aao (by rw[aaA];omega),aax,if_pos h1]at hq;exact hq
  .rcases aar i (off+len)with h2|h2
   .have htl:(rows.take off).length=off:=by rw[aaA];omega
    rw[List.getElem?_append_left (by simp only[List.length_append,htl,hn];omega),List.getElem?_append_right (by rw[htl];exact h1),htl]at hq;have hmem:=hnk q (aaj hq);have hpm:=hmem.2 p (aaj hp);have hjk:j<a.k:=by rw[<- hmem.1];exact(aak.1 hp).1
    refine⟨(xA hpm).1,sv p,?_,.pv _ _ (AQ hpm)⟩;have hf:=hFv (i - off) j p (by simp[fZ,hq,hp]);have hlt2:=y7 (k:=a.k) (show i - off<len by omega) hjk;have hadd:i*a.k=off*a.k+(i - off)*a.k:=by rw[<- aaO];congr 1;omega
    have:=cell?_putRow id (Sort.ahead w n) (e.ar id0) (e.ad id0+off*a.k) F0 F (holds_ahead id w n _ _ F0 hF0) hF0s.symm ((i - off)*a.k+j) (by rw[hF];exact hlt2);rw[show e.ad id0+i*a.k+j=e.ad id0+off*a.k+((i - off)*a.k+j) by omega,this,hf];rfl
   .refine iO i ?_ (.inr h2) rfl;have hl2:(rows.take off++news).length=off+len:=by simp only[List.length_append,List.length_take,hn];omega
    rw[aav (by rw[hl2];exact h2),hl2,aa1]at hq;rw[show off+len+(i - (off+len))=i by omega]at hq;exact hq
 .intro r hr' c hc;rcases aaY.1 hr' with hq|hq
  .rcases aaY.1 hq with hq|hq
   .have:=c5
    rw[hb]at this;exact this r (abF hq) c hc
   .exact(xA ((hnk r hq).2 c hc)).2
  .have:=c5
   rw[hb]at this;exact this r (abY hq) c hc
theorem xB (hr:HR N L e W h w){id0:Nat}{a:aL}{rows:List (List PV)}{off len:Nat}(h0:h.ar[id0]?=some a)(hb:a.body=.inl rows)(hk:a.k≠0)(hol:off+len<=rows.length)
  (hs:∀r∈(rows.drop off).take len,∀c∈r,rX c=true)(F:Array Value)(hF:F.size=len*a.k)(hFv:∀i j c,fZ ((rows.drop off).take len) i j=some c->F[i*a.k+j]! =sv c):
  Holds id w (e.ar id0) (e.ad id0+off*a.k) F:=by
 obtain⟨c1,c2,c3,c4,c5⟩:=hr.ar id0 a h0 hk;have hrw:a.rows=rows.map (·.map .pv):=by simp[aL.rows,hb]
 have kp:0<a.k:=Nat.pos_of_ne_zero hk;intro t ht;rw[hF]at ht;have hi:t/a.k<len:=Nat.div_lt_of_lt_mul (by rw[Nat.mul_comm];exact ht);have hj:t%a.k<a.k:=aaP _ kp;have hq:rows[off+t/a.k]?=some rows[off+t/a.k]:=aal (by omega);generalize rows[off+t/a.k]'(by omega)=q at hq;have hrow:a.rows[off+t/a.k]?=some (q.map .pv):=by rw[hrw,aap,hq];rfl
 have hql:q.length=a.k:=by
  have:=c3 _ (aaj hrow);simpa using this
 have hp:q[t%a.k]?=some (q[t%a.k]'(by omega)):=aal (by omega);generalize q[t%a.k]'(by omega)=p at hp;have hin:((rows.drop off).take len)[t/a.k]?=some q:=by
  rw[aax,if_pos hi,aa1];exact hq
 have hsc:=hs q (aaj hin) p (aaj hp);obtain⟨g1,v,g2,g3⟩:=c4 _ _ hrow (t%a.k) (.pv p) (by rw[aap,hp];rfl);have hv:v=sv p:=by
  cases g3 with
  |pv _ _ g=>exact KH hsc g
 have hdm:off*a.k+t=(off+t/a.k)*a.k+t%a.k:=by
  rw[aaO];have:=Nat.div_add_mod t a.k;rw[Nat.mul_comm]at this;omega
 have hft:F[t]! =sv p:=by
  have:=hFv (t/a.k) (t%a.k) p (by simp[fZ,hin,hp]);rw[Nat.mul_comm,Nat.div_add_mod]at this;exact this
 refine⟨?_,?_⟩
 .rw[show e.ad id0+off*a.k+t=e.ad id0+(off+t/a.k)*a.k+t%a.k by omega,g2,hv,hft];rfl
 .obtain⟨arr,ty,h1,_⟩:=c2.out;simp[World.frozen?,h1]
end Go.Pv
namespace Go.Pv
open Go.Sort
def ins {α:Type}(lt:α->α->Bool)(x:α):List α->List α
 |[]=>[x]
 |y::r=>if lt y x then y::ins lt x r else x::y::r
def cU {α:Type}(lt:α->α->Bool):List α->List α
 |[]=>[]
 |x::r=>ins lt x (cU lt r)
def rising {α:Type}(lt:α->α->Bool):List α->Bool
 |[]=>true
 |[_]=>true
 |x::y::r=>lt x y&&rising lt (y::r)
theorem qE {α:Type}(lt:α->α->Bool)(x:α):∀l,(ins lt x l).Perm (x::l)
 |[]=>List.Perm.refl _
 |y::r=>by
  unfold ins;split
  .exact((qE lt x r).cons y).trans (List.Perm.swap x y r)
  .exact List.Perm.refl _
theorem bW {α:Type}(lt:α->α->Bool):∀l,(cU lt l).Perm l
 |[]=>List.Perm.refl _
 |x::r=>(qE lt x _).trans ((bW lt r).cons x)
theorem ve {α:Type}{lt:α->α->Bool}(ht:∀x y z,lt x y=true->lt y z=true->lt x z=true):∀l,rising lt l=true->l.Pairwise (λa b=>lt a b=true)
 |[],_=>List.Pairwise.nil
 |[x],_=>abN _ _
 |x::y::r,h=>by
  simp only[rising,Bool.and_eq_true]at h;have h2:=ve ht (y::r) h.2;refine List.Pairwise.cons (λz hz=>?_) h2;rcases aaE.1 hz with rfl|hz
  .exact h.1
  .exact ht _ _ _ h.1 ((aaI.1 h2).1 z hz)
theorem s8 {α:Type}{lt:α->α->Bool}:∀(m d:List α),m.Pairwise (λa b=>lt a b=true)->d.Pairwise (λa b=>lt b a=false)->d.Perm m->d=m
 |[],d,_,_,hp=>List.Perm.eq_nil hp
 |x::m,[],_,_,hp=>by simp at hp
 |x::m,y::d,hm,hd,hp=>by
  have hxy:y=x:=by
   have hy:y∈x::m:=hp.subset (aaN ..);have hx:x∈y::d:=hp.symm.subset (aaN ..);rcases aaE.1 hy with h|h
   .exact h
   .rcases aaE.1 hx with h'|h'
    .exact h'.symm
    .have h1:=(aaI.1 hm).1 y h;have h2:=(aaI.1 hd).1 x h';rw[h1]at h2;cases h2
  subst hxy;rw[s8 m d (aaI.1 hm).2 (aaI.1 hd).2 (List.Perm.cons_inv hp)]
variable {P:Program} {N:Nat→Nat} {W:Nat→Prop} {L:Lx} {e:bA} {h:aq} {w:World} {α:Type} [Inhabited α]
def iV (enc:α->List PV)(dec:List PV->Option α)(lt:α->α->Bool)(rows:List (List PV)):Option (List (List PV)):=
 match aA dec rows with
 |some l=>if rising lt (cU lt l)=true then some ((cU lt l).map enc) else none
 |none=>none
def ll (k:Nat)(f:List (List PV)->Option (List (List PV)))(g:Nat):List V->aq->Option (V×Tn)
 |[x,.func g' []],h=>if g'=g then (match x with
  |.tl []=>some (.dR [],{})
  |.own id aw off len=>match aC h id aw with
   |some a=>if len=0 then some (.dR [],{ra:=some id}) else (match a.body with
    |.inl rows=>if a.k=k/\off+len<=rows.length/\len<=aU then (match f ((rows.drop off).take len)with
     |some news=>some (.dR [],{ar:=some (id,⟨aw,k,.inl (rows.take off++news++rows.drop (off+len))⟩)})
     |none=>none) else none
    |.inr _=>none)
   |none=>none
  |_=>none) else none
 |_,_=>none
theorem rY {β γ:Type}{f:β->Option γ}:∀{l:List β}{r:List γ},aA f l=some r->r.length=l.length/\∀(i:Nat)(x:β)(y:γ),l[i]?=some x->r[i]?=some y->f x=some y
 |[],r,h=>by cases h;exact⟨rfl,λi x y hx=>by simp at hx⟩
 |b::l,r,h=>by
  simp only[aA]at h;split at h
  .rename_i y l' h1 h2;cases h;obtain⟨k1,k2⟩:=rY h2;refine⟨by simp[k1],λi x z hx hz=>?_⟩;cases i with
   |zero=>simp at hx hz;subst hx;subst hz;exact h1
   |succ i=>exact k2 i x z (by simpa using hx) (by simpa using hz)
  .cases h
def rZ (enc:α->List PV)(x:α):List Value:=(enc x).map sv
theorem AR {enc:α->List PV}{k:Nat}(hk:∀x,(enc x).length=k)(l:List α)(i j:Nat)(c:PV)(hc:fZ (l.map enc) i j=some c):(flatK (rZ enc) k l.toArray)[i*k+j]! =sv c:=by
 unfold fZ at hc;rw[aap]at hc;cases hx:l[i]? with
 |none=>simp[hx]at hc
 |some x=>
  simp only[hx,Option.map_some,Option.bind_some]at hc;have hi:=(aak.1 hx).1;have hj:j<k:=by rw[<- hk x];exact(aak.1 hc).1
  have hlt:i*k+j<l.toArray.size*k:=y7 (by simpa using hi) hj;rw[get_flatK _ _ _ _ hlt];have h1:(i*k+j)/k=i:=by
   rw[Nat.mul_comm,Nat.mul_add_div (by omega),Nat.div_eq_of_lt hj,ab4]
  have h2:(i*k+j)%k=j:=by
   rw[Nat.mul_comm,Nat.mul_add_mod,ab3 hj]
  rw[h1,h2];have h3:l.toArray[i]! =x:=by
   rw[getElem!_pos _ i (by simpa using hi)];have:=(aak.1 hx).2;simpa using this
  rw[h3];have h4:(rZ enc x)[j]?=some (sv c):=by simp[rZ,hc]
  rw[List.getElem!_eq_getElem?_getD,h4];rfl
theorem vf (i:Nat)(a:aL)(h:aq):Tn.apply {ar:=some (i,a)} h={h with ar:=h.ar.set i a}:=by
 cases h;simp[Tn.apply]
theorem HN {k:Nat}(hk0:k≠0){enc:α->List PV}{dec:List PV->Option α}(hde:∀r x,dec r=some x->enc x=r)(hk:∀x,(enc x).length=k)(hsc:∀x,∀c∈enc x,rX c=true)
  {lt:α->α->Bool}(hO:SWO lt){fn g:Nat}
  (hent:∀args w,(callFunc (N fn) args).run P w=.ok (.enter (N fn) args) w)
  (hnone:∀(a:Option Addr)(cap:Nat)(w:World),Calls P (N fn) #[.slice a 0 cap,.func (.func (N g)) #[] #[]] w λe w'=>e=.returned (.tuple #[])/\w'=w)
  (hcon:∀(blk off cap:Nat)(d:Array α)(w:World),HoldsK (rZ enc) k w blk off d->blk<w.heap.size->d.size<4611686018427387904->uA N L w->(∀t,¬L t blk)->
   Calls P (N fn) #[.slice (some ⟨blk,off,none⟩) d.size cap,.func (.func (N g)) #[] #[]] w λe w'=>e=.returned (.tuple #[])/\∃d' n os,PermIn 0 d.size d d'/\SortedIn lt 0 d.size d'/\w'=Go.Proofs.sortWorldK (rZ enc) k w blk off n d' os)
  {vs:List V}{args:Array Value}{v:V}{tn:Tn}(hp:ll k (iV enc dec lt) g vs h=some (v,tn))(hr:HR N L e W h w)
  (hs:args.size=vs.length)(hv:∀(j:Nat)(x:V),vs[j]?=some x->VR N L e w x (args.getD j undef)):
  dW P (N fn) args w λv' w'=>∃L' e',Nx N W L e w L' e' (tn.apply h) w'/\VR N L' e' w' v v':=by
 have key:∀(x:V)(g':Nat),vs=[x,.func g' []]->g'=g->∃v0,args=#[v0,.func (.func (N g)) #[] #[]]/\VR N L e w x v0:=by
  rintro x g' rfl rfl
  have h0:=hv 0 x rfl;have h1:=hv 1 (.func g' []) rfl;have hsz:args.size=2:=hs;obtain⟨l⟩:=args
  match l,hsz with
  |[v0,v1],_=>
   refine⟨v0,?_,h0⟩;have h1':VR N L e w (.func g' []) v1:=h1;cases h1' with
   |func _ _ arr ha _=>
    have:arr=#[]:=Array.eq_empty_of_size_eq_zero ha;subst this;rfl
 have fin0:∀(a:Option Addr)(cap:Nat),args=#[.slice a 0 cap,.func (.func (N g)) #[] #[]]->tn.apply h=h->v=.dR []->dW P (N fn) args w λv' w'=>∃L' e',Nx N W L e w L' e' (tn.apply h) w'/\VR N L' e' w' v v':=by
  rintro a cap rfl ht rfl
  refine .inr ⟨hent _ _,(hnone a cap w).mono ?_⟩
  rintro en w' ⟨rfl,rfl⟩
  exact⟨L,e,by rw[ht];exact Nx.refl hr,.dR [] #[] rfl (λj c hj=>by simp at hj)⟩
 unfold ll at hp;split at hp<;>first|(cases hp;done)|skip
 rename_i _ x g';split at hp<;>first|(cases hp;done)|skip
 rename_i hg;obtain⟨v0,hargs,hv0⟩:=key x g' rfl hg;split at hp<;>first|(cases hp;done)|skip
 .injection hp with hp;injection hp with e1 e2;subst e1;subst e2;cases hv0 with
  |tl rows a hh=>exact fin0 a 0 hargs (by cases h;simp[Tn.apply]) rfl
 .rename_i id0 aw off len;split at hp<;>first|(cases hp;done)|skip
  rename_i a ha;obtain⟨ha1,ha2⟩:=bJ ha;split at hp
  .rename_i hl;subst hl;injection hp with hp;injection hp with e1 e2;subst e1;subst e2;cases hv0 with
   |own _ _ _ _ a' cap _ _ _ _=>exact fin0 a' cap hargs (by cases h;simp[Tn.apply]) rfl
  .rename_i hl;split at hp<;>first|(cases hp;done)|skip
   rename_i rows hb;split at hp<;>first|(cases hp;done)|skip
   rename_i hc;obtain⟨hak,hol,hm⟩:=hc;split at hp<;>first|(cases hp;done)|skip
   rename_i news hnews;injection hp with hp;injection hp with e1 e2;subst e1;subst e2;unfold iV at hnews;split at hnews<;>first|(cases hnews;done)|skip
   rename_i l hl2;split at hnews<;>first|(cases hnews;done)|skip
   rename_i hris;injection hnews with hnews;subst hnews;obtain⟨m1,m2⟩:=rY hl2;have hcut:((rows.drop off).take len).length=len:=by simp only[List.length_take,List.length_drop];omega
   have hrl:(rows.drop off).take len=l.map enc:=by
    apply aa0;intro i;rw[aap];rcases aar i len with hi|hi
    .have h1:((rows.drop off).take len)[i]?=some (((rows.drop off).take len)[i]'(by omega)):=aal (by omega);have h2:l[i]?=some (l[i]'(by omega)):=aal (by omega);rw[h2,h1];exact congrArg some (hde _ _ (m2 i _ _ h1 h2)).symm
    .rw[aaX (by omega),aaX (by omega)];rfl
   have hll:l.length=len:=by omega
   have hk':a.k≠0:=by rw[hak];exact hk0
   obtain⟨v1,v2,v3,_⟩:=hr.aw id0 a ha1;have hid:id0<e.na:=by rw[hr.na];exact(aak.1 ha1).1
   cases hv0 with
   |own _ _ _ _ a' cap g0 g1 g2 g3=>
    obtain⟨k1,k2,k3,k4⟩:=g3 (by rw[v1,ha2]);have ha':=k4 (by omega);subst ha';have hH:Holds id w (e.ar id0) (e.ad id0+off*a.k) (flatK (rZ enc) k l.toArray):=by
     refine xB hr ha1 hb hk' hol ?_ _ (by simp[hll,hak]) ?_
     .intro r hr' c hc;rw[hrl]at hr';obtain⟨y,_,rfl⟩:=aaq.1 hr';exact hsc y c hc
     .intro i j c hc;rw[hrl]at hc;rw[hak];exact AR hk l i j c hc
    have hblk:=hr.jj hid (by rw[v2];exact hk');rw[hargs];refine .inr ⟨hent _ _,?_⟩;have hcall:=hcon (e.ar id0) (e.ad id0+off*e.ak id0) cap l.toArray w (by rw[v2];exact hH) hblk (by simp[hll];unfold aU at hm;omega) hr.Ch (hr.oY id0 hid (by rw[v2];exact hk')).2;rw[show l.toArray.size=len by simp[hll]]at hcall;refine hcall.mono ?_
    rintro en w' ⟨rfl,d',n,os,hp1,hp2,rfl⟩
    have hd':d'=(cU lt l).toArray:=by
     obtain⟨p1,p2,p3⟩:=hp1;have hsz:d'.size=len:=by simpa [hll]using p1
     have hperm:d'.toList.Perm l:=by
      have e1:d'.extract 0 len=d':=by rw[<- hsz];exact Array.extract_size
      have e2:l.toArray.extract 0 len=l.toArray:=by rw[show len=l.toArray.size by simp[hll]];exact Array.extract_size
      rw[e1,e2]at p3;simpa using p3
     have hsort:d'.toList.Pairwise (λa b=>lt b a=false):=by
      rw[abh];intro i j hi hj hij;have:=hp2 i j (Nat.zero_le _) hij (by rw[<- hsz];simpa using hj);rw[getElem!_pos d' i (by simpa using hi),getElem!_pos d' j (by simpa using hj)]at this;simpa using this
     have:=s8 (cU lt l) d'.toList (ve hO.trans _ hris) hsort (hperm.trans (bW lt l).symm);rw[<- this]
    subst hd';have hlen2:(cU lt l).length=len:=by rw[(bW lt l).length_eq,hll]
    obtain⟨e',hnx⟩:=Es hr ha1 hb hk' hol (news:=(cU lt l).map enc) (by simp[hlen2]) (by
     intro r hr';obtain⟨y,_,rfl⟩:=aaq.1 hr';exact⟨by rw[hak];exact hk y,hsc y⟩) (flatK (rZ enc) k (cU lt l).toArray) (by simp[hlen2,hak]) (by
     intro i j c hc;rw[hak];exact AR hk _ i j c hc) n os _ hH (by simp[hll,hlen2])
    refine⟨L,e',?_,.dR [] #[] rfl (λj c hj=>by simp at hj)⟩;rw[vf,<- ha2,<- hak];have:Go.Proofs.sortWorldK (rZ enc) a.k w (e.ar id0) (e.ad id0+off*e.ak id0) n (cU lt l).toArray os=grow (putRow id (Sort.ahead w n) (e.ar id0) (e.ad id0+off*a.k) (flatK (rZ enc) k (cU lt l).toArray)) os:=by
     rw[v2,hak];rfl
    rw[this];exact hnx
end Go.Pv
namespace Go.Pv
open Go.Sort
variable {P:Program} {N:Nat→Nat} {W:Nat→Prop} {L:Lx} {e:bA} {h:aq} {w w':World}
theorem Fr.grown (hf:Fr (Wc w none) w w'):∃q os,w'=grow (w.drewN q) os:=by
 refine⟨w'.drawn - w.drawn,w'.heap.extract w.heap.size w'.heap.size,?_⟩;obtain⟨h1,h2,h3,h4,h5,h6⟩:=hf;have hh:w'.heap=w.heap++w'.heap.extract w.heap.size w'.heap.size:=by
  apply Array.ext_getElem?;intro i;rcases aar i w.heap.size with hi|hi
  .rw[Array.getElem?_append_left hi];exact h5 i hi (λhc=>by rcases hc with hc|hc<;>first|omega|cases hc)
  .rw[Array.getElem?_append_right hi,Array.getElem?_extract];rcases aar i w'.heap.size with hi2|hi2
   .rw[if_pos (by omega)];congr 1;omega
   .rw[Array.getElem?_eq_none hi2,if_neg (by omega)]
 obtain⟨heap,tape,drawn,os,output⟩:=w;obtain⟨heap',tape',drawn',os',output'⟩:=w';simp only at h1 h2 h3 h4 h5 h6 hh;subst h1;subst h2;subst h3;show _=grow (Sort.ahead _ _) _;simp only[grow,Sort.ahead];rw[<- hh];congr 1;show drawn'=drawn+(drawn' - drawn);omega
theorem HO {p:PV}(hp:rX p=true):p.one=true:=by
 cases p<;>simp[rX]at hp<;>rfl
theorem vg {ps:List PV}(hp:∀c∈ps,rX c=true):eb N L w (.agg ps) (.agg (ps.map sv).toArray):=by
 refine .agg _ _ (by simp) (λj c hj=>?_) (λc hc=>HO (hp c hc));have:(ps.map sv).toArray.getD j undef=sv c:=by
  simp[Array.getD_eq_getD_getElem?,hj]
 rw[this];exact AQ (hp c (aaj hj))
theorem Fz {g:Nat}{ps:List PV}{k:IntKind}{n:Int}(hF:w7 P N g ps [.int k n]){args:Array Value}(w:World)(ht:uA N L w)
  (eg:∀args w,(callFunc (N g) args).run P w=.ok (.enter (N g) args) w)(hl:args.toList.length=ps.length)(ha:∀(j:Nat)(p:PV),ps[j]?=some p->∃v,args.toList[j]?=some v/\∀L',eb N L' w p v):
  Calls P (N g) args w λe w'=>e=.returned (.int k n)/\∃q os',w'=grow (w.drewN q) os':=by
 have hc:=hF (λt b=>t=7777/\L t b/\b<w.heap.size) w none args (λ_ _ h=>h.2.2) (λg hg=>by
  obtain⟨h1,ty,z,h2⟩:=ht g hg;exact⟨⟨rfl,h1,(aaM.1 h2).1⟩,ty,z,h2⟩) (.plain _ _ hl λj p hj=>by
  obtain⟨v,h1,h2⟩:=ha j p hj;exact⟨v,h1,h2 _⟩)
 rcases hc with⟨v,w',h1,h2⟩|⟨h1,h2⟩
 .rw[eg]at h1;cases h1
 .refine h2.mono λen w' hh=>?_;cases en with
  |returned v=>
   obtain⟨L1,bs,vals,f1,f2,f3,f4,f5,f6,f7,rfl⟩:=hh;refine⟨?_,f1.grown⟩;cases f5 with
   |cons p u b1 ps vs b2 q1 q2=>
    cases q2;cases q1 with
    |cell _ _ _ q=>
     cases q with
     |bV _ _ _ q=>cases q;rfl
  |panicked=>exact hh.elim
  |outgrown=>exact hh.elim
theorem HP {α:Type}[Inhabited α]{g:Nat}{enc:α->List PV}(hsc:∀x,∀c∈enc x,rX c=true){cf:α->α->Int}(hF:∀x y,w7 P N g [.agg (enc x),.agg (enc y)] [.int .i64 (cf x y)])
  (eg:∀args w,(callFunc (N g) args).run P w=.ok (.enter (N g) args) w)(k blk off size:Nat)(w:World)(ht:uA N L w)(hb:∀t,¬L t blk):Go.Proofs.CmpLays P (N g) #[] (rZ enc) k cf blk off size w:=by
 intro m os dk hs x y;refine Fz (L:=L) (hF x y) _ (λb hg=>?_) eg rfl λj p hj=>?_
 .obtain⟨h1,ty,z,h2⟩:=ht b hg;refine⟨h1,ty,z,?_⟩;have hlt:=(aaM.1 h2).1;have hne:blk≠b:=λhe=>hb _ (he ▸ h1);show (grow (putRow id (Sort.ahead w m) blk off (flatK (rZ enc) k dk)) os).heap[b]?=_;rw[heap_grow_old _ _ (by simp[putRow,mapBlock,Sort.ahead];exact hlt)];simp only[putRow,mapBlock,Sort.ahead,Array.getElem?_modify];rw[if_neg hne];exact h2
 .match j,hj with
  |0,hj=>
   cases hj;exact⟨_,rfl,λ_=>vg (hsc x)⟩
  |1,hj=>
   cases hj;exact⟨_,rfl,λ_=>vg (hsc y)⟩
  |j+2,hj=>simp at hj
end Go.Pv
namespace Go.Proofs
open Go.Shelf Go.RowKit Go.Lib
variable {P:Program} {ρ:Ren}
theorem vh {ops:Array Oper}{rest:List Oper}{o:Oper}{a:Act}{w:World}{Q:Exit->Act->World->Prop}(hgd:o.guard=none)(s x:Operand)(t:TypeId)
  (ho:o.op=.call {callee:=.builtin .append,args:=#[s,x],argTypes:=#[t,t]})(e:TypeId)(i:TypeInfo)(ht:P.underlying t=some (.slice e))(hi:P.info? e=some i)
  (g:Nat)(hg:w.heap[g]?=some (.cells #[] e (0,0)))(hs:a.eval s=.slice (some ⟨g,0,none⟩) 0 0)(ad:Addr)(c:Nat)(hx:a.eval x=.slice (some ad) 0 c)
  (h:wpList P ops Q rest (a.put o.dst (.slice (some ⟨g,0,none⟩) 0 0)) w):wpList P ops Q (o::rest) a w:=by
 refine wpList_plain hgd λK hK=>?_;have hr:=run_append_room (P:=P) w t o.type e i ht hi g 0 0 #[] hg ad 0 c [] (by simp) (λj u hj=>by simp at hj) (λu hu=>by simp at hu) (Nat.le_refl _) (by simp);have hw:w.setRow g (([]:List Value).take (0*i.size)++[]++([]:List Value).drop (0*i.size+([]:List Value).length)).toArray=w:=by
  simp only[List.take_nil,List.drop_nil,List.append_nil];unfold World.setRow;have:w.heap.modify g (λ|.cells _ t f=>.cells #[] t f|o=>o)=w.heap:=by
   apply Array.ext_getElem?;intro k;rw[Array.getElem?_modify];split
   .rename_i hk;subst hk;rw[hg];rfl
   .rfl
  first|rw[this]|(congr 1)
 rw[show (#[]:Array Value).toList=[] from rfl,hw]at hr;unfold Oper.wp execOp;simp only[ho,resolve,invoke,builtin,Sem.run_bind,Sem.run_pure,Result.andThen_ok,List.map_toArray,List.map_cons,List.map_nil,hs,hx,hr];exact hK _ _ h
set_option maxHeartbeats 1000000 in
theorem vi (L:SlLaysE0.n41 P ρ)(i0:TypeInfo)(z:Value)(hi:P.info? (ρ.t 23)=some i0)(_hz0:i0.zero=some z)
  (z23:∀w,(Go.sizeOf (ρ.t 23)).run P w=.ok i0.size w)(ad:Addr)(c:Nat)(w:World):
  Calls P (ρ.f 41) #[.slice (some ad) 0 c] w λe w'=>∃g,e=.returned (.slice (some ⟨g,0,none⟩) 0 0)/\w'=w.alloc (.cells #[] (ρ.t 23)):=by
 have mixed:=L.mixed;have t4:=L.t4;have a4:=L.a4;have z4:=L.z4;have v4:=L.v4;have t22:=L.t22;have a22:=L.a22;have z22:=L.z22;have v22:=L.v22
 have q22:∀(w:World)(a:Option Addr)(n c n' c':Nat),(binOp .eql (ρ.t 22) (.slice a n c) (.slice none n' c')).run P w=.ok (.bool a.isNone) w:=λw a n c n' c'=>Lib.run_eql_slice_nil w _ _ a n c n' c' L.t22;have u22:∀w,Sem.run P (underlying (ρ.t 22)) w=.ok (TypeDesc.slice (ρ.t 23)) w:=run_underlying t22;obtain⟨_,_,FG⟩:=L.f41
 go_enter FG,SlBodyN.n41_ntmps ρ
 go_wp2_with (at_builtin;refine vh rfl _ _ (ρ.t 22) rfl (ρ.t 23) i0 t22 hi w.heap.size ?qc1 rfl ad c rfl ?_)
 case qc1=>exact heap_alloc_new w _
 go_wp2
 go_ret
 exact⟨_,rfl,rfl⟩
theorem vj {ops:Array Oper}{rest:List Oper}{o:Oper}{a:Act}{w:World}{Q:Exit->Act->World->Prop}(hgd:o.guard=none)(s x:Operand)(t:TypeId)
  (ho:o.op=.call {callee:=.builtin .append,args:=#[s,x],argTypes:=#[t,t]})(e:TypeId)(i:TypeInfo)(z:Value)(ht:P.underlying t=some (.slice e))(hi:P.info? e=some i)(hz:i.zero=some z)(zc:Array Value)(hzc:z.cells=zc)
  (g:Nat)(hs:a.eval s=.slice (some ⟨g,0,none⟩) 0 0)(ad:Addr)(n c:Nat)(hx:a.eval x=.slice (some ad) n c)(news:List Value)(hl:news.length=n*i.size)(hnews:∀j v,news[j]?=some v->w.cell? (ad.add j)=some v)
  (hn:0<n)(hm:n<=maxLen)(hb:n*i.bytes<=140737488355328)
  (h:wpList P ops Q rest (a.put o.dst (.slice (some ⟨w.heap.size,0,none⟩) n (grownCap w n 0 e))) (w.drew.alloc (.cells (news.toArray++Builtin.zeroCells zc (grownCap w n 0 e - n)) e))):wpList P ops Q (o::rest) a w:=by
 subst hzc;refine wpList_plain hgd λK hK=>?_;have hr:=run_append_grow (P:=P) w t o.type e i z ht hi hz ⟨g,0,none⟩ 0 0 [] (by simp) (λj v hj=>by simp at hj) ad n c news hl hnews (by omega) (by unfold maxLen at hm;omega) (by rw[Nat.zero_add,nextslicecap_zero hn];omega);simp only[Nat.zero_add,Array.empty_append]at hr;unfold Oper.wp execOp;simp only[ho,resolve,invoke,builtin,Sem.run_bind,Sem.run_pure,Result.andThen_ok,List.map_toArray,List.map_cons,List.map_nil,hs,hx,hr];exact hK _ _ h
def pA (w:World)(e:TypeId)(zc:Array Value)(n:Nat)(news:List Value):World:=
 (w.alloc (.cells #[] e)).drew.alloc (.cells (news.toArray++Builtin.zeroCells zc (grownCap (w.alloc (.cells #[] e)) n 0 e - n)) e)
set_option maxHeartbeats 1000000 in
theorem wK (L:SlLaysE0.n41 P ρ)(i0:TypeInfo)(z:Value)(hi:P.info? (ρ.t 23)=some i0)(hz0:i0.zero=some z)(zc:Array Value)(hzc:z.cells=zc)
  (z23:∀w,(Go.sizeOf (ρ.t 23)).run P w=.ok i0.size w)(ad:Addr)(n c:Nat)(news:List Value)(w:World)(hl:news.length=n*i0.size)(hn0:0<n)(hn:n<=maxLen)(hbig:n*i0.bytes<=140737488355328)
  (hc:∀j u,news[j]?=some u->w.cell? (ad.add j)=some u):
  Calls P (ρ.f 41) #[.slice (some ad) n c] w λe w'=>e=.returned (.slice (some ⟨w.heap.size+1,0,none⟩) n (grownCap (w.alloc (.cells #[] (ρ.t 23))) n 0 (ρ.t 23)))/\w'=pA w (ρ.t 23) zc n news:=by
 have mixed:=L.mixed;have t4:=L.t4;have a4:=L.a4;have z4:=L.z4;have v4:=L.v4;have t22:=L.t22;have a22:=L.a22;have z22:=L.z22;have v22:=L.v22
 have q22:∀(w:World)(a:Option Addr)(n c n' c':Nat),(binOp .eql (ρ.t 22) (.slice a n c) (.slice none n' c')).run P w=.ok (.bool a.isNone) w:=λw a n c n' c'=>Lib.run_eql_slice_nil w _ _ a n c n' c' L.t22;have u22:∀w,Sem.run P (underlying (ρ.t 22)) w=.ok (TypeDesc.slice (ρ.t 23)) w:=run_underlying t22;have A:Aside (∀j u,news[j]?=some u->w.cell? (ad.add j)=some u):=hc;clear hc;unfold pA;obtain⟨_,_,FG⟩:=L.f41
 go_enter FG,SlBodyN.n41_ntmps ρ
 go_wp2_with (at_builtin;refine vj rfl _ _ (ρ.t 22) rfl (ρ.t 23) i0 z t22 hi hz0 zc hzc w.heap.size rfl ad n c rfl news ?qc1 ?qc2 ?qc3 ?qc4 ?qc5 ?_)
 case qc1=>exact hl
 case qc2=>
  intro j u hj;exact Lib.cell?_alloc_some _ (A.out j u hj)
 case qc3=>exact hn0
 case qc4=>exact hn
 case qc5=>exact hbig
 go_wp2
 go_ret
 exact⟨by simp,rfl⟩
end Go.Proofs
namespace Go.Pv
open Go.Shelf
variable {P:Program} {N:Nat→Nat} {W:Nat→Prop} {L:Lx} {e:bA} {h:aq} {w:World}
def cL (k:Nat):List V->aq->Option (V×Tn)
 |[x],h=>match bj h x with
  |some (.inl rows,rd)=>if aY k (.inl rows)=true/\rows.length<=aU then
    (if rows.length=0 then some (.tl [],{ra:=rd}) else some (.own h.ar.length 0 0 rows.length,{push:=[⟨0,k,.inl rows⟩],ra:=rd,base:=h.ar.length})) else none
  |_=>none
 |_,_=>none
theorem eb.nil (a:Option Addr):eb N L w (.ae 0 []) (.slice a 0 0):=
 .ae 0 [] a ⟨0,0,none⟩ 0 0 (λ_ _=>undef) (λr hr=>by simp at hr) (Nat.le_refl _) (λh=>by simp at h) (λi j c hc=>by simp[fZ]at hc) (λi j c hc=>by simp[fZ]at hc) (λ_ i j c hc=>by simp[fZ]at hc) (λi j c hc=>by simp[fZ]at hc)
theorem lq {ρ:Ren}(LL:Go.Proofs.SlLaysE0.n41 P ρ){fn:Nat}(hfn:N fn=ρ.f 41){k:Nat}(hk:k≠0)(i0:TypeInfo)(z:Value)(hi:P.info? (ρ.t 23)=some i0)(hz0:i0.zero=some z)(hzs:z.cells.size=k)(his:i0.size=k)(hby:i0.bytes<=32768)
  (z23k:∀w,(Go.sizeOf (ρ.t 23)).run P w=.ok k w)(hent:∀args w,(callFunc (N fn) args).run P w=.ok (.enter (N fn) args) w)
  {vs:List V}{args:Array Value}{v:V}{tn:Tn}(hp:cL k vs h=some (v,tn))(hr:HR N L e W h w)
  (hs:args.size=vs.length)(hv:∀(j:Nat)(x:V),vs[j]?=some x->VR N L e w x (args.getD j undef)):
  dW P (N fn) args w λv' w'=>∃L' e',Nx N W L e w L' e' (tn.apply h) w'/\VR N L' e' w' v v':=by
 have z23:∀w,(Go.sizeOf (ρ.t 23)).run P w=.ok i0.size w:=λw=>by rw[his];exact z23k w
 unfold cL at hp;split at hp<;>first|(cases hp;done)|skip
 rename_i x;split at hp<;>first|(cases hp;done)|skip
 rename_i rows rd hsrc;split at hp<;>first|(cases hp;done)|skip
 rename_i hc;obtain⟨hfit,hmost⟩:=hc;have hargs:∃v0,args=#[v0]/\VR N L e w x v0:=by
  have h0:=hv 0 x rfl;have hsz:args.size=1:=hs;obtain⟨l⟩:=args
  match l,hsz with
  |[v0],_=>exact⟨v0,rfl,h0⟩
 obtain⟨v0,rfl,hv0⟩:=hargs;obtain⟨B,c,ad,vals,rfl,s1,s2,s3,s4,s5⟩:=qh hr hv0 hsrc hfit hk;have hlen:aE (.inl rows:Sum (List (List PV)) (List (List V)))=rows.length:=rfl;rw[hlen]at s1 |-;split at hp
 .rename_i h0;injection hp with hp;injection hp with e1 e2;subst e1;subst e2;rw[h0];have hap:Tn.apply {ra:=rd} h=h:=by cases h;simp[Tn.apply]
  rw[hap];have h2:VR N L e w (.tl []) (.slice none 0 0):=.tl [] none (eb.nil _) yN.nil;cases B with
  |none=>
   refine .inr ⟨hent _ _,?_⟩;rw[hfn];refine(Go.Proofs.AnyE.slices_Clone_nil LL 0 c w).mono ?_
   rintro en w' ⟨rfl,rfl⟩
   exact⟨L,e,Nx.refl hr,h2⟩
  |some a=>
   refine .inr ⟨hent _ _,?_⟩;rw[hfn];refine(Go.Proofs.vi LL i0 z hi hz0 z23 a c w).mono ?_
   rintro en w' ⟨g,rfl,rfl⟩
   exact⟨L,e,Nx.idle hr _,.tl [] _ (eb.nil _) yN.nil⟩
 .rename_i h0;injection hp with hp;injection hp with e1 e2;subst e1;subst e2;have hB:=s1 (by omega);subst hB;refine .inr ⟨hent _ _,?_⟩;rw[hfn];have hvl:vals.length=rows.length*k:=by rw[s2.1,cT];rfl
  refine(Go.Proofs.wK LL i0 z hi hz0 z.cells rfl z23 ad rows.length c vals w (by rw[his];exact hvl) (by omega) (by unfold maxLen;unfold aU at hmost;omega) (by
   have:rows.length*i0.bytes<=2147483648*32768:=Nat.mul_le_mul hmost hby;omega) s3).mono ?_
  rintro en w' ⟨rfl,rfl⟩
  unfold Go.Proofs.pA;have n1:=Nx.idle hr (.cells #[] (ρ.t 23));have n2:=Nx.drew n1.hr;have n12:=n1.trans n2;have hG:=grownCap_ge (w.alloc (.cells #[] (ρ.t 23))) rows.length 0 (ρ.t 23);generalize grownCap (w.alloc (.cells #[] (ρ.t 23))) rows.length 0 (ρ.t 23)=G at hG |-;have hsz:(vals.toArray++Builtin.zeroCells z.cells (G - rows.length)).size=G*k:=by
   simp only[Array.size_append,List.size_toArray,size_zeroCells,hzs,hvl,<- Nat.add_mul];congr 1;omega
  obtain⟨n3,v3⟩:=yQ n2.hr hk (n:=rows.length) (c:=G) (body:=.inl rows) (arr:=vals.toArray++Builtin.zeroCells z.cells (G - rows.length)) (el:=ρ.t 23) (by
   rw[Array.toList_append,List.take_append_of_le_length (by simp[hvl])];rw[show (vals.toArray.toList).take (rows.length*k)=vals by simp[<- hvl]];exact s2.mono n12.ext) rfl hG (by rw[hsz];exact aau _) s4
  refine⟨L,_,by rw[Tn.jX];exact n12.trans n3,?_⟩;have hheap:((w.alloc (.cells #[] (ρ.t 23))).drew).heap.size=w.heap.size+1:=by simp[World.drew]
  rw[<- hheap];exact v3
end Go.Pv
namespace Go.Pv
abbrev Prim:=List V->aq->Option (V×Tn)
structure Prim.W9 (pr:Prim):Prop where
 loc:∀vs h1 h2 v t,pr vs h1=some (v,t)->iQ t h1 h2->pr vs h2=some (v,t)
 fit:∀vs h v t,pr vs h=some (v,t)->t.fit h
 iO:∀vs h v t,pr vs h=some (v,t)->t.new=false
def Prim.Ok (P:Program)(N:Nat->Nat)(fn:Nat)(pr:Prim):Prop:=
 ∀(L:Lx)(e:bA)(W:Nat->Prop)(h:aq)(w:World)(vs:List V)(args:Array Value)(v:V)(tn:Tn),pr vs h=some (v,tn)->HR N L e W h w->
  args.size=vs.length->(∀(j:Nat)(x:V),vs[j]?=some x->VR N L e w x (args.getD j undef))->
  dW P (N fn) args w λv' w'=>∃L' e',Nx N W L e w L' e' (tn.apply h) w'/\VR N L' e' w' v v'
theorem jI {α:Type}{n:Nat}{x:α}:∀{l:List (Nat×α)},aH n l=some x->(n,x)∈l
 |[],h=>by cases h
 |(m,y)::r,h=>by
  simp only[aH]at h;split at h
  .rename_i hm;cases h;subst hm;exact aaN ..
  .exact aaz _ (jI h)
theorem xC {l:List (Nat×Prim)}(hl:∀x∈l,Prim.W9 x.2):dp (λn=>aH n l):=
 ⟨λ_fn _pr hf=>(hl _ (jI hf)).loc,λ_fn _pr hf=>(hl _ (jI hf)).fit,λ_fn _pr hf=>(hl _ (jI hf)).iO⟩
theorem AS {P:Program}{N:Nat->Nat}{l:List (Nat×Prim)}(hl:∀x∈l,Prim.Ok P N x.1 x.2):eR P N (λn=>aH n l):=
 λ_fn _pr hf=>hl _ (jI hf)
theorem FA (k:Nat)(f:List (List PV)->Option (List (List PV)))(g:Nat):Prim.W9 (ll k f g) where
 iO:=by
  intro vs h v t hh;unfold ll at hh
  repeat' split at hh
  all_goals first|(cases hh;done)|(injection hh with hh;injection hh with e1 e2;subst e2;rfl)
 loc:=by
  intro vs h1 h2 v t hh ha;unfold ll at hh |-;split at hh<;>first|(cases hh;done)|skip
  split at hh<;>first|(cases hh;done)|skip
  rename_i hg;simp only[hg,if_true];split at hh<;>first|(cases hh;done)|skip
  .exact hh
  .rename_i id aw off len;split at hh<;>first|(cases hh;done)|skip
   rename_i a ho;have:(t.ra=some id\/t.p4=some id\/∃a,t.ar=some (id,a))->aC h2 id aw=some a:=λhi=>(ha.own hi).trans ho;split at hh
   .rename_i h0;injection hh with hh;injection hh with e1 e2;subst e1;subst e2;rw[this (.inl rfl)];simp only[h0,if_true]
   .rename_i h0;split at hh<;>first|(cases hh;done)|skip
    rename_i rows hb;split at hh<;>first|(cases hh;done)|skip
    rename_i hc;split at hh<;>first|(cases hh;done)|skip
    rename_i news hn;injection hh with hh;injection hh with e1 e2;subst e1;subst e2;rw[this (.inr (.inr ⟨_,rfl⟩))];simp only[h0,if_false,hb,hn];rw[if_pos hc]
 fit:=by
  intro vs h v t hh;unfold ll at hh;split at hh<;>first|(cases hh;done)|skip
  split at hh<;>first|(cases hh;done)|skip
  split at hh<;>first|(cases hh;done)|skip
  .injection hh with hh;injection hh with e1 e2;subst e2;exact⟨λhp=>absurd rfl hp,λi a hia=>by cases hia⟩
  .split at hh<;>first|(cases hh;done)|skip
   rename_i a ho;split at hh
   .injection hh with hh;injection hh with e1 e2;subst e2;exact⟨λhp=>absurd rfl hp,λi a hia=>by cases hia⟩
   .split at hh<;>first|(cases hh;done)|skip
    split at hh<;>first|(cases hh;done)|skip
    split at hh<;>first|(cases hh;done)|skip
    injection hh with hh;injection hh with e1 e2;subst e2;refine⟨λhp=>absurd rfl hp,λi a' hia=>?_⟩;cases hia;exact ir ho
theorem j6 (k:Nat):Prim.W9 (cL k) where
 iO:=by
  intro vs h v t hh;unfold cL at hh
  repeat' split at hh
  all_goals first|(cases hh;done)|(injection hh with hh;injection hh with e1 e2;subst e2;rfl)
 loc:=by
  intro vs h1 h2 v t hh ha;unfold cL at hh |-;split at hh<;>first|(cases hh;done)|skip
  split at hh<;>first|(cases hh;done)|skip
  rename_i rows rd hs;split at hh<;>first|(cases hh;done)|skip
  rename_i hc;split at hh
  .rename_i h0;injection hh with hh;injection hh with e1 e2;subst e1;subst e2;rw[iR hs (λi hi=>ha.ar i (.inl hi))];simp only;rw[if_pos hc,if_pos h0]
  .rename_i h0;injection hh with hh;injection hh with e1 e2;subst e1;subst e2;rw[iR hs (λi hi=>ha.ar i (.inl hi))];simp only;rw[if_pos hc,if_neg h0,ha.len (by simp)]
 fit:=by
  intro vs h v t hh;unfold cL at hh;split at hh<;>first|(cases hh;done)|skip
  split at hh<;>first|(cases hh;done)|skip
  split at hh<;>first|(cases hh;done)|skip
  split at hh
  all_goals
   injection hh with hh;injection hh with e1 e2;subst e2;refine⟨λhp=>?_,λi a hia=>by cases hia⟩
   first|rfl|exact absurd rfl hp
end Go.Pv
