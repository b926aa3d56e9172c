/-
 What the functions of the law give.
-/
import Derived.Test.YtpchfogcccagjaaGreatC2
set_option linter.unusedSimpArgs false
set_option linter.unusedVariables false
open List renaming mem_of_getElem? → aaj, getElem?_eq_some_iff → aak, getElem?_eq_getElem → aal, length_map → aam, mem_iff_getElem? → aan, getElem?_append_left → aao, getElem?_map → aap, mem_map → aaq, length_append → aas, getD_eq_getElem?_getD → aat, getElem?_append_right → aav, getElem?_take → aax, append_assoc → aay, eq_nil_of_length_eq_zero → aaD, getElem?_set_self → aaG, take_add_one → aaH, length_range → aaJ, getElem?_set_ne → aaL, take_length → aaQ, map_append → aaR, mem_range → aaV, any_eq_false → aaW, getElem?_eq_none → aaX, ext_getElem? → aa0, getElem?_drop → aa1, mem_append_left → aa2, map_map → aa6, mem_singleton → aa7, mem_filterMap → aba, append_nil → abb, mem_map_of_mem → abf, pairwise_iff_getElem → abh, getElem_mem → abj, getElem?_range → abk, map_take → abl, find?_eq_none → abv, mem_filter → aby, range_succ → abA, pairwise_singleton → abN, find?_some → abS, filterMap_append → abT, pairwise_map → abW, drop_eq_getElem_cons → ab0, mem_of_find?_eq_some → ab1, pairwise_lt_range → ab9, set_append_right → acg, map_id → ack
open Nat renaming lt_or_ge → aar, le_refl → aau, mod_lt → aaP, zero_le → aaS, add_zero → ab4, sub_self → acf, min_eq_left → aco
open Int renaming toNat_natCast → aaU
open Bool renaming eq_false_iff → abp
open Option renaming map_some → ab7
namespace Go.Pv
def Home (ar:List aL)(o k:Nat)(v:V)(rows:List (List PV)):Prop:=v=.pv (.ae 0 rows)\/(∃id aw,v=.own id aw 0 rows.length/\id≠o/\ar[id]?=some ⟨aw,k,.inl rows⟩)\/v=.tl rows
theorem Home.push {ar:List aL}{o k:Nat}{v:V}{rows:List (List PV)}(h:Home ar o k v rows)(x:List aL):Home (ar++x) o k v rows:=by
 rcases h with h|⟨id,aw,h1,h2,h3⟩|h
 .exact .inl h
 .exact .inr (.inl ⟨id,aw,h1,h2,by rw[aao (aak.1 h3).1];exact h3⟩)
 .exact .inr (.inr h)
theorem Home.set {ar:List aL}{o k:Nat}{v:V}{rows:List (List PV)}(h:Home ar o k v rows)(a:aL):Home (ar.set o a) o k v rows:=by
 rcases h with h|⟨id,aw,h1,h2,h3⟩|h
 .exact .inl h
 .exact .inr (.inl ⟨id,aw,h1,h2,by rw[aaL (λe=>h2 e.symm)];exact h3⟩)
 .exact .inr (.inr h)
theorem Home.bV {ar:List aL}{o k:Nat}{v:V}{rows:List (List PV)}(h:Home ar o k v rows)(bx:List (Nat×List V))(mp:List (List (PV×PV)))(d:Nat):bd ⟨bx,ar,mp⟩ (d+1) v=some (.ae 0 rows):=by
 rcases h with rfl|⟨id,aw,rfl,h2,h3⟩|rfl
 .rfl
 .rw[eo,iu,h3];simp only[Option.bind_some,if_true,aD,cb,List.drop_zero,List.take_length]
 .rfl
def nG (ar:List aL)(o:Nat)(row:List V)(t:aB):Prop:=∃sv mv,row=[.pv (.int .i64 t.kind),.pv (.str t.name),.pv (.int .i64 t.low),.pv (.int .i64 t.high),.pv (.int .i64 t.max),sv,mv,.pv (.int .i64 t.key),.pv (.int .i64 t.elem),.pv (.bool t.jO)]/\
 Home ar o 2 sv (t.syms.map Sym.c)/\Home ar o 13 mv (t.aO.map Mem.c)
theorem nG.push {ar:List aL}{o:Nat}{row:List V}{t:aB}(h:nG ar o row t)(x:List aL):nG (ar++x) o row t:=by
 obtain⟨sv,mv,h1,h2,h3⟩:=h;exact⟨sv,mv,h1,h2.push x,h3.push x⟩
theorem nG.set {ar:List aL}{o:Nat}{row:List V}{t:aB}(h:nG ar o row t)(a:aL):nG (ar.set o a) o row t:=by
 obtain⟨sv,mv,h1,h2,h3⟩:=h;exact⟨sv,mv,h1,h2.set a,h3.set a⟩
theorem nG.len {ar:List aL}{o:Nat}{row:List V}{t:aB}(h:nG ar o row t):row.length=10:=by
 obtain⟨sv,mv,rfl,_⟩:=h;rfl
theorem nG.bV {ar:List aL}{o:Nat}{row:List V}{t:aB}(h:nG ar o row t)(bx:List (Nat×List V))(mp:List (List (PV×PV)))(d:Nat):aA (bd ⟨bx,ar,mp⟩ (d+1)) row=some t.c:=by
 obtain⟨sv,mv,rfl,h2,h3⟩:=h;simp only[aA,h2.bV bx mp d,h3.bV bx mp d,vc,PV.perm,if_true];rfl
def bl:Sum (List (List PV)) (List (List V))->List (List V)
 |.inl x=>x.map (·.map .pv)
 |.inr x=>x
theorem gk (b:Sum (List (List PV)) (List (List V))):(bl b).length=aE b:=by cases b<;>simp[bl,aE]
theorem jL (a b:Sum (List (List PV)) (List (List V))):bl (aW a b)=bl a++bl b:=by
 cases a<;>cases b<;>simp[bl,aW]
structure nH (ar:List aL)(o:Nat)(rows:List (List V))(ts:List aB):Prop where
 len:rows.length=ts.length
 row:∀(i:Nat) row t,rows[i]?=some row->ts[i]?=some t->nG ar o row t
theorem nH.push {ar:List aL}{o:Nat}{rows:List (List V)}{ts:List aB}(h:nH ar o rows ts)(x:List aL):nH (ar++x) o rows ts:=⟨h.len,λi row t h1 h2=>(h.row i row t h1 h2).push x⟩
theorem nH.set {ar:List aL}{o:Nat}{rows:List (List V)}{ts:List aB}(h:nH ar o rows ts)(a:aL):nH (ar.set o a) o rows ts:=⟨h.len,λi row t h1 h2=>(h.row i row t h1 h2).set a⟩
theorem nH.snoc {ar:List aL}{o:Nat}{rows:List (List V)}{ts:List aB}{row:List V}{t:aB}(h:nH ar o rows ts)(hr:nG ar o row t):nH ar o (rows++[row]) (ts++[t]):=by
 refine⟨by simp[h.len],λi r u h1 h2=>?_⟩;rcases aar i rows.length with hi|hi
 .rw[aao hi]at h1;rw[aao (by rw[<- h.len];exact hi)]at h2;exact h.row i r u h1 h2
 .rw[aav hi]at h1;rw[aav (by rw[<- h.len];exact hi)]at h2;rw[h.len]at h1;cases hj:i - ts.length with
  |zero=>
   rw[hj]at h1 h2;cases h1;cases h2;exact hr
  |succ j=>
   rw[hj]at h1;simp at h1
theorem oq {α β γ:Type}{f:α->Option β}:∀{rows:List (List α)}{ts:List γ}{c:γ->List β},rows.length=ts.length->(∀(i:Nat) row t,rows[i]?=some row->ts[i]?=some t->aA f row=some (c t))->aA (aA f) rows=some (ts.map c)
 |[],[],_,_,_=>rfl
 |r::rows,t::ts,c,hl,h=>by
  have h1:=h 0 r t rfl rfl;have h2:=oq (f:=f) (rows:=rows) (ts:=ts) (c:=c) (by simpa using hl) (λi row u hi hu=>h (i+1) row u (by simpa using hi) (by simpa using hu));simp only[aA,h1,h2,List.map_cons]
theorem qO {h:aq}{d:Nat}:∀{l r:List PV},aA (bd h d) (l.map V.pv)=some r->r=l
 |[],r,he=>by
  cases he;rfl
 |x::l,r,he=>by
  simp only[List.map_cons,pz,vc]at he;split at he
  .cases hm:aA (bd h d) (l.map V.pv)with
   |none=>simp[hm]at he
   |some y=>
    simp[hm]at he;rw[<- he,qO hm]
  .simp at he
structure De (ar:List aL)(o aw:Nat)(ts:List aB):Prop where
 pos:ts≠[]
 it:∃body,ar[o]?=some ⟨aw,10,body⟩/\nH ar o (bl body) ts
theorem De.bV {ar:List aL}{o aw:Nat}{ts:List aB}(h:De ar o aw ts)(bx:List (Nat×List V))(mp:List (List (PV×PV))):bd ⟨bx,ar,mp⟩ 4 (.own o aw 0 ts.length)=some (.ae 0 (ts.map aB.c)):=by
 obtain⟨body,h1,h2⟩:=h.it;rw[eo,iu,h1];simp only[Option.bind_some,if_true];have hk:=oq (f:=bd ⟨bx,ar,mp⟩ 3) (c:=aB.c) h2.len (λi row t hi ht=>(h2.row i row t hi ht).bV bx mp 2);cases body with
 |inl R=>
  have hl:R.length=ts.length:=by have:=h2.len;simpa [bl]using this
  simp only[aD,cb,List.drop_zero];rw[<- hl,aaQ];congr 1;congr 1;apply aa0;intro i;rcases aar i R.length with hi|hi
  .have e1:=aal hi;have e2:=aal (l:=ts) (i:=i) (by omega);rw[aap,e1,e2];have:=(h2.row i (R[i].map V.pv) (ts[i]'(by omega)) (by simp[bl,e1]) e2).bV bx mp 2;have:=qO this;rw[ab7,this]
  .rw[aaX hi,aap,aaX (by omega)];rfl
 |inr R=>
  have hl:R.length=ts.length:=by have:=h2.len;simpa [bl]using this
  simp only[aD,cb,List.drop_zero];rw[<- hl,aaQ];have hk':aA (aA (bd ⟨bx,ar,mp⟩ 3)) R=some (ts.map aB.c):=hk;rw[hk'];rfl
def br (L:List Int)(j:Int):Int:=bg (λy=>decide (y=j)) L
def dQ (L:List Int)(m:Mem):Mem:={m with type:=br L m.type}
def bt (L:List Int)(t:aB):aB:={t with aO:=t.aO.map (dQ L),key:=if t.kind=8 then br L t.key else t.key,elem:=if 7<=t.kind then br L t.elem else t.elem}
theorem Bf {α:Type}{l:List α}{k:Nat}{x:α}(h:l[k]?=some x):l.drop k=x::l.drop (k+1):=by
 obtain⟨hk,rfl⟩:=aak.1 h;exact ab0 hk
theorem nI {k:Nat}{b:Sum (List (List PV)) (List (List V))}(h:∀r∈bl b,r.length=k):aY k b=true:=by
 cases b with
 |inl x=>
  simp only[aY,List.all_eq_true,beq_iff_eq];intro r hr;have:=h (r.map .pv) (abf hr);simpa using this
 |inr x=>
  simp only[aY,List.all_eq_true,beq_iff_eq];exact h
def pH (L:List Int)(l:List Mem)(j:Nat):List Mem:=(l.take j).map (dQ L)++l.drop j
theorem FI (L:List Int)(l:List Mem):pH L l 0=l:=by simp[pH]
theorem H5 (L:List Int)(l:List Mem):pH L l l.length=l.map (dQ L):=by simp[pH]
theorem Bg (L:List Int)(l:List Mem)(j:Nat):(pH L l j).length=l.length:=by
 simp only[pH,List.length_append,List.length_map,List.length_take,List.length_drop];omega
theorem Bh {L:List Int}{l:List Mem}{j:Nat}{m:Mem}(h:l[j]?=some m):(pH L l j)[j]?=some m:=by
 have hj:=(aak.1 h).1;have hl:((l.take j).map (dQ L)).length=j:=by simp;omega
 unfold pH;rw[aav (by omega),hl,acf,aa1,ab4];exact h
theorem H6 {L:List Int}{l:List Mem}{j:Nat}{m:Mem}(h:l[j]?=some m):(pH L l j).set j (dQ L m)=pH L l (j+1):=by
 have hj:=(aak.1 h).1;have hl:((l.take j).map (dQ L)).length=j:=by simp;omega
 unfold pH;rw[acg _ _ (by omega),hl,acf,Bf h,List.set_cons_zero,aaH,h];simp
theorem FJ {bx:List (Nat×List V)}{ar:List aL}{mp:List (List (PV×PV))}{y:V}{new:Sum (List (List PV)) (List (List V))}{rd:Option Nat}{row:List V}(hs:bj ⟨bx,ar,mp⟩ y=some (new,rd))(hn:bl new=[row])(hr:row.length=10):
  aJ ⟨bx,ar,mp⟩ 10 (.tl []) y=some (.own ar.length 0 0 1,{push:=[⟨0,10,aW (.inl []) new⟩],ra:=rd,base:=ar.length}):=by
 have h1:aE new=1:=by rw[<- gk,hn];rfl
 have h2:aY 10 new=true:=nI (by rw[hn];intro r hr';rw[aa7]at hr';rw[hr'];exact hr);simp only[aJ,hs,h2,h1,if_true];simp[aY,aU]
theorem H7 {bx:List (Nat×List V)}{ar:List aL}{mp:List (List (PV×PV))}{y:V}{new:Sum (List (List PV)) (List (List V))}{rd:Option Nat}{row:List V}{o aw n:Nat}{body:Sum (List (List PV)) (List (List V))}(hs:bj ⟨bx,ar,mp⟩ y=some (new,rd))(hn:bl new=[row])(hr:row.length=10)
  (ho:ar[o]?=some ⟨aw,10,body⟩)(hb:aE body=n)(hrd:rd≠some o)(hm:n+1<=2147483648):
  aJ ⟨bx,ar,mp⟩ 10 (.own o aw 0 n) y=some (.own o (aw+1) 0 (n+1),{ar:=some (o,⟨aw+1,10,aW (aD 0 n body) new⟩),ra:=rd}):=by
 have h1:aE new=1:=by rw[<- gk,hn];rfl
 have h2:aY 10 new=true:=nI (by rw[hn];intro r hr';rw[aa7]at hr';rw[hr'];exact hr);have h3:aC ⟨bx,ar,mp⟩ o aw=some ⟨aw,10,body⟩:=by rw[iu,ho];simp
 have h4:(⟨aw,10,body⟩:aL).size=n:=by rw[<- hb];cases body<;>rfl
 simp only[aJ,hs,h2,h1,h3,if_true,h4];simp[aU,hm,hrd]
theorem EB {aw n:Nat}{b:Sum (List (List PV)) (List (List V))}(_h:aE b=n)(_hv:aw=aw):aD 0 n b=b:=by
 subst _h;cases b<;>simp[aD,aE]
theorem kh {t:aB}{m:Mem}(h:m∈t.aO):m.type∈bw t:=by
 unfold bw;exact aa2 _ (aa2 _ (abf h))
theorem ot {t:aB}(h:7<=t.kind):t.elem∈bw t:=by simp[bw,fj,h]
theorem Df {L:List Int}{l:List Mem}{j:Nat}{m:Mem}(h:l[j]?=some m)(id:Nat):dy id j 2 [.pv (.int .i64 (br L m.type))] ⟨0,13,.inl ((pH L l j).map Mem.c)⟩=some {ar:=some (id,⟨0,13,.inl ((pH L l (j+1)).map Mem.c)⟩)}:=by
 have hj:=(aak.1 h).1;rw[jv (l:=[.int .i64 (br L m.type)]) (by rw[List.length_map,Bg];exact hj) rfl (by simp) rfl,<- H6 h,List.map_set];unfold over;have hd:((pH L l j).map Mem.c).getD j []=m.c:=by rw[aat,aap,Bh h];rfl
 rw[hd];rfl
def zj (row:List V)(cs:List PV):Prop:=∀h d,aA (bd h (d+1)) row=some cs
theorem H8 {w:Nat}{bx:List (Nat×List V)}{ar:List aL}{mp:List (List (PV×PV))}{y:V}{new:Sum (List (List PV)) (List (List V))}{rd:Option Nat}{row:List V}(hs:bj ⟨bx,ar,mp⟩ y=some (new,rd))(hn:bl new=[row])(hr:row.length=w):
  aJ ⟨bx,ar,mp⟩ w (.tl []) y=some (.own ar.length 0 0 1,{push:=[⟨0,w,aW (.inl []) new⟩],ra:=rd,base:=ar.length}):=by
 have h1:aE new=1:=by rw[<- gk,hn];rfl
 have h2:aY w new=true:=nI (by rw[hn];intro r hr';rw[aa7]at hr';rw[hr'];exact hr);simp only[aJ,hs,h2,h1,if_true];simp[aY,aU]
theorem KU {w:Nat}{bx:List (Nat×List V)}{ar:List aL}{mp:List (List (PV×PV))}{y:V}{new:Sum (List (List PV)) (List (List V))}{rd:Option Nat}{row:List V}{o aw n:Nat}{body:Sum (List (List PV)) (List (List V))}(hs:bj ⟨bx,ar,mp⟩ y=some (new,rd))(hn:bl new=[row])(hr:row.length=w)
  (ho:ar[o]?=some ⟨aw,w,body⟩)(hb:aE body=n)(hrd:rd≠some o)(hm:n+1<=2147483648):
  aJ ⟨bx,ar,mp⟩ w (.own o aw 0 n) y=some (.own o (aw+1) 0 (n+1),{ar:=some (o,⟨aw+1,w,aW (aD 0 n body) new⟩),ra:=rd}):=by
 have h1:aE new=1:=by rw[<- gk,hn];rfl
 have h2:aY w new=true:=nI (by rw[hn];intro r hr';rw[aa7]at hr';rw[hr'];exact hr);have h3:aC ⟨bx,ar,mp⟩ o aw=some ⟨aw,w,body⟩:=by rw[iu,ho];simp
 have h4:(⟨aw,w,body⟩:aL).size=n:=by rw[<- hb];cases body<;>rfl
 simp only[aJ,hs,h2,h1,h3,if_true,h4];simp[aU,hm,hrd]
structure KV (w:Nat)(ar:List aL)(o aw:Nat)(cs:List (List PV)):Prop where
 it:∃body,ar[o]?=some ⟨aw,w,body⟩/\(bl body).length=cs.length/\∀(i:Nat) row c,(bl body)[i]?=some row->cs[i]?=some c->zj row c
def lB (w:Nat)(ar:List aL)(V0:V)(cs:List (List PV)):Prop:=(V0=.tl []/\cs=[])\/∃o aw,V0=.own o aw 0 cs.length/\KV w ar o aw cs
theorem xK {rows:List (List V)}{cs:List (List PV)}{row:List V}{c:List PV}(h:rows.length=cs.length)(hr:∀(i:Nat) row c,rows[i]?=some row->cs[i]?=some c->zj row c)(hn:zj row c):
  (rows++[row]).length=(cs++[c]).length/\∀(i:Nat) r x,(rows++[row])[i]?=some r->(cs++[c])[i]?=some x->zj r x:=by
 refine⟨by simp[h],λi r x h1 h2=>?_⟩;rcases aar i rows.length with hi|hi
 .rw[aao hi]at h1;rw[aao (by rw[<- h];exact hi)]at h2;exact hr i r x h1 h2
 .rw[aav hi]at h1;rw[aav (by rw[<- h];exact hi)]at h2;rw[h]at h1;cases hj:i - cs.length with
  |zero=>
   rw[hj]at h1 h2;cases h1;cases h2;exact hn
  |succ j=>
   rw[hj]at h1;simp at h1
theorem EC {w:Nat}{ar X:List aL}{V0 y:V}{cs:List (List PV)}{c:List PV}{new:Sum (List (List PV)) (List (List V))}{rd:Option Nat}{row:List V}(hO:lB w ar V0 cs)(hm:cs.length+1<=2147483648)
  (hs:∀bx,bj ⟨bx,ar++X,[]⟩ y=some (new,rd))(hn:bl new=[row])(hrd:∀o,rd=some o->ar.length<=o)(hw:row.length=w)(hr:zj row c):
  ∃V1 T ar',(∀bx,aJ ⟨bx,ar++X,[]⟩ w V0 y=some (V1,T))/\(∀bx,T.apply ⟨bx,ar++X,[]⟩=⟨bx,ar',[]⟩)/\V1.cells=[V1]/\V1.calm=true/\lB w ar' V1 (cs++[c]):=by
 rcases hO with⟨rfl,rfl⟩|⟨o,aw,rfl,hrep⟩
 .refine⟨_,_,(ar++X)++[⟨0,w,aW (.inl []) new⟩],λbx=>H8 (hs bx) hn hw,λbx=>?_,rfl,rfl,.inr ⟨(ar++X).length,0,rfl,aW (.inl []) new,by simp,?_⟩⟩
  .simp[Tn.apply]
  .rw[jL,hn];exact xK (rows:=[]) (cs:=[]) rfl (λi r x h1=>by simp at h1) hr
 .obtain⟨body,hb1,hb2,hb3⟩:=hrep.it;have hol:=(aak.1 hb1).1;have hb1':(ar++X)[o]?=some ⟨aw,w,body⟩:=by rw[aao hol];exact hb1
  have hbl:aE body=cs.length:=by rw[<- gk];exact hb2
  have happ:=λbx=>KU (bx:=bx) (mp:=[]) (hs bx) hn hw hb1' hbl (λe=>by have:=hrd o e;omega) hm;rw[EB (aw:=aw) hbl rfl]at happ;refine⟨_,_,(ar++X).set o ⟨aw+1,w,aW body new⟩,happ,λbx=>?_,rfl,rfl,.inr ⟨o,aw+1,by simp,aW body new,?_,?_⟩⟩
  .simp[Tn.apply]
  .rw[aaG (by rw[aas];omega)]
  .rw[jL,hn];exact xK hb2 hb3 hr
theorem addLit {w:Nat}{ar:List aL}{V0:V}{cs:List (List PV)}{c:List PV}{row:List V}(hO:lB w ar V0 cs)(hm:cs.length+1<=2147483648)(hw:row.length=w)(hr:zj row c):
  ∃V1 T ar',(∀bx,aJ ⟨bx,ar++[⟨0,w,.inr [row]⟩],[]⟩ w V0 (.own ar.length 0 0 1)=some (V1,T))/\(∀bx,T.apply ⟨bx,ar++[⟨0,w,.inr [row]⟩],[]⟩=⟨bx,ar',[]⟩)/\V1.cells=[V1]/\V1.calm=true/\lB w ar' V1 (cs++[c]):=by
 refine EC (X:=[⟨0,w,.inr [row]⟩]) (new:=.inr [row]) (rd:=some ar.length) hO hm (λbx=>?_) rfl (λo ho=>?_) hw hr
 .simp[bj,aC,aD]
 .injection ho with ho;rw[<- ho];exact aau _
theorem H9 {w:Nat}{ar:List aL}{V0:V}{cs:List (List PV)}{c:List PV}(hO:lB w ar V0 cs)(hm:cs.length+1<=2147483648)(hw:c.length=w)(hr:zj (c.map .pv) c):
  ∃V1 T ar',(∀bx,aJ ⟨bx,ar,[]⟩ w V0 (.tl [c])=some (V1,T))/\(∀bx,T.apply ⟨bx,ar,[]⟩=⟨bx,ar',[]⟩)/\V1.cells=[V1]/\V1.calm=true/\lB w ar' V1 (cs++[c]):=by
 have:=EC (X:=[]) (y:=.tl [c]) (new:=.inl [c]) (rd:=none) (c:=c) (row:=c.map .pv) hO hm (λbx=>rfl) rfl (λo h=>by cases h) (by simp[hw]) hr;simpa only[List.append_nil]using this
theorem lB.bV {w:Nat}{ar:List aL}{V0:V}{cs:List (List PV)}(h:lB w ar V0 cs)(bx:List (Nat×List V))(mp:List (List (PV×PV))):bd ⟨bx,ar,mp⟩ 4 V0=some (.ae 0 cs):=by
 rcases h with⟨rfl,rfl⟩|⟨o,aw,rfl,hrep⟩
 .rfl
 obtain⟨body,h1,h2,h3⟩:=hrep.it;rw[eo,iu,h1];simp only[Option.bind_some,if_true];have hk:=oq (f:=bd ⟨bx,ar,mp⟩ 3) (c:=id) h2 (λi row t hi ht=>h3 i row t hi ht _ 2);rw[ack]at hk;cases body with
 |inl R=>
  have hl:R.length=cs.length:=by simpa [bl]using h2
  simp only[aD,cb,List.drop_zero];rw[<- hl,aaQ];congr 1;congr 1;apply aa0;intro i;rcases aar i R.length with hi|hi
  .have e1:=aal hi;have e2:=aal (l:=cs) (i:=i) (by omega);rw[e1,e2];have:=h3 i (R[i].map V.pv) (cs[i]'(by omega)) (by simp[bl,e1]) e2 ⟨bx,ar,mp⟩ 2;rw[qO this]
  .rw[aaX hi,aaX (by omega)]
 |inr R=>
  have hl:R.length=cs.length:=by simpa [bl]using h2
  simp only[aD,cb,List.drop_zero];rw[<- hl,aaQ];have hk':aA (aA (bd ⟨bx,ar,mp⟩ 3)) R=some cs:=hk;rw[hk'];rfl
theorem lB.same {w:Nat}{ar:List aL}{V0:V}{cs:List (List PV)}(h:lB w ar V0 cs)(kb:List Nat):ez kb V0=V0:=by
 rcases h with⟨rfl,rfl⟩|⟨o,aw,rfl,_⟩<;>rfl
theorem lB.kept {w:Nat}{ar:List aL}{V0:V}{cs:List (List PV)}(h:lB w ar V0 cs)(bx:List (Nat×List V))(mp:List (List (PV×PV))):Go.Pv.bV ⟨bx,ar,mp⟩ false V0=some (.ae 0 cs):=by
 have:=h.bV bx mp;rcases h with⟨rfl,rfl⟩|⟨o,aw,rfl,_⟩<;>exact this
@[go_sem] theorem S7 (p:Part):p.c.length=3:=rfl
@[go_sem] theorem S8 (x:Node):x.cs.length=5:=rfl
theorem VG (a n:Nat):Int.tmod (a:Int) (n:Int)=((a%n:Nat):Int):=(Int.ofNat_tmod a n).symm
theorem jh {k:IntKind}{a n:Nat}(h:n≠0):da .rem (.pv (.int k (a:Int))) (.pv (.int k (n:Int)))=some (.pv (.int k ((a%n:Nat):Int))):=by
 rw[AN (by omega),VG]
theorem YM (a:Nat):da .rem (.pv (.int .u8 (a:Int))) (.pv (.int .u8 9))=some (.pv (.int .u8 ((a%9:Nat):Int))):=jh (n:=9) (by decide)
theorem YN (a:Nat):da .rem (.pv (.int .u8 (a:Int))) (.pv (.int .u8 7))=some (.pv (.int .u8 ((a%7:Nat):Int))):=jh (n:=7) (by decide)
theorem YO (a:Nat):da .rem (.pv (.int .u8 (a:Int))) (.pv (.int .u8 6))=some (.pv (.int .u8 ((a%6:Nat):Int))):=jh (n:=6) (by decide)
theorem KW (a:Nat):da .rem (.pv (.int .u8 (a:Int))) (.pv (.int .u8 4))=some (.pv (.int .u8 ((a%4:Nat):Int))):=jh (n:=4) (by decide)
theorem KX (a:Nat):da .rem (.pv (.int .u8 (a:Int))) (.pv (.int .u8 2))=some (.pv (.int .u8 ((a%2:Nat):Int))):=jh (n:=2) (by decide)
theorem VH (a:Nat):da .rem (.pv (.int .u8 (a:Int))) (.pv (.int .u8 12))=some (.pv (.int .u8 ((a%12:Nat):Int))):=jh (n:=12) (by decide)
theorem QE {a i:Nat}(h:i<=8):da .shr (.pv (.int .u8 (a:Int))) (.pv (.int .i64 (i:Int)))=some (.pv (.int .u8 ((a/2^i:Nat):Int))):=by
 have h0:¬(i:Int)<0:=by omega
 have hm:min ((i:Int).toNat) (IntKind.bits .u8)=i:=by
  rw[aaU];exact aco h
 simp only[da,or_true,if_true,ur,h0,if_false,hm,Option.map_some];congr 3;rw[Int.fdiv_eq_ediv_of_nonneg _ (by exact Int.pow_nonneg (by decide))]
 norm_cast
theorem qP {t:Nat}{d:List Node}{i:Nat}{x:Node}(h:d[i]?=some x):kx 5 t (d.map Node.cs) (some (i:Int))=some (V.pv (.ro t x.cs)):=by
 rw[qD,aap,h];rfl
theorem r298 (t:Nat)(d:List Node)(i:Nat)(hi:i<d.length):res A ay 298 [.agg [.ae t (d.map Node.cs)],.int .i64 i]=some [.int .i64 (aR d i)]:=by
 refine ai a298 rfl rfl ?_;simp only[F298,Om];have hx:=aal hi;generalize d[i]=x at hx;have hk:aR d i=1+x.kind%9:=by rw[aR,hx];rfl
 have hidx:=qP (t:=t) hx;unfold Node.cs at hidx;unfold Node.cs;have hb:x.kind%9<9:=aaP _ (by decide);simp(disch:=omega)only[go_sem,hidx,YM];rw[hk]
 push_cast
 rfl
theorem r299 (x:Node):res A ay 299 [.agg x.cs]=some [.int .i64 (lu x)]:=by
 refine ai a299 rfl rfl ?_;simp only[F299,On];unfold Node.cs;have hb:x.a%7<7:=aaP _ (by decide);simp(disch:=omega)only[go_sem,YN];rfl
theorem r300 (x:Node):res A ay 300 [.agg x.cs]=some [.int .i64 (nA x)]:=by
 refine ai a300 rfl rfl ?_;simp only[F300,Oo];have h:=r299 x;have e:lu x=((x.a%7:Nat):Int) - 3:=rfl;unfold Node.cs at *;have hb:x.a%7<7:=aaP _ (by decide);have hc:x.b%6<6:=aaP _ (by decide);simp(disch:=omega)only[go_sem,h,YO];rfl
theorem r335 (k:Int):res A ay 335 [.int .i64 k]=some [.bool (decide (7<=k))]:=by
 refine ai a335 rfl rfl ?_;simp only[F335,OV];simp(disch:=omega)only[go_sem]
theorem Dg (a n:Nat):j7 a (n+1)=if a/2^n%2=1 then j7 a n++[n] else j7 a n:=by
 unfold j7;rw[abA,List.filter_append];by_cases h:a/2^n%2=1
 .simp[h]
 .simp[h]
theorem xL (a n:Nat):(j7 a n).length<=n:=by
 unfold j7;exact Nat.le_trans (List.length_filter_le _ _) (by simp)
def oT (l:List Nat):List Int:=l.map λ(n:Nat)=>((n+1:Nat):Int)
def wM (l:List Nat):List Int:=l.map λ(n:Nat)=>(n:Int)
theorem Dh (l:List Nat)(n:Nat):oT (l++[n])=oT l++[((n+1:Nat):Int)]:=by simp[oT]
theorem ED (n:Nat):dn n []=.tl []:=rfl
theorem EE (k:Nat):cG k []=[]:=rfl
theorem r301 (x:Node):res A ay 301 [.agg x.cs]=some [.ae 0 (ints (wM (gU x.a)))]:=by
 refine ai a301 rfl rfl ?_;simp only[F301,Oq];obtain⟨k,a,b,c,ps⟩:=x;unfold Node.cs;dsimp only;simp(disch:=omega)only[go_sem];refine W.dx 6 (λj=>⟨[(1,.ptr 1 0),(3,dn 0 (ints (oT (j7 a j)))),(4,.pv (.int .i64 j))],⟨[(1,[.pv (.int .u8 k),.pv (.int .u8 a),.pv (.int .u8 b),.pv (.int .u8 c),.pv (.ae 0 (ps.map Part.c))])],cG 1 (ints (oT (j7 a j))),[]⟩⟩) (λ_=>True) rfl trivial (λj hj _=>?_);have hl:(oT (j7 a j)).length<=j:=by unfold oT;rw[aam];exact xL a j
 simp(disch:=omega)only[go_sem];refine Br.aF (λc1=>?_) (λc1=>?_)
 .have hs:=QE (a:=a) (i:=j) (by omega);have hsucc:=Dg a j;simp(disch:=omega)only[go_sem,hs,KX];refine Br.aF (λc2=>?_) (λc2=>?_)<;>simp(disch:=omega)only[go_sem]
  .refine .of (by omega) ?_ trivial;rw[hsucc,if_pos (by omega),Dh];rfl
  .refine .of (by omega) ?_ trivial;rw[hsucc,if_neg (by omega)];rfl
 .obtain rfl:j=6:=by omega
  simp(disch:=omega)only[go_sem];unfold gU;refine Br.aF (λc2=>?_) (λc2=>?_)
  .have h0:j7 a 6=[]:=by
    unfold oT at c2;rw[aam]at c2;exact aaD (by omega)
   rw[if_pos h0,h0];simp(disch:=omega)only[go_sem,oT,List.map_nil,ED,EE];rfl
  .have h0:¬j7 a 6=[]:=λe=>c2 (by rw[e];rfl);rw[if_neg h0];simp(disch:=omega)only[go_sem];congr 3;unfold oT wM;rw[aa6];rfl
theorem r321 (t:Nat)(d:List Node)(i code:Nat)(h0:0<d.length)(hl:d.length<=5)(_hi:i<d.length)(hcode:code<=255):res A ay 321 [.agg [.ae t (d.map Node.cs)],.int .i64 i,.int .u8 code]=some [.int .i64 (gF (dq d i code))]:=by
 refine ai a321 rfl rfl ?_;simp only[F321,OI];have hc:code%d.length<d.length:=aaP _ h0;have hr:=jh (k:=.i64) (a:=code) (n:=d.length) (by omega);unfold dq;generalize hm:code%d.length=m at hc hr;have h298:=λt=>r298 t d m hc;simp(disch:=omega)only[go_sem,hr,h298,r335];refine Br.aF (λc=>?_) (λc=>?_)
 .have d1:decide ((7:Int)<=aR d m)=true:=by simpa using c
  have h7:7<=aR d m:=by omega
  simp(disch:=omega)only[go_sem,d1];rw[if_pos (.inl h7)];rfl
 have d1:decide ((7:Int)<=aR d m)=false:=by simpa using c
 have h7:¬7<=aR d m:=by omega
 simp(disch:=omega)only[go_sem,d1];refine Br.aF (λc2=>?_) (λc2=>?_)<;>simp(disch:=omega)only[go_sem]
 .rw[if_pos (.inr (by omega))];rfl
 rw[if_neg (λh=>h.elim h7 (λh=>c2 (by omega)))];refine Br.aF (λc3=>?_) (λc3=>?_)
 .have hr2:=jh (k:=.i64) (a:=m) (n:=i) (by omega);simp(disch:=omega)only[go_sem,hr2];rw[if_pos (by omega)];rfl
 rw[if_neg (by omega)];obtain⟨G,hG⟩:∃G,gF ((List.range d.length).find? λk=>decide (7<=aR d k))=G:=⟨_,rfl⟩;rw[hG];simp(disch:=omega)only[go_sem];refine W.find (List.range d.length) (λk=>decide (7<=aR d k)) (λk=>⟨[(3,.ptr 3 0),(7,.pv (.int .i64 d.length)),(9,.pv (.int .i64 k))],⟨[(3,[.pv (.ae t (d.map Node.cs))])],[],[]⟩⟩) rfl (λk y hy hk hfd=>?_) (λhn=>?_)
 .obtain⟨rfl,hk⟩:=cZ hy;have h298:=λt=>r298 t d y hk;simp(disch:=omega)only[go_sem];refine Br.aF (λc=>?_) (λc=>(c (by omega)).elim);simp(disch:=omega)only[go_sem,h298,r335];refine Br.aF (λg=>?_) (λg=>?_)<;>simp(disch:=omega)only[go_sem]
  .rw[<- hG,(hfd (by simp;omega)).find];rfl
  .exact aX.of (by simp;omega) rfl
 .rw[hn.find]at hG;rw[aaJ];simp(disch:=omega)only[go_sem];rw[<- hG];rfl
theorem r303 (t:Nat)(d:List Node)(code:Nat)(h0:0<d.length)(hl:d.length<=5)(hcode:code<=255):res A ay 303 [.agg [.ae t (d.map Node.cs)],.int .u8 code]=some [.int .i64 (gF (kT d code))]:=by
 refine ai a303 rfl rfl ?_;simp only[F303,Ou];unfold kT;obtain⟨G,hG⟩:∃G,gF (((List.range d.length).find? λk=>decide (aR d ((code+k)%d.length)<=4)).map λk=>(code+k)%d.length)=G:=⟨_,rfl⟩;rw[hG];simp(disch:=omega)only[go_sem];refine W.find (List.range d.length) (λk=>decide (aR d ((code+k)%d.length)<=4)) (λk=>⟨[(1,.pv (.int .u8 code)),(2,.ptr 2 0),(5,.pv (.int .i64 d.length)),(6,.pv (.int .i64 k))],⟨[(2,[.pv (.ae t (d.map Node.cs))])],[],[]⟩⟩) rfl (λk y hy hk hfd=>?_) (λhn=>?_)
 .obtain⟨rfl,hk⟩:=cZ hy;have hm:(code+y)%d.length<d.length:=aaP _ h0;have hr:da .rem (.pv (.int .i64 ((code:Int)+(y:Int)))) (.pv (.int .i64 (d.length:Int)))=some (.pv (.int .i64 (((code+y)%d.length:Nat):Int))):=jh (k:=.i64) (a:=code+y) (n:=d.length) (by omega);have h298:=λt=>r298 t d _ hm;have h1:1<=aR d ((code+y)%d.length):=by
   unfold aR;rw[aal hm];simp[AW]
  generalize hmm:(code+y)%d.length=m at *;simp(disch:=omega)only[go_sem];refine Br.aF (λc=>?_) (λc=>(c (by omega)).elim);simp(disch:=omega)only[go_sem,hr,h298,r288];refine Br.of (λg=>?_) (λg=>?_)<;>simp(disch:=omega)only[go_sem]
  .simp only[Bool.and_eq_true,decide_eq_true_eq]at g;rw[<- hG,(hfd (by simp;omega)).find];show _=some [PV.int .i64 (((code+y)%d.length:Nat):Int)];rw[hmm]
  .refine aX.of ?_ rfl;simp only[Bool.and_eq_false_iff,decide_eq_false_iff_not]at g;simp;omega
 .rw[hn.find]at hG;rw[aaJ];simp(disch:=omega)only[go_sem];rw[<- hG];rfl
def initK (d:List Node)(i:Nat):Nat:=if aR d i=8/\kT d 0=none then 7 else aR d i
def Bi (a code:Nat):Nat:=((gU a)[code%(gU a).length]?).getD 0
def eM (k:Nat)(x:Node)(code:Nat):dO×Bool:=
 if k=1 then ({bn with kind:=1,bool:=decide (code%2=1)},true)
 else if k=2 then ({bn with kind:=2,int:=lu x+((code%(x.b%6+1):Nat):Int)},true)
 else if k=3 then ({bn with kind:=3,str:=if 0<x.a%4/\code%2=1 then ⟨#[97]⟩ else ⟨#[]⟩},true)
 else if k=4 then ({bn with kind:=4,id:=Bi x.a code},true)
 else if k=5\/k=6 then (bn,false)
 else ({bn with kind:=k},true)
theorem dY (d:List Node)(i:Nat):1<=aR d i/\aR d i<=9:=by
 unfold aR;cases d[i]? with
 |none=>decide
 |some x=>
  have:x.kind%9<9:=aaP _ (by decide);show 1<=AW x/\AW x<=9;unfold AW;omega
theorem lC (a:Nat):0<(gU a).length/\(gU a).length<=6:=by
 unfold gU;split
 .decide
 .rename_i h;rw[aam];exact⟨List.length_pos_iff.2 h,xL a 6⟩
theorem VI (n:Nat):decide ((n:Int)=1)=decide (n=1):=by
 rw[decide_eq_decide];omega
theorem Bj (o:Option Nat):decide (gF o<0)=decide (o=none):=by
 cases o with
 |none=>rfl
 |some n=>
  have:¬(n:Int)<0:=by omega
  simp[gF,this]
theorem EF {l:List Nat}{i:Nat}(h:i<l.length):(wM l)[i]?=some (((l[i]?).getD 0:Nat):Int):=by
 unfold wM;rw[aap,aal h];rfl
set_option maxHeartbeats 1000000 in
theorem r322 (t:Nat)(d:List Node)(i code:Nat)(x:Node)(hx:d[i]?=some x)(h0:i<d.length)(hl:d.length<=5)(hcode:code<=255)(hxo:x.ok):res A ay 322 [.agg [.ae t (d.map Node.cs)],.int .i64 i,.int .u8 code]=some [.agg (eM (initK d i) x code).1.c,.bool (eM (initK d i) x code).2]:=by
 refine ai a322 rfl rfl ?_;simp only[F322,OJ];have h298:=λt=>r298 t d i h0;have h303:∀t,res A ay 303 [.agg [.ae t (d.map Node.cs)],.int .u8 0]=some [.int .i64 (gF (kT d 0))]:=λt=>r303 t d 0 (by omega) hl (by omega);obtain⟨k1,k9⟩:=dY d i;have hidx:=qP (t:=t) hx;have h299:=r299 x;have h300:=r300 x;have h301:=r301 x;obtain⟨⟨_,xa,xb,_⟩,_⟩:=hxo;have hxa:x.a%4<4:=aaP _ (by decide);have hlo: -3<=lu x/\lu x<=3:=by
  have:x.a%7<7:=aaP _ (by decide);unfold lu;omega
 have hb6:x.b%6<6:=aaP _ (by decide);have hhi:nA x=lu x+((x.b%6:Nat):Int):=rfl;have hr:=jh (k:=.i64) (a:=code) (n:=x.b%6+1) (by omega);have e1:lu x+((x.b%6:Nat):Int) - lu x+1=((x.b%6+1:Nat):Int):=by omega
 rw[<- e1]at hr;have hm:code%(x.b%6+1)<x.b%6+1:=aaP _ (by omega);rw[hhi]at h300;obtain⟨n0,n6⟩:=lC x.a;have hn:(wM (gU x.a)).length=(gU x.a).length:=aam _;have hr2:=jh (k:=.i64) (a:=code) (n:=(gU x.a).length) (by omega);have hat:(wM (gU x.a))[code%(wM (gU x.a)).length]?=some ((Bi x.a code:Nat):Int):=by
  rw[hn];exact EF (aaP code n0)
 rw[<- hn]at hr2;unfold Node.cs at *;have hk0:(aR d i:Int)=1\/(aR d i:Int)=2\/(aR d i:Int)=3\/(aR d i:Int)=4\/(aR d i:Int)=5\/(aR d i:Int)=6\/(aR d i:Int)=7\/(aR d i:Int)=8\/(aR d i:Int)=9:=by omega
 unfold initK;simp(disch:=omega)only[go_sem,hidx,h298];rcases hk0 with hk|hk|hk|hk|hk|hk|hk|hk|hk
 all_goals simp(disch:=omega)only[go_sem,hk,KX,KW,h299,h300,h301,h303,VI,Bj]
 .have e:aR d i=1:=by omega
  rw[e,if_neg (by omega)];rfl
 .simp(disch:=omega)only[go_sem,hr];have e:aR d i=2:=by omega
  rw[e,if_neg (by omega)];rfl
 .have e:aR d i=3:=by omega
  rw[e,if_neg (by omega)];refine Br.aF (λc=>?_) (λc=>?_)<;>simp(disch:=omega)only[go_sem,c,KX]
  .refine Br.aF (λc2=>?_) (λc2=>?_)<;>simp(disch:=omega)only[go_sem,c2]
   .have e2:0<x.a%4/\code%2=1:=by omega
    simp[eM,e2,dO.c,bn]
   .have e2:¬(0<x.a%4/\code%2=1):=by omega
    simp[eM,e2,dO.c,bn]
  .have e2:¬(0<x.a%4/\code%2=1):=by omega
   simp[eM,e2,dO.c,bn]
 .simp(disch:=omega)only[go_sem,hr2,hat];have e:aR d i=4:=by omega
  rw[e,if_neg (by omega)];rfl
 .have e:aR d i=5:=by omega
  rw[e,if_neg (by omega)];rfl
 .have e:aR d i=6:=by omega
  rw[e,if_neg (by omega)];rfl
 .have e:aR d i=7:=by omega
  rw[e,if_neg (by omega)];rfl
 .have e:aR d i=8:=by omega
  rw[e];refine Br.aF (λc=>?_) (λc=>?_)<;>simp(disch:=omega)only[go_sem]
  .simp only[c,if_true];rfl
  .simp only[c,if_false];rfl
 .have e:aR d i=9:=by omega
  rw[e,if_neg (by omega)];rfl
def jm (id:Nat):ByteArray:=⟨#[109]⟩++Utf8.encode (97+(id:Int))
def pI (d:List Node)(i id:Nat)(p:Part):Bool:=decide (1+p.id%12=id)&&(dq d i p.type).isSome
def QF:Node:=⟨0,0,0,0,[]⟩
def nodeAt (d:List Node)(u:Nat):Node:=(d[u]?).getD QF
def nJ (d:List Node)(u:Nat)(p:Part):dO×Bool:=eM (initK d u) (nodeAt d u) (p.flag/4)
def ep (d:List Node)(i:Nat)(fl:Bool)(id:Nat)(p:Part):Mem:=
 ⟨id,jm id,gF (dq d i p.type),fl&&decide (p.flag%4=1),fl&&(decide (2<=p.flag%4)&&(nJ d ((dq d i p.type).getD 0) p).2),
  if (fl&&decide (2<=p.flag%4))=true then (nJ d ((dq d i p.type).getD 0) p).1 else bn⟩
def oU (d:List Node)(i:Nat)(fl:Bool)(ps:List Part)(id:Nat):Option Mem:=(ps.find? (pI d i id)).map (ep d i fl id)
def cm (d:List Node)(i:Nat)(fl:Bool)(ps:List Part)(k:Nat):List Mem:=(List.range k).filterMap λj=>oU d i fl ps (j+1)
theorem te (d:List Node)(i:Nat)(fl:Bool)(ps:List Part)(k:Nat):cm d i fl ps (k+1)=cm d i fl ps k++(oU d i fl ps (k+1)).toList:=by
 unfold cm;rw[abA,abT];congr 1
theorem pJ (d:List Node)(i:Nat)(fl:Bool)(ps:List Part)(k:Nat):(cm d i fl ps k).length<=k:=by
 unfold cm;exact Nat.le_trans (List.length_filterMap_le _ _) (by simp)
theorem Ia {t:Nat}{ps:List Part}{i:Nat}{p:Part}(h:ps[i]?=some p):kx 3 t (ps.map Part.c) (some (i:Int))=some (V.pv (.ro t p.c)):=by
 rw[qD,aap,h];rfl
theorem mm {d:List Node}{i code u:Nat}(h0:0<d.length)(hi:i<d.length)(h:dq d i code=some u):u<d.length:=by
 have hm:code%d.length<d.length:=aaP _ h0;unfold dq at h;split at h
 .cases h;exact hm
 .split at h
  .cases h;rename_i h1;exact Nat.lt_trans (aaP _ h1) hi
  .have:=ab1 h
   simpa using this
theorem wrap_i32 {x:Int}(h1: -2147483648<=x)(h2:x<=2147483647):IntKind.wrap .i32 x=x:=by
 show (if (true&&decide (x%(2^32:Int)≥(2^31:Int)))=true then x%(2^32:Int) - (2^32:Int) else x%(2^32:Int))=x;simp only[Bool.true_and,decide_eq_true_eq,Int.reducePow];by_cases h:x%4294967296≥2147483648
 .rw[if_pos h];omega
 .rw[if_neg h];omega
theorem YP {a:Nat}(h:a<=255):da .quo (.pv (.int .u8 (a:Int))) (.pv (.int .u8 4))=some (.pv (.int .u8 ((a/4:Nat):Int))):=by
 have e:(a:Int).tdiv 4=((a/4:Nat):Int):=(Int.ofNat_tdiv a 4).symm;rw[AM (by decide),e,wrap_u8 (by omega) (by omega)]
theorem Ib {k:Nat}(h:k<12):(Utf8.encode (97+((k+1:Nat):Int))).size=1:=by
 have:∀k:Fin 12,(Utf8.encode (97+((k.val+1:Nat):Int))).size=1:=by decide
 exact this ⟨k,h⟩
theorem FK {k:Nat}(h:k<12):da .add (.pv (.str ⟨#[109]⟩)) (.pv (.str (Utf8.encode (IntKind.wrap .i32 (97+((k+1:Nat):Int))))))=some (.pv (.str (jm (k+1)))):=by
 rw[wrap_i32 (by omega) (by omega)];have h1:(⟨#[109]⟩:ByteArray).size=1:=rfl;have h2:(1:Nat)+1<=1099511627776:=by omega
 simp only[da,mQ,h1,Ib h,h2,if_true,Option.map_some];rfl
set_option maxHeartbeats 4000000 in
theorem r302 (t:Nat)(d:List Node)(i:Nat)(fl:Bool)(x:Node)(hx:d[i]?=some x)(h0:i<d.length)(hl:d.length<=5)(hok:∀y∈d,y.ok):
  res A ay 302 [.agg [.ae t (d.map Node.cs)],.int .i64 i,.bool fl]=some [.ae 0 ((cm d i fl x.parts 12).map Mem.c)]:=by
 refine ai a302 rfl rfl ?_;simp only[F302,Ot];have hidx:kx 5 t (d.map Node.cs) (some (i:Int))=some (V.pv (.ro t [.int .u8 x.kind,.int .u8 x.a,.int .u8 x.b,.int .u8 x.c,.ae 0 (x.parts.map Part.c)])):=qP (t:=t) hx;have hxo:=hok x (aaj hx);obtain⟨_,hpl,hpo⟩:=hxo;unfold cc at hpl;simp(disch:=omega)only[go_sem,hidx];refine W.loop (α:=Nat×List aL×V) (λy=>⟨[(1,.pv (.int .i64 i)),(2,.pv (.bool fl)),(3,.ptr 3 0),(7,.ptr 7 0),(8,y.2.2),(9,.pv (.int .i64 ((y.1+1:Nat):Int)))],⟨[(3,[.pv (.ae t (d.map Node.cs))]),(7,[.pv (.int .u8 x.kind),.pv (.int .u8 x.a),.pv (.int .u8 x.b),.pv (.int .u8 x.c),.pv (.ae 0 (x.parts.map Part.c))])],y.2.1,[]⟩⟩)
  (λy=>y.1<=12/\lB 13 y.2.1 y.2.2 ((cm d i fl x.parts y.1).map Mem.c)) (λy=>12 - y.1) (0,[],.tl []) rfl ⟨aaS _,.inl ⟨rfl,rfl⟩⟩ λy hy=>?_
 obtain⟨k,ar,V0⟩:=y;obtain⟨hk,hO⟩:=hy;dsimp only at hk hO;have hsc:=λkb=>hO.same kb;simp(disch:=omega)only[go_sem,hsc];refine Br.aF (λc=>?_) (λc=>?_)
 rotate_left
 .obtain rfl:k=12:=by omega
  have hkeep:=λbx=>hO.kept bx [];simp(disch:=omega)only[go_sem,hsc,hkeep]
 simp(disch:=omega)only[go_sem,hsc];refine W.find x.parts (pI d i (k+1)) (λj=>⟨[(1,.pv (.int .i64 i)),(2,.pv (.bool fl)),(3,.ptr 3 0),(7,.ptr 7 0),(8,V0),(9,.pv (.int .i64 ((k+1:Nat):Int))),(10,.pv (.int .i64 j))],⟨[(3,[.pv (.ae t (d.map Node.cs))]),(7,[.pv (.int .u8 x.kind),.pv (.int .u8 x.a),.pv (.int .u8 x.b),.pv (.int .u8 x.c),.pv (.ae 0 (x.parts.map Part.c))])],ar,[]⟩⟩) rfl (λj p hp hj hfd=>?_) (λhn=>?_)
 rotate_left
 .have e:oU d i fl x.parts (k+1)=none:=by
   unfold oU;rw[hn.find];rfl
  simp(disch:=omega)only[go_sem,hsc];refine⟨(k+1,ar,V0),⟨by dsimp only;omega,?_⟩,by dsimp only;omega,rfl⟩;dsimp only;rw[te,e];simpa using hO
 have hidp:kx 3 0 (x.parts.map Part.c) (some (j:Int))=some (V.pv (.ro 0 [.int .u8 p.id,.int .u8 p.type,.int .u8 p.flag])):=Ia (t:=0) hp;obtain⟨pi,pt,pf⟩:=hpo p (aaj hp);have h321:=λt=>r321 t d i p.type (by omega) hl h0 pt;simp(disch:=omega)only[go_sem,hsc];refine Br.aF (λ_=>?_) (λc=>absurd (by omega) c);simp(disch:=omega)only[go_sem,hsc,hidp,h321,VH];refine Br.aF (λc1=>?_) (λc1=>?_)<;>simp(disch:=omega)only[go_sem,hsc,c1]
 rotate_left
 .have e:pI d i (k+1) p=false:=by
   have:¬1+p.id%12=k+1:=by omega
   simp[pI,this]
  exact aX.of e rfl
 cases htg:dq d i p.type with
 |none=>
  have e:pI d i (k+1) p=false:=by simp[pI,htg]
  have en:decide (gF none<0)=true:=rfl;simp(disch:=omega)only[go_sem,hsc,en];exact aX.of e rfl
 |some u=>
  have hu:=mm (by omega) h0 htg;have en:decide ((u:Int)<0)=false:=by simp
  have eu:gF (some u)=u:=rfl;have e:pI d i (k+1) p=true:=by
   have:1+p.id%12=k+1:=by omega
   simp[pI,htg,this]
  have em:oU d i fl x.parts (k+1)=some (ep d i fl (k+1) p):=by
   unfold oU;rw[(hfd e).find];rfl
  have hx2:d[u]?=some (nodeAt d u):=by
   unfold nodeAt;rw[aal hu];rfl
  have h322:=λt=>r322 t d u (p.flag/4) (nodeAt d u) hx2 hu hl (by omega) (hok _ (aaj hx2));have hnm:=FK (k:=k) (by omega);have hlen:=pJ d i fl x.parts k;simp(disch:=omega)only[go_sem,hsc,en,eu,hnm];have hnext:(cm d i fl x.parts (k+1)).map Mem.c=(cm d i fl x.parts k).map Mem.c++[(ep d i fl (k+1) p).c]:=by
   rw[te,em,aaR];rfl
  have hml:((cm d i fl x.parts k).map Mem.c).length+1<=2147483648:=by
   rw[aam];omega
  have hbare:∀cr:Bool,ep d i fl (k+1) p=⟨(k+1:Nat),jm (k+1),u,cr,false,bn⟩->zj [.pv (.int .i64 ((k+1:Nat):Int)),.pv (.str (jm (k+1))),.pv (.int .i64 u),.pv (.bool cr),.pv (.bool false),.pv (.int .i64 0),.pv (.bool false),.pv (.int .i64 0),.pv (.str ⟨#[]⟩),.pv (.int .i64 0),.tl [],.tl [],.tl []] (ep d i fl (k+1) p).c:=λcr he h d=>by
   rw[he];rfl
  cases fl with
  |false=>
   have hm:ep d i false (k+1) p=⟨(k+1:Nat),jm (k+1),u,false,false,bn⟩:=by simp[ep,htg,gF]
   obtain⟨V1,T,ar',happ,hT,_,_,hO'⟩:=addLit hO hml rfl (hbare _ hm);have hsc1:=λkb=>hO'.same kb;simp(disch:=omega)only[go_sem,hsc,happ,hT,hsc1];refine⟨(k+1,ar',V1),⟨by dsimp only;omega,by dsimp only;rw[hnext];exact hO'⟩,by dsimp only;omega,rfl⟩
  |true=>
   simp(disch:=omega)only[go_sem,hsc,KW];refine Br.aF (λc2=>?_) (λc2=>?_)<;>simp(disch:=omega)only[go_sem,hsc,c2,KW]
   .have hm:ep d i true (k+1) p=⟨(k+1:Nat),jm (k+1),u,true,false,bn⟩:=by
     have e1:p.flag%4=1:=by omega
     simp[ep,htg,gF,e1]
    obtain⟨V1,T,ar',happ,hT,_,_,hO'⟩:=addLit hO hml rfl (hbare _ hm);have hsc1:=λkb=>hO'.same kb;simp(disch:=omega)only[go_sem,happ,hT,hsc1];refine⟨(k+1,ar',V1),⟨by dsimp only;omega,by dsimp only;rw[hnext];exact hO'⟩,by dsimp only;omega,rfl⟩
   .refine Br.aF (λc3=>?_) (λc3=>?_)
    .have hq:=YP pf;have e1:¬p.flag%4=1:=by omega
     have e2:2<=p.flag%4:=by omega
     have hm:ep d i true (k+1) p=⟨(k+1:Nat),jm (k+1),u,false,(nJ d u p).2,(nJ d u p).1⟩:=by
      simp[ep,htg,gF,e1,e2]
     have ed:nJ d u p=eM (initK d u) (nodeAt d u) (p.flag/4):=rfl;rw[<- ed]at h322;generalize nJ d u p=iv at hm h322;unfold dO.c at h322;have hthin:zj ((ep d i true (k+1) p).c.map .pv) (ep d i true (k+1) p).c:=λh d=>by
      rw[hm];rfl
     have hadd:=H9 hO hml rfl hthin;rw[hm]at hadd;unfold Mem.c at hadd;dsimp only at hadd;obtain⟨V1,T,ar',happ,hT,_,_,hO'⟩:=hadd;have hsc1:=λkb=>hO'.same kb;simp(disch:=omega)only[go_sem,hsc,hq,h322,happ,hT,hsc1];refine⟨(k+1,ar',V1),⟨by dsimp only;omega,by dsimp only;rw[hnext,hm];exact hO'⟩,by dsimp only;omega,rfl⟩
    .have hm:ep d i true (k+1) p=⟨(k+1:Nat),jm (k+1),u,false,false,bn⟩:=by
      have e1:¬p.flag%4=1:=by omega
      have e2:¬2<=p.flag%4:=by omega
      simp[ep,htg,gF,e1,e2]
     obtain⟨V1,T,ar',happ,hT,_,_,hO'⟩:=addLit hO hml rfl (hbare _ hm);have hsc1:=λkb=>hO'.same kb;simp(disch:=omega)only[go_sem,happ,hT,hsc1];refine⟨(k+1,ar',V1),⟨by dsimp only;omega,by dsimp only;rw[hnext];exact hO'⟩,by dsimp only;omega,rfl⟩
def vF (ar:List aL)(V0:V)(ts:List aB):Prop:=(V0=.tl []/\ts=[])\/∃o aw,V0=.own o aw 0 ts.length/\De ar o aw ts
theorem QG {ar X:List aL}{V0 y:V}{ts:List aB}{t:aB}{new:Sum (List (List PV)) (List (List V))}{rd:Option Nat}{row:List V}(hO:vF ar V0 ts)(hm:ts.length+1<=2147483648)
  (hs:∀bx,bj ⟨bx,ar++X,[]⟩ y=some (new,rd))(hn:bl new=[row])(hrd:∀o,rd=some o->ar.length<=o)(hr:∀o,o<ar.length\/(ar++X).length<=o->nG (ar++X) o row t):
  ∃V1 T ar',(∀bx,aJ ⟨bx,ar++X,[]⟩ 10 V0 y=some (V1,T))/\(∀bx,T.apply ⟨bx,ar++X,[]⟩=⟨bx,ar',[]⟩)/\V1.cells=[V1]/\V1.calm=true/\vF ar' V1 (ts++[t]):=by
 have hrow:row.length=10:=(hr _ (.inr (aau _))).len;rcases hO with⟨rfl,rfl⟩|⟨o,aw,rfl,hrep⟩
 .refine⟨_,_,(ar++X)++[⟨0,10,aW (.inl []) new⟩],λbx=>FJ (hs bx) hn hrow,λbx=>?_,rfl,rfl,.inr ⟨(ar++X).length,0,rfl,?_⟩⟩
  .simp[Tn.apply]
  .refine⟨by simp,aW (.inl []) new,by simp,?_⟩;rw[jL,hn];have h1:nH ((ar++X)++[⟨0,10,aW (.inl []) new⟩]) (ar++X).length (bl (.inl [])) []:=⟨rfl,λi r u h1 _=>by simp[bl]at h1⟩;exact h1.snoc ((hr _ (.inr (aau _))).push _)
 .obtain⟨body,hb1,hb2⟩:=hrep.it;have hol:=(aak.1 hb1).1;have hb1':(ar++X)[o]?=some ⟨aw,10,body⟩:=by rw[aao hol];exact hb1
  have hbl:aE body=ts.length:=by rw[<- gk];exact hb2.len
  have happ:=λbx=>H7 (bx:=bx) (mp:=[]) (hs bx) hn hrow hb1' hbl (λe=>by have:=hrd o e;omega) hm;rw[EB (aw:=aw) hbl rfl]at happ;refine⟨_,_,(ar++X).set o ⟨aw+1,10,aW body new⟩,happ,λbx=>?_,rfl,rfl,.inr ⟨o,aw+1,by simp,?_⟩⟩
  .simp[Tn.apply]
  .refine⟨by simp,aW body new,?_,?_⟩
   .rw[aaG (by rw[aas];omega)]
   .rw[jL,hn];exact(((hb2.push X).set _).snoc ((hr o (.inl hol)).set _))
theorem xM {ar X0:List aL}{V0:V}{ts:List aB}{t:aB}{row:List V}{n:Nat}(hO:vF ar V0 ts)(hm:ts.length+1<=2147483648)(hl:(ar++X0).length=n)
  (hr:∀o,o<ar.length\/n+1<=o->nG (ar++X0++[⟨0,10,.inr [row]⟩]) o row t):
  ∃V1 T ar',(∀bx,aJ ⟨bx,ar++X0++[⟨0,10,.inr [row]⟩],[]⟩ 10 V0 (.own n 0 0 1)=some (V1,T))/\(∀bx,T.apply ⟨bx,ar++X0++[⟨0,10,.inr [row]⟩],[]⟩=⟨bx,ar',[]⟩)/\V1.cells=[V1]/\V1.calm=true/\vF ar' V1 (ts++[t]):=by
 rw[aay]at hr |-;refine QG (X:=X0++[⟨0,10,.inr [row]⟩]) (new:=.inr [row]) (rd:=some n) hO hm (λbx=>?_) rfl (λo ho=>?_) (λo ho=>hr o ?_)
 .have hg:(ar++(X0++[⟨0,10,.inr [row]⟩]))[n]?=some ⟨0,10,.inr [row]⟩:=by
   rw[<- aay,<- hl];simp
  simp[bj,aC,hg,aD]
 .injection ho with ho;rw[<- ho,<- hl,aas];omega
 .rcases ho with ho|ho
  .exact .inl ho
  .rw[<- aay,aas,hl]at ho;exact .inr ho
theorem vF.bV {ar:List aL}{V0:V}{ts:List aB}(h:vF ar V0 ts)(bx:List (Nat×List V))(mp:List (List (PV×PV))):bd ⟨bx,ar,mp⟩ 4 V0=some (.ae 0 (ts.map aB.c)):=by
 rcases h with⟨rfl,rfl⟩|⟨o,aw,rfl,hrep⟩
 .rfl
 .exact hrep.bV bx mp
theorem iZ {ar:List aL}{o:Nat}{t:aB}(hs:t.syms=[])(hm:t.aO=[]):nG ar o [.pv (.int .i64 t.kind),.pv (.str t.name),.pv (.int .i64 t.low),.pv (.int .i64 t.high),.pv (.int .i64 t.max),.tl [],.tl [],.pv (.int .i64 t.key),.pv (.int .i64 t.elem),.pv (.bool t.jO)] t:=
 ⟨.tl [],.tl [],rfl,.inr (.inr (by rw[hs];rfl)),.inr (.inr (by rw[hm];rfl))⟩
theorem mem_row {ar:List aL}{o:Nat}{t:aB}(hs:t.syms=[]):nG ar o [.pv (.int .i64 t.kind),.pv (.str t.name),.pv (.int .i64 t.low),.pv (.int .i64 t.high),.pv (.int .i64 t.max),.tl [],.pv (.ae 0 (t.aO.map Mem.c)),.pv (.int .i64 t.key),.pv (.int .i64 t.elem),.pv (.bool t.jO)] t:=
 ⟨.tl [],_,rfl,.inr (.inr (by rw[hs];rfl)),.inl rfl⟩
theorem vF.quiet {ar:List aL}{V0:V}{ts:List aB}(h:vF ar V0 ts):V0.calm=true/\V0.cells=[V0]:=by
 rcases h with⟨rfl,rfl⟩|⟨o,aw,rfl,_⟩<;>exact⟨rfl,rfl⟩
theorem kV {ar:List aL}{V0:V}{ts:List aB}{t:aB}{row:List V}(hO:vF ar V0 ts)(hm:ts.length+1<=2147483648)(hr:∀ar o,nG ar o row t):
  ∃V1 T ar',(∀bx,aJ ⟨bx,ar++[⟨0,10,.inr [row]⟩],[]⟩ 10 V0 (.own ar.length 0 0 1)=some (V1,T))/\(∀bx,T.apply ⟨bx,ar++[⟨0,10,.inr [row]⟩],[]⟩=⟨bx,ar',[]⟩)/\V1.cells=[V1]/\V1.calm=true/\vF ar' V1 (ts++[t]):=by
 have:=xM (X0:=[]) (row:=row) (n:=ar.length) hO hm (by simp) (λo _=>hr _ o);simpa only[List.append_nil]using this
def bk (k:Int)(nm:ByteArray):aB:=⟨k,nm,0,0,0,[],[],0,0,false⟩
def db (i:Nat):ByteArray:=Utf8.encode (65+(i:Int))
def pK (n:Nat):Sym:=⟨n,⟨#[115]⟩++Utf8.encode (97+(n:Int))⟩
def ki (a:Nat):List Sym:=(gU a).map pK
theorem FL {n:Nat}(h:n<=12):(Utf8.encode (97+(n:Int))).size=1:=by
 have:∀k:Fin 13,(Utf8.encode (97+((k.val:Nat):Int))).size=1:=by decide
 exact this ⟨n,by omega⟩
theorem Ic {n:Nat}(h:n<=12):da .add (.pv (.str ⟨#[115]⟩)) (.pv (.str (Utf8.encode (97+(n:Int)))))=some (.pv (.str (pK n).name)):=by
 have h1:(⟨#[115]⟩:ByteArray).size=1:=rfl;have h2:(1:Nat)+1<=1099511627776:=by omega
 simp only[da,mQ,h1,FL h,h2,if_true,Option.map_some];rfl
theorem mn {a n:Nat}(h:n∈gU a):1<=n/\n<=6:=by
 unfold gU at h;split at h
 .simp at h;omega
 .obtain⟨m,hm,rfl⟩:=aaq.1 h;unfold j7 at hm;have:=aaV.1 (aby.1 hm).1;omega
def Ie (n:Nat):List PV:=[.int .i64 n,.str (pK n).name]
def hZ (l:List Nat)(j:Nat):List (List PV):=(l.take j).map Ie
theorem Di {l:List Nat}{j n:Nat}(h:l[j]?=some n):hZ l (j+1)=hZ l j++[Ie n]:=by
 unfold hZ;rw[aaH,h,aaR];rfl
theorem Ig {ar X:List aL}{o:Nat}{l:List Nat}(hl:l≠[])(ho:o<ar.length\/ar.length+2<=o):Home (ar++cG 2 (hZ l l.length)++X) o 2 (dn ar.length (hZ l l.length)) ((l.map pK).map Sym.c):=by
 have e:hZ l l.length=(l.map pK).map Sym.c:=by
  unfold hZ;rw[aaQ,aa6];rfl
 rw[e];cases l with
 |nil=>exact absurd rfl hl
 |cons n l=>
  refine .inr (.inl ⟨ar.length,((l.map pK).map Sym.c).length,rfl,by omega,?_⟩);rw[aay,aav (aau _),acf];rfl
def bh (d:List Node)(i:Nat):aB:=
 if aR d i=2 then {bk 2 ⟨#[]⟩ with low:=lu (nodeAt d i),high:=nA (nodeAt d i)}
 else if aR d i=3 then {bk 3 ⟨#[]⟩ with max:=((nodeAt d i).a%4:Nat)}
 else if aR d i=4 then {bk 4 (db i)with syms:=ki (nodeAt d i).a,jO:=decide ((nodeAt d i).b%2=1)}
 else if aR d i=5 then {bk 5 (db i)with aO:=cm d i true (nodeAt d i).parts 12}
 else if aR d i=6 then (if (cm d i false (nodeAt d i).parts 12).length=0 then bk 5 (db i) else {bk 6 (db i)with aO:=cm d i false (nodeAt d i).parts 12,jO:=decide ((nodeAt d i).b%2=1)})
 else if aR d i=7 then {bk 7 ⟨#[]⟩ with max:=((nodeAt d i).a%4:Nat),elem:=((nodeAt d i).c%d.length:Nat)}
 else if aR d i=8 then (if kT d (nodeAt d i).b=none then {bk 7 ⟨#[]⟩ with max:=((nodeAt d i).a%4:Nat),elem:=((nodeAt d i).c%d.length:Nat)} else {bk 8 ⟨#[]⟩ with max:=((nodeAt d i).a%4:Nat),key:=gF (kT d (nodeAt d i).b),elem:=((nodeAt d i).c%d.length:Nat)})
 else if aR d i=9 then {bk 9 ⟨#[]⟩ with elem:=((nodeAt d i).c%d.length:Nat)}
 else bk 1 ⟨#[]⟩
def tN (d:List Node):List aB×Bool:=if d.length<1\/5<d.length then ([],false) else ((List.range d.length).map (bh d),true)
set_option maxHeartbeats 4000000 in
theorem r279 (t:Nat)(d:List Node)(hok:∀y∈d,y.ok)(hll:cc d):res A ay 279 [.agg [.ae t (d.map Node.cs)]]=some [.agg [.ae 0 ((tN d).1.map aB.c)],.bool (tN d).2]:=by
 refine ai a279 rfl rfl ?_;simp only[F279,Oa];unfold cc at hll;simp(disch:=omega)only[go_sem];unfold tN;refine Br.aF (λc=>?_) (λc=>?_)<;>simp(disch:=omega)only[go_sem,c]
 .rw[if_pos (.inl (by omega))];rfl
 refine Br.aF (λc2=>?_) (λc2=>?_)<;>simp(disch:=omega)only[go_sem,c2]
 .rw[if_pos (.inr (by omega))];rfl
 rw[if_neg (by omega)];refine W.loop (α:=Nat×List aL×V) (λy=>⟨[(1,.ptr 1 0),(2,.ptr 2 0),(4,.pv (.int .i64 d.length)),(5,.ptr 5 0),(6,.pv (.int .i64 y.1))],⟨[(1,[.pv (.ae t (d.map Node.cs))]),(2,[.tl []]),(5,[y.2.2])],y.2.1,[]⟩⟩)
  (λy=>y.1<=d.length/\vF y.2.1 y.2.2 ((List.range y.1).map (bh d))) (λy=>d.length - y.1) (0,[],.tl []) rfl ⟨aaS _,.inl ⟨rfl,rfl⟩⟩ λy hy=>?_
 obtain⟨i,ar,V0⟩:=y;obtain⟨hi,hO⟩:=hy;dsimp only at hi hO;simp(disch:=omega)only[go_sem];refine Br.aF (λc3=>?_) (λc3=>?_)
 rotate_left
 .obtain rfl:i=d.length:=by omega
  have hkeep:=λbx=>hO.bV bx [];obtain⟨hq1,hq2⟩:=hO.quiet;simp(disch:=omega)only[go_sem,hkeep,hq1]
 have hx:d[i]?=some (nodeAt d i):=by
  unfold nodeAt;rw[aal (by omega)];rfl
 have hidx:kx 5 t (d.map Node.cs) (some (i:Int))=some (V.pv (.ro t [.int .u8 (nodeAt d i).kind,.int .u8 (nodeAt d i).a,.int .u8 (nodeAt d i).b,.int .u8 (nodeAt d i).c,.ae 0 ((nodeAt d i).parts.map Part.c)])):=qP (t:=t) hx;have h298:=λt=>r298 t d i (by omega);have h286:=r286 (aR d i:Int);obtain⟨k1,k9⟩:=dY d i;have hk0:(aR d i:Int)=1\/(aR d i:Int)=2\/(aR d i:Int)=3\/(aR d i:Int)=4\/(aR d i:Int)=5\/(aR d i:Int)=6\/(aR d i:Int)=7\/(aR d i:Int)=8\/(aR d i:Int)=9:=by omega
 have hnext:(List.range (i+1)).map (bh d)=(List.range i).map (bh d)++[bh d i]:=by
  rw[abA,aaR];rfl
 have hml:((List.range i).map (bh d)).length+1<=2147483648:=by simp;omega
 have hxo:=hok _ (aaj hx);obtain⟨⟨_,xa,xb,xc⟩,_⟩:=hxo;have hcn:(nodeAt d i).c%d.length<d.length:=aaP _ (by omega);have hrn:=jh (k:=.i64) (a:=(nodeAt d i).c) (n:=d.length) (by omega);have h4:(nodeAt d i).a%4<4:=aaP _ (by decide);have h299:=r299 (nodeAt d i);have h300:=r300 (nodeAt d i);have h301:=r301 (nodeAt d i);have h302:=λt fl=>r302 t d i fl _ hx (by omega) (by omega) hok;have h303:=λt=>r303 t d (nodeAt d i).b (by omega) (by omega) xb;unfold Node.cs at h299 h300 h301;simp(disch:=omega)only[go_sem,hidx,h298,h286];rcases hk0 with hk|hk|hk|hk|hk|hk|hk|hk|hk
 all_goals simp(disch:=omega)only[go_sem,hk,KX,KW,hrn,h299,h300,h301,h302,h303,Bj,wrap_i32,VI]
 .have e:aR d i=1:=by omega
  have hty:bh d i=bk 1 ⟨#[]⟩:=by simp only[bh,e];rfl
  have hb:=kV (t:=bk 1 ⟨#[]⟩) hO hml (λar o=>iZ rfl rfl);obtain⟨V1,T,ar',happ,hT,hc1,hc2,hO'⟩:=hb;dsimp only[bk,db]at happ hT;simp(disch:=omega)only[go_sem,happ,hT,hc1,hc2];refine⟨(i+1,ar',V1),⟨by dsimp only;omega,by dsimp only;rw[hnext,hty];exact hO'⟩,by dsimp only;omega,rfl⟩
 .have e:aR d i=2:=by omega
  have hty:bh d i={bk 2 ⟨#[]⟩ with low:=lu (nodeAt d i),high:=nA (nodeAt d i)}:=by simp only[bh,e];rfl
  have hb:=kV (t:={bk 2 ⟨#[]⟩ with low:=lu (nodeAt d i),high:=nA (nodeAt d i)}) hO hml (λar o=>iZ rfl rfl);obtain⟨V1,T,ar',happ,hT,hc1,hc2,hO'⟩:=hb;dsimp only[bk,db]at happ hT;simp(disch:=omega)only[go_sem,happ,hT,hc1,hc2];refine⟨(i+1,ar',V1),⟨by dsimp only;omega,by dsimp only;rw[hnext,hty];exact hO'⟩,by dsimp only;omega,rfl⟩
 .have e:aR d i=3:=by omega
  have hty:bh d i={bk 3 ⟨#[]⟩ with max:=((nodeAt d i).a%4:Nat)}:=by simp only[bh,e];rfl
  have hb:=kV (t:={bk 3 ⟨#[]⟩ with max:=((nodeAt d i).a%4:Nat)}) hO hml (λar o=>iZ rfl rfl);obtain⟨V1,T,ar',happ,hT,hc1,hc2,hO'⟩:=hb;dsimp only[bk,db]at happ hT;simp(disch:=omega)only[go_sem,happ,hT,hc1,hc2];refine⟨(i+1,ar',V1),⟨by dsimp only;omega,by dsimp only;rw[hnext,hty];exact hO'⟩,by dsimp only;omega,rfl⟩
 .have e:aR d i=4:=by omega
  have hty:bh d i={bk 4 (db i)with syms:=ki (nodeAt d i).a,jO:=decide ((nodeAt d i).b%2=1)}:=by simp only[bh,e];rfl
  obtain⟨n0,n6⟩:=lC (nodeAt d i).a;have hir:=λn (h:n∈gU (nodeAt d i).a)=>mn h;have hne:gU (nodeAt d i).a≠[]:=List.length_pos_iff.1 n0;unfold ki at hty;generalize gU (nodeAt d i).a=l at *;have hnl:(wM l).length=l.length:=aam _;refine W.dx l.length (λj=>⟨[(1,.ptr 1 0),(2,.ptr 2 0),(4,.pv (.int .i64 d.length)),(5,.ptr 5 0),(6,.pv (.int .i64 i)),(8,.ptr 8 0),(9,.pv (.ae 0 (ints (wM l)))),(10,.pv (.int .i64 (j:Nat)))],⟨[(1,[.pv (.ae t (d.map Node.cs))]),(2,[.tl []]),(5,[V0]),(8,[.pv (.int .i64 4),.pv (.str (Utf8.encode (65+(i:Int)))),.pv (.int .i64 0),.pv (.int .i64 0),.pv (.int .i64 0),dn ar.length (hZ l j),.tl [],.pv (.int .i64 0),.pv (.int .i64 0),.pv (.bool (decide ((nodeAt d i).b%2=1)))])],ar++cG 2 (hZ l j),[]⟩⟩) (λ_=>True) ?_ trivial (λj hj _=>?_)
  .have e0:hZ l 0=[]:=rfl;rw[e0,ED,EE,abb];rfl
  simp(disch:=omega)only[go_sem];refine Br.aF (λcj=>?_) (λcj=>?_)
  .have hgj:=aal (l:=l) (i:=j) (by omega);generalize l[j]'(by omega)=n at hgj;obtain⟨g1,g6⟩:=hir n (aaj hgj);have hat:(wM l)[j]?=some ((n:Nat):Int):=by
    rw[EF (by omega),hgj];rfl
   have hadd:=Ic (n:=n) (by omega);have hrl:(hZ l j).length<=6:=by unfold hZ;simp;omega
   have hgrow:=λbx=>grow bx [] ar 2 (hZ l j) (Ie n) rfl (by omega);have hgt:=λbx=>fy bx [] ar 2 (hZ l j) (Ie n);rw[<- Di hgj]at hgrow hgt;unfold Ie at hgrow hgt;simp(disch:=omega)only[go_sem,hat,wrap_i32,hadd,hgrow,hgt];exact .of (by omega) rfl trivial
  .obtain rfl:j=l.length:=by omega
   have hga:(cG 2 (hZ l l.length)).length=1:=by
    cases l with
    |nil=>exact absurd rfl hne
    |cons x l=>rfl
   have hb:=xM (t:={bk 4 (db i)with syms:=l.map pK,jO:=decide ((nodeAt d i).b%2=1)}) (X0:=cG 2 (hZ l l.length)) (n:=ar.length+(cG 2 (hZ l l.length)).length) hO hml (by rw[aas]) (λo ho=>⟨dn ar.length (hZ l l.length),.tl [],rfl,Ig hne (by omega),.inr (.inr rfl)⟩);obtain⟨V1,T,ar',happ,hT,hc1,hc2,hO'⟩:=hb;dsimp only[bk,db]at happ hT;simp(disch:=omega)only[go_sem,happ,hT,hc1,hc2];refine⟨(i+1,ar',V1),⟨by dsimp only;omega,by dsimp only;rw[hnext,hty];exact hO'⟩,by dsimp only;omega,rfl⟩
 .have e:aR d i=5:=by omega
  have hty:bh d i={bk 5 (db i)with aO:=cm d i true (nodeAt d i).parts 12}:=by simp only[bh,e];rfl
  have hb:=kV (t:={bk 5 (db i)with aO:=cm d i true (nodeAt d i).parts 12}) hO hml (λar o=>mem_row rfl);obtain⟨V1,T,ar',happ,hT,hc1,hc2,hO'⟩:=hb;dsimp only[bk,db]at happ hT;simp(disch:=omega)only[go_sem,happ,hT,hc1,hc2];refine⟨(i+1,ar',V1),⟨by dsimp only;omega,by dsimp only;rw[hnext,hty];exact hO'⟩,by dsimp only;omega,rfl⟩
 .have e:aR d i=6:=by omega
  have hty0:bh d i=if (cm d i false (nodeAt d i).parts 12).length=0 then bk 5 (db i) else {bk 6 (db i)with aO:=cm d i false (nodeAt d i).parts 12,jO:=decide ((nodeAt d i).b%2=1)}:=by simp only[bh,e];rfl
  refine Br.aF (λc6=>?_) (λc6=>?_)<;>simp(disch:=omega)only[go_sem]
  .have hty:bh d i=bk 5 (db i):=by rw[hty0,if_pos (by omega)]
   have hb:=kV (t:=bk 5 (db i)) hO hml (λar o=>iZ rfl rfl);obtain⟨V1,T,ar',happ,hT,hc1,hc2,hO'⟩:=hb;dsimp only[bk,db]at happ hT;simp(disch:=omega)only[go_sem,happ,hT,hc1,hc2];refine⟨(i+1,ar',V1),⟨by dsimp only;omega,by dsimp only;rw[hnext,hty];exact hO'⟩,by dsimp only;omega,rfl⟩
  .have hty:bh d i={bk 6 (db i)with aO:=cm d i false (nodeAt d i).parts 12,jO:=decide ((nodeAt d i).b%2=1)}:=by rw[hty0,if_neg (by omega)]
   have hb:=kV (t:={bk 6 (db i)with aO:=cm d i false (nodeAt d i).parts 12,jO:=decide ((nodeAt d i).b%2=1)}) hO hml (λar o=>mem_row rfl);obtain⟨V1,T,ar',happ,hT,hc1,hc2,hO'⟩:=hb;dsimp only[bk,db]at happ hT;simp(disch:=omega)only[go_sem,happ,hT,hc1,hc2];refine⟨(i+1,ar',V1),⟨by dsimp only;omega,by dsimp only;rw[hnext,hty];exact hO'⟩,by dsimp only;omega,rfl⟩
 .have e:aR d i=7:=by omega
  have hty:bh d i={bk 7 ⟨#[]⟩ with max:=((nodeAt d i).a%4:Nat),elem:=((nodeAt d i).c%d.length:Nat)}:=by simp only[bh,e];rfl
  have hb:=kV (t:={bk 7 ⟨#[]⟩ with max:=((nodeAt d i).a%4:Nat),elem:=((nodeAt d i).c%d.length:Nat)}) hO hml (λar o=>iZ rfl rfl);obtain⟨V1,T,ar',happ,hT,hc1,hc2,hO'⟩:=hb;dsimp only[bk,db]at happ hT;simp(disch:=omega)only[go_sem,happ,hT,hc1,hc2];refine⟨(i+1,ar',V1),⟨by dsimp only;omega,by dsimp only;rw[hnext,hty];exact hO'⟩,by dsimp only;omega,rfl⟩
 .have e:aR d i=8:=by omega
  have hty0:bh d i=if kT d (nodeAt d i).b=none then {bk 7 ⟨#[]⟩ with max:=((nodeAt d i).a%4:Nat),elem:=((nodeAt d i).c%d.length:Nat)} else {bk 8 ⟨#[]⟩ with max:=((nodeAt d i).a%4:Nat),key:=gF (kT d (nodeAt d i).b),elem:=((nodeAt d i).c%d.length:Nat)}:=by simp only[bh,e];rfl
  refine Br.aF (λc8=>?_) (λc8=>?_)<;>simp(disch:=omega)only[go_sem]
  .have hty:bh d i={bk 7 ⟨#[]⟩ with max:=((nodeAt d i).a%4:Nat),elem:=((nodeAt d i).c%d.length:Nat)}:=by rw[hty0,if_pos c8]
   have hb:=kV (t:={bk 7 ⟨#[]⟩ with max:=((nodeAt d i).a%4:Nat),elem:=((nodeAt d i).c%d.length:Nat)}) hO hml (λar o=>iZ rfl rfl);obtain⟨V1,T,ar',happ,hT,hc1,hc2,hO'⟩:=hb;dsimp only[bk,db]at happ hT;simp(disch:=omega)only[go_sem,happ,hT,hc1,hc2];refine⟨(i+1,ar',V1),⟨by dsimp only;omega,by dsimp only;rw[hnext,hty];exact hO'⟩,by dsimp only;omega,rfl⟩
  .have hty:bh d i={bk 8 ⟨#[]⟩ with max:=((nodeAt d i).a%4:Nat),key:=gF (kT d (nodeAt d i).b),elem:=((nodeAt d i).c%d.length:Nat)}:=by rw[hty0,if_neg c8]
   have hb:=kV (t:={bk 8 ⟨#[]⟩ with max:=((nodeAt d i).a%4:Nat),key:=gF (kT d (nodeAt d i).b),elem:=((nodeAt d i).c%d.length:Nat)}) hO hml (λar o=>iZ rfl rfl);obtain⟨V1,T,ar',happ,hT,hc1,hc2,hO'⟩:=hb;dsimp only[bk,db]at happ hT;simp(disch:=omega)only[go_sem,happ,hT,hc1,hc2];refine⟨(i+1,ar',V1),⟨by dsimp only;omega,by dsimp only;rw[hnext,hty];exact hO'⟩,by dsimp only;omega,rfl⟩
 .have e:aR d i=9:=by omega
  have hty:bh d i={bk 9 ⟨#[]⟩ with elem:=((nodeAt d i).c%d.length:Nat)}:=by simp only[bh,e];rfl
  have hb:=kV (t:={bk 9 ⟨#[]⟩ with elem:=((nodeAt d i).c%d.length:Nat)}) hO hml (λar o=>iZ rfl rfl);obtain⟨V1,T,ar',happ,hT,hc1,hc2,hO'⟩:=hb;dsimp only[bk,db]at happ hT;simp(disch:=omega)only[go_sem,happ,hT,hc1,hc2];refine⟨(i+1,ar',V1),⟨by dsimp only;omega,by dsimp only;rw[hnext,hty];exact hO'⟩,by dsimp only;omega,rfl⟩
theorem zk:∀k:Fin 13,isName (jm k.val)=true:=by decide
theorem FM:∀j k:Fin 13,jm j.val=jm k.val->j=k:=by decide
theorem Bk:∀k:Fin 13,isName (pK k.val).name=true:=by decide
theorem Ih:∀j k:Fin 13,(pK j.val).name=(pK k.val).name->j=k:=by decide
theorem qQ:∀k:Fin 5,isName (db k.val)=true:=by decide
theorem FN:∀j k:Fin 5,db j.val=db k.val->j=k:=by decide
theorem vG {L:List Nat}{f:Nat->ByteArray}(hp:L.Pairwise (·<·))(h1:∀n∈L,1<=n/\n<=12)(hf:∀m n,m<=12->n<=12->f m=f n->m=n)(hn:∀n,n<=12->isName (f n)=true):jk (L.map λ(n:Nat)=>((n:Int),f n))=true:=by
 unfold jk;rw[Bool.not_eq_true',aaW];intro k hk;have hkl:k<L.length:=by simpa using hk
 have hg:=aal hkl;obtain⟨g1,g2⟩:=h1 _ (abj hkl);have e:iX (L.map λ(n:Nat)=>((n:Int),f n)) k=iW (L.map λ(n:Nat)=>((n:Int),f n)) k ((L[k]:Int),f L[k]):=by
  unfold iX;rw[aap,hg];rfl
 rw[e];have d1:decide (((L[k]:Nat):Int)<1)=false:=by simp;omega
 have d2:decide (1000<((L[k]:Nat):Int))=false:=by simp;omega
 have d3:(decide (0<k)&&decide (((L[k]:Nat):Int)<=lx (L.map λ(n:Nat)=>((n:Int),f n)) k))=false:=by
  by_cases h0:0<k
  .have hlt:=abh.1 hp (k - 1) k (by omega) hkl (by omega);have hq:lx (L.map λ(n:Nat)=>((n:Int),f n)) k=((L[k - 1]'(by omega):Nat):Int):=by
    unfold lx;rw[aap,aal (show k - 1<L.length by omega)];rfl
   rw[hq];simp;omega
  .simp[h0]
 have d4:cz (((L.map λ(n:Nat)=>((n:Int),f n)).map (·.2)).take k) (f L[k])=false:=by
  rw[abp];intro h;rw[fh,aa6,<- abl]at h;obtain⟨m,hm,he⟩:=aaq.1 h;obtain⟨j,hj⟩:=aan.1 hm;rw[aax]at hj;split at hj
  .rename_i hjk;obtain⟨hjl,hjm⟩:=aak.1 hj;have hlt:=abh.1 hp j k hjl hkl hjk;obtain⟨m1,m2⟩:=h1 m (aaj hj);have:=hf m L[k] m2 g2 he;omega
  .cases hj
 unfold iW;rw[d1,d2,d3,d4,hn _ g2];simp
theorem Ii (a:Nat):kg (ki a)=true:=by
 have hp:(gU a).Pairwise (·<·):=by
  unfold gU;split
  .exact abN _ _
  .rw[abW];unfold j7;exact((ab9).filter _).imp (λh=>by omega)
 obtain⟨n0,n6⟩:=lC a;have hi:=vG (f:=λn=>(pK n).name) hp (λn hn=>by have:=mn hn;omega) (λm n h1 h2 h=>by have:=Ih ⟨m,by omega⟩ ⟨n,by omega⟩ h;simpa using this) (λn h=>Bk ⟨n,by omega⟩);have e:(ki a).map Sym.nm=(gU a).map λ(n:Nat)=>((n:Int),(pK n).name):=by
  unfold ki;rw[aa6];rfl
 have el:(ki a).length=(gU a).length:=aam _;unfold kg;rw[e,hi,el];simp;omega
theorem Bl {d:List Node}{i:Nat}{fl:Bool}{ps:List Part}{id:Nat}{m:Mem}(h:oU d i fl ps id=some m):∃p,ep d i fl id p=m/\pI d i id p=true/\p∈ps:=by
 unfold oU at h;cases hf:ps.find? (pI d i id)with
 |none=>simp[hf]at h
 |some p=>
  rw[hf]at h;exact⟨p,by simpa using h,List.find?_some hf,List.mem_of_find?_eq_some hf⟩
theorem Ij {k:Nat}{x:Node}{code:Nat}(h:(eM k x code).2=false):(eM k x code).1=bn:=by
 unfold eM at h |-
 repeat' split at h
 all_goals first
  |(cases h;done)
  |skip
 rename_i h1 h2 h3 h4 h5;rw[if_neg h1,if_neg h2,if_neg h3,if_neg h4,if_pos h5]
theorem Dj (d:List Node)(i:Nat)(fl:Bool)(id:Nat)(p:Part):fi fl (ep d i fl id p)=false:=by
 cases fl with
 |false=>simp[fi,ep,eqv]
 |true=>
  unfold fi ep;dsimp only;simp only[Bool.true_and,Bool.not_true,Bool.false_and,Bool.false_or];by_cases h1:p.flag%4=1
  .simp[h1,eqv]
  by_cases h2:2<=p.flag%4
  .cases hv:(nJ d ((dq d i p.type).getD 0) p).2 with
   |true=>simp[h1,h2]
   |false=>
    have:=Ij hv;have e:(nJ d ((dq d i p.type).getD 0) p).1=bn:=this;simp[h1,h2,eqv,e]
  .simp[h1,h2,eqv]
theorem EG {g:Nat->Option Mem}(h:∀j m,g j=some m->m.nm=(((j+1:Nat):Int),jm (j+1))):∀xs:List Nat,(xs.filterMap g).map Mem.nm=(((xs.filter λj=>(g j).isSome).map (·+1)).map λ(n:Nat)=>((n:Int),jm n))
 |[]=>rfl
 |x::xs=>by
  have ih:=EG h xs;cases hg:g x with
  |none=>simp[hg,ih]
  |some m=>
   have:=h x m hg;simp[hg,ih,this]
theorem Ik {d:List Node}{i:Nat}{fl:Bool}{ps:List Part}{id:Nat}{m:Mem}(h:oU d i fl ps id=some m):m.nm=((id:Int),jm id):=by
 obtain⟨p,rfl,_⟩:=Bl h;rfl
theorem mq {d:List Node}{i:Nat}{fl:Bool}{ps:List Part}{k:Nat}{m:Mem}(h:m∈cm d i fl ps k):∃id p,ep d i fl id p=m/\pI d i id p=true/\p∈ps/\1<=id/\id<=k:=by
 unfold cm at h;obtain⟨j,hj,hm⟩:=aba.1 h;obtain⟨p,h1,h2,h3⟩:=Bl hm;exact⟨j+1,p,h1,h2,h3,by omega,by have:=aaV.1 hj;omega⟩
theorem xN (d:List Node)(i:Nat)(fl:Bool)(ps:List Part)(h:fl=true\/(cm d i fl ps 12).length≠0):dz fl (cm d i fl ps 12)=true:=by
 have hl:=pJ d i fl ps 12;have e1:(cm d i fl ps 12).any (fi fl)=false:=by
  rw[aaW];intro m hm;obtain⟨id,p,rfl,_⟩:=mq hm;rw[Dj];simp
 have e2:=EG (g:=λj=>oU d i fl ps (j+1)) (λj m h=>Ik h) (List.range 12);have e3:jk ((cm d i fl ps 12).map Mem.nm)=true:=by
  unfold cm;rw[e2];refine vG ?_ (λn hn=>?_) (λm n h1 h2 h=>by have:=FM ⟨m,by omega⟩ ⟨n,by omega⟩ h;simpa using this) (λn h=>zk ⟨n,by omega⟩)
  .rw[abW];exact((ab9).filter _).imp (λh=>by omega)
  .obtain⟨m,hm,rfl⟩:=aaq.1 hn;have:=aaV.1 (aby.1 hm).1;omega
 unfold dz;rw[e1,e3];rcases h with rfl|h
 .simp;omega
 .simp;omega
theorem si {d:List Node}{code q:Nat}(h0:0<d.length)(h:kT d code=some q):q<d.length/\aR d q<=4:=by
 unfold kT at h;cases hf:(List.range d.length).find? (λk=>decide (aR d ((code+k)%d.length)<=4))with
 |none=>simp[hf]at h
 |some k=>
  rw[hf]at h;have hq:(code+k)%d.length=q:=by simpa using h
  have:=abS hf;rw[hq]at this;exact⟨by rw[<- hq];exact Nat.mod_lt _ h0,by simpa using this⟩
theorem Il (d:List Node)(i:Nat)(hi:i<5):dA (bh d i)=true:=by
 obtain⟨k1,k9⟩:=dY d i;have hb6:(nodeAt d i).b%6<6:=aaP _ (by decide);have h4:(nodeAt d i).a%4<4:=aaP _ (by decide);have hhi:lu (nodeAt d i)<=nA (nodeAt d i):=by unfold nA;omega
 have hn:=qQ ⟨i,hi⟩;dsimp only at hn;have hs:=Ii (nodeAt d i).a;have p1:=xN d i true (nodeAt d i).parts (.inl rfl);have p2:=xN d i false (nodeAt d i).parts;have hk0:aR d i=1\/aR d i=2\/aR d i=3\/aR d i=4\/aR d i=5\/aR d i=6\/aR d i=7\/aR d i=8\/aR d i=9:=by omega
 rcases hk0 with hk|hk|hk|hk|hk|hk|hk|hk|hk
 .simp[bh,hk,dA,bk,cB,cA,eqv,kindOk]
 .simp[bh,hk,dA,bk,cB,cA,eqv,kindOk,hhi]
 .simp[bh,hk,dA,bk,cB,cA,eqv,kindOk];omega
 .simp[bh,hk,dA,bk,cB,cA,eqv,kindOk,hn,hs]
 .simp[bh,hk,dA,bk,cB,cA,eqv,kindOk,hn,p1]
 .have e:bh d i=if (cm d i false (nodeAt d i).parts 12).length=0 then bk 5 (db i) else {bk 6 (db i)with aO:=cm d i false (nodeAt d i).parts 12,jO:=decide ((nodeAt d i).b%2=1)}:=by simp only[bh,hk];rfl
  rw[e];split
  .have em:dz true []=true:=by simp[dz,jk]
   simp[dA,bk,cB,cA,eqv,kindOk,hn,em]
  .rename_i h0;have:=p2 (.inr h0);simp[dA,bk,cB,cA,eqv,kindOk,hn,this]
 .simp[bh,hk,dA,bk,cB,cA,eqv,kindOk];omega
 .simp only[bh,hk];simp;split
  .simp[dA,bk,cB,cA,eqv,kindOk];omega
  .simp[dA,bk,cB,cA,eqv,kindOk];omega
 .simp[bh,hk,dA,bk,cB,cA,eqv,kindOk]
theorem nK {d:List Node}{i:Nat}(hk:aR d i=6):bh d i=if (cm d i false (nodeAt d i).parts 12).length=0 then bk 5 (db i) else {bk 6 (db i)with aO:=cm d i false (nodeAt d i).parts 12,jO:=decide ((nodeAt d i).b%2=1)}:=by simp only[bh,hk];rfl
theorem pL {d:List Node}{i:Nat}(hk:aR d i=8):bh d i=if kT d (nodeAt d i).b=none then {bk 7 ⟨#[]⟩ with max:=((nodeAt d i).a%4:Nat),elem:=((nodeAt d i).c%d.length:Nat)} else {bk 8 ⟨#[]⟩ with max:=((nodeAt d i).a%4:Nat),key:=gF (kT d (nodeAt d i).b),elem:=((nodeAt d i).c%d.length:Nat)}:=by simp only[bh,hk];rfl
theorem eB (d:List Node)(i:Nat):aR d i=1\/aR d i=2\/aR d i=3\/aR d i=4\/aR d i=5\/aR d i=6\/aR d i=7\/aR d i=8\/aR d i=9:=by
 have:=dY d i;omega
theorem xO (d:List Node)(i:Nat):(bh d i).name=⟨#[]⟩\/(bh d i).name=db i:=by
 rcases eB d i with hk|hk|hk|hk|hk|hk|hk|hk|hk
 case inr.inr.inr.inr.inr.inl=>
  rw[nK hk];split<;>simp[bk]
 case inr.inr.inr.inr.inr.inr.inr.inl=>
  rw[pL hk];split<;>simp[bk]
 all_goals simp[bh,hk,bk]
theorem FO {d:List Node}{i:Nat}(h:aR d i<=4):(bh d i).kind=aR d i:=by
 have:=dY d i;have hk:aR d i=1\/aR d i=2\/aR d i=3\/aR d i=4:=by omega
 rcases hk with hk|hk|hk|hk<;>simp[bh,hk,bk]
theorem Bm {d:List Node}{i:Nat}{fl:Bool}{ps:List Part}{k:Nat}(h0:0<d.length)(hi:i<d.length){m:Mem}(h:m∈cm d i fl ps k):0<=m.type/\m.type<d.length:=by
 obtain⟨id,p,rfl,hh,_⟩:=mq h;unfold pI at hh;cases ht:dq d i p.type with
 |none=>simp[ht]at hh
 |some u=>
  have:=mm h0 hi ht;show 0<=gF (dq d i p.type)/\gF (dq d i p.type)<d.length;rw[ht];unfold gF;dsimp only;omega
theorem FP {d:List Node}{i:Nat}(h0:0<d.length)(hi:i<d.length):∀u∈bw (bh d i),0<=u/\u<d.length:=by
 have hc:(nodeAt d i).c%d.length<d.length:=aaP _ h0;have hp:=λfl m (h:m∈cm d i fl (nodeAt d i).parts 12)=>Bm h0 hi h;have hm:∀fl,∀u:Int,u∈(cm d i fl (nodeAt d i).parts 12).map (·.type)->0<=u/\u<d.length:=λfl u hu=>by
  obtain⟨m,hm,rfl⟩:=aaq.1 hu;exact hp fl m hm
 intro u hu;rcases eB d i with hk|hk|hk|hk|hk|hk|hk|hk|hk
 case inr.inr.inr.inr.inr.inl=>
  rw[nK hk]at hu;split at hu
  .simp[bw,iY,fj,bk]at hu
  .refine hm false u ?_;simpa [bw,iY,fj,bk]using hu
 case inr.inr.inr.inr.inl=>
  refine hm true u ?_;simpa [bh,hk,bw,iY,fj,bk]using hu
 case inr.inr.inr.inr.inr.inr.inr.inl=>
  rw[pL hk]at hu;split at hu
  .simp only[bw,iY,fj,bk]at hu;simp at hu;omega
  .rename_i hq;cases hkey:kT d (nodeAt d i).b with
   |none=>exact absurd hkey hq
   |some q=>
    have:=si h0 hkey;rw[hkey]at hu;simp only[bw,iY,fj,bk,gF]at hu;simp at hu;omega
 case inr.inr.inr.inr.inr.inr.inl=>
  simp only[bh,hk,bw,iY,fj,bk]at hu;simp at hu;omega
 case inr.inr.inr.inr.inr.inr.inr.inr=>
  simp only[bh,hk,bw,iY,fj,bk]at hu;simp at hu;omega
 all_goals simp[bh,hk,bw,iY,fj,bk]at hu
theorem Im {d:List Node}{i:Nat}(h0:0<d.length)(h:(bh d i).kind=8):∃q:Nat,(bh d i).key=q/\q<d.length/\aR d q<=4:=by
 rcases eB d i with hk|hk|hk|hk|hk|hk|hk|hk|hk
 case inr.inr.inr.inr.inr.inl=>
  rw[nK hk]at h;split at h<;>simp[bk]at h
 case inr.inr.inr.inr.inr.inr.inr.inl=>
  rw[pL hk]at h |-;split at h
  .simp[bk]at h
  .rename_i hq;rw[if_neg hq];cases hkey:kT d (nodeAt d i).b with
   |none=>exact absurd hkey hq
   |some q=>exact⟨q,rfl,si h0 hkey⟩
 all_goals simp[bh,hk,bk]at h
theorem FQ {d:List Node}(h0:0<d.length)(h5:d.length<=5):bG ((List.range d.length).map (bh d))=0:=by
 have hlen:((List.range d.length).map (bh d)).length=d.length:=by simp
 have hget:∀k,k<d.length->((List.range d.length).map (bh d))[k]?=some (bh d k):=λk hk=>by
  rw[aap,abk hk];rfl
 unfold bG;rw[if_neg (by omega)];have hz:∀k∈List.range ((List.range d.length).map (bh d)).length,¬decide (dP ((List.range d.length).map (bh d)) k≠0)=true:=by
  intro k hk;have hk:k<d.length:=by rw[hlen]at hk;simpa using hk
  have e1:=Il d k (by omega);have e2:eW ((List.range d.length).map (bh d)) k (bh d k)=false:=by
   unfold eW;rcases xO d k with hn|hn
   .rw[hn];simp
   .have:cz ((((List.range d.length).map (bh d)).take k).map (·.name)) (bh d k).name=false:=by
     rw[abp];intro h;rw[fh]at h;obtain⟨t,ht,he⟩:=aaq.1 h;rw[<- abl]at ht;obtain⟨j,hj,rfl⟩:=aaq.1 ht;rw[List.take_range]at hj;have hj:=aaV.1 hj;rw[hn]at he;rcases xO d j with hm|hm
     .rw[hm]at he;have:=xG (qQ ⟨k,by omega⟩);exact this he.symm
     .rw[hm]at he;have:=FN ⟨j,by omega⟩ ⟨k,by omega⟩ he;simp at this;omega
    rw[this];simp
  have e3:(bw (bh d k)).any (cM ((List.range d.length).map (bh d)).length)=false:=by
   rw[aaW];intro u hu;have:=FP h0 hk u hu;rw[hlen];simp[cM];omega
  have e4:dU ((List.range d.length).map (bh d)) (bh d k)=false:=by
   unfold dU;by_cases h8:(bh d k).kind=8
   .obtain⟨q,hq1,hq2,hq3⟩:=Im h0 h8;have:gG ((List.range d.length).map (bh d)) (bh d k).key=aR d q:=by
     unfold gG;rw[hq1,aaU,hget q hq2,<- FO hq3];rfl
    have hr:=dY d q;have d1:decide ((1:Int)<=aR d q)=true:=by simp;omega
    have d2:decide ((aR d q:Int)<=4)=true:=by simp;omega
    rw[this,d1,d2];simp
   .simp[h8]
  have e5:dP ((List.range d.length).map (bh d)) k=0:=by
   simp only[dP,hget k hk,eA,e1,e2,e3,e4];rfl
  rw[e5];decide
 rw[abv.2 hz];rfl
end Go.Pv
