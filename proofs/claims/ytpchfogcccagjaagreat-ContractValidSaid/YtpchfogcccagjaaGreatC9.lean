/-
 What the functions of the law give.
-/
import Derived.Test.YtpchfogcccagjaaGreatC8
set_option linter.unusedSimpArgs false
set_option linter.unusedVariables false
open List renaming mem_of_getElem? → Wa, getElem?_eq_some_iff → V9, getElem?_append_left → We, length_append → Wz, take_of_length_le → Wq, length_take → W8, eq_nil_of_length_eq_zero → Wp, take_add_one → WL, getElem?_append_right → Wn, mem_map → Wk, mem_cons → WG, getElem?_set_self → WU, length_range → WI, append_assoc → WK, mem_cons_of_mem → W3, pairwise_cons → Wv, findIdx?_eq_some_iff_getElem → Ww, mem_cons_self → WH, take_length → WV, mem_append → WT, getElem?_drop → WQ, mem_append_left → Xa, mem_append_right → Xt, findIdx?_eq_none_iff → Xe, take_append_drop → XG, take_append_of_le_length → XT, foldl_cons → Xp, getElem_of_mem → Xg, mem_singleton → Xj, drop_of_length_le → XE, nodup_append → Xy, drop_eq_getElem_cons → aft, mem_flatMap → afw, set_append_right → afB, length_filter_le → XW, not_mem_nil → abC, range_succ → Xq, length_cons → abv
open Nat renaming le_refl → Wj, lt_or_ge → Wh, zero_le → WA, mul_le_mul → abA, zero_add → XN, add_zero → afv, sub_self → afA
open Bool renaming eq_iff_iff → Xb
namespace Go.Pv
def UZ (R:Int->Int->Prop):Option Int->Option Int->Prop
 |none,none=>True
 |some x,some y=>R x y
 |_,_=>False
theorem UZ.mono {R S:Int->Int->Prop} {x y:Option Int} (h:∀a b,x=some a->y=some b->R a b->S a b) (hr:UZ R x y):UZ S x y:=by
 cases x<;>cases y<;>simp_all [UZ]
def Ev (a b:List Edge):Nat->Int->Int->Prop
 |0,_,_=>True
 |j+1,p,q=>∀d x,UZ (Ev a b j) (cO p d x a) (cO q d x b)
theorem Ev.down {a b:List Edge}:∀{j:Nat} {p q:Int},Ev a b (j+1) p q->Ev a b j p q
 |0,_,_,_=>trivial
 |_j+1,_p,_q,h=>fun d x=>(h d x).mono fun _ _ _ _ hr=>Ev.down hr
theorem Ev.le {a b:List Edge} {j k:Nat} {p q:Int} (hk:k<=j) (h:Ev a b j p q):Ev a b k p q:=by
 induction j with
 |zero=>
  obtain rfl:k=0:=by omega
  exact h
 |succ j ih=>
  rcases Wh j k with h1|h1
  .obtain rfl:k=j+1:=by omega
   exact h
  .exact ih h1 h.down
theorem aP.Good.hJ {a:aP} (h:a.Good) {p t:Int} {d:Bool} {x:Int} (hn:cO p d x a.af=some t):a.inr t:=by
 have:=fG.1 (h.fit _ ((sZ h.oV).1 hn))
 exact⟨this.2.2.1,this.2.2.2.1⟩
theorem Yy {α:Type} {p q:α->Bool}:∀{l:List α},(∀x∈l,q x=true->p x=true)->(l.filter q).length<=(l.filter p).length/\((l.filter q).length=(l.filter p).length->∀x∈l,p x=true->q x=true)
 |[],_=>⟨Wj _,fun _ x hx=>by cases hx⟩
 |y::l,h=>by
  obtain⟨h1,h2⟩:=Yy (l:=l) fun x hx=>h x (by simp[hx])
  have hy:=h y (by simp)
  cases hq:q y<;>cases hp:p y<;>simp only[List.filter_cons,hq,hp,if_true,if_false,Bool.false_eq_true,List.length_cons]
  .refine⟨h1,fun he x hx hpx=>?_⟩
   rcases WG.1 hx with rfl|hx
   .rw[hp]at hpx; cases hpx
   .exact h2 he x hx hpx
  .exact⟨by omega,fun he=>by omega⟩
  .rw[hq,hp]at hy
   cases hy rfl
  .refine⟨by omega,fun he x hx hpx=>?_⟩
   rcases WG.1 hx with rfl|hx
   .exact hq
   .exact h2 (by omega) x hx hpx
open Classical in
theorem Ev.aa2 {a b:aP} (ha:a.Good) (hb:b.Good) {p q:Int} (hp:a.inr p) (hq:b.inr q) (h:Ev a.af b.af (a.aj.toNat*b.aj.toNat) p q):∀j,Ev a.af b.af j p q:=by
 let prsL:List (Int×Int):=(iota a.aj.toNat).flatMap fun p=>(iota b.aj.toNat).map fun q=>(p,q)
 have hlen:prsL.length=a.aj.toNat*b.aj.toNat:=by
  have:∀l:List Int,(l.flatMap fun p=>(iota b.aj.toNat).map fun q=>(p,q)).length=l.length*b.aj.toNat:=by
   intro l
   induction l with
   |nil=>simp
   |cons x l ih=>rw[List.flatMap_cons,List.length_append,ih]; simp[iota]; rw[Nat.add_mul]; omega
  have h2:=this (iota a.aj.toNat)
  rw[show (iota a.aj.toNat).length=a.aj.toNat by simp[iota]]at h2
  exact h2
 have hmem:∀{p q:Int},a.inr p->b.inr q->(p,q)∈prsL:=fun {p q} hp hq=>by
  rw[afw]
  unfold aP.inr at hp hq
  exact⟨p,yV.2 (by omega),Wk.2 ⟨q,yV.2 (by omega),rfl⟩⟩
 let S:Nat->List (Int×Int):=fun j=>prsL.filter fun x=>decide (Ev a.af b.af j x.1 x.2)
 have hS:∀j,(S (j+1)).length<=(S j).length/\((S (j+1)).length=(S j).length->∀x∈prsL,Ev a.af b.af j x.1 x.2->Ev a.af b.af (j+1) x.1 x.2):=fun j=>by
  obtain⟨h1,h2⟩:=Yy (l:=prsL) (p:=fun x=>decide (Ev a.af b.af j x.1 x.2)) (q:=fun x=>decide (Ev a.af b.af (j+1) x.1 x.2)) (fun x _ hx=>by
   simp only[decide_eq_true_eq]at hx |-
   exact hx.down)
  refine⟨h1,fun he x hx hv=>?_⟩
  have:=h2 he x hx (by simpa using hv)
  simpa using this
 have h0:(S 0).length<=a.aj.toNat*b.aj.toNat:=by
  rw[<- hlen]
  exact XW _ _
 obtain⟨j,hj,hje⟩:∃j,j<=a.aj.toNat*b.aj.toNat/\(S (j+1)).length=(S j).length:=by
  apply Classical.byContradiction
  intro hno
  have hall:∀j,j<=a.aj.toNat*b.aj.toNat+1->(S j).length+j<=a.aj.toNat*b.aj.toNat:=by
   intro j
   induction j with
   |zero=>intro _; simpa using h0
   |succ j ih=>
    intro hj
    have h1:=ih (by omega)
    have h2:=(hS j).1
    have h3:(S (j+1)).length≠(S j).length:=fun e=>hno ⟨j,by omega,e⟩
    omega
  have:=hall (a.aj.toNat*b.aj.toNat+1) (Wj _)
  omega
 have hst:∀k,∀{p q:Int},a.inr p->b.inr q->Ev a.af b.af j p q->Ev a.af b.af (j+k) p q:=by
  intro k
  induction k with
  |zero=>intro p q _ _ h; exact h
  |succ k ih=>
   intro p q hp hq h
   have h1:=(hS j).2 hje (p,q) (hmem hp hq) h
   intro d x
   exact(h1 d x).mono fun s t hs ht hr=>ih (ha.hJ hs) (hb.hJ ht) hr
 intro k
 rcases Wh k j with hk|hk
 .exact h.le (by omega)
 .have:=hst (k - j) hp hq (h.le hj)
  rwa [show j+(k - j)=k by omega]at this
open Classical in
noncomputable def aq (a b:List Edge):Nat->Int->Int->Nat
 |0,_,_=>0
 |k+1,p,q=>if aq a b k p q≠0 then aq a b k p q else if Ev a b (k+1) p q then 0 else k+1
theorem W1 {a b:List Edge}:∀{k:Nat} {p q:Int},aq a b k p q=0↔Ev a b k p q
 |0,_,_=>by simp[aq,Ev]
 |k+1,p,q=>by
  have ih:=W1 (a:=a) (b:=b) (k:=k) (p:=p) (q:=q)
  unfold aq
  by_cases h:aq a b k p q=0
  .rw[if_neg (by simp[h])]
   by_cases h2:Ev a b (k+1) p q
   .simp[h2]
   .simp[h2]
  .rw[if_pos h]
   exact⟨fun h'=>(h h').elim,fun h'=>(h (ih.2 h'.down)).elim⟩
theorem XY {a b:List Edge} {m:Nat} {p q:Int}:∀{k:Nat},aq a b k p q=m+1↔m+1<=k/\Ev a b m p q/\¬Ev a b (m+1) p q
 |0=>by simp[aq]
 |k+1=>by
  have ih:=XY (a:=a) (b:=b) (m:=m) (p:=p) (q:=q) (k:=k)
  have hz:=W1 (a:=a) (b:=b) (k:=k) (p:=p) (q:=q)
  unfold aq
  by_cases h:aq a b k p q=0
  .rw[if_neg (by simp[h])]
   have hk:=hz.1 h
   by_cases h2:Ev a b (k+1) p q
   .rw[if_pos h2]
    constructor
    .intro h'; cases h'
    .rintro ⟨h3,h4,h5⟩
     exact(h5 (h2.le h3)).elim
   .rw[if_neg h2]
    constructor
    .intro h'
     obtain rfl:k=m:=by omega
     exact⟨Wj _,hk,h2⟩
    .rintro ⟨h3,h4,h5⟩
     rcases Wh m k with h6|h6
     .exact(h5 (hk.le h6)).elim
     .omega
  .rw[if_pos h,ih]
   constructor
   .rintro ⟨h3,h4,h5⟩
    exact⟨by omega,h4,h5⟩
   .rintro ⟨h3,h4,h5⟩
    refine⟨?_,h4,h5⟩
    rcases Wh m k with h6|h6
    .exact h6
    .obtain rfl:m=k:=by omega
     exact(h (hz.2 h4)).elim
theorem zf {es:List Edge} {p:Int} {e:Edge}:e∈aV es p↔e∈es/\e.fr=p:=by simp[aV]
theorem YJ {a b:List Edge} (ha:a.Pairwise (oV Edge.lt)) {p q:Int}:(I6 a b p q).isSome=true↔∃d x t,cO p d x a=some t/\cO q d x b=none:=by
 unfold I6
 rw[List.find?_isSome]
 constructor
 .rintro ⟨e,he,hn⟩
  obtain⟨h1,rfl⟩:=zf.1 he
  exact⟨e.send,e.label,e.to,(sZ ha).2 h1,by simpa using hn⟩
 .rintro ⟨d,x,t,h1,h2⟩
  exact⟨⟨p,d,x,t⟩,zf.2 ⟨(sZ ha).1 h1,rfl⟩,by simp[h2]⟩
theorem Zs {a b:List Edge} (ha:a.Pairwise (oV Edge.lt)) (hb:b.Pairwise (oV Edge.lt)) {p q:Int}:VM a b p q=true↔¬Ev a b 1 p q:=by
 unfold VM
 rw[Bool.or_eq_true,YJ ha,YJ hb]
 constructor
 .rintro (⟨d,x,t,h1,h2⟩|⟨d,x,t,h1,h2⟩) h
  .have:=h d x
   rw[h1,h2]at this
   exact this
  .have:=h d x
   rw[h1,h2]at this
   exact this
 .intro h
  apply Classical.byContradiction
  intro hno
  apply h
  intro d x
  cases h1:cO p d x a with
  |none=>
   cases h2:cO q d x b with
   |none=>trivial
   |some t=>exact(hno (.inr ⟨d,x,t,h2,h1⟩)).elim
  |some t=>
   cases h2:cO q d x b with
   |none=>exact(hno (.inl ⟨d,x,t,h1,h2⟩)).elim
   |some u=>trivial
theorem Yi {a b:List Edge} (ha:a.Pairwise (oV Edge.lt)) {M:List (List Int)} {p q k:Int}:(R6 a b M p q k).isSome=true↔∃d x t u,cO p d x a=some t/\cO q d x b=some u/\UW M t u=k:=by
 unfold R6
 rw[List.find?_isSome]
 constructor
 .rintro ⟨e,he,hn⟩
  obtain⟨h1,rfl⟩:=zf.1 he
  unfold R5 at hn
  split at hn
  .rename_i u hu
   exact⟨e.send,e.label,e.to,u,(sZ ha).2 h1,hu,by simpa using hn⟩
  .cases hn
 .rintro ⟨d,x,t,u,h1,h2,h3⟩
  exact⟨⟨p,d,x,t⟩,zf.2 ⟨(sZ ha).1 h1,rfl⟩,by simp[R5,h2,h3]⟩
theorem aad {na nb p q p' q':Nat} {M:List (List Int)} {v:Int} (h:vC na nb M) (hp:p<na) (hq:q<nb) (hp':p'<na):UW (UX M p q v) p' q'=if p=p'/\q=q' then v else UW M p' q':=by
 have hl:p<M.length:=by rw[h.len]; exact hp
 have hr:(M.getD p []).length=nb:=h.row _ (by
  have:M[p]?=some (M.getD p []):=by simp[hl]
  exact Wa this)
 have hgs:∀r:List Int,(M.set p r).getD p' []=if p=p' then r else M.getD p' []:=fun r=>by
  simp only[List.getD_eq_getElem?_getD,List.getElem?_set]
  by_cases e:p=p'
  .subst e
   simp[hl]
  .simp[e]
 unfold UW UX
 simp only[Int.toNat_natCast]
 rw[hgs]
 by_cases e:p=p'
 .subst e
  rw[if_pos rfl,Zw (by rw[hr]; exact hq)]
  simp
 .simp[e]
noncomputable def Zf (a b:List Edge) (M:List (List Int)) (k:Int) (p q:Nat):Int:=if (R6 a b M p q k).isSome=true/\UW M p q=0 then k+1 else UW M p q
theorem Zz {a b:aP} (ha:a.Good) (hb:b.Good) {M M':List (List Int)} {k p q:Int} (h:∀s t:Int,a.inr s->b.inr t->(UW M' s t=k↔UW M s t=k)):(R6 a.af b.af M' p q k).isSome=(R6 a.af b.af M p q k).isSome:=by
 rw[Xb,Yi ha.oV,Yi ha.oV]
 constructor
 .rintro ⟨d,x,t,u,h1,h2,h3⟩
  exact⟨d,x,t,u,h1,h2,(h t u (ha.hJ h1) (hb.hJ h2)).1 h3⟩
 .rintro ⟨d,x,t,u,h1,h2,h3⟩
  exact⟨d,x,t,u,h1,h2,(h t u (ha.hJ h1) (hb.hJ h2)).2 h3⟩
theorem ZA {a b:List Edge} {M:List (List Int)} {k:Int} (hk:1<=k) {p q:Nat}:Zf a b M k p q=k↔UW M p q=k:=by
 unfold Zf
 split
 .rename_i h
  rw[h.2]
  omega
 .rfl
theorem ZB {a b:aP} (ha:a.Good) (hb:b.Good) {M:List (List Int)} {k:Int} (hk:1<=k) (hM:vC a.aj.toNat b.aj.toNat M):vC a.aj.toNat b.aj.toNat (MK a.af b.af a.aj.toNat b.aj.toNat k M)/\
  ∀p q:Nat,p<a.aj.toNat->q<b.aj.toNat->UW (MK a.af b.af a.aj.toNat b.aj.toNat k M) p q=Zf a.af b.af M k p q:=by
 let Inv:Nat->Nat->List (List Int)->Prop:=fun P Q M'=>vC a.aj.toNat b.aj.toNat M'/\∀p q:Nat,p<a.aj.toNat->q<b.aj.toNat->UW M' p q=if p<P\/(p=P/\q<Q) then Zf a.af b.af M k p q else UW M p q
 have hin:∀P,P<a.aj.toNat->∀Q,Q<=b.aj.toNat->∀M',Inv P 0 M'->Inv P Q ((List.range Q).foldl (R8 a.af b.af k P) M'):=by
  intro P hP Q
  induction Q with
  |zero=>intro _ M' h; exact h
  |succ Q ih=>
   intro hQ M' h
   rw[Xq,List.foldl_append]
   obtain⟨h1,h2⟩:=ih (by omega) M' h
   generalize (List.range Q).foldl (R8 a.af b.af k P) M'=N at h1 h2
   have hsame:(R6 a.af b.af N P Q k).isSome=(R6 a.af b.af M P Q k).isSome:=Zz ha hb fun s t hs ht=>by
    unfold aP.inr at hs ht
    have:=h2 s.toNat t.toNat (by omega) (by omega)
    rw[show ((s.toNat:Nat):Int)=s by omega,show ((t.toNat:Nat):Int)=t by omega]at this
    rw[this]
    split
    .have h3:=ZA (a:=a.af) (b:=b.af) (M:=M) hk (p:=s.toNat) (q:=t.toNat)
     rw[show ((s.toNat:Nat):Int)=s by omega,show ((t.toNat:Nat):Int)=t by omega]at h3
     exact h3
    .rfl
   have hent:UW N P Q=UW M P Q:=by
    rw[h2 P Q hP (by omega),if_neg (by omega)]
   show Inv P (Q+1) (R8 a.af b.af k P N Q)
   have hnew:Zf a.af b.af M k P Q=if (R6 a.af b.af N P Q k).isSome=true/\UW N P Q=0 then k+1 else UW M P Q:=by
    unfold Zf
    rw[hsame,hent]
   unfold R8
   split
   .rename_i hc
    rw[if_pos hc]at hnew
    refine⟨Zr h1 hP,fun p q hp hq=>?_⟩
    rw[aad h1 hP (by omega) hp]
    by_cases e:P=p/\Q=q
    .obtain⟨rfl,rfl⟩:=e
     rw[if_pos ⟨rfl,rfl⟩,if_pos (by omega),hnew]
    .rw[if_neg e,h2 p q hp hq]
     by_cases h3:p<P\/(p=P/\q<Q)
     .rw[if_pos h3,if_pos (by omega)]
     .rw[if_neg h3,if_neg (by omega)]
   .rename_i hc
    rw[if_neg hc]at hnew
    refine⟨h1,fun p q hp hq=>?_⟩
    rw[h2 p q hp hq]
    by_cases e:P=p/\Q=q
    .obtain⟨rfl,rfl⟩:=e
     rw[if_neg (by omega),if_pos (by omega),hnew]
    .by_cases h3:p<P\/(p=P/\q<Q)
     .rw[if_pos h3,if_pos (by omega)]
     .rw[if_neg h3,if_neg (by omega)]
 have hout:∀P,P<=a.aj.toNat->Inv P 0 ((List.range P).foldl (UY a.af b.af b.aj.toNat k) M):=by
  intro P
  induction P with
  |zero=>exact fun _=>⟨hM,fun p q _ _=>by rw[if_neg (by omega)]; rfl⟩
  |succ P ih=>
   intro hP
   rw[Xq,List.foldl_append]
   obtain⟨h1,h2⟩:=hin P (by omega) b.aj.toNat (Wj _) _ (ih (by omega))
   refine⟨h1,fun p q hp hq=>?_⟩
   have:=h2 p q hp hq
   refine this.trans ?_
   by_cases h3:p<P\/(p=P/\q<b.aj.toNat)
   .rw[if_pos h3,if_pos (by omega)]
   .rw[if_neg h3,if_neg (by omega)]
 obtain⟨h1,h2⟩:=hout a.aj.toNat (Wj _)
 refine⟨h1,fun p q hp hq=>?_⟩
 exact(h2 p q hp hq).trans (by rw[if_pos (by omega)])
theorem Yz {a b:aP} (ha:a.Good) (hb:b.Good):∀j,vC a.aj.toNat b.aj.toNat (R9 a.af b.af a.aj.toNat b.aj.toNat j)/\
  ∀p q:Nat,p<a.aj.toNat->q<b.aj.toNat->UW (R9 a.af b.af a.aj.toNat b.aj.toNat j) p q=(aq a.af b.af (j+1) p q:Int)
 |0=>by
  refine⟨Y0 _ _ _ _,fun p q hp hq=>?_⟩
  have hbl:VO a.af b.af b.aj.toNat p b.aj.toNat=(List.range b.aj.toNat).map fun(q:Nat)=>VN (VM a.af b.af p q):=by
   have:=AN (fun(q:Nat)=>VN (VM a.af b.af p q)) 0 (List.range b.aj.toNat)
   rw[WI]at this
   exact this
  have he:UW (R9 a.af b.af a.aj.toNat b.aj.toNat 0) p q=VN (VM a.af b.af p q):=by
   unfold UW R9 R7
   simp only[Int.toNat_natCast,List.getD_eq_getElem?_getD,List.getElem?_map,List.getElem?_range hp,Option.map_some,Option.getD_some,hbl,List.getElem?_range hq]
  rw[he]
  have h1:=W1 (a:=a.af) (b:=b.af) (k:=1) (p:=p) (q:=q)
  have h2:=XY (a:=a.af) (b:=b.af) (m:=0) (k:=1) (p:=p) (q:=q)
  by_cases hl:VM a.af b.af p q=true
  .have:=h2.2 ⟨Wj _,trivial,(Zs ha.oV hb.oV).1 hl⟩
   rw[this,hl]
   rfl
  .have hz:=h1.2 (Classical.byContradiction fun hn=>hl ((Zs ha.oV hb.oV).2 hn))
   rw[hz]
   simp[VN,hl]
 |j+1=>by
  obtain⟨h1,h2⟩:=Yz ha hb j
  obtain⟨g1,g2⟩:=ZB ha hb (k:=((j+1:Nat):Int)) (by omega) h1
  refine⟨g1,fun p q hp hq=>?_⟩
  have hg:=g2 p q hp hq
  have hd:R9 a.af b.af a.aj.toNat b.aj.toNat (j+1)=MK a.af b.af a.aj.toNat b.aj.toNat ((j+1:Nat):Int) (R9 a.af b.af a.aj.toNat b.aj.toNat j):=rfl
  rw[hd,hg]
  unfold Zf
  rw[h2 p q hp hq]
  by_cases h0:aq a.af b.af (j+1) p q=0
  .have hev:=W1.1 h0
   have hn:(R6 a.af b.af (R9 a.af b.af a.aj.toNat b.aj.toNat j) p q ((j+1:Nat):Int)).isSome=true↔¬Ev a.af b.af (j+2) p q:=by
    rw[Yi ha.oV]
    constructor
    .rintro ⟨d,x,t,u,e1,e2,e3⟩ hc
     have ht:=ha.hJ e1
     have hu:=hb.hJ e2
     unfold aP.inr at ht hu
     have h3:=h2 t.toNat u.toNat (by omega) (by omega)
     rw[show ((t.toNat:Nat):Int)=t by omega,show ((u.toNat:Nat):Int)=u by omega]at h3
     rw[h3]at e3
     have h4:=(XY (m:=j)).1 (show aq a.af b.af (j+1) t u=j+1 by omega)
     have h5:=hc d x
     rw[e1,e2]at h5
     exact h4.2.2 h5
    .intro hc
     apply Classical.byContradiction
     intro hno
     apply hc
     intro d x
     have h6:=hev d x
     cases e1:cO p d x a.af with
     |none=>
      cases e2:cO q d x b.af with
      |none=>trivial
      |some u=>rw[e1,e2]at h6; exact h6
     |some t=>
      cases e2:cO q d x b.af with
      |none=>rw[e1,e2]at h6; exact h6
      |some u=>
       rw[e1,e2]at h6
       show Ev a.af b.af (j+1) t u
       apply Classical.byContradiction
       intro h7
       apply hno
       have ht:=ha.hJ e1
       have hu:=hb.hJ e2
       unfold aP.inr at ht hu
       have h3:=h2 t.toNat u.toNat (by omega) (by omega)
       rw[show ((t.toNat:Nat):Int)=t by omega,show ((u.toNat:Nat):Int)=u by omega]at h3
       exact⟨d,x,t,u,e1,e2,by rw[h3,(XY (m:=j)).2 ⟨Wj _,h6,h7⟩]⟩
   by_cases hE:Ev a.af b.af (j+2) p q
   .rw[if_neg (fun hc=>(hn.1 hc.1) hE),h0,W1.2 hE]
   .rw[if_pos ⟨hn.2 hE,by rw[h0]; rfl⟩,(XY (m:=j+1)).2 ⟨Wj _,hev,hE⟩]
    omega
  .have hne:¬((aq a.af b.af (j+1) p q:Int)=0):=by omega
   rw[if_neg (fun hc=>hne hc.2)]
   congr 1
   obtain⟨m,hm⟩:∃m,aq a.af b.af (j+1) p q=m+1:=⟨aq a.af b.af (j+1) p q - 1,by omega⟩
   obtain⟨k1,k2,k3⟩:=XY.1 hm
   rw[hm]
   exact(XY.2 ⟨by omega,k2,k3⟩).symm
theorem Y1 {a b:aP} (ha:a.Good) (hb:b.Good) {p q:Int} (hp:a.inr p) (hq:b.inr q):UW (differ a b) p q=0↔∀j,Ev a.af b.af j p q:=by
 have hp':=hp
 have hq':=hq
 unfold aP.inr at hp' hq'
 have h:=(Yz ha hb (a.aj.toNat*b.aj.toNat)).2 p.toNat q.toNat (by omega) (by omega)
 rw[show ((p.toNat:Nat):Int)=p by omega,show ((q.toNat:Nat):Int)=q by omega]at h
 unfold differ
 rw[h]
 constructor
 .intro h0
  exact Ev.aa2 ha hb hp hq ((W1.1 (show aq a.af b.af _ p q=0 by omega)).down)
 .intro hall
  rw[W1.2 (hall _)]
  rfl
def Mv.lt (a b:Mv):Bool:=if a.send≠b.send then b.send else decide (a.label<b.label)
def MN (D:List (List Int)) (n:Nat) (p:Nat):Nat:=((List.range n).find? fun(q:Nat)=>decide (UW D p q=0)).getD 0
def aP.H8 (a:aP):List Int:=(List.range a.aj.toNat).map fun p=>(MN (differ a a) a.aj.toNat p:Int)
def aP.cl (a:aP) (v:Int):Int:=a.H8.getD v.toNat 0
@[go_sem] theorem r65 (e:Edge) (u:Nat) (s:Int) (cs:List PV):res A aA 65 [.agg [.int .i64 e.fr,.bool e.send,.int .i64 e.label,.int .i64 e.to],.ro u (.int .i64 s::cs)]=some [.bool (!decide (e.fr=s))]:=by
 refine aw a65 rfl rfl ?_
 simp only[F65,Uv]
 simp(disch:=omega)only[go_sem]
theorem r77 (g t u:Nat) (cs:List PV) (l:List Edge) (p:Edge->Bool) (hl:l.length<=2^63 - 1) (hi:pB A g=false) (hp:aA g=none) (ht:dx A g=false) (hf:∀x∈l,res A aA g [.agg [.int .i64 x.fr,.bool x.send,.int .i64 x.label,.int .i64 x.to],.ro u cs]=some [.bool (p x)]):res A aA 77 [.aq t (bF l),.func g [.ro u cs]]=some [.int .i64 (oN p l)]:=by
 refine aw a77 rfl rfl ?_
 simp only[F77,Ux]
 simp(disch:=omega)only[go_sem]
 refine W.find l p (fun k=>⟨[(0,.pv (.aq t (bF l))),(1,.pv (.func g [.ro u cs])),(7,.pv (.int .i64 l.length)),(8,.pv (.int .i64 k))],⟨[],[],[]⟩⟩) rfl (fun k x hx hk hfd=>?_) (fun hn=>?_)
 .have hfx:=hf x (Wa hx)
  simp(disch:=omega)only[go_sem]
  refine Br.aJ (fun h=>?_) (fun h=>(h (by omega)).elim)
  simp(disch:=omega)only[go_sem,hx,Bx hi hp ht,hfx]
  refine Br.of (fun h2=>?_) (fun h2=>?_)<;>simp(disch:=omega)only[go_sem]
  .rw[(hfd h2).oN]
  .exact bB.of h2 rfl
 .simp(disch:=omega)only[go_sem]
  rw[hn.oN]
theorem qF {α:Type} {p:α->Bool} {l:List α} {k:Nat} {x:α} (h:l[k]?=some x):(l.take (k+1)).filter p=if p x=true then (l.take k).filter p++[x] else (l.take k).filter p:=by
 rw[WL,h,List.filter_append]
 by_cases hp:p x=true<;>simp[hp]
theorem FT (c l:List Edge) (v:Edge) (h:c.length<l.length):(c++l.drop c.length).set c.length v=(c++[v])++l.drop (c++[v]).length:=by
 rw[afB _ _ (Wj _),afA,WK]
 have:(c++[v]).length=c.length+1:=by simp
 rw[this,aft h]
 rfl
@[go_sem] theorem MO (bx:List (Nat×List V)) (mp:List (List (PV×PV))) (ar:List aL) (v n:Nat) (l:List Edge):keep ⟨bx,⟨v,4,.inl (bF l)⟩::ar,mp⟩ true (.own 0 v 0 n)=some (.fr 4 (bF (l.take n))):=by
 simp[keep,eM,aB,bF]
theorem FU (bx:List (Nat×List V)) (mp:List (List (PV×PV))) (ar:List aL) (v off len:Nat) (l:List Edge) (h:off+len<=l.length):JZ ⟨bx,⟨v,4,.inl (bF l)⟩::ar,mp⟩ 4 [.pv (.int .i64 0),.pv (.bool false),.pv (.int .i64 0),.pv (.int .i64 0)] (.own 0 v off len)=
  some (.dy [],{ ar:=some (0,⟨v,4,.inl (bF (l.take off++List.replicate len ⟨0,false,0,0⟩++l.drop (off+len)))⟩) }):=by
 simp[JZ,aB,ay,V.bS,PV.perm,bF,h,Edge.c]
@[go_sem] theorem MP {id ax v len:Nat} {l:List Edge} (hn:len=l.length):BS id ax len ⟨v,4,.inl (bF l)⟩=some ([.fr 4 (bF l)],some (id,⟨ax+1,0,.inl []⟩)):=by
 subst hn
 simp[BS,aL.size,bN]
@[go_sem] theorem Pl (l:List Edge) (n:Nat):(bF l).take n=bF (l.take n):=by simp[bF]
set_option maxHeartbeats 4000000 in
@[go_sem] theorem r63 (l:List Edge) (s:Int) (hl:l.length<=2000000000):res A aA 63 [.fr 4 (bF l),.func 65 [.ro 2 [.int .i64 s]]]=some [.fr 4 (bF (aV l s))]:=by
 refine aw a63 rfl rfl ?_
 simp only[F63,Tc]
 have h77:=fun t:Nat=>r77 65 t 2 [.int .i64 s] l (fun e=>!decide (e.fr=s)) (by omega) (by kernel_rfl) (by kernel_rfl) (by kernel_rfl) (fun x _=>r65 x 2 s [])
 have hlt:l.take l.length=l:=WV
 cases hfi:l.findIdx? (fun e=>!decide (e.fr=s))with
 |none=>
  have hix:oN (fun e=>!decide (e.fr=s)) l= -1:=by unfold oN; rw[hfi]
  rw[Xe]at hfi
  have hall:aV l s=l:=by
   unfold aV
   rw[List.filter_eq_self]
   intro e he
   have:=hfi e he
   simpa using this
  simp(disch:=omega)only[go_sem,h77,hlt,hix,hall]
 |some k=>
  have hix:oN (fun e=>!decide (e.fr=s)) l=(k:Int):=by unfold oN; rw[hfi]
  rw[Ww]at hfi
  obtain⟨hk,hp,hbefore⟩:=hfi
  have hne:¬(k:Int)= -1:=by omega
  have hpre:aV (l.take (k+1)) s=l.take k:=by
   unfold aV
   rw[qF (List.getElem?_eq_getElem hk),if_neg (by simpa using hp),List.filter_eq_self]
   intro e he
   obtain⟨j,hj,rfl⟩:=Xg he
   rw[W8]at hj
   have:=hbefore j (by omega)
   simpa using this
  simp(disch:=omega)only[go_sem,h77,hlt,hix,hne]
  refine W.fv (l.length - (k+1)) (fun j=>⟨[(0,.own 0 0 0 l.length),(1,.pv (.func 65 [.ro 2 [.int .i64 s]])),(5,.pv (.int .i64 (aV (l.take (k+1+j)) s).length)),(6,.pv (.int .i64 (k+1+j:Nat)))],⟨[],[⟨0,4,.inl (bF (aV (l.take (k+1+j)) s++l.drop (aV (l.take (k+1+j)) s).length))⟩],[]⟩⟩) (fun j=>(aV (l.take (k+1+j)) s).length<=k+j) ?_ ?_ fun j hj hw=>?_
  .simp only[Nat.add_zero,hpre,List.length_take,Nat.min_eq_left (Nat.le_of_lt hk)]
   rw[XG]
   rfl
  .simp only[Nat.add_zero,hpre,List.length_take]
   omega
  have hkeep:∀q,(aV (l.take (k+1+j)) s).length<=q->(aV (l.take (k+1+j)) s++l.drop (aV (l.take (k+1+j)) s).length)[q]?=l[q]?:=fun q hq=>by
   rw[Wn hq,WQ]
   congr 1
   omega
  have hln:(aV (l.take (k+1+j)) s++l.drop (aV (l.take (k+1+j)) s).length).length=l.length:=by simp; omega
  simp(disch:=omega)only[go_sem]
  refine Br.aJ (fun h=>?_) (fun h=>?_)
  .obtain⟨x,hx⟩:=get_at (l:=l) (k:=k+1+j) (by omega)
   have h65:=r65 x 2 s []
   have hst:aV (l.take (k+1+(j+1))) s=if (x.fr==s)=true then aV (l.take (k+1+j)) s++[x] else aV (l.take (k+1+j)) s:=qF hx
   simp(disch:=omega)only[go_sem,hkeep,hx,h65]
   refine Br.aJ (fun g=>?_) (fun g=>?_)<;>simp(disch:=omega)only[go_sem,g]
   .rw[if_pos (by simp[g])]at hst
    have hxe:(⟨s,x.send,x.label,x.to⟩:Edge)=x:=by rw[<- g]
    refine .of (by omega) ?_ ?_
    .show _=St.mk _ _
     rw[hst,hxe,FT _ _ _ (by omega),Wz]
     rfl
    .show (aV _ s).length<=_
     rw[hst,Wz]
     simp
     omega
   .rw[if_neg (by simp[g])]at hst
    refine .of (by omega) ?_ ?_
    .show _=St.mk _ _
     rw[hst]
     rfl
    .show (aV _ s).length<=_
     rw[hst]
     omega
  .have hall:l.take (k+1+j)=l:=Wq (by omega)
   rw[hall]at hln hw |-
   simp(disch:=omega)only[go_sem]
   rw[FU _ _ _ _ _ _ _ (by omega)]
   have hl3:(aV l s++List.replicate (l.length - (aV l s).length) (⟨0,false,0,0⟩:Edge)).length=l.length:=by simp; omega
   have e1:List.take (aV l s).length (aV l s++List.drop (aV l s).length l)=aV l s:=by
    rw[XT (Wj _),WV]
   have e2:List.drop ((aV l s).length+(l.length - (aV l s).length)) (aV l s++List.drop (aV l s).length l)=[]:=List.drop_eq_nil_of_le (by rw[hln]; omega)
   rw[e1,e2]
   simp(disch:=omega)only[go_sem]
   have e3:List.take (aV l s).length (aV l s++List.replicate (l.length - (aV l s).length) (⟨0,false,0,0⟩:Edge))=aV l s:=by
    rw[XT (Wj _),WV]
   rw[e3]
@[go_sem] theorem r63n (s:Int):res A aA 63 [.aq 0 [],.func 65 [.ro 2 [.int .i64 s]]]=some [.aq 0 []]:=by
 refine aw a63 rfl rfl ?_
 simp only[F63,Tc]
 have h77:=r77 65 0 2 [.int .i64 s] [] (fun e=>!decide (e.fr=s)) (by simp) (by kernel_rfl) (by kernel_rfl) (by kernel_rfl) (fun x hx=>by cases hx)
 have hix:oN (fun e:Edge=>!decide (e.fr=s)) []= -1:=rfl
 rw[hix]at h77
 have h77':res A aA 77 [.aq 0 [],.func 65 [.ro 2 [.int .i64 s]]]=some [.int .i64 (-1)]:=h77
 simp(disch:=omega)only[go_sem,h77']
 rfl
@[go_sem] theorem I7 (h:aa) (v:V):ca h true [.tl [],v]=(cq h v).bind fun q=>some ([.aq 0 [],q],none):=by
 simp only[ca,cb,if_true,ay]
 cases cq h v<;>rfl
def FV (h:aa) (v:V):List PV×Option (Nat×aL)->Option (List PV×Option (Nat×aL))
 |([p],some (i,a))=>(cq { h with ar:=h.ar.set i a } v).bind fun q=>some ([p,q],some (i,a))
 |_=>none
@[go_sem] theorem Sa (bx:List (Nat×List V)) (ar:List aL) (mp:List (List (PV×PV))) (v:V) (p:PV) (i:Nat) (a:aL):FV ⟨bx,ar,mp⟩ v ([p],some (i,a))=(cq ⟨bx,ar.set i a,mp⟩ v).bind fun q=>some ([p,q],some (i,a)):=rfl
@[go_sem] theorem H9 (h:aa) (id ax len:Nat) (v:V):ca h true [.own id ax 0 len,v]=(aB h id ax).bind fun a=>(BS id ax len a).bind (FV h v):=by
 simp only[ca,cb]
 cases aB h id ax with
 |none=>rfl
 |some a=>
  simp only[Option.bind_some,if_true,BS]
  by_cases hc:a.size=len/\a.k≠0
  .cases hb:a.body with
   |inl rows=>
    simp only[hc,ne_eq,not_false_eq_true,and_self,if_true,Option.bind_some,FV,ay]
    cases cq { h with ar:=h.ar.set id ⟨ax+1,0,.inl []⟩ } v<;>rfl
   |inr rows=>simp[hc]
  .simp[hc]
@[go_sem] theorem r54 (t:Nat) (n s0 s:Int) (es:List Edge) (ht:t<=1) (hl:es.length<=2000000000):res A aA 54 [.agg [.int .i64 n,.int .i64 s0,.aq t (es.map Edge.c)],.int .i64 s]=some [.aq 0 (bF (aV es s))]:=by
 refine aw a54 rfl rfl ?_
 simp only[F54,Up]
 by_cases h0:es.length=0
 .have he:es=[]:=Wp h0
  simp(disch:=omega)only[go_sem,qA,h0]
  rw[he]
  rfl
 .have hel:=lK es s
  simp(disch:=omega)only[go_sem,qA,h0,List.take_length]
def vB (a b:Edge):Bool:=if a.send=b.send then decide (a.label<b.label) else b.send
@[go_sem] theorem r55 (a b:Edge):res A aA 55 [.agg [.int .i64 a.fr,.bool a.send,.int .i64 a.label,.int .i64 a.to],.agg [.int .i64 b.fr,.bool b.send,.int .i64 b.label,.int .i64 b.to]]=some [.bool (vB a b)]:=by
 refine aw a55 rfl rfl ?_
 simp only[F55,Uq]
 simp(disch:=omega)only[go_sem]
 unfold vB
 refine Br.aJ (fun h=>?_) (fun h=>?_)<;>simp(disch:=omega)only[go_sem,h]
@[go_sem] theorem r56 (a:Edge):res A aA 56 [.agg [.int .i64 a.fr,.bool a.send,.int .i64 a.label,.int .i64 a.to]]=some [.agg [.bool a.send,.int .i64 a.label]]:=by
 refine aw a56 rfl rfl ?_
 simp only[F56,Ur]
 simp(disch:=omega)only[go_sem]
def w4 (only:Bool):List Edge->List Edge->Option (Edge×Int)
 |[],[]=>none
 |x::_,[]=>some (x,0)
 |[],y::m=>if only then w4 only [] m else some (y,1)
 |x::l,y::m=>if vB x y=true then some (x,0) else if vB y x=true then (if only then w4 only (x::l) m else some (y,1)) else w4 only l m
termination_by l m=>l.length+m.length
structure zo where
 x:Int
 y:Int
 path:List (Bool×Int)
 deriving DecidableEq,Inhabited
def Edge.act (e:Edge):Bool×Int:=(e.send,e.label)
def kB (b:List Edge) (n:zo) (s:List (Int×Int)×List zo) (e:Edge):List (Int×Int)×List zo:=
 match cO n.y e.send e.label b with
 |some y=>if (e.to,y)∈s.1 then s else (s.1++[(e.to,y)],s.2++[⟨e.to,y,n.path++[e.act]⟩])
 |none=>s
def B8 (a b:List Edge) (only:Bool):Nat->List (Int×Int)×List zo->Option (List (Bool×Int)×Int)
 |0,_=>none
 |k+1,(seen,q)=>match q with
  |[]=>none
  |n::q=>match w4 only (aV a n.x) (aV b n.y)with
   |some (e,w)=>some (n.path++[e.act],w)
   |none=>B8 a b only k ((aV a n.x).foldl (kB b n) (seen,q))
def FW (p:Int×Int):PV:=.agg [.int .i64 p.1,.int .i64 p.2]
def gU (s:List (Int×Int)):List (PV×PV):=s.map fun p=>(FW p,.bool true)
theorem tu (p q:Int×Int):iw true [1,1] (FW p) (FW q)=some (decide (p=q)):=by
 obtain⟨a,b⟩:=p
 obtain⟨c,d⟩:=q
 simp only[iw,FW,if_true]
 simp only[go_sem]
 by_cases h1:a=c<;>by_cases h2:b=d<;>simp[h1,h2]
theorem B9 {p:Int×Int}:∀{s:List (Int×Int)} {i:Nat},p∉s->findKey true [1,1] (FW p) (gU s) i=some none
 |[],i,_=>by simp[gU,findKey,tu]
 |q::s,i,h=>by
  simp only[List.mem_cons,not_or]at h
  show findKey true [1,1] (FW p) ((FW q,.bool true)::gU s) i=_
  simp only[findKey,tu,h.1,decide_false]
  exact B9 h.2
theorem Ca {p:Int×Int}:∀{s:List (Int×Int)} {i:Nat},p∈s->∃j,findKey true [1,1] (FW p) (gU s) i=some (some (j,.bool true))
 |[],i,h=>by cases h
 |q::s,i,h=>by
  show ∃j,findKey true [1,1] (FW p) ((FW q,.bool true)::gU s) i=_
  simp only[findKey,tu]
  by_cases e:p=q
  .exact⟨i,by simp[e]⟩
  .simp only[e,decide_false]
   exact Ca ((WG.1 h).resolve_left e)
@[go_sem] theorem I8 (z:V) (j:Nat) (p:PV):pD z false (some (j,p))=.pv p:=rfl
@[go_sem] theorem I9 (z:V):pD z false none=z:=rfl
theorem FX {ag:Bool} {ks:List Nat} {q p:PV} {id:Nat} {l:List (PV×PV)} (h:findKey ag ks q l 0=some none):wm ag ks q p id l=some { mp:=some (id,l++[(q,p)]) }:=by
 simp only[wm,h]
theorem A4 (s:List (Int×Int)) (p:Int×Int):gU s++[(FW p,.bool true)]=gU (s++[p]):=by simp[gU]
def oR (ars:List aL) (v:V) (l:List (Bool×Int)):Prop:=(v=.tl []/\l=[])\/∃id ax,v=.own (id+1) ax 0 l.length/\l≠[]/\ars[id]?=some ⟨ax,2,.inl (fQ l)⟩
theorem oR.more {ars:List aL} {v:V} {l:List (Bool×Int)} (h:oR ars v l) (x:List aL):oR (ars++x) v l:=by
 rcases h with h|⟨id,ax,h1,h2,h3⟩
 .exact .inl h
 .exact .inr ⟨id,ax,h1,h2,by rw[We (V9.1 h3).1]; exact h3⟩
theorem oR.calm {ars:List aL} {v:V} {l:List (Bool×Int)} (h:oR ars v l):v.calm=true/\v.sized=true/\v.bS=none/\v.cells=[v]:=by
 rcases h with⟨rfl,_⟩|⟨id,ax,rfl,_,_⟩<;>exact⟨rfl,rfl,rfl,rfl⟩
structure tz (off:Nat) (q:List zo) (rows:List (List V)) (ars:List aL):Prop where
 len:rows.length=off+q.length
 row:∀(i:Nat) (n:zo),q[i]?=some n->∃v,rows[off+i]?=some [.pv (.int .i64 n.x),.pv (.int .i64 n.y),v]/\oR ars v n.path
theorem tz.pop {off:Nat} {n:zo} {q:List zo} {rows:List (List V)} {ars:List aL} (h:tz off (n::q) rows ars):tz (off+1) q rows ars where
 len:=by rw[h.len]; simp; omega
 row i m hi:=by
  obtain⟨v,h1,h2⟩:=h.row (i+1) m (by simpa using hi)
  exact⟨v,by rw[show off+1+i=off+(i+1) by omega]; exact h1,h2⟩
theorem tz.more {off:Nat} {q:List zo} {rows:List (List V)} {ars:List aL} (h:tz off q rows ars) (x:List aL):tz off q rows (ars++x) where
 len:=h.len
 row i n hi:=by
  obtain⟨v,h1,h2⟩:=h.row i n hi
  exact⟨v,h1,h2.more x⟩
theorem tz.push {off:Nat} {q:List zo} {rows:List (List V)} {ars:List aL} (h:tz off q rows ars) {n:zo} {v:V} (hv:oR ars v n.path):tz 0 (q++[n]) ((rows.drop off).take q.length++[[.pv (.int .i64 n.x),.pv (.int .i64 n.y),v]]) ars where
 len:=by
  have:=h.len
  simp
  omega
 row i m hi:=by
  have hl:=h.len
  rw[XN]
  rcases Wh i q.length with hlt|hge
  .rw[We hlt]at hi
   obtain⟨u,h1,h2⟩:=h.row i m hi
   refine⟨u,?_,h2⟩
   rw[List.getElem?_append_left (by simp; omega),List.getElem?_take,if_pos hlt,List.getElem?_drop]
   exact h1
  .rw[Wn hge]at hi
   have h0:i - q.length=0:=by
    have:=(V9.1 hi).1
    simp at this
    omega
   rw[h0]at hi
   simp only[List.getElem?_cons_zero,Option.some.injEq]at hi
   subst hi
   refine⟨v,?_,hv⟩
   rw[List.getElem?_append_right (by simp; omega)]
   have:i - ((rows.drop off).take q.length).length=0:=by simp; omega
   rw[this]
   rfl
theorem qG {l:List (Int×Int)} {n m:Nat} (hn:l.Nodup) (h:∀p∈l,(0<=p.1/\p.1<n)/\(0<=p.2/\p.2<m)):l.length<=n*m:=by
 have h1:=List.Nodup.length_le_of_subset (l₂:=(iota n).flatMap fun p=>(iota m).map fun q=>(p,q)) hn (fun p hp=>by
  have:=h p hp
  rw[afw]
  exact⟨p.1,yV.2 this.1,Wk.2 ⟨p.2,yV.2 this.2,rfl⟩⟩)
 have h2:∀l:List Int,(l.flatMap fun p=>(iota m).map fun q=>(p,q)).length=l.length*m:=by
  intro l
  induction l with
  |nil=>simp
  |cons x l ih=>rw[List.flatMap_cons,List.length_append,ih]; simp[iota]; rw[Nat.add_mul]; omega
 rw[h2,show (iota n).length=n by simp[iota]]at h1
 exact h1
@[go_sem] theorem Dt (l:List (Bool×Int)) (d:Bool) (x:Int):fQ l++[[.bool d,.int .i64 x]]=fQ (l++[(d,x)]):=by simp[fQ,HN]
@[go_sem] theorem Ja (h:aa) (d:Bool) (x:Int):aK h 2 (.tl []) (.tl [[.bool d,.int .i64 x]])=some (.own h.ar.length 0 0 1,{ push:=[⟨0,2,.inl (fQ [(d,x)])⟩],base:=h.ar.length }):=by
 have:=wy h 2 [] [.bool d,.int .i64 x] rfl (fun x hx=>by cases hx) (by simp)
 exact this
@[go_sem] theorem Ia (h:aa) (id ax off len:Nat) (d:Bool) (x:Int):aK h 2 (.own id ax off len) (.tl [[.bool d,.int .i64 x]])=(aB h id ax).bind (I0 id ax off len 2 [.bool d,.int .i64 x]):=yr h id ax off len 2 _ rfl
@[go_sem] theorem Sb {id ax len:Nat} {d:Bool} {x:Int} {l:List (Bool×Int)} (h1:len=l.length) (h2:l.length+1<=2147483648):I0 id ax 0 len 2 [.bool d,.int .i64 x] ⟨ax,2,.inl (fQ l)⟩=some (.own id (ax+1) 0 (len+1),{ ar:=some (id,⟨ax+1,2,.inl (fQ (l++[(d,x)]))⟩) }):=by
 rw[EH (by rw[jj]; exact h1) (by rw[jj]; exact h2),Dt]
@[go_sem] theorem Pm (h:aa) (k:Nat):aZ k [.tl []] h=some (.tl [],{}):=by simp[aZ,aW,aO]
def Ib (h:aa) (id n:Nat) (a:aL):Option (V×Tn):=match a.body with
 |.inl rows=>if (rows.take n).all (·.length==2)=true/\(rows.take n).length<=aN then (if (rows.take n).length=0 then some (.tl [],{ ra:=some id }) else some (.own h.ar.length 0 0 (rows.take n).length,{ push:=[⟨0,2,.inl (rows.take n)⟩],ra:=some id,base:=h.ar.length })) else none
 |.inr _=>none
@[go_sem] theorem MQ (h:aa) (id ax n:Nat):aZ 2 [.own id ax 0 n] h=(aB h id ax).bind (Ib h id n):=by
 simp only[aZ,aW]
 cases aB h id ax with
 |none=>rfl
 |some a=>
  cases hb:a.body<;>simp[az,Ib,hb,aO]
@[go_sem] theorem Pn {h:aa} {id n ax:Nat} {l:List (Bool×Int)} (hn:n=l.length) (h0:l.length≠0) (hm:l.length<=2147483648):Ib h id n ⟨ax,2,.inl (fQ l)⟩=some (.own h.ar.length 0 0 l.length,{ push:=[⟨0,2,.inl (fQ l)⟩],ra:=some id,base:=h.ar.length }):=by
 subst hn
 have e1:(fQ l).take l.length=fQ l:=Wq (by rw[jj]; exact Wj _)
 have e2:((fQ l).all fun x=>x.length==2)=true:=by simp[fQ,HN]
 simp[Ib,e1,e2,jj,aN,hm,h0]
def uc:Option (List (Bool×Int)×Int)->List PV
 |none=>[.aq 0 [],.int .i64 0,.bool false]
 |some (p,w)=>[.aq 0 (fQ p),.int .i64 w,.bool true]
theorem MR (o:Bool):w4 o [] []=none:=by rw[w4]
theorem MS (o:Bool) (x:Edge) (l:List Edge):w4 o (x::l) []=some (x,0):=by rw[w4]
theorem MT (o:Bool) (y:Edge) (m:List Edge):w4 o [] (y::m)=if o then w4 o [] m else some (y,1):=by rw[w4]
theorem MU (o:Bool) (x y:Edge) (l m:List Edge):w4 o (x::l) (y::m)=if vB x y=true then some (x,0) else if vB y x=true then (if o then w4 o (x::l) m else some (y,1)) else w4 o l m:=by rw[w4]
theorem Jb {bx:List (Nat×List V)} {mp:List (List (PV×PV))} {ax off len m:Nat} {rows:List (List V)} {r:List V} {ar:List aL} (h1:ar[m]?=some ⟨0,3,.inr [r]⟩) (h2:r.length=3) (h3:rows.length=off+len) (h4:len+1<=2147483648):
  aK ⟨bx,⟨ax,3,.inr rows⟩::ar,mp⟩ 3 (.own 0 ax off len) (.own (m+1) 0 0 1)=some (.own 0 (ax+1) 0 (len+1),{ ar:=some (0,⟨ax+1,3,.inr ((rows.drop off).take len++[r])⟩),ra:=some (m+1) }):=by
 simp[aK,aW,aB,h1,az,aO,aD,h2,aL.size,h3,aN,h4,aU]
structure zg (a b:aP) (k:Nat) (seen:List (Int×Int)) (q:List zo):Prop where
 nodup:seen.Nodup
 mem:∀p∈seen,(0<=p.1/\p.1<a.aj)/\(0<=p.2/\p.2<b.aj)
 count:k+seen.length=a.aj.toNat*b.aj.toNat+1+q.length
 node:∀n∈q,(0<=n.x/\n.x<a.aj)/\(0<=n.y/\n.y<b.aj)/\n.path.length<seen.length
 le:k<=145
theorem zg.push {a b:aP} {k:Nat} {seen:List (Int×Int)} {q:List zo} (h:zg a b k seen q) {x y:Int} {p:List (Bool×Int)} (hn:(x,y)∉seen) (hr:(0<=x/\x<a.aj)/\(0<=y/\y<b.aj)) (hp:p.length<=seen.length):zg a b k (seen++[(x,y)]) (q++[⟨x,y,p⟩]) where
 nodup:=by
  rw[Xy]
  exact⟨h.nodup,by simp,fun u hu v hv e=>hn (by rw[List.mem_singleton]at hv; subst hv; subst e; exact hu)⟩
 mem u hu:=by
  rw[WT,Xj]at hu
  rcases hu with hu|rfl
  .exact h.mem u hu
  .exact hr
 count:=by
  have:=h.count
  simp
  omega
 node n hm:=by
  rw[WT,Xj]at hm
  rcases hm with hm|rfl
  .obtain⟨h1,h2,h3⟩:=h.node n hm
   exact⟨h1,h2,by simp; omega⟩
  .exact⟨hr.1,hr.2,by simp; omega⟩
 le:=h.le
def Sc (t u:Nat) (a b:aP) (only:Bool) (ax off:Nat) (q:List zo) (rows:List (List V)) (ars:List aL) (seen:List (Int×Int)):St:=
 ⟨[(2,.pv (.bool only)),(3,.ptr 3 0),(4,.ptr 4 0),(9,.own 0 ax off q.length),(10,.map 0)],⟨[(3,[.pv (.int .i64 a.aj),.pv (.int .i64 a.start),.pv (.aq t (a.af.map Edge.c))]),(4,[.pv (.int .i64 b.aj),.pv (.int .i64 b.start),.pv (.aq u (b.af.map Edge.c))])],⟨ax,3,.inr rows⟩::ars,[gU seen]⟩⟩
set_option maxHeartbeats 4000000 in
@[go_sem] theorem r35 (t u:Nat) (a b:aP) (only:Bool) (ht:t<=1) (hu:u<=1) (ha:a.Good) (hb:b.Good):res A aA 35 [.agg [.int .i64 a.aj,.int .i64 a.start,.aq t (a.af.map Edge.c)],.agg [.int .i64 b.aj,.int .i64 b.start,.aq u (b.af.map Edge.c)],.bool only]=some (uc (B8 a.af b.af only (a.aj.toNat*b.aj.toNat+1) ([(a.start,b.start)],[⟨a.start,b.start,[]⟩]))):=by
 refine aw a35 rfl rfl ?_
 simp only[F35,Uf]
 have hal:=ha.len
 have hbl:=hb.len
 have hst:=ha.st
 have hst':=hb.st
 have hmx:=ha.mx
 have hmx':=hb.mx
 have hu0:wm true [1,1] (PV.agg [PV.int IntKind.i64 a.start,PV.int IntKind.i64 b.start]) (PV.bool true) 0 []=some { mp:=some (0,gU [(a.start,b.start)]) }:=rfl
 simp(disch:=omega)only[go_sem,hu0]
 generalize hN:a.aj.toNat*b.aj.toNat+1=N
 have hNb:N<=145:=by
  have:=abA (show a.aj.toNat<=12 by omega) (show b.aj.toNat<=12 by omega)
  omega
 refine W.BZ (α:=Nat×Nat×Nat×List zo×List (List V)×List aL×List (Int×Int)) (fun x=>Sc t u a b only x.2.1 x.2.2.1 x.2.2.2.1 x.2.2.2.2.1 x.2.2.2.2.2.1 x.2.2.2.2.2.2)
  (fun x=>zg a b x.1 x.2.2.2.2.2.2 x.2.2.2.1/\tz x.2.2.1 x.2.2.2.1 x.2.2.2.2.1 x.2.2.2.2.2.1/\B8 a.af b.af only x.1 (x.2.2.2.2.2.2,x.2.2.2.1)=B8 a.af b.af only N ([(a.start,b.start)],[⟨a.start,b.start,[]⟩])) (fun x=>x.1) (N,0,0,[⟨a.start,b.start,[]⟩],[[.pv (.int .i64 a.start),.pv (.int .i64 b.start),.tl []]],[],[(a.start,b.start)]) rfl ⟨⟨by simp,by simp; omega,by simp; omega,by simp; omega,hNb⟩,⟨rfl,fun i n hi=>?_⟩,rfl⟩ fun x hx=>?_
 .cases i with
  |zero=>
   cases hi
   exact⟨.tl [],rfl,.inl ⟨rfl,rfl⟩⟩
  |succ i=>simp at hi
 obtain⟨k,ax,off,q,rows,ars,seen⟩:=x
 obtain⟨hD,hQ,hres⟩:=hx
 dsimp only at hD hQ hres
 unfold Sc
 dsimp only
 rw[<- hres]
 have hsb:=qG hD.nodup (n:=a.aj.toNat) (m:=b.aj.toNat) (fun p hp=>by
  have:=hD.mem p hp
  omega)
 have hcnt:=hD.count
 rw[hN]at hcnt
 cases q with
 |nil=>
  simp(disch:=omega)only[go_sem]
  refine Br.aJ (fun h=>absurd h (by omega)) (fun h=>?_)
  simp(disch:=omega)only[go_sem]
  cases k<;>rfl
 |cons n q=>
  obtain⟨k,rfl⟩:∃k',k=k'+1:=⟨k - 1,by simp at hcnt; omega⟩
  obtain⟨v,hv,hpv⟩:=hQ.row 0 n rfl
  have hrl:=hQ.len
  obtain⟨⟨x0,x1⟩,⟨y0,y1⟩,hpl⟩:=hD.node n (WH ..)
  obtain⟨c1,c2,c3,c4⟩:=hpv.calm
  have hoff:off<rows.length:=by simp at hrl; omega
  rw[afv]at hv
  simp(disch:=omega)only[go_sem]
  refine Br.aJ (fun h=>?_) (fun h=>(h (by omega)).elim)
  simp(disch:=omega)only[go_sem,hv,c1]
  rw[Nat.add_sub_cancel]
  have hla:=lK a.af n.x
  have hlb:=lK b.af n.y
  generalize hA:aV a.af n.x=la at hla |-
  generalize hB:aV b.af n.y=lb at hlb |-
  have hdif:B8 a.af b.af only (k+1) (seen,n::q)=match w4 only la lb with
   |some (e,w)=>some (n.path++[e.act],w)
   |none=>B8 a.af b.af only k (la.foldl (kB b.af n) (seen,q)):=by rw[<- hA,<- hB]; rfl
  rw[hdif]
  refine W.loop (α:=Nat×Nat) (fun x=>⟨[(2,.pv (.bool only)),(3,.ptr 3 0),(4,.ptr 4 0),(9,.own 0 ax (off+1) q.length),(10,.map 0),(11,.ptr 11 0),(12,.pv (.aq 0 (bF la))),(13,.pv (.aq 0 (bF lb))),(14,.pv (.int .i64 x.1)),(15,.pv (.int .i64 x.2))],⟨[(3,[.pv (.int .i64 a.aj),.pv (.int .i64 a.start),.pv (.aq t (a.af.map Edge.c))]),(4,[.pv (.int .i64 b.aj),.pv (.int .i64 b.start),.pv (.aq u (b.af.map Edge.c))]),(11,[.pv (.int .i64 n.x),.pv (.int .i64 n.y),v])],⟨ax,3,.inr rows⟩::ars,[gU seen]⟩⟩)
   (fun x=>x.1<=la.length/\x.2<=lb.length/\w4 only (la.drop x.1) (lb.drop x.2)=w4 only la lb) (fun x=>(la.length - x.1)+(lb.length - x.2)) (0,0) rfl ⟨WA _,WA _,rfl⟩ fun x hx=>?_
  obtain⟨i,j⟩:=x
  obtain⟨hi,hj,hm⟩:=hx
  dsimp only at hi hj hm
  rw[<- hm]
  dsimp only
  rcases Wh i la.length with hi'|hi'
  .obtain⟨x,hx⟩:=get_at hi'
   rw[fL hx]
   rcases Wh j lb.length with hj'|hj'
   .obtain⟨y,hy⟩:=get_at hj'
    rw[fL hy,MU]
    simp(disch:=omega)only[go_sem]
    refine Br.aJ (fun h=>?_) (fun h=>(h (by omega)).elim)
    simp(disch:=omega)only[go_sem,h]
    refine Br.aJ (fun h=>absurd h (by omega)) (fun h=>?_)
    simp(disch:=omega)only[go_sem,h]
    refine Br.aJ (fun h=>?_) (fun h=>(h (by omega)).elim)
    simp(disch:=omega)only[go_sem,h,hx,hy]
    refine Br.of (fun l1=>?_) (fun l1=>?_)<;>simp(disch:=omega)only[go_sem,l1,hx]
    .rw[if_pos l1]
     rcases hpv with⟨rfl,hp⟩|⟨id,pv,rfl,hne,hid⟩
     .simp(disch:=omega)only[go_sem]
      simp[bO,az,uc,Edge.act,hp,fQ]
     .simp(disch:=omega)only[go_sem,hid]
      have hlt:=(V9.1 hid).1
      rw[WU hlt]
      simp[bO,az,uc,Edge.act,fQ,List.take_of_length_le]
    rw[if_neg (by simp[l1])]
    refine Br.aJ (fun h=>absurd h (by omega)) (fun h=>?_)
    simp(disch:=omega)only[go_sem,h,hx,hy]
    refine Br.of (fun l2=>?_) (fun l2=>?_)<;>simp(disch:=omega)only[go_sem,l2]
    .rw[if_pos l2]
     cases only with
     |true=>
      simp(disch:=omega)only[go_sem]
      refine⟨(i,j+1),⟨hi,by dsimp only; omega,?_⟩,by dsimp only; omega,rfl⟩
      dsimp only
      rw[if_pos rfl,fL hx]
     |false=>
      simp(disch:=omega)only[go_sem,hy]
      rcases hpv with⟨rfl,hp⟩|⟨id,pv,rfl,hne,hid⟩
      .simp(disch:=omega)only[go_sem]
       simp[bO,az,uc,Edge.act,hp,fQ]
      .simp(disch:=omega)only[go_sem,hid]
       have hlt:=(V9.1 hid).1
       rw[WU hlt]
       simp[bO,az,uc,Edge.act,fQ,List.take_of_length_le]
    .rw[if_neg (by simp[l2])]
     exact⟨(i+1,j+1),⟨by dsimp only; omega,by dsimp only; omega,rfl⟩,by dsimp only; omega,rfl⟩
   .obtain rfl:j=lb.length:=by omega
    rw[XE hj',MS]
    simp(disch:=omega)only[go_sem]
    refine Br.aJ (fun h=>?_) (fun h=>(h (by omega)).elim)
    simp(disch:=omega)only[go_sem,h,hx]
    rcases hpv with⟨rfl,hp⟩|⟨id,pv,rfl,hne,hid⟩
    .simp(disch:=omega)only[go_sem]
     simp[bO,az,uc,Edge.act,hp,fQ]
    .simp(disch:=omega)only[go_sem,hid]
     have hlt:=(V9.1 hid).1
     rw[WU hlt]
     simp[bO,az,uc,Edge.act,fQ,List.take_of_length_le]
  .obtain rfl:i=la.length:=by omega
   rw[XE hi']
   rcases Wh j lb.length with hj'|hj'
   .obtain⟨y,hy⟩:=get_at hj'
    rw[fL hy,MT]
    simp(disch:=omega)only[go_sem]
    refine Br.aJ (fun h=>?_) (fun h=>(h (by omega)).elim)
    simp(disch:=omega)only[go_sem,h]
    refine Br.aJ (fun h=>absurd h (by omega)) (fun h=>?_)
    simp(disch:=omega)only[go_sem,h]
    cases only with
    |true=>
     simp(disch:=omega)only[go_sem]
     refine⟨(la.length,j+1),⟨hi,by dsimp only; omega,?_⟩,by dsimp only; omega,rfl⟩
     dsimp only
     rw[if_pos rfl,XE hi']
    |false=>
     simp(disch:=omega)only[go_sem,hy]
     rcases hpv with⟨rfl,hp⟩|⟨id,pv,rfl,hne,hid⟩
     .simp(disch:=omega)only[go_sem]
      simp[bO,az,uc,Edge.act,hp,fQ]
     .simp(disch:=omega)only[go_sem,hid]
      have hlt:=(V9.1 hid).1
      rw[WU hlt]
      simp[bO,az,uc,Edge.act,fQ,List.take_of_length_le]
   .obtain rfl:j=lb.length:=by omega
    rw[XE hj',MR]
    simp(disch:=omega)only[go_sem]
    refine W.BZ (α:=Nat×Nat×Nat×List zo×List (List V)×List aL×List (Int×Int)) (fun x=>⟨[(2,.pv (.bool only)),(3,.ptr 3 0),(4,.ptr 4 0),(9,.own 0 x.2.1 x.2.2.1 x.2.2.2.1.length),(10,.map 0),(11,.ptr 11 0),(124,.pv (.aq 0 (bF la))),(125,.pv (.int .i64 la.length)),(126,.pv (.int .i64 x.1))],⟨[(3,[.pv (.int .i64 a.aj),.pv (.int .i64 a.start),.pv (.aq t (a.af.map Edge.c))]),(4,[.pv (.int .i64 b.aj),.pv (.int .i64 b.start),.pv (.aq u (b.af.map Edge.c))]),(11,[.pv (.int .i64 n.x),.pv (.int .i64 n.y),v])],⟨x.2.1,3,.inr x.2.2.2.2.1⟩::x.2.2.2.2.2.1,[gU x.2.2.2.2.2.2]⟩⟩)
     (fun x=>x.1<=la.length/\zg a b k x.2.2.2.2.2.2 x.2.2.2.1/\tz x.2.2.1 x.2.2.2.1 x.2.2.2.2.1 x.2.2.2.2.2.1/\oR x.2.2.2.2.2.1 v n.path/\n.path.length<x.2.2.2.2.2.2.length/\(la.drop x.1).foldl (kB b.af n) (x.2.2.2.2.2.2,x.2.2.2.1)=la.foldl (kB b.af n) (seen,q)) (fun x=>la.length - x.1) (0,ax,off+1,q,rows,ars,seen) rfl
     ⟨Nat.zero_le _,⟨hD.nodup,hD.mem,by have:=hD.count; rw[List.length_cons]at this; dsimp only; omega,fun m hm=>hD.node m (List.mem_cons_of_mem _ hm),by have:=hD.le; omega⟩,hQ.pop,hpv,hpl,rfl⟩ fun x hx=>?_
    obtain⟨m,ver',off',q',rows',ars',seen'⟩:=x
    obtain⟨hm',hD',hQ',hpv',hpl',hf⟩:=hx
    dsimp only at hm' hD' hQ' hpv' hpl' hf
    dsimp only
    rw[<- hf]
    have hsb':=qG hD'.nodup (n:=a.aj.toNat) (m:=b.aj.toNat) (fun p hp=>by
     have:=hD'.mem p hp
     omega)
    have hcnt':=hD'.count
    rw[hN]at hcnt'
    have hrl':=hQ'.len
    rcases Wh m la.length with hlt|hlt
    .obtain⟨e,he⟩:=get_at hlt
     rw[fL he,Xp]
     have hea:=Wa he
     rw[<- hA,zf]at hea
     have hef:=fG.1 (ha.fit e hea.1)
     simp(disch:=omega)only[go_sem]
     refine Br.aJ (fun h=>?_) (fun h=>(h (by omega)).elim)
     simp(disch:=omega)only[go_sem,he]
     cases hn:cO n.y e.send e.label b.af with
     |none=>
      simp(disch:=omega)only[go_sem,Option.isSome_none]
      have hadd:kB b.af n (seen',q') e=(seen',q'):=by simp[kB,hn]
      exact⟨(m+1,ver',off',q',rows',ars',seen'),⟨by dsimp only; omega,hD',hQ',hpv',hpl',by rw[hadd]⟩,by dsimp only; omega,rfl⟩
     |some y=>
      simp only[Option.isSome_some,Option.getD_some]
      have hyr:0<=y/\y<b.aj:=by
       have hmem:=(sZ hb.oV).1 hn
       have hf2:=fG.1 (hb.fit _ hmem)
       exact⟨hf2.2.2.1,hf2.2.2.2.1⟩
      have hkb:=hD'.le
      simp(disch:=omega)only[go_sem]
      by_cases hin:(e.to,y)∈seen'
      .obtain⟨j,hj⟩:=Ca (i:=0) hin
       have hj:findKey true [1,1] (.agg [.int .i64 e.to,.int .i64 y]) (gU seen') 0=some (some (j,.bool true)):=hj
       simp(disch:=omega)only[go_sem,hj]
       have hadd:kB b.af n (seen',q') e=(seen',q'):=by simp[kB,hn,hin]
       exact⟨(m+1,ver',off',q',rows',ars',seen'),⟨by dsimp only; omega,hD',hQ',hpv',hpl',by rw[hadd]⟩,by dsimp only; omega,rfl⟩
      .have hj:findKey true [1,1] (.agg [.int .i64 e.to,.int .i64 y]) (gU seen') 0=some none:=B9 hin
       have hup:wm true [1,1] (.agg [.int .i64 e.to,.int .i64 y]) (.bool true) 0 (gU seen')=some { mp:=some (0,gU (seen'++[(e.to,y)])) }:=by
        rw[<- A4]
        exact FX hj
       simp(disch:=omega)only[go_sem,hj,hup]
       rcases hpv' with⟨rfl,hp⟩|⟨id,pv,rfl,hne,hid⟩
       .simp(disch:=omega)only[go_sem]
        rw[Jb (r:=[.pv (.int .i64 e.to),.pv (.int .i64 y),.own (ars'.length+1) 0 0 1]) (by simp) rfl hrl' (by omega)]
        simp(disch:=omega)only[go_sem]
        have hadd:kB b.af n (seen',q') e=(seen'++[(e.to,y)],q'++[⟨e.to,y,n.path++[e.act]⟩]):=by simp[kB,hn,hin]
        refine⟨(m+1,ver'+1,0,q'++[⟨e.to,y,n.path++[e.act]⟩],(rows'.drop off').take q'.length++[[.pv (.int .i64 e.to),.pv (.int .i64 y),.own (ars'.length+1) 0 0 1]],ars'++[⟨0,2,.inl (fQ [(e.send,e.label)])⟩]++[⟨0,3,.inr [[.pv (.int .i64 e.to),.pv (.int .i64 y),.own (ars'.length+1) 0 0 1]]⟩],seen'++[(e.to,y)]),⟨by dsimp only; omega,hD'.push hin ⟨⟨by omega,by omega⟩,hyr⟩ (by simp; omega),?_,.inl ⟨rfl,hp⟩,by simp; omega,by rw[hadd]⟩,by dsimp only; omega,?_⟩
        .rw[WK]
         refine(hQ'.more _).push (n:=⟨e.to,y,n.path++[e.act]⟩) (.inr ⟨ars'.length,0,?_,by simp,?_⟩)
         .simp[hp]
         .simp[hp,Edge.act]
        .dsimp only
         rw[Wz]
         rfl
       .have hne':n.path.length≠0:=fun h=>hne (Wp h)
        simp(disch:=omega)only[go_sem,hid,List.getElem?_concat_length,List.set_append_right,Nat.sub_self,List.set_cons_zero,Nat.le_refl]
        rw[Jb (r:=[.pv (.int .i64 e.to),.pv (.int .i64 y),.own (ars'.length+1) 1 0 (n.path.length+1)]) (by simp) rfl hrl' (by omega)]
        simp(disch:=omega)only[go_sem]
        have hadd:kB b.af n (seen',q') e=(seen'++[(e.to,y)],q'++[⟨e.to,y,n.path++[e.act]⟩]):=by simp[kB,hn,hin]
        refine⟨(m+1,ver'+1,0,q'++[⟨e.to,y,n.path++[e.act]⟩],(rows'.drop off').take q'.length++[[.pv (.int .i64 e.to),.pv (.int .i64 y),.own (ars'.length+1) 1 0 (n.path.length+1)]],ars'++[⟨1,2,.inl (fQ (n.path++[(e.send,e.label)]))⟩]++[⟨0,3,.inr [[.pv (.int .i64 e.to),.pv (.int .i64 y),.own (ars'.length+1) 1 0 (n.path.length+1)]]⟩],seen'++[(e.to,y)]),⟨by dsimp only; omega,hD'.push hin ⟨⟨by omega,by omega⟩,hyr⟩ (by simp; omega),?_,?_,by simp; omega,by rw[hadd]⟩,by dsimp only; omega,?_⟩
        .rw[WK]
         refine(hQ'.more _).push (n:=⟨e.to,y,n.path++[e.act]⟩) (.inr ⟨ars'.length,1,?_,by simp,?_⟩)
         .simp
         .simp[Edge.act]
        .dsimp only
         rw[WK]
         exact oR.more (.inr ⟨id,pv,rfl,hne,hid⟩) _
        .dsimp only
         rw[Wz]
         rfl
    .obtain rfl:m=la.length:=by omega
     simp(disch:=omega)only[go_sem]
     refine⟨(k,ver',off',q',rows',ars',seen'),⟨hD',hQ',?_⟩,by dsimp only; omega,rfl⟩
     dsimp only
     rw[XE hlt]
     rfl
theorem ZC {a b c d:Edge} (h1:a.act=c.act) (h2:b.act=d.act):vB a b=vB c d:=by
 simp only[Edge.act,Prod.mk.injEq]at h1 h2
 unfold vB
 rw[h1.1,h1.2,h2.1,h2.2]
theorem zs {a b:Edge} (h:a.act=b.act):vB a b=false:=by
 rw[ZC h rfl]
 simp[vB]
theorem Y2 {a b c:Edge} (h1:vB a b=true) (h2:vB b c=true):vB a c=true:=by
 unfold vB at *
 cases ha:a.send<;>cases hb:b.send<;>cases hc:c.send<;>simp_all<;>omega
theorem ZD {a b:Edge} (h1:vB a b=false) (h2:vB b a=false):a.act=b.act:=by
 unfold vB at *
 unfold Edge.act
 cases ha:a.send<;>cases hb:b.send<;>simp_all<;>omega
def aae (l:List Edge):Prop:=l.Pairwise fun x y=>vB x y=true
theorem aP.Good.aaf {a:aP} (h:a.Good) (s:Int):aae (aV a.af s):=by
 unfold aae aV
 rw[List.pairwise_filter]
 refine h.Ps.imp ?_
 intro x y hxy hx hy
 simp only[beq_iff_eq]at hx hy
 unfold Edge.lt at hxy
 unfold vB
 rw[hx,hy]at hxy
 cases hs:x.send<;>cases ht:y.send<;>simp_all
theorem X9 (o:Bool):∀(la lb:List Edge),aae la->aae lb->match w4 o la lb with
  |none=>(∀x∈la,∃y∈lb,y.act=x.act)/\(o=false->∀y∈lb,∃x∈la,x.act=y.act)
  |some (e,w)=>(w=0/\e∈la/\∀y∈lb,y.act≠e.act)\/(w=1/\o=false/\e∈lb/\∀x∈la,x.act≠e.act)
 |[],[],_,_=>by
  rw[MR]
  exact⟨fun x hx=>(abC hx).elim,fun _ y hy=>(abC hy).elim⟩
 |x::l,[],_,_=>by
  rw[MS]
  exact .inl ⟨rfl,by simp,fun y hy=>(List.not_mem_nil hy).elim⟩
 |[],y::m,ha,hb=>by
  rw[MT]
  cases o with
  |true=>
   rw[if_pos rfl]
   have h:=X9 true [] m ha (Wv.1 hb).2
   revert h
   cases w4 true [] m with
   |none=>exact fun _=>⟨fun x hx=>(abC hx).elim,fun h=>by cases h⟩
   |some r=>
    rintro (⟨_,h,_⟩|⟨_,h,_⟩)
    .cases h
    .cases h
  |false=>
   rw[if_neg (by simp)]
   exact .inr ⟨rfl,rfl,by simp,fun x hx=>(List.not_mem_nil hx).elim⟩
 |x::l,y::m,ha,hb=>by
  obtain⟨ha1,ha2⟩:=Wv.1 ha
  obtain⟨hb1,hb2⟩:=Wv.1 hb
  have keya:∀{z},vB z x=true->∀u∈x::l,u.act≠z.act:=fun {z} hz u hu e=>by
   rcases WG.1 hu with rfl|hu
   .rw[zs e.symm]at hz; cases hz
   .have:=Y2 hz (ha1 u hu)
    rw[zs e.symm]at this; cases this
  have keyb:∀{z},vB z y=true->∀u∈y::m,u.act≠z.act:=fun {z} hz u hu e=>by
   rcases WG.1 hu with rfl|hu
   .rw[zs e.symm]at hz; cases hz
   .have:=Y2 hz (hb1 u hu)
    rw[zs e.symm]at this; cases this
  rw[MU]
  by_cases h1:vB x y=true
  .rw[if_pos h1]
   exact .inl ⟨rfl,by simp,keyb h1⟩
  .rw[if_neg h1]
   by_cases h2:vB y x=true
   .rw[if_pos h2]
    cases o with
    |true=>
     rw[if_pos rfl]
     have h:=X9 true (x::l) m ha hb2
     revert h
     cases w4 true (x::l) m with
     |none=>
      rintro ⟨h,_⟩
      refine⟨fun u hu=>?_,fun h=>by cases h⟩
      obtain⟨v,hv,e⟩:=h u hu
      exact⟨v,W3 _ hv,e⟩
     |some r=>
      rintro (⟨h3,h4,h5⟩|⟨_,h,_⟩)
      .refine .inl ⟨h3,h4,fun v hv=>?_⟩
       rcases WG.1 hv with rfl|hv
       .exact fun e=>keya h2 _ h4 e.symm
       .exact h5 v hv
      .cases h
    |false=>
     rw[if_neg (by simp)]
     exact .inr ⟨rfl,rfl,by simp,keya h2⟩
   .rw[if_neg h2]
    have he:x.act=y.act:=ZD (by simpa using h1) (by simpa using h2)
    have h:=X9 o l m ha2 hb2
    revert h
    cases w4 o l m with
    |none=>
     rintro ⟨h3,h4⟩
     refine⟨fun u hu=>?_,fun ho u hu=>?_⟩
     .rcases WG.1 hu with rfl|hu
      .exact⟨y,by simp,he.symm⟩
      .obtain⟨v,hv,e⟩:=h3 u hu
       exact⟨v,W3 _ hv,e⟩
     .rcases WG.1 hu with rfl|hu
      .exact⟨x,by simp,he⟩
      .obtain⟨v,hv,e⟩:=h4 ho u hu
       exact⟨v,W3 _ hv,e⟩
    |some r=>
     rintro (⟨h3,h4,h5⟩|⟨h3,h0,h4,h5⟩)
     .refine .inl ⟨h3,W3 _ h4,fun v hv=>?_⟩
      rcases WG.1 hv with rfl|hv
      .intro e
       have:=ha1 _ h4
       rw[zs (he.trans e)]at this
       cases this
      .exact h5 v hv
     .refine .inr ⟨h3,h0,W3 _ h4,fun v hv=>?_⟩
      rcases WG.1 hv with rfl|hv
      .intro e
       have:=hb1 _ h4
       rw[zs (he.symm.trans e)]at this
       cases this
      .exact h5 v hv
termination_by la lb=>la.length+lb.length
inductive PR (a b:List Edge) (s t:Int):List (Bool×Int)->Int->Int->Prop
 |nil:PR a b s t [] s t
 |snoc {p:List (Bool×Int)} {x y x' y':Int} {d:Bool} {l:Int}:PR a b s t p x y->cO x d l a=some x'->cO y d l b=some y'->PR a b s t (p++[(d,l)]) x' y'
theorem Yd {a b:aP} {k:Nat} {n:zo} (hb:b.Good):∀(l:List Edge) (seen:List (Int×Int)) (q:List zo),(∀e∈l,0<=e.to/\e.to<a.aj)->n.path.length<seen.length->zg a b k seen q->
  ∃seen' qs,l.foldl (kB b.af n) (seen,q)=(seen',q++qs)/\zg a b k seen' (q++qs)/\(∀p∈seen,p∈seen')/\(∀p∈seen',p∈seen\/∃m∈qs,(m.x,m.y)=p)/\
   (∀m∈qs,∃e∈l,cO n.y e.send e.label b.af=some m.y/\m.x=e.to/\m.path=n.path++[e.act])/\(∀e∈l,∀y,cO n.y e.send e.label b.af=some y->(e.to,y)∈seen')
 |[],seen,q,_,_,hD=>⟨seen,[],by simp,by simpa using hD,fun _ h=>h,fun _ h=>.inl h,fun _ h=>(List.not_mem_nil h).elim,fun _ h=>(List.not_mem_nil h).elim⟩
 |e::l,seen,q,hl,hp,hD=>by
  have hl':∀e∈l,0<=e.to/\e.to<a.aj:=fun f hf=>hl f (W3 _ hf)
  rw[Xp]
  by_cases hadd:∃y,cO n.y e.send e.label b.af=some y/\(e.to,y)∉seen
  .obtain⟨y,hy,hns⟩:=hadd
   have hy':=hb.hJ hy
   unfold aP.inr at hy'
   have h0:kB b.af n (seen,q) e=(seen++[(e.to,y)],q++[⟨e.to,y,n.path++[e.act]⟩]):=by simp[kB,hy,hns]
   obtain⟨seen',qs,h1,h2,h3,h4,h5,h6⟩:=Yd (n:=n) hb l _ _ hl' (by simp; omega) (hD.push (p:=n.path++[e.act]) hns ⟨hl e (by simp),hy'⟩ (by simp; omega))
   refine⟨seen',⟨e.to,y,n.path++[e.act]⟩::qs,?_,?_,?_,?_,?_,?_⟩
   .rw[h0,h1,WK]
    rfl
   .rw[WK]at h2
    exact h2
   .exact fun p hp=>h3 p (by simp[hp])
   .intro p hp
    rcases h4 p hp with h|⟨m,hm,h⟩
    .rw[WT,Xj]at h
     rcases h with h|rfl
     .exact .inl h
     .exact .inr ⟨_,WH ..,rfl⟩
    .exact .inr ⟨m,W3 _ hm,h⟩
   .intro m hm
    rcases WG.1 hm with rfl|hm
    .exact⟨e,by simp,hy,rfl,rfl⟩
    .obtain⟨f,hf,h⟩:=h5 m hm
     exact⟨f,W3 _ hf,h⟩
   .intro f hf z hz
    rcases WG.1 hf with rfl|hf
    .rw[hy]at hz
     cases hz
     exact h3 _ (by simp)
    .exact h6 f hf z hz
  .have h0:kB b.af n (seen,q) e=(seen,q):=by
    unfold kB
    cases hn:cO n.y e.send e.label b.af with
    |none=>rfl
    |some y=>
     have:(e.to,y)∈seen:=Classical.byContradiction fun h=>hadd ⟨y,hn,h⟩
     simp[this]
   obtain⟨seen',qs,h1,h2,h3,h4,h5,h6⟩:=Yd (n:=n) hb l seen q hl' hp hD
   refine⟨seen',qs,by rw[h0,h1],h2,h3,h4,?_,?_⟩
   .intro m hm
    obtain⟨f,hf,h⟩:=h5 m hm
    exact⟨f,W3 _ hf,h⟩
   .intro f hf z hz
    rcases WG.1 hf with rfl|hf
    .exact h3 _ (Classical.byContradiction fun h=>hadd ⟨z,hz,h⟩)
    .exact h6 f hf z hz
theorem Yg {a b:aP} (ha:a.Good) (hb:b.Good) (o:Bool):∀(k:Nat) (seen:List (Int×Int)) (q:List zo),zg a b k seen q->(∀n∈q,PR a.af b.af a.start b.start n.path n.x n.y)->
  (∀x y,(x,y)∈seen->(∃n∈q,n.x=x/\n.y=y)\/(w4 o (aV a.af x) (aV b.af y)=none/\∀d l x' y',cO x d l a.af=some x'->cO y d l b.af=some y'->(x',y')∈seen))->(a.start,b.start)∈seen->
  match B8 a.af b.af o k (seen,q)with
  |none=>∀p x y,PR a.af b.af a.start b.start p x y->w4 o (aV a.af x) (aV b.af y)=none
  |some (p,w)=>∃(n:zo) (e:Edge),PR a.af b.af a.start b.start n.path n.x n.y/\w4 o (aV a.af n.x) (aV b.af n.y)=some (e,w)/\p=n.path++[e.act]/\n.path.length<1000
 |k,seen,[],hD,_,hs,h0=>by
  have:B8 a.af b.af o k (seen,[])=none:=by cases k<;>rfl
  rw[this]
  have hin:∀p x y,PR a.af b.af a.start b.start p x y->(x,y)∈seen:=fun p x y h=>by
   induction h with
   |nil=>exact h0
   |snoc _ h1 h2 ih=>
    rcases hs _ _ ih with⟨n,hn,_⟩|⟨_,h⟩
    .cases hn
    .exact h _ _ _ _ h1 h2
  intro p x y h
  rcases hs _ _ (hin p x y h)with⟨n,hn,_⟩|⟨h,_⟩
  .cases hn
  .exact h
 |0,seen,n::q,hD,_,_,_=>by
  have h1:=hD.count
  have h2:=qG hD.nodup (n:=a.aj.toNat) (m:=b.aj.toNat) (fun p hp=>by
   have:=hD.mem p hp
   omega)
  simp at h1
  omega
 |k+1,seen,n::q,hD,hq,hs,h0=>by
  have hdif:B8 a.af b.af o (k+1) (seen,n::q)=match w4 o (aV a.af n.x) (aV b.af n.y)with
   |some (e,w)=>some (n.path++[e.act],w)
   |none=>B8 a.af b.af o k ((aV a.af n.x).foldl (kB b.af n) (seen,q)):=rfl
  rw[hdif]
  cases hm:w4 o (aV a.af n.x) (aV b.af n.y)with
  |some r=>
   obtain⟨e,w⟩:=r
   refine⟨n,e,hq n (by simp),hm,rfl,?_⟩
   have h1:=(hD.node n (by simp)).2.2
   have h2:=qG hD.nodup (n:=a.aj.toNat) (m:=b.aj.toNat) (fun p hp=>by
    have:=hD.mem p hp
    omega)
   have h3:=ha.mx
   have h4:=hb.mx
   have:=abA (show a.aj.toNat<=12 by omega) (show b.aj.toNat<=12 by omega)
   omega
  |none=>
   dsimp only
   have hl:=(hD.node n (by simp)).2.2
   obtain⟨seen',qs,h1,h2,h3,h4,h5,h6⟩:=Yd (a:=a) (k:=k) (n:=n) hb (aV a.af n.x) seen q (fun e he=>by
    rw[zf]at he
    have:=fG.1 (ha.fit e he.1)
    exact⟨this.2.2.1,this.2.2.2.1⟩) hl ⟨hD.nodup,hD.mem,by have:=hD.count; rw[abv]at this; omega,fun m hm=>hD.node m (W3 _ hm),by have:=hD.le; omega⟩
   rw[h1]
   refine Yg ha hb o k seen' (q++qs) h2 ?_ ?_ (h3 _ h0)
   .intro m hm'
    rcases WT.1 hm' with hm'|hm'
    .exact hq m (W3 _ hm')
    .obtain⟨e,he,h7,h8,h9⟩:=h5 m hm'
     rw[zf]at he
     rw[h9,h8]
     refine PR.snoc (d:=e.send) (l:=e.label) (hq n (by simp)) ((sZ ha.oV).2 ?_) h7
     have:(⟨n.x,e.send,e.label,e.to⟩:Edge)=e:=by rw[<- he.2]
     rw[this]
     exact he.1
   .intro x y hxy
    have done:∀x y,((∃m∈n::q,m.x=x/\m.y=y)\/(w4 o (aV a.af x) (aV b.af y)=none/\∀d l x' y',cO x d l a.af=some x'->cO y d l b.af=some y'->(x',y')∈seen))->(∃n∈q++qs,n.x=x/\n.y=y)\/(w4 o (aV a.af x) (aV b.af y)=none/\∀d l x' y',cO x d l a.af=some x'->cO y d l b.af=some y'->(x',y')∈seen'):=by
     rintro x y (⟨m,hm',rfl,rfl⟩|⟨h,h'⟩)
     .rcases WG.1 hm' with rfl|hm'
      .refine .inr ⟨hm,fun d l x' y' hx hy=>?_⟩
       exact h6 ⟨m.x,d,l,x'⟩ (zf.2 ⟨(sZ ha.oV).1 hx,rfl⟩) y' hy
      .exact .inl ⟨m,Xa _ hm',rfl,rfl⟩
     .exact .inr ⟨h,fun d l x' y' hx hy=>h3 _ (h' d l x' y' hx hy)⟩
    rcases h4 _ hxy with h|⟨m,hm',h⟩
    .exact done x y (hs x y h)
    .simp only[Prod.mk.injEq]at h
     exact .inl ⟨m,Xt _ hm',h.1,h.2⟩
def aP.B8 (a b:aP) (o:Bool):Option (List (Bool×Int)×Int):=Pv.B8 a.af b.af o (a.aj.toNat*b.aj.toNat+1) ([(a.start,b.start)],[⟨a.start,b.start,[]⟩])
theorem aP.Yg {a b:aP} (ha:a.Good) (hb:b.Good) (o:Bool):match a.B8 b o with
  |none=>∀p x y,PR a.af b.af a.start b.start p x y->w4 o (aV a.af x) (aV b.af y)=none
  |some (p,w)=>∃(n:zo) (e:Edge),PR a.af b.af a.start b.start n.path n.x n.y/\w4 o (aV a.af n.x) (aV b.af n.y)=some (e,w)/\p=n.path++[e.act]/\n.path.length<1000:=by
 have h1:=ha.st
 have h2:=hb.st
 have h3:=ha.mx
 have h4:=hb.mx
 have:=abA (show a.aj.toNat<=12 by omega) (show b.aj.toNat<=12 by omega)
 refine Pv.Yg ha hb o _ _ _ ⟨by simp,by simp; omega,by simp,by simp; omega,by omega⟩ ?_ ?_ (by simp)
 .intro n hn
  rw[Xj]at hn
  subst hn
  exact .nil
 .intro x y hxy
  simp only[List.mem_singleton,Prod.mk.injEq]at hxy
  exact .inl ⟨_,Xj.2 rfl,hxy.1.symm,hxy.2.symm⟩
def mC (a b:aP):Int:=if a.err=0 then b.err else a.err
set_option maxHeartbeats 1000000 in
@[go_sem] theorem r34 (t u:Nat) (a b:aP) (ha:a.af.length<=2000000000) (hb:b.af.length<=2000000000):res A aA 34 [.agg [.int .i64 a.aj,.int .i64 a.start,.aq t (a.af.map Edge.c)],.agg [.int .i64 b.aj,.int .i64 b.start,.aq u (b.af.map Edge.c)]]=some [.int .i64 (mC a b)]:=by
 refine aw a34 rfl rfl ?_
 simp only[F34,Ue]
 simp(disch:=omega)only[go_sem]
 refine Br.aJ (fun h=>?_) (fun h=>?_)<;>simp(disch:=omega)only[go_sem,h]
 .unfold mC
  rw[if_pos h]
 .unfold mC
  rw[if_neg h]
set_option maxHeartbeats 1000000 in
@[go_sem] theorem r36 (t u:Nat) (a b:aP) (ha:a.af.length<=2000000000) (hb:b.af.length<=2000000000):res A aA 36 [.agg [.int .i64 a.aj,.int .i64 a.start,.aq t (a.af.map Edge.c)],.agg [.int .i64 b.aj,.int .i64 b.start,.aq u (b.af.map Edge.c)]]=some [.int .i64 (mC a b)]:=by
 refine aw a36 rfl rfl ?_
 simp only[F36,pt]
 simp(disch:=omega)only[go_sem]
 refine Br.aJ (fun h=>?_) (fun h=>?_)<;>simp(disch:=omega)only[go_sem,h]
 .unfold mC
  rw[if_pos h]
 .unfold mC
  rw[if_neg h]
theorem vD {a b:aP} (h:mC a b=0):a.Good/\b.Good:=by
 unfold mC at h
 by_cases h1:a.err=0
 .rw[if_pos h1]at h
  exact⟨aP.iV.1 h1,aP.iV.1 h⟩
 .rw[if_neg h1]at h
  exact(h1 h).elim
theorem FY (r:Option (List (Bool×Int)×Int)):uc r=[.aq 0 (fQ (r.getD ([],0)).1),.int .i64 (r.getD ([],0)).2,.bool r.isSome]:=by
 cases r with
 |none=>rfl
 |some r=>rfl
@[go_sem] theorem r35a (t u:Nat) (a b:aP) (only:Bool) (ht:t<=1) (hu:u<=1) (h:mC a b=0):res A aA 35 [.agg [.int .i64 a.aj,.int .i64 a.start,.aq t (a.af.map Edge.c)],.agg [.int .i64 b.aj,.int .i64 b.start,.aq u (b.af.map Edge.c)],.bool only]=some [.aq 0 (fQ ((a.B8 b only).getD ([],0)).1),.int .i64 ((a.B8 b only).getD ([],0)).2,.bool (a.B8 b only).isSome]:=by
 rw[r35 t u a b only ht hu (vD h).1 (vD h).2,FY]
 rfl
set_option maxHeartbeats 1000000 in
@[go_sem] theorem r16 (t u:Nat) (a b:aP) (ht:t<=1) (hu:u<=1) (ha:a.af.length<=2000000000) (hb:b.af.length<=2000000000):res A aA 16 [.agg [.int .i64 a.aj,.int .i64 a.start,.aq t (a.af.map Edge.c)],.agg [.int .i64 b.aj,.int .i64 b.start,.aq u (b.af.map Edge.c)]]=some [.bool (decide (mC a b=0)&&!(a.B8 b false).isSome),.int .i64 (mC a b)]:=by
 refine aw a16 rfl rfl ?_
 simp only[F16,T8]
 simp(disch:=omega)only[go_sem]
 refine Br.aJ (fun h=>?_) (fun h=>?_)
 .have h0:=h
  simp(disch:=omega)only[go_sem,h0,r35a t u a b false ht hu h0]
 .simp(disch:=omega)only[go_sem,h]
set_option maxHeartbeats 1000000 in
@[go_sem] theorem r17 (t u:Nat) (a b:aP) (_ht:t<=1) (_hu:u<=1) (ha:a.af.length<=2000000000) (hb:b.af.length<=2000000000):res A aA 17 [.agg [.int .i64 a.aj,.int .i64 a.start,.aq t (a.af.map Edge.c)],.agg [.int .i64 b.aj,.int .i64 b.start,.aq u (b.af.map Edge.c)]]=some [.bool (decide (mC a b=0)&&decide (UW (differ a b) a.start b.start=0)),.int .i64 (mC a b)]:=by
 refine aw a17 rfl rfl ?_
 simp only[F17,ns]
 simp(disch:=omega)only[go_sem]
 refine Br.aJ (fun h=>?_) (fun h=>?_)
 .have h0:=h
  obtain⟨h1,h2⟩:=vD h0
  have hM:vC a.aj.toNat b.aj.toNat (differ a b):=(Yz h1 h2 _).1
  obtain⟨l,g1,g2,g3⟩:=hM.get (p:=a.start) (q:=b.start) (by have:=h1.st; omega) (by have:=h2.st; omega)
  have s1:=h1.st
  have s2:=h2.st
  have s3:=hM.len
  have s4:=h1.mx
  have s5:=h2.mx
  simp(disch:=omega)only[go_sem,h0,r31 t u a b h1 h2,gB,g1,g3]
 .simp(disch:=omega)only[go_sem,h]
end Go.Pv
