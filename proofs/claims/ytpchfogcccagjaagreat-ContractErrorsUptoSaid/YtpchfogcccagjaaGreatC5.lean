/-
 What the functions of the law give.
-/
import Derived.Test.YtpchfogcccagjaaGreatC4
set_option linter.unusedSimpArgs false
set_option linter.unusedVariables false
open List renaming mem_of_getElem? → Tf, getElem?_eq_some_iff → Tg, getElem?_eq_getElem → Th, mem_iff_getElem? → Ti, length_map → Tl, getElem?_map → To, take_of_length_le → Ts, length_take → Tt, length_range → Tv, getElem?_take → Tz, mem_map → TA, getD_eq_getElem?_getD → TC, all_eq_true → TD, findIdx?_eq_some_iff_getElem → TG, map_append → TI, take_add_one → TM, any_eq_false → TU, getElem_mem → T8, any_eq_true → Uf, any_map → Ug, map_take → Ui, find?_eq_none → UJ, mem_range → UO, find?_some → UU
open Bool renaming eq_iff_iff → TQ, eq_false_iff → Us
namespace Go.Pv
theorem C6 {T:List aD} {n:List Int} (h:zE true T n) {k:Nat} {x:aD} (hx:T[k]?=some x) (hc:(swp true T n k).getD k 0≠lA true x (swp true T n k)):swp true T n (k+1)≠n:=fun e=>by
 obtain⟨h1,h2⟩:=h.swp k
 have h3:=h1.2.2 k x hx
 have h4:=h2.2 k
 have hk:k<(swp true T n k).length:=by rw[h1.1]; exact(Tg.1 hx).1
 have h5:=gU (n:=swp true T n k) (x:=lA true x (swp true T n k)) k hk
 rw[<- nL hx,e,if_pos rfl]at h5
 omega
theorem C7 {T:List aD} {n:List Int} (h:zE true T n) {k:Nat} {x:aD} (hx:T[k]?=some x) (hc:(swp true T n k).getD k 0=lA true x (swp true T n k)):swp true T n (k+1)=swp true T n k:=by
 have hk:k<(swp true T n k).length:=by rw[(h.swp k).1.1]; exact(Tg.1 hx).1
 rw[nL hx,<- hc,TC,Th hk]
 simp
theorem A2 {T:List aD} (hv:ct T=0) {n:List Int} (h:Fix true T n):∀x∈T,x.kind=8->lR n x.key≠0:=by
 intro x hx h8
 obtain⟨k,hk⟩:=Ti.1 hx
 have hb:=A1 hv hk
 have hu:=(dm hv).KE x hx x.key (kL h8)
 unfold dO jT at hb
 rw[h8]at hb
 have hg:=Th (l:=T) (i:=x.key.toNat) (by omega)
 generalize T[x.key.toNat]'(by omega)=q at hg
 rw[hg]at hb
 have hq:1<=q.kind/\q.kind<=4:=by simpa using hb
 have ho:=(dm hv).own q (Tf hg)
 unfold lR
 rw[h.2.2 _ q hg]
 unfold lA
 have h4:q.kind=4->0<q.syms.length:=fun e=>by
  unfold eV kindOk jS at ho
  simp[e]at ho
  omega
 split
 .split<;>decide
 .split
  .split<;>decide
  .split
   .rename_i e
    have:=h4 e
    omega
   .rw[if_neg (by omega),if_neg (by omega),if_neg (by omega),if_neg (by omega),if_neg (by omega)]
    decide
def rU (T:List aD):List Int:=gr false T (2*T.length+1)
set_option maxHeartbeats 2000000 in
theorem r474 (u:Nat) (T:List aD) (ho:∀t∈T,t.ok) (hs:∀t∈T,t.short) (hv:ct T=0):res A ay 474 [.agg [.ai u (T.map aD.c)]]=some [.ai 0 (ints (rU T))]:=by
 have hS:=dm hv
 have hT:=uR ho hv
 have h32:=hS.len
 refine aq a474 rfl rfl ?_
 simp only[F474,Je]
 simp(disch:=omega)only[go_sem]
 refine W.wX (α:=Bool×List Int) (fun x=>⟨[(1,.ptr 1 0),(3,.own 0 0 0 T.length),(4,.pv (.bool x.1))],⟨[(1,[.pv (.ai u (T.map aD.c))])],[⟨0,1,.inl (ints x.2)⟩],[]⟩⟩)
  (fun x=>zE true T x.2/\(∀m,Fix true T m->ke x.2 m)/\(x.1=false->Fix true T x.2)) (fun x=>(2*(2*T.length - oT x.2)).toNat+(if x.1=true then 1 else 0)) (true,gr true T 0) (by simp(disch:=omega)only[go_sem]; rfl) ⟨fp true T 0,fun m hm=>mq hm 0,fun h=>by cases h⟩ fun x hx=>?_
 obtain⟨b,n⟩:=x
 obtain⟨hl,hun,hfix⟩:=hx
 dsimp only at hl hun hfix
 have hll:=hl.1
 cases b with
 |false=>
  have e:n=rU T:=pC.uniq (AX ⟨hfix rfl,hun⟩ (A2 hv (hfix rfl))) (rP false T)
  rw[<- e]
  have hmt:n.take T.length=n:=Ts (by omega)
  simp(disch:=omega)only[go_sem,hmt]
 |true=>
  simp(disch:=omega)only[go_sem]
  refine W.du T.length (fun k=>⟨[(1,.ptr 1 0),(3,.own 0 0 0 T.length),(4,.pv (.bool (decide (swp true T n k≠n)))),(14,.pv (.ai u (T.map aD.c))),(15,.pv (.int .i64 T.length)),(16,.pv (.int .i64 k))],⟨[(1,[.pv (.ai u (T.map aD.c))])],[⟨0,1,.inl (ints (swp true T n k))⟩],[]⟩⟩) (fun _=>True) (by simp[swp]) trivial fun k hk _=>?_
  have hw:=(hl.swp k).1
  have hwl:=hw.1
  simp(disch:=omega)only[go_sem]
  refine Br.aB (fun c=>?_) (fun c=>?_)
  .obtain⟨x,hx⟩:=get_some (l:=T) (k:=k) (by omega)
   have hxm:=Tf hx
   have hsx:=nL (b:=true) (n:=n) hx
   have hfl:=C6 hl hx
   have hsm:=C7 hl hx
   have h485:=fun t=>r485 x (swp true T n k) t (hT.2.2 x hxm) (hs x hxm) hw.2.1 (tT hS hxm hwl)
   have hmn:=CX x hw.2.1
   have hfk:∀b:Bool,(b=true↔swp true T n k≠n)->b=decide (swp true T n k≠n):=fun b h=>by rw[Bool.eq_iff_iff,h]; simp
   obtain⟨fl,hfl2⟩:∃fl,decide (swp true T n k≠n)=fl:=⟨_,rfl⟩
   have hup:fl=true->swp true T n (k+1)≠n:=fun h e=>by
    have h1:=(hl.swp k).2
    have h2:ke (swp true T n k) (swp true T n (k+1)):=by rw[hsx]; exact(hw.step hx).2
    rw[e]at h2
    rw[<- hfl2]at h
    exact of_decide_eq_true h (h2.Ke h1)
   have hga:(swp true T n k)[k]?=some ((swp true T n k).getD k 0):=by
    rw[TC,Th (show k<(swp true T n k).length by omega)]
    rfl
   rw[hfl2]
   have hlo:fl=false->swp true T n k=n:=fun h=>by
    rw[<- hfl2]at h
    simpa using h
   generalize hm:swp true T n k=m at *
   have hmt:m.take T.length=m:=Ts (by omega)
   generalize m.getD k 0=g at *
   generalize hq:lA true x m=q at *
   generalize CV x m=q2 at *
   simp only[aD.c]at h485
   simp(disch:=omega)only[go_sem,hx,Option.map_some,aD.c,h485,hmt,hmn,hga]
   refine Br.aB (fun d=>?_) (fun d=>?_)<;>simp(disch:=omega)only[go_sem]
   .refine .of (by omega) ?_ trivial
    have h1:=hsm d.symm
    have h2:decide (swp true T n (k+1)≠n)=fl:=by rw[h1,hfl2]
    rw[h2,h1]
    rfl
   .refine .of (by omega) ?_ trivial
    have h1:=hfl (fun e=>d e.symm)
    have h2:decide (swp true T n (k+1)≠n)=true:=decide_eq_true h1
    rw[h2,hsx]
    rfl
  .obtain rfl:k=T.length:=by omega
   simp(disch:=omega)only[go_sem]
   have hup:=(hl.swp T.length).2
   have hf:=CU hl
   have hlw:=(hl.swp T.length).1
   refine⟨(decide (swp true T n T.length≠n),swp true T n T.length),⟨hlw,fun m hm=>lB hl hm (hun m hm) _,fun h=>?_⟩,?_,by simp(disch:=omega)only[go_sem]⟩
   .have e:swp true T n T.length=n:=by simpa using h
    dsimp only
    rw[e]at hf |-
    exact hf (ke.refl n)
   .have h1:=uT hup
    have h2:=nF hl.2.1
    have h3:=nF hlw.2.1
    rw[hll]at h2
    rw[hlw.1]at h3
    by_cases e:swp true T n T.length=n
    .simp[e]
    .have:=h1.2 (fun h=>e h.symm)
     simp[e]
     omega
theorem rV (l:List Bool) (x:Bool):bD l++[[.bool x]]=bD (l++[x]):=by simp[bD]
def iG (x:Int):Bool:=decide (0<x)
def sL (T:List aD):List Bool:=(rU T).map iG
theorem tU {N:List Int} {k:Nat} {x:Int} (h:N[k]?=some x):(N.map iG).take (k+1)=(N.map iG).take k++[iG x]:=by
 rw[TM,To,h]
 rfl
noncomputable def A3 (T:List aD):List Bool:=if fN T≠0 then [] else sL T
theorem lC (T:List aD):(rU T).length=T.length:=(fp false T _).1
set_option maxHeartbeats 2000000 in
theorem r464 (u:Nat) (T:List aD) (hl:T.length<=2147483648) (ho:∀t∈T,t.ok) (hs:∀t∈T,t.short):res A ay 464 [.agg [.ai u (T.map aD.c)]]=some [.ai 0 (bD (A3 T)),.int .i64 (fN T)]:=by
 have h473:=r473 u T hl ho hs
 refine aq a464 rfl rfl ?_
 simp only[F464,I5]
 simp(disch:=omega)only[go_sem,h473]
 unfold A3
 refine Br.aB (fun c=>?_) (fun c=>?_)<;>simp(disch:=omega)only[go_sem,c]
 rotate_left
 .rw[if_pos c]
  rfl
 rw[if_neg (by simp[c])]
 have hc0:=c
 have hv:=(gg c).1
 have h474:=r474 u T ho hs hv
 have hcl:=lC T
 have h32:=(dm hv).len
 unfold sL
 generalize rU T=N at *
 simp(disch:=omega)only[go_sem,h474]
 refine W.du N.length (fun k=>⟨[(5,dR 0 (bD ((N.map iG).take k))),(14,.pv (.ai 0 (ints N))),(15,.pv (.int .i64 N.length)),(16,.pv (.int .i64 k))],⟨[],et 1 (bD ((N.map iG).take k)),[]⟩⟩) (fun _=>True) rfl trivial fun k hk _=>?_
 simp(disch:=omega)only[go_sem]
 refine Br.aB (fun c=>?_) (fun c=>?_)
 .obtain⟨x,hx⟩:=get_some (l:=N) (k:=k) (by omega)
  have ht:=tU hx
  have hql:(bD ((N.map iG).take k)).length=k:=by simp[bD]; omega
  have hg:=fun bx mp=>wt bx mp 1 (bD ((N.map iG).take k)) [.bool (iG x)] rfl (by omega)
  have hp:decide (0<x)=iG x:=rfl
  generalize (N.map iG).take k=q at *
  simp(disch:=omega)only[go_sem,hx,hp,hg]
  refine .of (by omega) ?_ trivial
  rw[rV,<- ht]
  rfl
 .obtain rfl:k=N.length:=by omega
  have e:(N.map iG).take N.length=N.map iG:=List.take_of_length_le (by simp)
  rw[e]
  simp(disch:=omega)only[go_sem,hc0]
set_option maxHeartbeats 2000000 in
theorem r461 (u:Nat) (T:List aD) (hl:T.length<=2147483648) (ho:∀t∈T,t.ok) (hs:∀t∈T,t.short):res A ay 461 [.agg [.ai u (T.map aD.c)]]=some [.ai 0 (bD (A3 T)),.int .i64 (fN T)]:=by
 have h470:=r470 u T hl ho hs
 refine aq a461 rfl rfl ?_
 simp only[F461,I2]
 simp(disch:=omega)only[go_sem,h470]
 unfold A3
 refine Br.aB (fun c=>?_) (fun c=>?_)<;>simp(disch:=omega)only[go_sem,c]
 rotate_left
 .rw[if_pos c]
  rfl
 rw[if_neg (by simp[c])]
 have hc0:=c
 have hv:=(gg c).1
 have h471:=r471 u T ho hs hv
 have hcl:=lC T
 have h32:=(dm hv).len
 unfold sL
 change _=some [PV.ai 0 (ints (rU T))]at h471
 generalize rU T=N at *
 simp(disch:=omega)only[go_sem,h471]
 refine W.du N.length (fun k=>⟨[(5,.pv (.ai 0 (ints N))),(6,dR 0 (bD ((N.map iG).take k))),(7,.pv (.int .i64 k))],⟨[],et 1 (bD ((N.map iG).take k)),[]⟩⟩) (fun _=>True) rfl trivial fun k hk _=>?_
 simp(disch:=omega)only[go_sem]
 refine Br.aB (fun c=>?_) (fun c=>?_)
 .obtain⟨x,hx⟩:=get_some (l:=N) (k:=k) (by omega)
  have ht:=tU hx
  have hql:(bD ((N.map iG).take k)).length=k:=by simp[bD]; omega
  have hg:=fun bx mp=>wt bx mp 1 (bD ((N.map iG).take k)) [.bool (iG x)] rfl (by omega)
  have hp:decide (0<x)=iG x:=rfl
  generalize (N.map iG).take k=q at *
  simp(disch:=omega)only[go_sem,hx,hp,hg]
  refine .of (by omega) ?_ trivial
  rw[rV,<- ht]
  rfl
 .obtain rfl:k=N.length:=by omega
  have e:(N.map iG).take N.length=N.map iG:=List.take_of_length_le (by simp)
  rw[e]
  simp(disch:=omega)only[go_sem,hc0]
noncomputable def iB (T:List aD):Int:=if fN T≠0 then fN T else if (sL T).all id=true then 0 else 10
theorem ql (l:List Bool):(l.all fun x=>!!x)=l.all id:=by
 congr 1
 funext x
 simp
theorem r439 (u:Nat) (T:List aD) (hl:T.length<=2147483648) (ho:∀t∈T,t.ok) (hs:∀t∈T,t.short):res A ay 439 [.agg [.ai u (T.map aD.c)]]=some [.int .i64 (iB T)]:=by
 have h464:=r464 u T hl ho hs
 refine aq a439 rfl rfl ?_
 simp only[F439,IK]
 simp(disch:=omega)only[go_sem,h464]
 unfold iB A3
 refine Br.aB (fun c=>?_) (fun c=>?_)<;>simp(disch:=omega)only[go_sem,c]
 rotate_left
 .rw[if_pos c]
 rw[if_neg (by simp[c]),if_neg (by simp[c])]
 have hfl:(sL T).length=T.length:=by unfold sL; rw[Tl,lC]
 have h32:=(dm (gg c).1).len
 generalize sL T=N at *
 refine W.find N (fun x=>!x) (fun k=>⟨[(15,.pv (.ai 0 (bD N))),(16,.pv (.int .i64 N.length)),(17,.pv (.int .i64 k))],⟨[],[],[]⟩⟩) rfl (fun k x hx hk hfd=>?_) (fun hn=>?_)
 .simp(disch:=omega)only[go_sem]
  refine Br.aB (fun c=>?_) (fun c=>(c (by omega)).elim)
  simp(disch:=omega)only[go_sem,hx]
  cases x
  .have:=(hfd rfl).all
   rw[ql]at this
   simp(disch:=omega)only[go_sem]
   rw[this,if_neg (by decide)]
  .simp(disch:=omega)only[go_sem]
   exact aN.of rfl rfl
 .have:=hn.all
  rw[ql]at this
  simp(disch:=omega)only[go_sem]
  rw[this,if_pos rfl]
theorem r435 (u:Nat) (T:List aD) (hl:T.length<=2147483648) (ho:∀t∈T,t.ok) (hs:∀t∈T,t.short):res A ay 435 [.agg [.ai u (T.map aD.c)]]=some [.int .i64 (iB T)]:=by
 have h461:=r461 u T hl ho hs
 refine aq a435 rfl rfl ?_
 simp only[F435,IG]
 simp(disch:=omega)only[go_sem,h461]
 unfold iB A3
 refine Br.aB (fun c=>?_) (fun c=>?_)<;>simp(disch:=omega)only[go_sem,c]
 rotate_left
 .rw[if_pos c]
 rw[if_neg (by simp[c]),if_neg (by simp[c])]
 have hfl:(sL T).length=T.length:=by unfold sL; rw[Tl,lC]
 have h32:=(dm (gg c).1).len
 generalize sL T=N at *
 refine W.find N (fun x=>!x) (fun k=>⟨[(3,.pv (.ai 0 (bD N))),(5,.pv (.int .i64 k))],⟨[],[],[]⟩⟩) rfl (fun k x hx hk hfd=>?_) (fun hn=>?_)
 .simp(disch:=omega)only[go_sem]
  refine Br.aB (fun c=>?_) (fun c=>(c (by omega)).elim)
  simp(disch:=omega)only[go_sem,hx]
  cases x
  .have:=(hfd rfl).all
   rw[ql]at this
   simp(disch:=omega)only[go_sem]
   rw[this,if_neg (by decide)]
  .simp(disch:=omega)only[go_sem]
   exact aN.of rfl rfl
 .have:=hn.all
  rw[ql]at this
  simp(disch:=omega)only[go_sem]
  rw[this,if_pos rfl]
def gx (i:Int) (m:eo):Bool:=decide (m.id=i)
theorem r487 (m:eo) (u:Nat) (i:Int):res A ay 487 [.agg m.c,.ro u [.int .i64 i]]=some [.bool (gx i m)]:=by
 refine aq a487 rfl rfl ?_
 simp only[F487,Jr]
 simp(disch:=omega)only[go_sem,eo.c]
 rfl
theorem r486 (t u:Nat) (i:Int) (l:List eo) (hl:l.length<=2^63 - 1):res A ay 486 [.ai t (msgs l),.func 487 [.ro u [.int .i64 i]]]=some [.int .i64 (bl (gx i) l)]:=by
 refine aq a486 rfl rfl ?_
 simp only[F486,Jq]
 simp(disch:=omega)only[go_sem]
 refine W.find l (gx i) (fun k=>⟨[(0,.pv (.ai t (msgs l))),(1,.pv (.func 487 [.ro u [.int .i64 i]])),(7,.pv (.int .i64 l.length)),(8,.pv (.int .i64 k))],⟨[],[],[]⟩⟩) rfl (fun k x hx hk hfd=>?_) (fun hn=>?_)
 .have hfx:=r487 x u i
  simp(disch:=omega)only[go_sem]
  refine Br.aB (fun h=>?_) (fun h=>(h (by omega)).elim)
  unfold eo.c at hfx
  simp(disch:=omega)only[go_sem,hx,eo.c,hfx]
  refine Br.of (fun h2=>?_) (fun h2=>?_)<;>simp(disch:=omega)only[go_sem]
  .rw[(hfd h2).bl]
  .exact aN.of h2 rfl
 .simp(disch:=omega)only[go_sem]
  rw[hn.bl]
def Ph (o:Option eo):eo:=o.getD ⟨0,⟨#[]⟩,0⟩
theorem r476 (x:dw) (i:Int) (hl:x.msgs.length<=2^63 - 1):res A ay 476 [.agg x.c,.int .i64 i]=some [.agg (Ph (x.msgs.find? (gx i))).c,.bool (x.msgs.any (gx i))]:=by
 refine aq a476 rfl rfl ?_
 simp only[F476,Jg]
 have h486:=fun u=>r486 0 u i x.msgs hl
 have e:x.msgs.map eo.c=msgs x.msgs:=rfl
 simp only[dw.c,e]
 simp(disch:=omega)only[go_sem,h486]
 rcases jV (gx i) x.msgs with⟨f1,f2⟩|⟨k,m,f1,f2,f3⟩
 .have ha:x.msgs.any (gx i)=false:=by
   rw[TU]
   exact UJ.1 f1
  rw[f1,f2,ha]
  refine Br.aB (fun c=>?_) (fun c=>absurd (by decide) c)
  simp(disch:=omega)only[go_sem]
  rfl
 .have ha:x.msgs.any (gx i)=true:=by
   rw[Uf]
   exact⟨m,List.mem_of_find?_eq_some f1,UU f1⟩
  rw[f1,f3,ha]
  refine Br.aB (fun c=>absurd c (by omega)) (fun c=>?_)
  simp(disch:=omega)only[go_sem,f2,eo.c]
  rfl
theorem r483 (x:dw) (i:Int) (hl:x.msgs.length<=2^63 - 1):res A ay 483 [.agg x.c,.int .i64 i]=some [.agg (Ph (x.msgs.find? (gx i))).c,.bool (x.msgs.any (gx i))]:=by
 refine aq a483 rfl rfl ?_
 simp only[F483,Jn]
 have e:x.msgs.map eo.c=msgs x.msgs:=rfl
 simp only[dw.c,e]
 simp(disch:=omega)only[go_sem]
 refine W.find x.msgs (gx i) (fun k=>⟨[(1,.pv (.int .i64 i)),(2,.ptr 2 0),(4,.ptr 4 0),(6,.pv (.int .i64 k))],⟨[(2,[.pv (.str x.name),.pv (.ai 0 (msgs x.msgs)),.pv (.int .i64 x.auto.af),.pv (.int .i64 x.auto.start),.pv (.ai 0 (x.auto.aa.map Edge.c))]),(4,[.pv (.int .i64 0),.pv (.str ⟨#[]⟩),.pv (.int .i64 0)])],[],[]⟩⟩) rfl (fun k m hx hk hfd=>?_) (fun hn=>?_)
 .simp(disch:=omega)only[go_sem]
  refine Br.aB (fun c=>?_) (fun c=>(c (by omega)).elim)
  simp(disch:=omega)only[go_sem,hx,eo.c]
  have hp:decide (m.id=i)=gx i m:=rfl
  rw[hp]
  refine Br.of (fun g=>?_) (fun g=>?_)<;>simp(disch:=omega)only[go_sem,hx,eo.c]
  .rw[(hfd g).find,(hfd g).any]
   rfl
  .exact aN.of g rfl
 .simp(disch:=omega)only[go_sem]
  rw[hn.find,hn.any]
  rfl
def rW (l:List eo) (k:Nat):Int:=if k=0 then 0 else ((l[k - 1]?).map (·.id)).getD 0
def wY (l:List eo) (k:Nat) (m:eo):Bool:=decide (m.id<=rW l k)||(decide (1000<m.id)||(!isName m.name||ch ((l.take k).map (·.name)) m.name))
def nM (l:List eo) (k:Nat):Bool:=match l[k]? with
 |some m=>wY l k m
 |none=>false
def gy (x:dw):Bool:=!((List.range x.msgs.length).any (nM x.msgs))&&isName x.name
theorem rX {l:List eo} {k:Nat} {m:eo} (h:l[k]?=some m):rW l (k+1)=m.id:=by
 unfold rW
 rw[if_neg (by omega),Nat.add_sub_cancel,h]
 rfl
set_option maxHeartbeats 2000000 in
theorem r482 (x:dw) (hl:x.msgs.length<=2^63 - 1) (hn:bh x.name) (hs:∀m∈x.msgs,bh m.name):res A ay 482 [.agg x.c]=some [.bool (gy x)]:=by
 have h310n:=r310 x.name hn
 refine aq a482 rfl rfl ?_
 simp only[F482,Jm]
 have e:x.msgs.map eo.c=msgs x.msgs:=rfl
 simp only[dw.c,e]
 simp(disch:=omega)only[go_sem]
 refine W.find (List.range x.msgs.length) (nM x.msgs) (fun k=>⟨[(1,.ptr 1 0),(3,.pv (.int .i64 (rW x.msgs k))),(4,.pv (.int .i64 k))],⟨[(1,[.pv (.str x.name),.pv (.ai 0 (msgs x.msgs)),.pv (.int .i64 x.auto.af),.pv (.int .i64 x.auto.start),.pv (.ai 0 (x.auto.aa.map Edge.c))])],[],[]⟩⟩) rfl (fun k k' hx hk hfd=>?_) (fun hnw=>?_)
 .obtain⟨rfl,hk⟩:=cI hx
  obtain⟨m,hm⟩:=get_some hk
  have hb:nM x.msgs k'=wY x.msgs k' m:=by unfold nM; rw[hm]
  have h310:=r310 m.name (hs m (Tf hm))
  have done:nM x.msgs k'=true->(some [PV.bool false]:Option (List PV))=some [.bool (gy x)]:=fun h=>by
   unfold gy
   rw[(hfd h).any]
   rfl
  have hln:=rX hm
  rw[hb]at done |-
  unfold wY at done |-
  generalize rW x.msgs k'=la at *
  simp(disch:=omega)only[go_sem]
  refine Br.aB (fun c=>?_) (fun c=>(c (by omega)).elim)
  simp(disch:=omega)only[go_sem,hm,eo.c,h310]
  refine Br.aB (fun c1=>?_) (fun c1=>?_)<;>simp(disch:=omega)only[go_sem,c1,h310]
  .exact done (by simp[c1])
  refine Br.aB (fun c2=>?_) (fun c2=>?_)<;>simp(disch:=omega)only[go_sem,c2,h310]
  .exact done (by simp[c2])
  cases hi:isName m.name with
  |false=>
   simp(disch:=omega)only[go_sem]
   exact done (by simp[hi])
  |true=>
   simp(disch:=omega)only[go_sem]
   rw[hi]at done
   refine W.find (x.msgs.take k') (fun q=>decide (q.name=m.name)) (fun j=>⟨[(1,.ptr 1 0),(4,.pv (.int .i64 k')),(5,.ptr 5 0),(6,.pv (.int .i64 j))],⟨[(1,[.pv (.str x.name),.pv (.ai 0 (msgs x.msgs)),.pv (.int .i64 x.auto.af),.pv (.int .i64 x.auto.start),.pv (.ai 0 (x.auto.aa.map Edge.c))]),(5,[.pv (.int .i64 m.id),.pv (.str m.name),.pv (.int .i64 m.ty)])],[],[]⟩⟩) rfl (fun j q hj hjl hfd2=>?_) (fun hn2=>?_)
   .have hjl':j<k'/\j<x.msgs.length:=by rw[Tt]at hjl; omega
    have hj':x.msgs[j]?=some q:=by
     rw[Tz,if_pos hjl'.1]at hj
     exact hj
    simp(disch:=omega)only[go_sem]
    refine Br.aB (fun c=>?_) (fun c=>(c (by omega)).elim)
    simp(disch:=omega)only[go_sem,hj',eo.c]
    refine Br.aB (fun c3=>?_) (fun c3=>?_)<;>simp(disch:=omega)only[go_sem,c3]
    .refine done ?_
     have:ch ((x.msgs.take k').map (·.name)) m.name=true:=by
      unfold ch
      rw[Ug]
      exact(hfd2 (by simp[c3])).any
     rw[this]
     simp
    .exact aN.of (by simp[c3]) rfl
   .have hlx:(x.msgs.take k').length=k':=by rw[Tt]; omega
    rw[hlx]
    have hh:ch ((x.msgs.take k').map (·.name)) m.name=false:=by
     unfold ch
     rw[Ug]
     exact hn2.any
    simp(disch:=omega)only[go_sem]
    exact aN.of (by rw[hh]; simp[c1,c2]) (by rw[hln]; rfl)
 .rw[Tv]
  have hv:gy x=isName x.name:=by
   unfold gy
   rw[hnw.any]
   simp
  rw[hv]
  simp(disch:=omega)only[go_sem,h310n]
def pG (l:List eo) (k:Nat):List ByteArray:=((l.take k).map (·.name)).foldl oH []
theorem A4 (l:List eo) (k:Nat) (x:ByteArray):ch (pG l k) x=ch ((l.take k).map (·.name)) x:=by
 rw[TQ,iu,iu,pG,oL]
 simp
theorem yJ {l:List eo} {k:Nat} {t:eo} (h:l[k]?=some t):oH (pG l k) t.name=pG l (k+1):=by
 unfold pG
 rw[TM,h,TI,List.foldl_append]
 rfl
def rY (n:Nat) (x:dw):Int:=
 if 16<x.msgs.length then 3
 else if gy x=false then 1
 else if x.msgs.any (fun m=>cX n m.ty)=true then 4
 else if x.auto.err≠0 then x.auto.err
 else if x.auto.aa.any (fun e=>!x.msgs.any (gx e.label))=true then 4
 else if (x.auto.order.length:Int)≠x.auto.af then 1 else 0
theorem C8 {a:aO} (h:a.err=0):(a.order.length:Int)<=a.af:=by
 have hg:=aO.kN.1 h
 have:=hg.rS hg.st
 have h2:=hg.st
 unfold aO.order
 omega
set_option maxHeartbeats 4000000 in
theorem r472 (u:Nat) (T:List (List PV)) (x:dw) (hT:T.length<=2^63 - 1) (hl:x.msgs.length<=2^63 - 1) (hn:bh x.name) (hs:∀m∈x.msgs,bh m.name) (he:x.auto.aa.length<=2000000000):res A ay 472 [.agg [.ai u T],.agg x.c]=some [.int .i64 (rY T.length x)]:=by
 have h482:=r482 x hl hn hs
 have h483:=fun i=>r483 x i hl
 have h33:=r33 0 x.auto he
 refine aq a472 rfl rfl ?_
 simp only[F472,Jc]
 have e:x.msgs.map eo.c=msgs x.msgs:=rfl
 simp only[dw.c,e]at h482 h483 |-
 unfold rY
 simp(disch:=omega)only[go_sem]
 refine Br.aB (fun c1=>?_) (fun c1=>?_)<;>simp(disch:=omega)only[go_sem,c1,h482]
 .rw[if_pos (by omega)]
 rw[if_neg (by omega)]
 cases hnm:gy x with
 |false=>simp(disch:=omega)only[go_sem,if_true]
 |true=>
  simp(disch:=omega)only[go_sem]
  rw[if_neg (by decide)]
  refine W.find x.msgs (fun m=>cX T.length m.ty) (fun k=>⟨[(2,.ptr 2 0),(3,.ptr 3 0),(5,.pv (.int .i64 k))],⟨[(2,[.pv (.ai u T)]),(3,[.pv (.str x.name),.pv (.ai 0 (msgs x.msgs)),.pv (.int .i64 x.auto.af),.pv (.int .i64 x.auto.start),.pv (.ai 0 (x.auto.aa.map Edge.c))])],[],[]⟩⟩) rfl (fun k m hx hk hfd=>?_) (fun hnw=>?_)
  .have done:cX T.length m.ty=true->x.msgs.any (fun m=>cX T.length m.ty)=true:=fun g=>(hfd g).any
   unfold cX at done |-
   simp(disch:=omega)only[go_sem]
   refine Br.aB (fun c=>?_) (fun c=>(c (by omega)).elim)
   simp(disch:=omega)only[go_sem,hx,eo.c]
   refine Br.aB (fun c4=>?_) (fun c4=>?_)<;>simp(disch:=omega)only[go_sem,c4,hx,eo.c]
   .rw[if_pos (done (by simp[c4]))]
   refine Br.aB (fun c5=>?_) (fun c5=>?_)<;>simp(disch:=omega)only[go_sem,c5]
   .rw[if_pos (done (by simp[c5]))]
   .exact aN.of (by simp[c4,c5]) rfl
  .rw[hnw.any,if_neg (by decide)]
   by_cases h0:x.auto.err=0
   .rw[if_pos h0]at h33
    rw[if_neg (by simp[h0])]
    simp(disch:=omega)only[go_sem,h33]
    refine W.find x.auto.aa (fun e=>!x.msgs.any (gx e.label)) (fun k=>⟨[(3,.ptr 3 0),(6,.ptr 6 0),(8,.pv (.int .i64 k))],⟨[(3,[.pv (.str x.name),.pv (.ai 0 (msgs x.msgs)),.pv (.int .i64 x.auto.af),.pv (.int .i64 x.auto.start),.pv (.ai 0 (x.auto.aa.map Edge.c))]),(6,[.pv (.int .i64 x.auto.order.length),.pv (.int .i64 0),.pv (.ai 0 (bG (wN Edge.lt (kept x.auto.order x.auto.aa))))])],[],[]⟩⟩) rfl (fun k d hx hk hfd=>?_) (fun hnw=>?_)
    .have h483:=h483 d.label
     have done:(!x.msgs.any (gx d.label))=true->x.auto.aa.any (fun e=>!x.msgs.any (gx e.label))=true:=fun g=>(hfd g).any
     generalize x.msgs.any (gx d.label)=b at h483 done |-
     generalize x.msgs.find? (gx d.label)=o at h483
     simp only[eo.c]at h483
     simp(disch:=omega)only[go_sem]
     refine Br.aB (fun c=>?_) (fun c=>(c (by omega)).elim)
     simp(disch:=omega)only[go_sem,hx,h483,eo.c]
     cases b
     .simp(disch:=omega)only[go_sem]
      rw[if_pos (done rfl)]
     .simp(disch:=omega)only[go_sem]
      exact aN.of rfl rfl
    .rw[hnw.any,if_neg (by decide)]
     simp(disch:=omega)only[go_sem]
     refine Br.aB (fun c=>?_) (fun c=>?_)<;>simp(disch:=omega)only[go_sem]
     .rw[if_neg (by simp[c])]
     .rw[if_pos c]
   .rw[if_neg h0]at h33
    rw[if_pos h0]
    simp(disch:=omega)only[go_sem,h33]
    refine Br.aB (fun c=>absurd c h0) (fun c=>?_)
    simp(disch:=omega)only[go_sem]
set_option maxHeartbeats 4000000 in
theorem r466 (u:Nat) (T:List (List PV)) (x:dw) (hT:T.length<=2^63 - 1) (hl:x.msgs.length<=2^63 - 1) (hn:bh x.name) (hs:∀m∈x.msgs,bh m.name) (he:x.auto.aa.length<=2000000000):res A ay 466 [.agg [.ai u T],.agg x.c]=some [.int .i64 (rY T.length x)]:=by
 have h306n:=r306 x.name hn
 have h476:=fun i=>r476 x i hl
 have h32:=r32 0 x.auto he
 refine aq a466 rfl rfl ?_
 simp only[F466,I7]
 have e:x.msgs.map eo.c=msgs x.msgs:=rfl
 simp only[dw.c,e]at h476 |-
 unfold rY
 simp(disch:=omega)only[go_sem]
 refine Br.aB (fun c1=>?_) (fun c1=>?_)<;>simp(disch:=omega)only[go_sem,c1]
 .rw[if_pos (by omega)]
 rw[if_neg (by omega)]
 refine W.find (List.range x.msgs.length) (nM x.msgs) (fun k=>⟨[(2,.ptr 2 0),(3,.ptr 3 0),(5,.map 0),(6,.pv (.int .i64 (rW x.msgs k))),(23,.pv (.ai 0 (msgs x.msgs))),(24,.pv (.int .i64 x.msgs.length)),(25,.pv (.int .i64 k))],⟨[(2,[.pv (.ai u T)]),(3,[.pv (.str x.name),.pv (.ai 0 (msgs x.msgs)),.pv (.int .i64 x.auto.af),.pv (.int .i64 x.auto.start),.pv (.ai 0 (x.auto.aa.map Edge.c))])],[],[ir (pG x.msgs k)]⟩⟩) rfl (fun k k' hx hk hfd=>?_) (fun hnw=>?_)
 .obtain⟨rfl,hk⟩:=cI hx
  obtain⟨m,hm⟩:=get_some hk
  have hb:nM x.msgs k'=wY x.msgs k' m:=by unfold nM; rw[hm]
  have h306:=r306 m.name (hs m (Tf hm))
  have done:nM x.msgs k'=true->gy x=false:=fun h=>by
   unfold gy
   rw[(hfd h).any]
   rfl
  have hln:=rX hm
  have hsn:=yJ hm
  rw[hb]at done |-
  unfold wY at done |-
  rw[<- A4]at done |-
  generalize rW x.msgs k'=la at *
  generalize pG x.msgs k'=sn at *
  simp(disch:=omega)only[go_sem]
  refine Br.aB (fun c=>?_) (fun c=>(c (by omega)).elim)
  simp(disch:=omega)only[go_sem,hm,eo.c,h306]
  refine Br.aB (fun c1=>?_) (fun c1=>?_)<;>simp(disch:=omega)only[go_sem,c1,h306]
  .rw[if_pos (done (by simp[c1]))]
  refine Br.aB (fun c2=>?_) (fun c2=>?_)<;>simp(disch:=omega)only[go_sem,c2,h306]
  .rw[if_pos (done (by simp[c2]))]
  cases hi:isName m.name with
  |false=>
   simp(disch:=omega)only[go_sem]
   rw[if_pos (done (by simp[hi]))]
  |true=>
   rw[hi]at done
   simp(disch:=omega)only[go_sem]
   cases hh:ch sn m.name with
   |true=>
    rw[hh]at done
    simp(disch:=omega)only[go_sem]
    rw[if_pos (done (by simp))]
   |false=>
    simp(disch:=omega)only[go_sem]
    exact aN.of (by simp[c1,c2]) (by rw[hln,<- hsn]; rfl)
 .rw[Tv]
  have hv:gy x=isName x.name:=by
   unfold gy
   rw[hnw.any]
   simp
  rw[hv]
  simp(disch:=omega)only[go_sem,h306n]
  generalize pG x.msgs x.msgs.length=sn
  cases hnm:isName x.name with
  |false=>simp(disch:=omega)only[go_sem,if_true]
  |true=>
  simp(disch:=omega)only[go_sem]
  rw[if_neg (by decide)]
  refine W.find x.msgs (fun m=>cX T.length m.ty) (fun k=>⟨[(2,.ptr 2 0),(3,.ptr 3 0),(61,.pv (.ai 0 (msgs x.msgs))),(62,.pv (.int .i64 x.msgs.length)),(63,.pv (.int .i64 k))],⟨[(2,[.pv (.ai u T)]),(3,[.pv (.str x.name),.pv (.ai 0 (msgs x.msgs)),.pv (.int .i64 x.auto.af),.pv (.int .i64 x.auto.start),.pv (.ai 0 (x.auto.aa.map Edge.c))])],[],[ir sn]⟩⟩) rfl (fun k m hx hk hfd=>?_) (fun hnw=>?_)
  .have done:cX T.length m.ty=true->x.msgs.any (fun m=>cX T.length m.ty)=true:=fun g=>(hfd g).any
   unfold cX at done |-
   simp(disch:=omega)only[go_sem]
   refine Br.aB (fun c=>?_) (fun c=>(c (by omega)).elim)
   simp(disch:=omega)only[go_sem,hx,eo.c]
   refine Br.aB (fun c4=>?_) (fun c4=>?_)<;>simp(disch:=omega)only[go_sem,c4,hx,eo.c]
   .rw[if_pos (done (by simp[c4]))]
   refine Br.aB (fun c5=>?_) (fun c5=>?_)<;>simp(disch:=omega)only[go_sem,c5]
   .rw[if_pos (done (by simp[c5]))]
   .exact aN.of (by simp[c4,c5]) rfl
  .rw[hnw.any,if_neg (by decide)]
   by_cases h0:x.auto.err=0
   .have hle:=C8 h0
    have ho:x.auto.trim.af=x.auto.order.length:=rfl
    rw[if_pos h0,ho]at h32
    rw[if_neg (by simp[h0])]
    simp(disch:=omega)only[go_sem,h32,if_pos h0,ho]
    refine W.find x.auto.aa (fun e=>!x.msgs.any (gx e.label)) (fun k=>⟨[(3,.ptr 3 0),(11,.ptr 11 0),(90,.pv (.ai 0 (x.auto.aa.map Edge.c))),(91,.pv (.int .i64 x.auto.aa.length)),(92,.pv (.int .i64 k))],⟨[(3,[.pv (.str x.name),.pv (.ai 0 (msgs x.msgs)),.pv (.int .i64 x.auto.af),.pv (.int .i64 x.auto.start),.pv (.ai 0 (x.auto.aa.map Edge.c))]),(11,[.pv (.int .i64 x.auto.order.length),.pv (.int .i64 0),.pv (.ai 0 (bG x.auto.trim.aa))])],[],[ir sn]⟩⟩) rfl (fun k d hx hk hfd=>?_) (fun hnw=>?_)
    .have h476:=h476 d.label
     have done:(!x.msgs.any (gx d.label))=true->x.auto.aa.any (fun e=>!x.msgs.any (gx e.label))=true:=fun g=>(hfd g).any
     generalize x.msgs.any (gx d.label)=b at h476 done |-
     generalize x.msgs.find? (gx d.label)=o at h476
     simp only[eo.c]at h476
     simp(disch:=omega)only[go_sem]
     refine Br.aB (fun c=>?_) (fun c=>(c (by omega)).elim)
     simp(disch:=omega)only[go_sem,hx,h476,eo.c]
     cases b
     .simp(disch:=omega)only[go_sem]
      rw[if_pos (done rfl)]
     .simp(disch:=omega)only[go_sem]
      exact aN.of rfl rfl
    .rw[hnw.any,if_neg (by decide)]
     simp(disch:=omega)only[go_sem]
     refine Br.aB (fun c=>?_) (fun c=>?_)<;>simp(disch:=omega)only[go_sem]
     .rw[if_pos (by omega)]
     .rw[if_neg (by omega)]
   .rw[if_neg h0]at h32
    rw[if_pos h0]
    simp(disch:=omega)only[go_sem,h32,if_neg h0]
    refine Br.aB (fun c=>absurd c h0) (fun c=>?_)
    simp(disch:=omega)only[go_sem]
theorem r463 (u:Nat) (T:List aD) (x:dw) (hT:T.length<=2147483648) (ho:∀t∈T,t.ok) (hsh:∀t∈T,t.short) (hl:x.msgs.length<=2^63 - 1) (hn:bh x.name) (hs:∀m∈x.msgs,bh m.name) (he:x.auto.aa.length<=2000000000):res A ay 463 [.agg [.ai u (T.map aD.c)],.agg x.c]=some [.int .i64 (if ct T≠0 then ct T else rY T.length x)]:=by
 have h268:=r268 u T hT ho hsh
 have h472:=r472 u (T.map aD.c) x (by rw[Tl]; omega) hl hn hs he
 rw[Tl]at h472
 refine aq a463 rfl rfl ?_
 simp only[F463,I4]
 have e:x.msgs.map eo.c=msgs x.msgs:=rfl
 simp only[dw.c,e]at h472 |-
 simp(disch:=omega)only[go_sem,h268]
 refine Br.aB (fun c=>?_) (fun c=>?_)<;>simp(disch:=omega)only[go_sem,h472]
 .rw[if_neg (by simp[c])]
 .rw[if_pos c]
theorem r444 (u:Nat) (T:List aD) (x:dw) (hT:T.length<=2147483648) (ho:∀t∈T,t.ok) (hsh:∀t∈T,t.short) (hl:x.msgs.length<=2^63 - 1) (hn:bh x.name) (hs:∀m∈x.msgs,bh m.name) (he:x.auto.aa.length<=2000000000):res A ay 444 [.agg [.ai u (T.map aD.c)],.agg x.c]=some [.int .i64 (if ct T≠0 then ct T else rY T.length x)]:=by
 have h267:=r267 u T hT ho hsh
 have h466:=r466 u (T.map aD.c) x (by rw[Tl]; omega) hl hn hs he
 rw[Tl]at h466
 refine aq a444 rfl rfl ?_
 simp only[F444,IP]
 have e:x.msgs.map eo.c=msgs x.msgs:=rfl
 simp only[dw.c,e]at h466 |-
 simp(disch:=omega)only[go_sem,h267]
 refine Br.aB (fun c=>?_) (fun c=>?_)<;>simp(disch:=omega)only[go_sem,h466]
 .rw[if_neg (by simp[c])]
 .rw[if_pos c]
theorem r475 (t:Nat) (l:List ByteArray) (x:ByteArray) (hl:l.length<=2^63 - 1):res A ay 475 [.ai t (strs l),.str x]=some [.int .i64 (bl (fun s=>decide (s=x)) l)]:=by
 refine aq a475 rfl rfl ?_
 simp only[F475,Jf]
 simp(disch:=omega)only[go_sem]
 refine W.find l (fun s=>decide (s=x)) (fun k=>⟨[(0,.pv (.ai t (strs l))),(1,.pv (.str x)),(7,.pv (.int .i64 l.length)),(8,.pv (.int .i64 k))],⟨[],[],[]⟩⟩) rfl (fun k s hx hk hfd=>?_) (fun hn=>?_)
 .simp(disch:=omega)only[go_sem]
  refine Br.aB (fun h=>?_) (fun h=>(h (by omega)).elim)
  simp(disch:=omega)only[go_sem,hx]
  have e:decide (x=s)=decide (s=x):=decide_eq_decide.2 ⟨fun h=>h.symm,fun h=>h.symm⟩
  rw[e]
  refine Br.of (fun h2=>?_) (fun h2=>?_)<;>simp(disch:=omega)only[go_sem]
  .rw[(hfd h2).bl]
  .exact aN.of h2 rfl
 .simp(disch:=omega)only[go_sem]
  rw[hn.bl]
theorem r465 (t:Nat) (l:List ByteArray) (x:ByteArray) (hl:l.length<=2^63 - 1):res A ay 465 [.ai t (strs l),.str x]=some [.bool (ch l x)]:=by
 refine aq a465 rfl rfl ?_
 simp only[F465,I6]
 have h475:=r475 t l x hl
 simp(disch:=omega)only[go_sem,h475]
 have e:decide (0<=bl (fun s=>decide (s=x)) l)=ch l x:=by
  unfold bl ch
  cases h:l.findIdx? (fun s=>decide (s=x))with
  |none=>
   rw[List.any_eq_false.2 fun y hy=>by simpa using List.findIdx?_eq_none_iff.1 h y hy]
   rfl
  |some k=>
   obtain⟨hk,h2,_⟩:=TG.1 h
   rw[Uf.2 ⟨_,T8 hk,h2⟩]
   simp
 rw[e]
theorem zK (nm:ByteArray) (l:List ByteArray) (hn:bh nm) (hl:l.length<=1000) (Q:Ex->St->Prop)
  (hQ:∀env,if isName nm=false then Q .ret ⟨(4,.pv (.int .i64 1))::env,⟨[(200000,[dR 0 (strs l)])],et 1 (strs l),[]⟩⟩ else if ch l nm=true then Q .ret ⟨(4,.pv (.int .i64 5))::env,⟨[(200000,[dR 0 (strs l)])],et 1 (strs l),[]⟩⟩ else Q .ret ⟨(4,.pv (.int .i64 0))::env,⟨[(200000,[dR 0 (strs (l++[nm]))])],et 1 (strs (l++[nm])),[]⟩⟩):
  W A ay F441.body ⟨[(0,.ptr 200000 0),(1,.pv (.str nm))],⟨[(200000,[dR 0 (strs l)])],et 1 (strs l),[]⟩⟩ Q:=by
 have h306:=r306 nm hn
 have h465:=fun t=>r465 t l nm (by omega)
 have hsl:(strs l).length<=1000:=by rw[eU]; exact hl
 have hg:=fun bx mp=>wt bx mp 1 (strs l) [.str nm] rfl (by omega)
 simp only[F441,EM]
 simp(disch:=omega)only[go_sem,h306]
 cases hi:isName nm with
 |false=>
  rw[hi]at hQ
  simp only[if_true]at hQ
  simp(disch:=omega)only[go_sem]
  exact hQ _
 |true=>
  rw[hi]at hQ
  rw[<- oI]at hQ
  simp only[Bool.true_eq_false,if_false]at hQ
  simp(disch:=omega)only[go_sem,h465]
  cases hh:ch l nm with
  |true=>
   rw[hh]at hQ
   simp only[if_true]at hQ
   simp(disch:=omega)only[go_sem]
   exact hQ []
  |false=>
   rw[hh]at hQ
   simp only[Bool.false_eq_true,if_false]at hQ
   simp(disch:=omega)only[go_sem,hg]
   exact hQ []
theorem C9 (a:aR) (nm:ByteArray) (l:List ByteArray) (hn:bh nm) (hl:l.length<=1000) (Q:Ex->St->Prop)
  (hQ:∀env,if isName nm=false then Q .ret ⟨(4,.pv (.int .i64 1))::env,⟨[(200000,[dR 1 (strs l)])],a::et 1 (strs l),[]⟩⟩ else if ch l nm=true then Q .ret ⟨(4,.pv (.int .i64 5))::env,⟨[(200000,[dR 1 (strs l)])],a::et 1 (strs l),[]⟩⟩ else Q .ret ⟨(4,.pv (.int .i64 0))::env,⟨[(200000,[dR 1 (strs (l++[nm]))])],a::et 1 (strs (l++[nm])),[]⟩⟩):
  W A ay F441.body ⟨[(0,.ptr 200000 0),(1,.pv (.str nm))],⟨[(200000,[dR 1 (strs l)])],a::et 1 (strs l),[]⟩⟩ Q:=by
 have h306:=r306 nm hn
 have h465:=fun t=>r465 t l nm (by omega)
 have hsl:(strs l).length<=1000:=by rw[eU]; exact hl
 have hg:=fun bx mp=>OX bx mp a 1 (strs l) [.str nm] rfl (by omega)
 simp only[F441,EM]
 simp(disch:=omega)only[go_sem,h306]
 cases hi:isName nm with
 |false=>
  rw[hi]at hQ
  simp only[if_true]at hQ
  simp(disch:=omega)only[go_sem]
  exact hQ _
 |true=>
  rw[hi]at hQ
  rw[<- oI]at hQ
  simp only[Bool.true_eq_false,if_false]at hQ
  simp(disch:=omega)only[go_sem,h465]
  cases hh:ch l nm with
  |true=>
   rw[hh]at hQ
   simp only[if_true]at hQ
   simp(disch:=omega)only[go_sem]
   exact hQ []
  |false=>
   rw[hh]at hQ
   simp only[Bool.false_eq_true,if_false]at hQ
   simp(disch:=omega)only[go_sem,hg]
   exact hQ []
def zL (v:V):Prop:=v=.tl []\/∃a b c d,v=.own a b c d
theorem eA (n:Nat) (rows:List (List PV)):zL (dR n rows):=by
 cases rows with
 |nil=>exact .inl rfl
 |cons x r=>exact .inr ⟨_,_,_,_,rfl⟩
theorem gN {s:Nat} {v:V} {ar:List aR} {mp:List (List (PV×PV))} {env:List (Nat×V)} {p:PV} {K:V->Tn->Prop} (hv:zL v) (hp:∃n,p=.int .i64 n) (h:K (.pv p) { all:=some ([(s,[v])],ar,mp) }):Ax [.tmp 4] [s] K .mk .ret ⟨(4,.pv p)::env,⟨[(200000,[v])],ar,mp⟩⟩:=by
 obtain⟨n,rfl⟩:=hp
 rcases hv with rfl|⟨_,_,_,_,rfl⟩<;>exact⟨_,rfl,_,rfl,_,rfl,h⟩
theorem call5 {v:V} {ar:List aR} {nm:ByteArray} {a1 a2 a3 a4 a5 b1 b2 b3:PV} {K:V->Tn->Prop} (hv:zL v) (h:W A ay F441.body ⟨[(0,.ptr 200000 0),(1,.pv (.str nm))],⟨[(200000,[v])],ar,[]⟩⟩ (Ax [.tmp 4] [5] K)):
  IW A ay 441 [.ptr 5 0,.pv (.str nm)] ⟨[(1,[.pv a1,.pv a2,.pv a3,.pv a4,.pv a5]),(5,[v]),(6,[.tl []]),(8,[.pv b1,.pv b2,.pv b3])],ar,[]⟩ K:=by
 rw[FM a441]
 rcases hv with rfl|⟨_,_,_,_,rfl⟩<;>exact⟨rfl,_,rfl,_,rfl,h⟩
theorem call6 {v:V} {ar:List aR} {nm:ByteArray} {a1 a2 a3 a4 a5 b1 b2:PV} {K:V->Tn->Prop} (hv:zL v) (h:W A ay F441.body ⟨[(0,.ptr 200000 0),(1,.pv (.str nm))],⟨[(200000,[v])],ar,[]⟩⟩ (Ax [.tmp 4] [6] K)):
  IW A ay 441 [.ptr 6 0,.pv (.str nm)] ⟨[(1,[.pv a1,.pv a2,.pv a3,.pv a4,.pv a5]),(6,[v]),(14,[.pv b1,.pv b2])],ar,[]⟩ K:=by
 rw[FM a441]
 rcases hv with rfl|⟨_,_,_,_,rfl⟩<;>exact⟨rfl,_,rfl,_,rfl,h⟩
def mr {α:Type} (f:Nat->α->Int) (l:List α) (k:Nat):Int:=match l[k]? with
 |some x=>f k x
 |none=>0
def cJ {α:Type} (f:Nat->α->Int) (l:List α):Int:=match (List.range l.length).find? (fun k=>decide (mr f l k≠0))with
 |some k=>mr f l k
 |none=>0
theorem eL {α:Type} {f:Nat->α->Int} {l:List α} {i k:Nat} {x:α} (hx:l[k]?=some x) (h:Found (List.range l.length) (fun k=>decide (mr f l k≠0)) i k):cJ f l=f k x:=by
 unfold cJ
 rw[h.find]
 simp only[mr,hx]
theorem eM {α:Type} {f:Nat->α->Int} {l:List α} (h:gK (List.range l.length) (fun k=>decide (mr f l k≠0))):cJ f l=0:=by
 unfold cJ
 rw[h.find]
theorem dG {α:Type} {f:Nat->α->Int} {l:List α} {k:Nat} {x:α} (hx:l[k]?=some x):mr f l k=f k x:=by
 simp only[mr,hx]
def lI (n:Nat) (l:List mj) (k:Nat) (c:mj):Int:=if isName c.name=false then 1 else if ch ((l.map (·.name)).take k) c.name=true then 5 else if (cX n c.p4||cX n c.rep)=true then 4 else 0
def kP (n:Nat) (l:List lP) (k:Nat) (c:lP):Int:=if isName c.name=false then 1 else if ch ((l.map (·.name)).take k) c.name=true then 5 else if cX n c.ty=true then 4 else 0
def lJ (n:Nat) (l:List dw) (k:Nat) (w:dw):Int:=if ch ((l.map (·.name)).take k) w.name=true then 5 else rY n w
theorem r462 (u:Nat) (T:List (List PV)) (t:Int) (hl:T.length<=2^63 - 1):res A ay 462 [.agg [.ai u T],.int .i64 t]=some [.bool (!cX T.length t)]:=by
 refine aq a462 rfl rfl ?_
 simp only[F462,I3]
 unfold cX
 simp(disch:=omega)only[go_sem]
 by_cases c:0<=t
 .have e:decide (t<0)=false:=decide_eq_false (by omega)
  have e3:decide (0<=t)=true:=decide_eq_true c
  have e2:(!decide ((T.length:Int)<=t))=decide (t<(T.length:Int)):=by
   rw[TQ]
   simp
  simp(disch:=omega)only[go_sem,e,e3]
  rw[e2]
 .have e:decide (t<0)=true:=decide_eq_true (by omega)
  have e3:decide (0<=t)=false:=decide_eq_false c
  simp(disch:=omega)only[go_sem,e,e3]
structure gz (v:iN):Prop where
 nm:bh v.name
 tl:v.types.length<=2147483648
 to:∀t∈v.types,t.ok
 ts:∀t∈v.types,t.short
 cl:v.calls.length<=2^63 - 1
 cs:∀c∈v.calls,bh c.name
 sl:v.aF.length<=2^63 - 1
 ss:∀w∈v.aF,bh w.name/\w.msgs.length<=2^63 - 1/\(∀m∈w.msgs,bh m.name)/\w.auto.aa.length<=2000000000
 pl:v.aL.length<=2^63 - 1
 ps:∀c∈v.aL,bh c.name
set_option maxHeartbeats 2000000 in
theorem r436 (t1 t2 t3 t4:Nat) (v:iN) (hv:gz v):res A ay 436 [.agg (dc t1 t2 t3 t4 v)]=some [.int .i64 (cJ (lI v.types.length v.calls) v.calls)]:=by
 have hcl:=hv.cl
 have htl:=hv.tl
 refine aq a436 rfl rfl ?_
 simp only[F436,IH,dc]
 simp(disch:=omega)only[go_sem]
 obtain⟨G,hG⟩:∃G,cJ (lI v.types.length v.calls) v.calls=G:=⟨_,rfl⟩
 rw[hG]
 refine W.find (List.range v.calls.length) (fun k=>decide (mr (lI v.types.length v.calls) v.calls k≠0)) (fun k=>⟨[(1,.ptr 1 0),(3,.pv (.int .i64 k))],⟨[(1,[.pv (.str v.name),.pv (.ai t1 (v.types.map aD.c)),.pv (.ai t2 (cQ v.calls)),.pv (.ai t3 (aF v.aF)),.pv (.ai t4 (cM v.aL))])],[],[]⟩⟩) rfl (fun i k hx hk hfd=>?_) (fun hn=>?_)
 .obtain⟨rfl,hk⟩:=cI hx
  obtain⟨x,hx⟩:=get_some hk
  have done:∀e:Int,lI v.types.length v.calls k x=e->e≠0->(some [PV.int .i64 e]:Option (List PV))=some [.int .i64 G]:=fun e h1 h2=>by
   rw[<- hG,eL hx (hfd (by rw[dG hx,h1]; exact decide_eq_true h2)),h1]
  rw[dG hx]
  have h310:=r310 x.name (hv.cs x (Tf hx))
  have h462:=fun u t=>r462 u (v.types.map aD.c) t (by rw[Tl]; omega)
  rw[Tl]at h462
  simp(disch:=omega)only[go_sem]
  refine Br.aB (fun c=>?_) (fun c=>(c (by omega)).elim)
  simp(disch:=omega)only[go_sem,hx,mj.c,h310]
  unfold lI at done |-
  cases hi:isName x.name with
  |false=>
   simp(disch:=omega)only[go_sem]
   exact done 1 (by rw[if_pos hi]) (by decide)
  |true=>
   simp(disch:=omega)only[go_sem]
   rw[if_neg (by simp[hi])]at done |-
   refine W.find (v.calls.take k) (fun q=>decide (q.name=x.name)) (fun j=>⟨[(1,.ptr 1 0),(3,.pv (.int .i64 k)),(4,.ptr 4 0),(5,.pv (.int .i64 j))],⟨[(1,[.pv (.str v.name),.pv (.ai t1 (v.types.map aD.c)),.pv (.ai t2 (cQ v.calls)),.pv (.ai t3 (aF v.aF)),.pv (.ai t4 (cM v.aL))]),(4,[.pv (.str x.name),.pv (.int .i64 x.p4),.pv (.int .i64 x.rep)])],[],[]⟩⟩) rfl (fun j q hj hjl hfd2=>?_) (fun hn2=>?_)
   .have hjl':j<k/\j<v.calls.length:=by rw[Tt]at hjl; omega
    have hj':v.calls[j]?=some q:=by
     rw[Tz,if_pos hjl'.1]at hj
     exact hj
    simp(disch:=omega)only[go_sem]
    refine Br.aB (fun c=>?_) (fun c=>(c (by omega)).elim)
    simp(disch:=omega)only[go_sem,hj',mj.c]
    refine Br.aB (fun c3=>?_) (fun c3=>?_)<;>simp(disch:=omega)only[go_sem,c3]
    .refine done 5 ?_ (by decide)
     have:ch ((v.calls.map (·.name)).take k) x.name=true:=by
      unfold ch
      rw[<- Ui,Ug]
      exact(hfd2 (by simp[c3])).any
     rw[if_pos this]
    .exact aN.of (by simp[c3]) rfl
   .have hlx:(v.calls.take k).length=k:=by rw[Tt]; omega
    rw[hlx]
    have hh:ch ((v.calls.map (·.name)).take k) x.name=false:=by
     unfold ch
     rw[<- Ui,Ug]
     exact hn2.any
    rw[if_neg (by simp[hh])]at done |-
    simp(disch:=omega)only[go_sem,h462]
    cases h1:cX v.types.length x.p4 with
    |true=>
     simp(disch:=omega)only[go_sem]
     exact done 4 (by rw[h1]; rfl) (by decide)
    |false=>
     simp(disch:=omega)only[go_sem,h462]
     cases h2:cX v.types.length x.rep with
     |true=>
      simp(disch:=omega)only[go_sem]
      exact done 4 (by rw[h1,h2]; rfl) (by decide)
     |false=>
      simp(disch:=omega)only[go_sem]
      exact aN.of (by simp) rfl
 .rw[Tv,<- hG,eM hn]
  simp(disch:=omega)only[go_sem]
set_option maxHeartbeats 2000000 in
theorem r438 (t1 t2 t3 t4:Nat) (v:iN) (hv:gz v):res A ay 438 [.agg (dc t1 t2 t3 t4 v)]=some [.int .i64 (cJ (kP v.types.length v.aL) v.aL)]:=by
 have hcl:=hv.pl
 have htl:=hv.tl
 refine aq a438 rfl rfl ?_
 simp only[F438,IJ,dc]
 simp(disch:=omega)only[go_sem]
 obtain⟨G,hG⟩:∃G,cJ (kP v.types.length v.aL) v.aL=G:=⟨_,rfl⟩
 rw[hG]
 refine W.find (List.range v.aL.length) (fun k=>decide (mr (kP v.types.length v.aL) v.aL k≠0)) (fun k=>⟨[(1,.ptr 1 0),(3,.pv (.int .i64 k))],⟨[(1,[.pv (.str v.name),.pv (.ai t1 (v.types.map aD.c)),.pv (.ai t2 (cQ v.calls)),.pv (.ai t3 (aF v.aF)),.pv (.ai t4 (cM v.aL))])],[],[]⟩⟩) rfl (fun i k hx hk hfd=>?_) (fun hn=>?_)
 .obtain⟨rfl,hk⟩:=cI hx
  obtain⟨x,hx⟩:=get_some hk
  have done:∀e:Int,kP v.types.length v.aL k x=e->e≠0->(some [PV.int .i64 e]:Option (List PV))=some [.int .i64 G]:=fun e h1 h2=>by
   rw[<- hG,eL hx (hfd (by rw[dG hx,h1]; exact decide_eq_true h2)),h1]
  rw[dG hx]
  have h310:=r310 x.name (hv.ps x (Tf hx))
  have h462:=fun u t=>r462 u (v.types.map aD.c) t (by rw[Tl]; omega)
  rw[Tl]at h462
  simp(disch:=omega)only[go_sem]
  refine Br.aB (fun c=>?_) (fun c=>(c (by omega)).elim)
  simp(disch:=omega)only[go_sem,hx,lP.c,h310]
  unfold kP at done |-
  cases hi:isName x.name with
  |false=>
   simp(disch:=omega)only[go_sem]
   exact done 1 (by rw[if_pos hi]) (by decide)
  |true=>
   simp(disch:=omega)only[go_sem]
   rw[if_neg (by simp[hi])]at done |-
   refine W.find (v.aL.take k) (fun q=>decide (q.name=x.name)) (fun j=>⟨[(1,.ptr 1 0),(3,.pv (.int .i64 k)),(4,.ptr 4 0),(5,.pv (.int .i64 j))],⟨[(1,[.pv (.str v.name),.pv (.ai t1 (v.types.map aD.c)),.pv (.ai t2 (cQ v.calls)),.pv (.ai t3 (aF v.aF)),.pv (.ai t4 (cM v.aL))]),(4,[.pv (.str x.name),.pv (.int .i64 x.ty)])],[],[]⟩⟩) rfl (fun j q hj hjl hfd2=>?_) (fun hn2=>?_)
   .have hjl':j<k/\j<v.aL.length:=by rw[Tt]at hjl; omega
    have hj':v.aL[j]?=some q:=by
     rw[Tz,if_pos hjl'.1]at hj
     exact hj
    simp(disch:=omega)only[go_sem]
    refine Br.aB (fun c=>?_) (fun c=>(c (by omega)).elim)
    simp(disch:=omega)only[go_sem,hj',lP.c]
    refine Br.aB (fun c3=>?_) (fun c3=>?_)<;>simp(disch:=omega)only[go_sem,c3]
    .refine done 5 ?_ (by decide)
     have:ch ((v.aL.map (·.name)).take k) x.name=true:=by
      unfold ch
      rw[<- Ui,Ug]
      exact(hfd2 (by simp[c3])).any
     rw[if_pos this]
    .exact aN.of (by simp[c3]) rfl
   .have hlx:(v.aL.take k).length=k:=by rw[Tt]; omega
    rw[hlx]
    have hh:ch ((v.aL.map (·.name)).take k) x.name=false:=by
     unfold ch
     rw[<- Ui,Ug]
     exact hn2.any
    rw[if_neg (by simp[hh])]at done |-
    simp(disch:=omega)only[go_sem,h462]
    cases h1:cX v.types.length x.ty with
    |true=>
     simp(disch:=omega)only[go_sem]
     exact done 4 (by rw[h1]; rfl) (by decide)
    |false=>
     simp(disch:=omega)only[go_sem]
     exact aN.of (by simp) rfl
 .rw[Tv,<- hG,eM hn]
  simp(disch:=omega)only[go_sem]
set_option maxHeartbeats 2000000 in
theorem r437 (t1 t2 t3 t4:Nat) (v:iN) (hv:gz v) (h0:ct v.types=0):res A ay 437 [.agg (dc t1 t2 t3 t4 v)]=some [.int .i64 (cJ (lJ v.types.length v.aF) v.aF)]:=by
 have hcl:=hv.sl
 refine aq a437 rfl rfl ?_
 simp only[F437,II,dc]
 simp(disch:=omega)only[go_sem]
 obtain⟨G,hG⟩:∃G,cJ (lJ v.types.length v.aF) v.aF=G:=⟨_,rfl⟩
 rw[hG]
 refine W.find (List.range v.aF.length) (fun k=>decide (mr (lJ v.types.length v.aF) v.aF k≠0)) (fun k=>⟨[(1,.ptr 1 0),(3,.pv (.int .i64 k))],⟨[(1,[.pv (.str v.name),.pv (.ai t1 (v.types.map aD.c)),.pv (.ai t2 (cQ v.calls)),.pv (.ai t3 (aF v.aF)),.pv (.ai t4 (cM v.aL))])],[],[]⟩⟩) rfl (fun i k hx hk hfd=>?_) (fun hn=>?_)
 .obtain⟨rfl,hk⟩:=cI hx
  obtain⟨x,hx⟩:=get_some hk
  have done:∀e:Int,lJ v.types.length v.aF k x=e->e≠0->(some [PV.int .i64 e]:Option (List PV))=some [.int .i64 G]:=fun e h1 h2=>by
   rw[<- hG,eL hx (hfd (by rw[dG hx,h1]; exact decide_eq_true h2)),h1]
  rw[dG hx]
  obtain⟨s1,s2,s3,s4⟩:=hv.ss x (Tf hx)
  have h463:=fun u=>r463 u v.types x hv.tl hv.to hv.ts s2 s1 s3 s4
  rw[if_neg (by simp[h0])]at h463
  unfold lJ at done |-
  simp only[dw.c]at h463
  simp(disch:=omega)only[go_sem]
  refine Br.aB (fun c=>?_) (fun c=>(c (by omega)).elim)
  simp(disch:=omega)only[go_sem]
  refine W.find (v.aF.take k) (fun q=>decide (q.name=x.name)) (fun j=>⟨[(1,.ptr 1 0),(3,.pv (.int .i64 k)),(4,.pv (.int .i64 j))],⟨[(1,[.pv (.str v.name),.pv (.ai t1 (v.types.map aD.c)),.pv (.ai t2 (cQ v.calls)),.pv (.ai t3 (aF v.aF)),.pv (.ai t4 (cM v.aL))])],[],[]⟩⟩) rfl (fun j q hj hjl hfd2=>?_) (fun hn2=>?_)
  .have hjl':j<k/\j<v.aF.length:=by rw[Tt]at hjl; omega
   have hj':v.aF[j]?=some q:=by
    rw[Tz,if_pos hjl'.1]at hj
    exact hj
   simp(disch:=omega)only[go_sem]
   refine Br.aB (fun c=>?_) (fun c=>(c (by omega)).elim)
   simp(disch:=omega)only[go_sem,hj',hx,Option.map_some,dw.c]
   refine Br.aB (fun c3=>?_) (fun c3=>?_)<;>simp(disch:=omega)only[go_sem,c3]
   .refine done 5 ?_ (by decide)
    have:ch ((v.aF.map (·.name)).take k) x.name=true:=by
     unfold ch
     rw[<- Ui,Ug]
     exact(hfd2 (by simp[c3])).any
    rw[if_pos this]
   .exact aN.of (by simp[c3]) rfl
  .have hlx:(v.aF.take k).length=k:=by rw[Tt]; omega
   rw[hlx]
   have hh:ch ((v.aF.map (·.name)).take k) x.name=false:=by
    unfold ch
    rw[<- Ui,Ug]
    exact hn2.any
   rw[if_neg (by simp[hh])]at done |-
   generalize rY v.types.length x=e at *
   simp(disch:=omega)only[go_sem,hx,Option.map_some,dw.c,h463]
   refine Br.aB (fun c=>?_) (fun c=>?_)<;>simp(disch:=omega)only[go_sem]
   .exact aN.of (by simp[c]) rfl
   .exact done e rfl c
 .rw[Tv,<- hG,eM hn]
  simp(disch:=omega)only[go_sem]
noncomputable def sM (v:iN):Int:=
 if 8<v.calls.length\/8<v.aF.length\/8<v.aL.length then 3
 else if isName v.name=false then 1
 else if iB v.types≠0 then iB v.types
 else if cJ (lI v.types.length v.calls) v.calls≠0 then cJ (lI v.types.length v.calls) v.calls
 else if cJ (lJ v.types.length v.aF) v.aF≠0 then cJ (lJ v.types.length v.aF) v.aF
 else cJ (kP v.types.length v.aL) v.aL
theorem kQ {T:List aD} (h:iB T=0):ct T=0:=by
 unfold iB at h
 split at h
 .rename_i h1
  exact absurd h h1
 .rename_i h1
  exact(gg (by simpa using h1)).1
set_option maxHeartbeats 2000000 in
theorem r406 (t1 t2 t3 t4:Nat) (v:iN) (hv:gz v):res A ay 406 [.agg (dc t1 t2 t3 t4 v)]=some [.int .i64 (sM v)]:=by
 have h1:=hv.cl
 have h2:=hv.sl
 have h3:=hv.pl
 have h310:=r310 v.name hv.nm
 have h435:=fun u=>r435 u v.types hv.tl hv.to hv.ts
 have h436:=r436 t1 t2 t3 t4 v hv
 have h437:=fun h=>r437 t1 t2 t3 t4 v hv (kQ h)
 have h438:=r438 t1 t2 t3 t4 v hv
 refine aq a406 rfl rfl ?_
 unfold sM
 simp only[F406,Iv,dc]at h436 h437 h438 |-
 generalize cJ (lI v.types.length v.calls) v.calls=e1 at *
 generalize cJ (lJ v.types.length v.aF) v.aF=e2 at *
 generalize cJ (kP v.types.length v.aL) v.aL=e3 at *
 generalize iB v.types=e0 at *
 simp(disch:=omega)only[go_sem]
 refine Br.aB (fun c1=>?_) (fun c1=>?_)<;>simp(disch:=omega)only[go_sem,c1]
 .rw[if_pos (by omega)]
 refine Br.aB (fun c2=>?_) (fun c2=>?_)<;>simp(disch:=omega)only[go_sem,c2]
 .rw[if_pos (by omega)]
 refine Br.aB (fun c3=>?_) (fun c3=>?_)<;>simp(disch:=omega)only[go_sem,c3,h310]
 .rw[if_pos (by omega)]
 rw[if_neg (by omega)]
 cases hi:isName v.name with
 |false=>simp(disch:=omega)only[go_sem,if_true]
 |true=>
  simp(disch:=omega)only[go_sem,h435]
  rw[if_neg (by decide)]
  refine Br.aB (fun c=>?_) (fun c=>?_)<;>simp(disch:=omega)only[go_sem,h436]
  rotate_left
  .rw[if_pos c]
  have h437:=h437 c
  rw[if_neg (by simp[c])]
  refine Br.aB (fun c=>?_) (fun c=>?_)<;>simp(disch:=omega)only[go_sem,h437]
  rotate_left
  .rw[if_pos c]
  rw[if_neg (by simp[c])]
  refine Br.aB (fun c=>?_) (fun c=>?_)<;>simp(disch:=omega)only[go_sem,h438]
  .rw[if_neg (by simp[c])]
  .rw[if_pos c]
theorem r440 (t:Int) (u:Nat) (nm:PV) (tt:Nat) (T:List (List PV)) (c1 c2 c3:PV) (hl:T.length<=2^63 - 1):res A ay 440 [.int .i64 t,.ro u [nm,.ai tt T,c1,c2,c3]]=some [.bool (cX T.length t)]:=by
 refine aq a440 rfl rfl ?_
 simp only[F440,IL]
 unfold cX
 simp(disch:=omega)only[go_sem]
 refine Br.aB (fun c=>?_) (fun c=>?_)<;>simp(disch:=omega)only[go_sem,c,decide_true,decide_false,Bool.true_or,Bool.false_or]
theorem r443 (x y:dw) (u:Nat):res A ay 443 [.agg x.c,.ro u y.c]=some [.bool (decide (x.name=y.name))]:=by
 refine aq a443 rfl rfl ?_
 simp only[F443,IN,dw.c]
 simp(disch:=omega)only[go_sem]
theorem r448b (t u:Nat) (l:List dw) (y:dw) (hl:l.length<=2^63 - 1):res A ay 448 [.ai t (aF l),.func 443 [.ro u y.c]]=some [.int .i64 (bl (fun w=>decide (w.name=y.name)) l)]:=by
 refine aq a448 rfl rfl ?_
 simp only[F448,EN]
 simp(disch:=omega)only[go_sem]
 refine W.find l (fun w=>decide (w.name=y.name)) (fun k=>⟨[(0,.pv (.ai t (aF l))),(1,.pv (.func 443 [.ro u y.c])),(7,.pv (.int .i64 l.length)),(8,.pv (.int .i64 k))],⟨[],[],[]⟩⟩) rfl (fun k x hx hk hfd=>?_) (fun hn=>?_)
 .have h443:=r443 x y u
  simp only[dw.c]at h443 |-
  simp(disch:=omega)only[go_sem]
  refine Br.aB (fun h=>?_) (fun h=>(h (by omega)).elim)
  simp(disch:=omega)only[go_sem,hx,Option.map_some,dw.c,h443]
  refine Br.of (fun h2=>?_) (fun h2=>?_)<;>simp(disch:=omega)only[go_sem]
  .rw[(hfd h2).bl]
  .exact aN.of h2 rfl
 .simp(disch:=omega)only[go_sem]
  rw[hn.bl]
theorem r442 (t u:Nat) (l:List dw) (y:dw) (hl:l.length<=2^63 - 1):res A ay 442 [.ai t (aF l),.func 443 [.ro u y.c]]=some [.bool (ch (l.map (·.name)) y.name)]:=by
 refine aq a442 rfl rfl ?_
 simp only[F442,IM]
 have h448:=r448b t u l y hl
 have e:decide (0<=bl (fun w=>decide (w.name=y.name)) l)=ch (l.map (·.name)) y.name:=by
  unfold ch
  rw[Ug]
  rcases jV (fun w:dw=>decide (w.name=y.name)) l with⟨f1,f2⟩|⟨k,x,f1,f2,f3⟩
  .rw[f2]
   symm
   rw[show decide ((0:Int)<= -1)=false from rfl,TU]
   exact UJ.1 f1
  .rw[f3]
   symm
   rw[show decide ((0:Int)<=(k:Int))=true by simp,List.any_eq_true]
   exact⟨x,List.mem_of_find?_eq_some f1,UU f1⟩
 simp only[dw.c]at h448 |-
 simp(disch:=omega)only[go_sem,h448]
 rw[e]
theorem uU (l:List dw):aW 5 (.inl (aF l))=true:=wL fun r hr=>by
 obtain⟨w,_,rfl⟩:=TA.1 hr
 rfl
set_option maxHeartbeats 4000000 in
theorem r407 (t1 t2 t3 t4:Nat) (v:iN) (hv:gz v):res A ay 407 [.agg (dc t1 t2 t3 t4 v)]=some [.int .i64 (sM v)]:=by
 have h1:=hv.cl
 have h2:=hv.sl
 have h3:=hv.pl
 have htl:=hv.tl
 have hrf:=uU v.aF
 have h306:=r306 v.name hv.nm
 have h439:=fun u=>r439 u v.types hv.tl hv.to hv.ts
 refine aq a407 rfl rfl ?_
 unfold sM
 simp only[F407,Iw,dc]
 have hs0:=kQ (T:=v.types)
 generalize iB v.types=e0 at *
 simp(disch:=omega)only[go_sem]
 refine Br.aB (fun c1=>?_) (fun c1=>?_)<;>simp(disch:=omega)only[go_sem,c1]
 .rw[if_pos (by omega)]
 refine Br.aB (fun c2=>?_) (fun c2=>?_)<;>simp(disch:=omega)only[go_sem,c2]
 .rw[if_pos (by omega)]
 refine Br.aB (fun c3=>?_) (fun c3=>?_)<;>simp(disch:=omega)only[go_sem,c3,h306]
 .rw[if_pos (by omega)]
 rw[if_neg (by omega)]
 cases hi:isName v.name with
 |false=>simp(disch:=omega)only[go_sem,if_true]
 |true=>
  simp(disch:=omega)only[go_sem,h439]
  rw[if_neg (by decide)]
  refine Br.aB (fun c=>?_) (fun c=>?_)<;>simp(disch:=omega)only[go_sem]
  rotate_left
  .rw[if_pos c]
  have hvalid:=hs0 c
  rw[if_neg (by simp[c])]
  obtain⟨G,hG⟩:∃G,(if cJ (lI v.types.length v.calls) v.calls≠0 then cJ (lI v.types.length v.calls) v.calls
   else if cJ (lJ v.types.length v.aF) v.aF≠0 then cJ (lJ v.types.length v.aF) v.aF
   else cJ (kP v.types.length v.aL) v.aL)=G:=⟨_,rfl⟩
  rw[hG]
  refine W.find (List.range v.calls.length) (fun k=>decide (mr (lI v.types.length v.calls) v.calls k≠0)) (fun k=>⟨[(1,.ptr 1 0),(4,.func 440 [.ptr 1 0]),(5,.ptr 5 0),(6,.ptr 6 0),(46,.pv (.ai t2 (cQ v.calls))),(47,.pv (.int .i64 v.calls.length)),(48,.pv (.int .i64 k))],⟨[(1,[.pv (.str v.name),.pv (.ai t1 (v.types.map aD.c)),.pv (.ai t2 (cQ v.calls)),.pv (.ai t3 (aF v.aF)),.pv (.ai t4 (cM v.aL))]),(5,[dR 0 (strs ((v.calls.map (·.name)).take k))]),(6,[.tl []])],et 1 (strs ((v.calls.map (·.name)).take k)),[]⟩⟩) rfl (fun i k hx hk hfd=>?_) (fun hn=>?_)
  .obtain⟨rfl,hk⟩:=cI hx
   obtain⟨x,hx⟩:=get_some hk
   have done:∀e:Int,lI v.types.length v.calls k x=e->e≠0->(some [PV.int .i64 e]:Option (List PV))=some [.int .i64 G]:=fun e h1 h2=>by
    have h3:=eL hx (hfd (by rw[dG hx,h1]; exact decide_eq_true h2))
    rw[<- hG,h3,h1,if_pos h2]
   rw[dG hx]
   have hnx:(v.calls.map (·.name)).take (k+1)=(v.calls.map (·.name)).take k++[x.name]:=by
    rw[TM,To,hx]
    rfl
   have hsl:((v.calls.map (·.name)).take k).length<=8:=by rw[Tt,Tl]; omega
   unfold lI at done |-
   generalize (v.calls.map (·.name)).take k=sn at *
   simp(disch:=omega)only[go_sem]
   refine Br.aB (fun c=>?_) (fun c=>(c (by omega)).elim)
   simp(disch:=omega)only[go_sem,hx,mj.c]
   refine call5 (eA _ _) (zK x.name sn (hv.cs x (Tf hx)) (by omega) _ fun env=>?_)
   cases hi:isName x.name with
   |false=>
    rw[if_pos rfl]
    refine gN (eA _ _) ⟨_,rfl⟩ ?_
    simp(disch:=omega)only[go_sem]
    exact done 1 (by rw[if_pos hi]) (by decide)
   |true=>
    rw[if_neg (by decide)]
    cases hh:ch sn x.name with
    |true=>
     rw[if_pos rfl]
     refine gN (eA _ _) ⟨_,rfl⟩ ?_
     simp(disch:=omega)only[go_sem]
     exact done 5 (by rw[if_neg (by simp[hi]),if_pos hh]) (by decide)
    |false=>
     rw[if_neg (by decide)]
     refine gN (eA _ _) ⟨_,rfl⟩ ?_
     rw[if_neg (by simp[hi]),if_neg (by simp[hh])]at done |-
     have h440:=fun t u=>r440 t u (.str v.name) t1 (v.types.map aD.c) (.ai t2 (cQ v.calls)) (.ai t3 (aF v.aF)) (.ai t4 (cM v.aL)) (by rw[Tl]; omega)
     rw[Tl]at h440
     simp(disch:=omega)only[go_sem,h440]
     cases h1:cX v.types.length x.p4 with
     |true=>
      simp(disch:=omega)only[go_sem]
      exact done 4 (by rw[h1]; rfl) (by decide)
     |false=>
      simp(disch:=omega)only[go_sem,h440]
      cases h2:cX v.types.length x.rep with
      |true=>
       simp(disch:=omega)only[go_sem]
       exact done 4 (by rw[h1,h2]; rfl) (by decide)
      |false=>
       simp(disch:=omega)only[go_sem]
       exact aN.of (by simp) (by rw[hnx]; rfl)
  .rw[Tv]
   have hz:=eM hn
   rw[if_neg (by simp[hz])]at hG
   clear hn hz
   obtain⟨X,hXd⟩:∃X,et 1 (strs ((v.calls.map (·.name)).take v.calls.length))=X:=⟨_,rfl⟩
   have hX:X=[]\/∃a,X=[a]:=by
    rw[<- hXd]
    cases strs ((v.calls.map (·.name)).take v.calls.length)with
    |nil=>exact .inl rfl
    |cons y r=>exact .inr ⟨_,rfl⟩
   rw[hXd]
   clear hXd
   simp(disch:=omega)only[go_sem]
   refine W.find (List.range v.aF.length) (fun k=>decide (mr (lJ v.types.length v.aF) v.aF k≠0)) (fun k=>⟨[(1,.ptr 1 0),(4,.func 440 [.ptr 1 0]),(6,.ptr 6 0),(70,.pv (.ai t3 (aF v.aF))),(71,.pv (.int .i64 v.aF.length)),(72,.pv (.int .i64 k))],⟨[(1,[.pv (.str v.name),.pv (.ai t1 (v.types.map aD.c)),.pv (.ai t2 (cQ v.calls)),.pv (.ai t3 (aF v.aF)),.pv (.ai t4 (cM v.aL))]),(6,[.tl []])],X,[]⟩⟩) rfl (fun i k hx hk hfd=>?_) (fun hn=>?_)
   .obtain⟨rfl,hk⟩:=cI hx
    obtain⟨x,hx⟩:=get_some hk
    have done:∀e:Int,lJ v.types.length v.aF k x=e->e≠0->(some [PV.int .i64 e]:Option (List PV))=some [.int .i64 G]:=fun e h1 h2=>by
     have h3:=eL hx (hfd (by rw[dG hx,h1]; exact decide_eq_true h2))
     rw[<- hG,h3,h1,if_pos h2]
    rw[dG hx]
    obtain⟨s1,s2,s3,s4⟩:=hv.ss x (Tf hx)
    have h444:=fun u=>r444 u v.types x hv.tl hv.to hv.ts s2 s1 s3 s4
    rw[if_neg (by simp[hvalid])]at h444
    have h442:=fun t u=>r442 t u (v.aF.take k) x (by rw[Tt]; omega)
    have hst:(aF v.aF).take k=aF (v.aF.take k):=(Ui ..).symm
    rw[Ui]at h442
    unfold lJ at done |-
    simp only[dw.c]at h444 h442
    simp(disch:=omega)only[go_sem]
    refine Br.aB (fun c=>?_) (fun c=>(c (by omega)).elim)
    simp(disch:=omega)only[go_sem,hx,Option.map_some,dw.c,hrf,hst,h442]
    cases hh:ch ((v.aF.map (·.name)).take k) x.name with
    |true=>
     simp(disch:=omega)only[go_sem]
     exact done 5 (by rw[if_pos hh]) (by decide)
    |false=>
     rw[if_neg (by simp[hh])]at done |-
     generalize rY v.types.length x=e at *
     simp(disch:=omega)only[go_sem,h444]
     refine Br.aB (fun c=>?_) (fun c=>?_)<;>simp(disch:=omega)only[go_sem]
     .exact aN.of (by simp[c]) rfl
     .exact done e rfl c
   .rw[Tv]
    have hz:=eM hn
    rw[if_neg (by simp[hz])]at hG
    clear hn hz
    simp(disch:=omega)only[go_sem]
    rcases hX with rfl|⟨a,rfl⟩
    .refine W.find (List.range v.aL.length) (fun k=>decide (mr (kP v.types.length v.aL) v.aL k≠0)) (fun k=>⟨[(4,.func 440 [.ptr 1 0]),(6,.ptr 6 0),(92,.pv (.ai t4 (cM v.aL))),(93,.pv (.int .i64 v.aL.length)),(94,.pv (.int .i64 k))],⟨[(1,[.pv (.str v.name),.pv (.ai t1 (v.types.map aD.c)),.pv (.ai t2 (cQ v.calls)),.pv (.ai t3 (aF v.aF)),.pv (.ai t4 (cM v.aL))]),(6,[dR 0 (strs ((v.aL.map (·.name)).take k))])],et 1 (strs ((v.aL.map (·.name)).take k)),[]⟩⟩) rfl (fun i k hx hk hfd=>?_) (fun hn=>?_)
     .obtain⟨rfl,hk⟩:=cI hx
      obtain⟨x,hx⟩:=get_some hk
      have done:∀e:Int,kP v.types.length v.aL k x=e->e≠0->(some [PV.int .i64 e]:Option (List PV))=some [.int .i64 G]:=fun e h1 h2=>by
       have h3:=eL hx (hfd (by rw[dG hx,h1]; exact decide_eq_true h2))
       rw[<- hG,h3,h1]
      rw[dG hx]
      have hnx:(v.aL.map (·.name)).take (k+1)=(v.aL.map (·.name)).take k++[x.name]:=by
       rw[TM,To,hx]
       rfl
      have hsl:((v.aL.map (·.name)).take k).length<=8:=by rw[Tt,Tl]; omega
      unfold kP at done |-
      generalize (v.aL.map (·.name)).take k=sn at *
      simp(disch:=omega)only[go_sem]
      refine Br.aB (fun c=>?_) (fun c=>(c (by omega)).elim)
      simp(disch:=omega)only[go_sem,hx,lP.c]
      refine call6 (eA _ _) (zK x.name sn (hv.ps x (Tf hx)) (by omega) _ fun env=>?_)
      cases hi:isName x.name with
      |false=>
       rw[if_pos rfl]
       refine gN (eA _ _) ⟨_,rfl⟩ ?_
       simp(disch:=omega)only[go_sem]
       exact done 1 (by rw[if_pos hi]) (by decide)
      |true=>
       rw[if_neg (by decide)]
       cases hh:ch sn x.name with
       |true=>
        rw[if_pos rfl]
        refine gN (eA _ _) ⟨_,rfl⟩ ?_
        simp(disch:=omega)only[go_sem]
        exact done 5 (by rw[if_neg (by simp[hi]),if_pos hh]) (by decide)
       |false=>
        rw[if_neg (by decide)]
        refine gN (eA _ _) ⟨_,rfl⟩ ?_
        rw[if_neg (by simp[hi]),if_neg (by simp[hh])]at done |-
        have h440:=fun t u=>r440 t u (.str v.name) t1 (v.types.map aD.c) (.ai t2 (cQ v.calls)) (.ai t3 (aF v.aF)) (.ai t4 (cM v.aL)) (by rw[Tl]; omega)
        rw[Tl]at h440
        simp(disch:=omega)only[go_sem,h440]
        cases h1:cX v.types.length x.ty with
        |true=>
         simp(disch:=omega)only[go_sem]
         exact done 4 (by rw[h1]; rfl) (by decide)
        |false=>
         simp(disch:=omega)only[go_sem]
         exact aN.of (by simp) (by rw[hnx]; rfl)
     .rw[Tv]
      have hz:=eM hn
      rw[hz]at hG
      rw[<- hG]
      simp(disch:=omega)only[go_sem]
    .refine W.find (List.range v.aL.length) (fun k=>decide (mr (kP v.types.length v.aL) v.aL k≠0)) (fun k=>⟨[(4,.func 440 [.ptr 1 0]),(6,.ptr 6 0),(92,.pv (.ai t4 (cM v.aL))),(93,.pv (.int .i64 v.aL.length)),(94,.pv (.int .i64 k))],⟨[(1,[.pv (.str v.name),.pv (.ai t1 (v.types.map aD.c)),.pv (.ai t2 (cQ v.calls)),.pv (.ai t3 (aF v.aF)),.pv (.ai t4 (cM v.aL))]),(6,[dR 1 (strs ((v.aL.map (·.name)).take k))])],a::et 1 (strs ((v.aL.map (·.name)).take k)),[]⟩⟩) rfl (fun i k hx hk hfd=>?_) (fun hn=>?_)
     .obtain⟨rfl,hk⟩:=cI hx
      obtain⟨x,hx⟩:=get_some hk
      have done:∀e:Int,kP v.types.length v.aL k x=e->e≠0->(some [PV.int .i64 e]:Option (List PV))=some [.int .i64 G]:=fun e h1 h2=>by
       have h3:=eL hx (hfd (by rw[dG hx,h1]; exact decide_eq_true h2))
       rw[<- hG,h3,h1]
      rw[dG hx]
      have hnx:(v.aL.map (·.name)).take (k+1)=(v.aL.map (·.name)).take k++[x.name]:=by
       rw[TM,To,hx]
       rfl
      have hsl:((v.aL.map (·.name)).take k).length<=8:=by rw[Tt,Tl]; omega
      unfold kP at done |-
      generalize (v.aL.map (·.name)).take k=sn at *
      simp(disch:=omega)only[go_sem]
      refine Br.aB (fun c=>?_) (fun c=>(c (by omega)).elim)
      simp(disch:=omega)only[go_sem,hx,lP.c]
      refine call6 (eA _ _) (C9 a x.name sn (hv.ps x (Tf hx)) (by omega) _ fun env=>?_)
      cases hi:isName x.name with
      |false=>
       rw[if_pos rfl]
       refine gN (eA _ _) ⟨_,rfl⟩ ?_
       simp(disch:=omega)only[go_sem]
       exact done 1 (by rw[if_pos hi]) (by decide)
      |true=>
       rw[if_neg (by decide)]
       cases hh:ch sn x.name with
       |true=>
        rw[if_pos rfl]
        refine gN (eA _ _) ⟨_,rfl⟩ ?_
        simp(disch:=omega)only[go_sem]
        exact done 5 (by rw[if_neg (by simp[hi]),if_pos hh]) (by decide)
       |false=>
        rw[if_neg (by decide)]
        refine gN (eA _ _) ⟨_,rfl⟩ ?_
        rw[if_neg (by simp[hi]),if_neg (by simp[hh])]at done |-
        have h440:=fun t u=>r440 t u (.str v.name) t1 (v.types.map aD.c) (.ai t2 (cQ v.calls)) (.ai t3 (aF v.aF)) (.ai t4 (cM v.aL)) (by rw[Tl]; omega)
        rw[Tl]at h440
        simp(disch:=omega)only[go_sem,h440]
        cases h1:cX v.types.length x.ty with
        |true=>
         simp(disch:=omega)only[go_sem]
         exact done 4 (by rw[h1]; rfl) (by decide)
        |false=>
         simp(disch:=omega)only[go_sem]
         exact aN.of (by simp) (by rw[hnx]; rfl)
     .rw[Tv]
      have hz:=eM hn
      rw[hz]at hG
      rw[<- hG]
      simp(disch:=omega)only[go_sem]
theorem kR {α:Type} {f:Nat->α->Int} {l:List α} (h:cJ f l=0):∀(k:Nat) (x:α),l[k]?=some x->f k x=0:=by
 intro k x hx
 unfold cJ at h
 cases hf:(List.range l.length).find? (fun k=>decide (mr f l k≠0))with
 |none=>
  have:=UJ.1 hf k (UO.2 (Tg.1 hx).1)
  rw[dG hx]at this
  simpa using this
 |some j=>
  rw[hf]at h
  have:=UU hf
  simp[h]at this
theorem qm {n:Nat} {u:Int} (h:cX n u=false):0<=u/\u<n:=by
 simp[cX]at h
 omega
structure wZ (n:Nat) (w:dw):Prop where
 AH:w.msgs.length<=16
 Td:gy w=true
 ty:∀m∈w.msgs,0<=m.ty/\m.ty<n
 au:w.auto.err=0
 Te:∀e∈w.auto.aa,w.msgs.any (gx e.label)=true
 all:(w.auto.order.length:Int)=w.auto.af
theorem A5 {n:Nat} {w:dw} (h:rY n w=0):wZ n w:=by
 unfold rY at h
 split at h
 .cases h
 rename_i h1
 split at h
 .cases h
 rename_i h2
 split at h
 .cases h
 rename_i h3
 split at h
 .rename_i h4
  exact absurd h h4
 rename_i h4
 split at h
 .cases h
 rename_i h5
 split at h
 .cases h
 rename_i h6
 refine⟨by omega,by simpa using h2,fun m hm=>?_,by simpa using h4,fun e he=>?_,by simpa using h6⟩
 .have:=List.any_eq_false.1 (by simpa using h3) m hm
  exact qm (by simpa using this)
 .have:=List.any_eq_false.1 (by simpa using h5:w.auto.aa.any (fun e=>!w.msgs.any (gx e.label))=false) e he
  simpa using this
structure kS (v:iN):Prop where
 AH:v.calls.length<=8/\v.aF.length<=8/\v.aL.length<=8
 nm:isName v.name=true
 sound:iB v.types=0
 Ta:∀(k:Nat) c,v.calls[k]?=some c->lI v.types.length v.calls k c=0
 Tb:∀(k:Nat) w,v.aF[k]?=some w->lJ v.types.length v.aF k w=0
 top:∀(k:Nat) c,v.aL[k]?=some c->kP v.types.length v.aL k c=0
theorem lD {v:iN} (h:sM v=0):kS v:=by
 unfold sM at h
 split at h
 .cases h
 rename_i h1
 split at h
 .cases h
 rename_i h2
 split at h
 .rename_i h3
  exact absurd h h3
 rename_i h3
 split at h
 .rename_i h4
  exact absurd h h4
 rename_i h4
 split at h
 .rename_i h5
  exact absurd h h5
 rename_i h5
 exact⟨by omega,by simpa using h2,by simpa using h3,kR (by simpa using h4),kR (by simpa using h5),kR h⟩
theorem A6 {n:Nat} {l:List mj} {k:Nat} {c:mj} (h:lI n l k c=0):isName c.name=true/\ch ((l.map (·.name)).take k) c.name=false/\(0<=c.p4/\c.p4<n)/\0<=c.rep/\c.rep<n:=by
 unfold lI at h
 split at h
 .cases h
 rename_i h1
 split at h
 .cases h
 rename_i h2
 split at h
 .cases h
 rename_i h3
 simp only[Bool.or_eq_true,not_or,Bool.not_eq_true]at h3
 exact⟨by simpa using h1,by simpa using h2,qm h3.1,qm h3.2⟩
theorem A7 {n:Nat} {l:List lP} {k:Nat} {c:lP} (h:kP n l k c=0):isName c.name=true/\ch ((l.map (·.name)).take k) c.name=false/\0<=c.ty/\c.ty<n:=by
 unfold kP at h
 split at h
 .cases h
 rename_i h1
 split at h
 .cases h
 rename_i h2
 split at h
 .cases h
 rename_i h3
 exact⟨by simpa using h1,by simpa using h2,qm (by simpa using h3)⟩
theorem A8 {n:Nat} {l:List dw} {k:Nat} {w:dw} (h:lJ n l k w=0):ch ((l.map (·.name)).take k) w.name=false/\wZ n w:=by
 unfold lJ at h
 split at h
 .cases h
 rename_i h1
 exact⟨by simpa using h1,A5 h⟩
theorem kS.call {v:iN} (h:kS v):∀c∈v.calls,(0<=c.p4/\c.p4<v.types.length)/\0<=c.rep/\c.rep<v.types.length:=fun c hc=>by
 obtain⟨k,hk⟩:=Ti.1 hc
 exact(A6 (h.Ta k c hk)).2.2
theorem kS.zM {v:iN} (h:kS v):∀c∈v.aL,0<=c.ty/\c.ty<v.types.length:=fun c hc=>by
 obtain⟨k,hk⟩:=Ti.1 hc
 exact(A7 (h.top k c hk)).2.2
theorem kS.nN {v:iN} (h:kS v):∀w∈v.aF,wZ v.types.length w:=fun c hc=>by
 obtain⟨k,hk⟩:=Ti.1 hc
 exact(A8 (h.Tb k c hk)).2
theorem kS.valid {v:iN} (h:kS v):ct v.types=0:=kQ h.sound
@[go_sem] theorem BF {id row aA a b c d:Nat} {xs:List V} (h1:row<xs.length):ea id row 0 [.own a b c d] ⟨aA,1,.inr (bf xs)⟩=some { ar:=some (id,⟨aA,1,.inr (bf (xs.set row (.own a b c d)))⟩) }:=pF h1 rfl
def Pj (d:Int) (s:List Int×List Int) (x:Int):List Int×List Int:=if s.1.getD x.toNat (-1)<0 then (s.1.set x.toNat d,s.2++[x]) else s
def Ge (nx:Int->List Int):Nat->Nat->List Int×List Int->List Int×List Int
 |0,_,s=>s
 |n+1,i,s=>match s.2[i]? with
  |none=>s
  |some v=>Ge nx n (i+1) ((nx v).foldl (Pj (s.1.getD v.toNat (-1)+1)) s)
theorem A9 {l:List Int} {i j:Nat} {x y:Int} (hi:i<l.length):(l.set i x).getD j y=if i=j then x else l.getD j y:=by
 simp only[List.getD_eq_getElem?_getD,List.getElem?_set]
 by_cases h:i=j
 .subst h
  simp[hi]
 .simp[h]
def levels (nx:Int->List Int) (n:Nat) (fr:List Int):List Int:=(Ge nx n 0 (fr.foldl (Pj 0) (List.replicate n (-1),[]))).1
def nH.from (d:nH) (s:Int):aO:=⟨1+d.n%4,s%(1+d.n%4),d.auto.aa⟩
structure Mv where
 send:Bool
 label:Int
 cls:Int
 deriving DecidableEq,Inhabited
def Mv.c (m:Mv):List PV:=[.bool m.send,.int .i64 m.label,.int .i64 m.cls]
def SV (l:List Mv):List (List PV):=l.map Mv.c
@[go_sem] theorem QL:SV []=[]:=rfl
@[go_sem] theorem Mv.Cs (m:Mv):m.c=[.bool m.send,.int .i64 m.label,.int .i64 m.cls]:=rfl
def Da (es:List Edge) (s:Int) (c:List Int):List Mv:=(es.filter fun e=>e.fr==s).map fun e=>⟨e.send,e.label,c.getD e.to.toNat 0⟩
def R9 (es:List Edge) (c:List Int) (k i:Nat):Bool:=decide (c.getD k 0=c.getD i 0)&&decide (Da es (k:Int) c=Da es (i:Int) c)
def Kk (es:List Edge) (c:List Int) (i:Nat):Nat:=((List.range i).find? fun k=>R9 es c k i).getD i
def Pk (n:Nat) (es:List Edge) (c:List Int):List Int:=(List.range n).map fun i=>(Kk es c i:Int)
def cls (n:Nat) (es:List Edge):Nat->List Int
 |0=>List.replicate n 0
 |j+1=>Pk n es (cls n es j)
def Ba (w:dw):Bool:=decide ((w.msgs.length:Int)<=20)&&(decide ((w.auto.aa.length:Int)<=110)&&decide ((w.name.size:Int)<=100))
theorem r434 (t u:Nat) (w:dw):res A ay 434 [.agg [.str w.name,.ai t (w.msgs.map eo.c),.int .i64 w.auto.af,.int .i64 w.auto.start,.ai u (w.auto.aa.map Edge.c)]]=some [.bool (Ba w)]:=by
 refine aq a434 rfl rfl ?_
 simp only[F434,IF]
 have hm:w.msgs.map eo.c=msgs w.msgs:=rfl
 rw[hm]
 unfold Ba
 cases h1:decide ((w.msgs.length:Int)<=20)with
 |false=>simp(disch:=omega)only[go_sem,h1,Bool.false_and]
 |true=>
  cases h2:decide ((w.auto.aa.length:Int)<=110)with
  |false=>simp(disch:=omega)only[go_sem,h1,h2,Bool.false_and,Bool.true_and]
  |true=>simp(disch:=omega)only[go_sem,h1,h2,Bool.true_and]
noncomputable def w3 (v:iN):Bool:=!decide ((10:Int)<v.calls.length)&&(!decide ((10:Int)<v.aF.length)&&(!decide ((10:Int)<v.aL.length)&&(!decide ((100:Int)<v.name.size)&&(AH v.types&&v.aF.all Ba))))
theorem Db {α:Type} {f:α->Bool} {l:List α} (h:∀(i:Nat) (w:α),l[i]?=some w->f w=true):l.all f=true:=by
 rw[TD]
 intro w hw
 obtain⟨i,hi⟩:=List.getElem?_of_mem hw
 exact h i w hi
theorem E3 {α:Type} {f:α->Bool} {l:List α} {k:Nat} {w:α} (hw:l[k]?=some w) (h:f w=false):l.all f=false:=by
 rw[Us]
 intro e
 rw[TD.1 e w (Tf hw)]at h
 cases h
set_option maxHeartbeats 1000000 in
theorem r405 (t u x y:Nat) (v:iN) (ho:∀t∈v.types,t.ok) (h2:v.aF.length<=2^63 - 1):res A ay 405 [.agg (dc t u x y v)]=some [.bool (w3 v)]:=by
 refine aq a405 rfl rfl ?_
 simp only[F405,Iu,dc]
 have h266:=r266 t v.types ho
 unfold w3
 cases c1:decide ((10:Int)<v.calls.length)with
 |true=>simp(disch:=omega)only[go_sem,c1,Bool.not_true,Bool.false_and]
 |false=>
 cases c2:decide ((10:Int)<v.aF.length)with
 |true=>simp(disch:=omega)only[go_sem,c1,c2,Bool.not_true,Bool.not_false,Bool.false_and,Bool.true_and]
 |false=>
 cases c3:decide ((10:Int)<v.aL.length)with
 |true=>simp(disch:=omega)only[go_sem,c1,c2,c3,Bool.not_true,Bool.not_false,Bool.false_and,Bool.true_and]
 |false=>
 cases c4:decide ((100:Int)<v.name.size)with
 |true=>simp(disch:=omega)only[go_sem,c1,c2,c3,c4,Bool.not_true,Bool.not_false,Bool.false_and,Bool.true_and]
 |false=>
 cases c5:AH v.types with
 |false=>
  rw[c5]at h266
  simp(disch:=omega)only[go_sem,c1,c2,c3,c4,h266,Bool.not_false,Bool.false_and,Bool.true_and]
 |true=>
  rw[c5]at h266
  simp(disch:=omega)only[go_sem,c1,c2,c3,c4,h266,Bool.not_false,Bool.true_and]
  refine W.du v.aF.length (fun k=>⟨[(1,.ptr 1 0),(3,.pv (.int .i64 k))],⟨[(1,[.pv (.str v.name),.pv (.ai t (v.types.map aD.c)),.pv (.ai u (cQ v.calls)),.pv (.ai x (aF v.aF)),.pv (.ai y (cM v.aL))])],[],[]⟩⟩) (fun k=>∀(i:Nat) (w:dw),i<k->v.aF[i]?=some w->Ba w=true) rfl (fun i w hi=>absurd hi (by omega)) fun k hk hi=>?_
  simp(disch:=omega)only[go_sem]
  refine Br.aB (fun c6=>?_) (fun c6=>?_)
  .obtain⟨w,hw⟩:=get_some (l:=v.aF) (k:=k) (by omega)
   have h434:=r434 0 0 w
   cases hf:Ba w with
   |false=>
    rw[hf]at h434
    simp(disch:=omega)only[go_sem,hw,Option.map_some,h434]
    rw[E3 hw hf]
   |true=>
    rw[hf]at h434
    simp(disch:=omega)only[go_sem,hw,Option.map_some,h434]
    exact .of (by omega) rfl (im hw hi hf)
  .simp(disch:=omega)only[go_sem]
   rw[Db (fK (k:=k) (by omega) hi)]
theorem Bb {v:iN} (h:w3 v=true):v.calls.length<=10/\v.aF.length<=10/\v.aL.length<=10/\v.name.size<=100/\AH v.types=true/\∀w∈v.aF,w.msgs.length<=20/\w.auto.aa.length<=110/\w.name.size<=100:=by
 simp only[w3,Bool.and_eq_true,Bool.not_eq_true',decide_eq_false_iff_not,List.all_eq_true,Ba,decide_eq_true_eq]at h
 obtain⟨h1,h2,h3,h4,h5,h6⟩:=h
 refine⟨by omega,by omega,by omega,by omega,h5,fun w hw=>?_⟩
 obtain⟨g1,g2,g3⟩:=h6 w hw
 omega
def AC.one:AC->AC
 |.seq a _=>a
 |c=>c
def AC.two:AC->AC
 |.seq _ b=>b
 |c=>c
theorem yK {v:iN} (hf:w3 v=true) (hn:bh v.name) (ho:∀t∈v.types,t.ok) (hs:∀t∈v.types,t.short) (htl:v.types.length<=2147483648) (hc:∀c∈v.calls,bh c.name) (hw:∀w∈v.aF,bh w.name/\∀m∈w.msgs,bh m.name) (hp:∀c∈v.aL,bh c.name):gz v:=by
 obtain⟨f1,f2,f3,f4,f5,f6⟩:=Bb hf
 exact⟨hn,htl,ho,hs,by omega,hc,by omega,fun w h=>⟨(hw w h).1,by have:=f6 w h; omega,(hw w h).2,by have:=f6 w h; omega⟩,by omega,hp⟩
structure My where
 a:nH
 x:Int
 y:Int
 z:Int
def My.c (s:My):List PV:=[.int .u8 s.a.n,.ai 0 (s.a.FC.map Gd.c),.int .u8 s.x,.int .u8 s.y,.int .u8 s.z]
def My.ok (s:My):Prop:=s.a.ok/\(0<=s.x/\s.x<=255)/\(0<=s.y/\s.y<=255)/\0<=s.z/\s.z<=255
structure QM where
 s:List Node
 calls:List (Int×Int)
 aF:List My
 aL:List Int
def SW (c:Int×Int):List PV:=[.int .u8 c.1,.int .u8 c.2]
def SX (c:Int):List PV:=[.int .u8 c]
def QM.c (d:QM):List PV:=[.ai 0 (d.s.map Node.cs),.ai 0 (d.calls.map SW),.ai 0 (d.aF.map My.c),.ai 0 (d.aL.map SX)]
def Sa (x:Int):Prop:=0<=x/\x<=255
structure QM.ok (d:QM):Prop where
 s:∀y∈d.s,y.ok
 sl:bT d.s
 c:∀x∈d.calls,Sa x.1/\Sa x.2
 cl:bT d.calls
 w:∀x∈d.aF,x.ok
 wl:bT d.aF
 t:∀x∈d.aL,Sa x
 tl:bT d.aL
end Go.Pv
