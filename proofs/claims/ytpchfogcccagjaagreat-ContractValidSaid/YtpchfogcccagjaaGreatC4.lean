/-
 What the functions of the law give.
-/
import Derived.Test.YtpchfogcccagjaaGreatC3
set_option linter.unusedSimpArgs false
set_option linter.unusedVariables false
open List renaming mem_of_getElem? → Wa, getElem?_eq_some_iff → V9, getElem?_eq_getElem → Wb, take_of_length_le → Wq, getD_eq_getElem?_getD → Ws, take_add_one → WL, mem_map → Wk, mem_cons → WG, mem_cons_of_mem → W3, pairwise_cons → Wv, findIdx?_eq_some_iff_getElem → Ww, mem_cons_self → WH, mem_append_left → Xa, getElem?_eq_none → WS, length_set → Xx, any_eq_false → WY, mem_append_right → Xt, findIdx?_eq_none_iff → Xe, length_replicate → XV, getElem?_replicate → XA, foldl_cons → Xp, mem_or_eq_of_mem_set → XK, getElem?_zip_eq_some → Xv, getElem?_set → afz, mem_range → WJ, ext_getElem → afC, mem_filter → Xl, length_cons → abv, pairwise_map → afs
open Bool renaming true_and → WZ, false_and → Xu, and_false → abu
open Int renaming toNat_natCast → WX, eq_ofNat_of_zero_le → XB, le_refl → XS
open Nat renaming add_assoc → W0, zero_add → XN
open Option renaming bind_some → abw
namespace Go.Pv
def Fc (v:dz):dz:=⟨v.kind,if v.kind=1 then v.bool else false,if v.kind=2 then v.int else 0,if v.kind=3 then v.str else ⟨#[]⟩,if v.kind=4\/v.kind=6 then v.id else 0,if v.kind=8 then v.keys else [],if 5<=v.kind then v.items else [],if v.kind=5\/v.kind=6 then v.rest else []⟩
theorem nine {k:Int} (h:1<=k/\k<=9):k=1\/k=2\/k=3\/k=4\/k=5\/k=6\/k=7\/k=8\/k=9:=by omega
theorem r516 (v:dz) (hk:1<=v.kind/\v.kind<=9):res A aA 516 [.agg v.c]=some [.agg (Fc v).c]:=by
 refine aw a516 rfl rfl ?_
 simp only[F516,L7]
 obtain⟨kind,bool,int,str,id,keys,items,rest⟩:=v
 unfold dz.c Fc
 dsimp only at *
 rcases nine hk with rfl|rfl|rfl|rfl|rfl|rfl|rfl|rfl|rfl<;>
 .simp(disch:=omega)only[go_sem,decide_true,decide_false,Int.reduceEq,Int.reduceLE,if_true,if_false,or_true,true_or,or_false,false_or]
  try rfl
noncomputable def km (v:dz):Bool:=by
 classical exact decide ((v.kind=1\/v.bool=false)/\(v.kind=2\/v.int=0)/\(v.kind=3\/v.str=⟨#[]⟩)/\(v.kind=4\/v.kind=6\/v.id=0)/\(v.kind=8\/v.keys=[])/\(5<=v.kind\/v.items=[])/\(v.kind=5\/v.kind=6\/v.rest=[]))
set_option maxHeartbeats 4000000 in
theorem r510 (v:dz) (hk:1<=v.kind/\v.kind<=9) (hv:bP v.keys/\bP v.items/\bP v.rest):res A aA 510 [.agg v.c]=some [.bool (km v)]:=by
 refine aw a510 rfl rfl ?_
 simp only[F510,LZ]
 have h1:=r516 v hk
 obtain⟨kind,bool,int,str,id,keys,items,rest⟩:=v
 unfold dz.c Fc at h1
 unfold dz.c
 dsimp only at *
 unfold km
 have l1:((keys.length:Int)=0)=(keys=[]):=by simp
 have l2:((items.length:Int)=0)=(items=[]):=by simp
 have l3:((rest.length:Int)=0)=(rest=[]):=by simp
 rcases nine hk with rfl|rfl|rfl|rfl|rfl|rfl|rfl|rfl|rfl<;>cases bool<;>
 .simp(disch:=omega)only[go_sem,decide_true,decide_false,Int.reduceEq,Int.reduceLE,if_true,if_false,or_true,true_or,or_false,false_or]at h1
  simp(disch:=omega)only[go_sem,h1,l1,l2,l3,List.length_nil,Int.reduceEq,Int.reduceLE,List.map_nil,reduceCtorEq,decide_false]
  clear h1 hk hv
  repeat' (refine Br.aJ (fun c=>?_) (fun c=>?_)<;>simp(disch:=omega)only[go_sem,c,decide_true,decide_false,reduceCtorEq])
  all_goals first|rfl|(simp; done)|(simp_all; done)
set_option maxHeartbeats 4000000 in
theorem r505 (v:dz) (hk:1<=v.kind/\v.kind<=9) (hv:bP v.keys/\bP v.items/\bP v.rest):res A aA 505 [.agg v.c]=some [.bool (km v)]:=by
 refine aw a505 rfl rfl ?_
 simp only[F505,LV]
 obtain⟨kind,bool,int,str,id,keys,items,rest⟩:=v
 unfold dz.c km
 dsimp only at *
 obtain⟨g1,g2,g3⟩:=hv
 unfold bP at g1 g2 g3
 rcases nine hk with rfl|rfl|rfl|rfl|rfl|rfl|rfl|rfl|rfl<;>cases bool<;>
 .simp(disch:=omega)only[go_sem,List.length_nil,Int.reduceEq,Int.reduceLE,List.map_nil,List.length_map,reduceCtorEq,decide_false,decide_true]
  clear hk
  repeat' (refine Br.aJ (fun c=>?_) (fun c=>?_)<;>simp(disch:=omega)only[go_sem,c,decide_true,decide_false,reduceCtorEq])
  all_goals first|rfl|(simp; done)|(simp_all; done)
theorem ju {α:Type} (l:List α) (f:α->Bool):l.all (fun y=>!!f y)=l.all f:=by simp
theorem r508 (u v:Nat) (T:List (List PV)) (t:Int) (l:List (List PV)) (f:List PV->Bool) (hl:l.length<=2^63 - 1) (hv:∀r∈l,∃w:dz,r=w.c) (h:∀r∈l,res A aA 502 [.agg [.aq u T],.int .i64 t,.agg r,.bool true]=some [.bool (f r)]):res A aA 508 [.agg [.aq u T],.int .i64 t,.aq v l,.bool true]=some [.bool (l.all f)]:=by
 refine aw a508 rfl rfl ?_
 simp only[F508,LX]
 simp(disch:=omega)only[go_sem]
 refine W.find l (fun r=>!f r) (fun k=>⟨[(1,.pv (.int .i64 t)),(2,.pv (.aq v l)),(3,.pv (.bool true)),(4,.ptr 4 0),(9,.pv (.int .i64 k))],⟨[(4,[.pv (.aq u T)])],[],[]⟩⟩) rfl (fun k x hx hk hfd=>?_) (fun hn=>?_)
 .obtain⟨w,rfl⟩:=hv x (Wa hx)
  have hc:=h w.c (Wa hx)
  have hfd:=fun g=>(hfd g).all
  rw[ju]at hfd
  generalize f w.c=e at hc hfd |-
  unfold dz.c at hc hx
  simp(disch:=omega)only[go_sem]
  refine Br.aJ (fun c=>?_) (fun c=>(c (by omega)).elim)
  simp(disch:=omega)only[go_sem,hx,hc]
  refine Br.of (fun g=>?_) (fun g=>?_)<;>simp(disch:=omega)only[go_sem]
  .exact bB.of (by rw[g]; rfl) rfl
  .rw[hfd (by rw[g]; rfl)]
 .have hn:=hn.all
  rw[ju]at hn
  simp(disch:=omega)only[go_sem]
  rw[hn]
theorem r518 (u a b c:Nat) (T:List (List PV)) (t:Int) (w:dz) (e:Bool) (h:res A aA 503 [.agg [.aq u T],.int .i64 t,.agg w.c,.bool true]=some [.bool e]):res A aA 518 [.agg w.c,.ro a [.aq u T],.ro b [.int .i64 t],.ro c [.bool true]]=some [.bool (!e)]:=by
 refine aw a518 rfl rfl ?_
 simp only[F518,L9]
 unfold dz.c at h |-
 simp(disch:=omega)only[go_sem,h]
theorem r522 (u v a b c:Nat) (T:List (List PV)) (t:Int) (l:List (List PV)) (f:List PV->Bool) (hl:l.length<=2^63 - 1) (hv:∀r∈l,∃w:dz,r=w.c) (h:∀r∈l,res A aA 503 [.agg [.aq u T],.int .i64 t,.agg r,.bool true]=some [.bool (f r)]):res A aA 522 [.aq v l,.func 518 [.ro a [.aq u T],.ro b [.int .i64 t],.ro c [.bool true]]]=some [.int .i64 (bj (fun r=>!f r) l)]:=by
 refine aw a522 rfl rfl ?_
 simp only[F522,Md]
 simp(disch:=omega)only[go_sem]
 refine W.find l (fun r=>!f r) (fun k=>⟨[(0,.pv (.aq v l)),(1,.pv (.func 518 [.ro a [.aq u T],.ro b [.int .i64 t],.ro c [.bool true]])),(7,.pv (.int .i64 l.length)),(8,.pv (.int .i64 k))],⟨[],[],[]⟩⟩) rfl (fun k x hx hk hfd=>?_) (fun hn=>?_)
 .obtain⟨w,rfl⟩:=hv x (Wa hx)
  have hc:=r518 u a b c T t w _ (h w.c (Wa hx))
  have hfd:=fun g=>(hfd g).bj
  generalize f w.c=e at hc hfd |-
  unfold dz.c at hc hx
  simp(disch:=omega)only[go_sem]
  refine Br.aJ (fun c=>?_) (fun c=>(c (by omega)).elim)
  simp(disch:=omega)only[go_sem,hx,hc]
  refine Br.of (fun g=>?_) (fun g=>?_)<;>simp(disch:=omega)only[go_sem]
  .exact bB.of (by rw[g]; rfl) rfl
  .rw[hfd (by rw[g]; rfl)]
 .simp(disch:=omega)only[go_sem]
  rw[hn.bj]
theorem AF {α:Type} (f:α->Bool) (l:List α):decide (0<=bj (fun r=>!f r) l)=!l.all f:=by
 unfold bj
 cases h:l.findIdx? (fun r=>!f r)with
 |none=>
  have:=Xe.1 h
  have h2:l.all f=true:=List.all_eq_true.2 fun x hx=>by simpa using this x hx
  simp[h2]
 |some k=>
  obtain⟨hk,h2,_⟩:=Ww.1 h
  have h3:l.all f=false:=List.all_eq_false.2 ⟨_,List.getElem_mem hk,by simpa using h2⟩
  rw[h3]
  simp
theorem r512 (u v:Nat) (T:List (List PV)) (t:Int) (l:List (List PV)) (f:List PV->Bool) (hl:l.length<=2^63 - 1) (hv:∀r∈l,∃w:dz,r=w.c) (h:∀r∈l,res A aA 503 [.agg [.aq u T],.int .i64 t,.agg r,.bool true]=some [.bool (f r)]):res A aA 512 [.agg [.aq u T],.int .i64 t,.aq v l,.bool true]=some [.bool (l.all f)]:=by
 refine aw a512 rfl rfl ?_
 simp only[F512,L3]
 have h517:∀a b c,res A aA 517 [.aq v l,.func 518 [.ro a [.aq u T],.ro b [.int .i64 t],.ro c [.bool true]]]=some [.bool (!l.all f)]:=by
  intro a b c
  refine aw a517 rfl rfl ?_
  simp only[F517,L8]
  have h522:=r522 u v a b c T t l f hl hv h
  simp(disch:=omega)only[go_sem,h522,AF]
 simp(disch:=omega)only[go_sem,h517,Bool.not_not]
def HG:List PV->List PV->Int
 |[.int _ k,.bool b,.int _ i,.str s,.int _ id,.aq _ ks,.aq _ is,_],[.int _ k',.bool b',.int _ i',.str s',.int _ id',.aq _ ks',.aq _ is',_]=>lC ⟨k,b,i,s,id,ks,is,[]⟩ ⟨k',b',i',s',id',ks',is',[]⟩
 |_,_=>0
theorem oE (a b:dz):HG a.c b.c=lC a b:=rfl
def C1 (l:List (List PV)):Bool:=(l.zip l.tail).all fun q=>decide (HG q.1 q.2<0)
def gh (rec:Int->List PV->Bool) (x:aH) (v:dz):Bool:=
 if x.kind=1 then true
 else if x.kind=2 then decide (x.low<=v.int)&&decide (v.int<=x.high)
 else if x.kind=3 then decide ((v.str.size:Int)<=x.max)
 else if x.kind=4 then decide (0<=bj (qQ v.id) x.syms)
 else if x.kind=5 then decide (v.items.length=x.bc.length)&&(x.bc.zip v.items).all fun q=>rec q.1.type q.2
 else if x.kind=6 then (match x.bc.find? (qP v.id),v.items with
  |some m,[r]=>rec m.type r
  |_,_=>false)
 else if x.kind=7 then decide ((v.items.length:Int)<=x.max)&&v.items.all (rec x.elem)
 else if x.kind=8 then decide ((v.keys.length:Int)<=x.max)&&(decide (v.items.length=v.keys.length)&&(v.keys.all (rec x.key)&&(v.items.all (rec x.elem)&&C1 v.keys)))
 else decide ((v.items.length:Int)<=1)&&v.items.all (rec x.elem)
noncomputable def fa (T:List aH):Nat->Int->List PV->Bool
 |0,_,_=>false
 |n+1,t,cs=>match cs with
  |[.int _ k,.bool b,.int _ i,.str s,.int _ id,.aq _ ks,.aq _ is,.aq _ rest]=>
   (match (if t<0 then none else T[t.toNat]?)with
   |none=>false
   |some x=>decide (k=x.kind)&&(km ⟨k,b,i,s,id,ks,is,[]⟩&&(rest.isEmpty&&gh (fa T n) x ⟨k,b,i,s,id,ks,is,[]⟩)))
  |_=>false
theorem sU (T : List aH) (n : Nat) (t : Int) (v : dz) : fa T (n + 1) t v.c = (match (if t < 0 then none else T[t.toNat]?) with
   | none => false
   | some x => decide (v.kind = x.kind) && (km { v with rest := [] } && (v.rest.isEmpty && gh (fa T n) x { v with rest := [] }))) := by
 unfold dz.c
 simp only [fa,List.isEmpty_map]
def RZ (T:List aH):Prop:=T.length<=2147483648/\(∀x∈T,x.ok)/\∀x∈T,1<=x.kind/\x.kind<=9
theorem oF {α β:Type} {l:List α} {m:List β} {k:Nat} {q:α×β} (h:(l.zip m)[k]?=some q):l[k]?=some q.1/\m[k]?=some q.2:=by
 rw[Xv]at h
 exact h
theorem oG {α β:Type} {l:List α} {m:List β} (h:l.length=m.length):(l.zip m).length=l.length:=by
 rw[List.length_zip]
 omega
theorem oH {α:Type} (l:List α):(l.zip l.tail).length=l.length - 1:=by
 rw[List.length_zip,List.length_tail]
 omega
theorem mu.is {n:Nat} {w:dz} (h:mu n w.c):eH w.int/\bC w.str:=by
 cases n with
 |zero=>exact h.elim
 |succ n=>
  obtain⟨v,hv,⟨_,h2,h3,_⟩,_⟩:=h
  simp only[dz.c,List.cons.injEq,PV.int.injEq,PV.str.injEq]at hv
  obtain⟨_,_,⟨_,e1⟩,e2,_⟩:=hv
  rw[e1,e2]
  exact⟨h2,h3⟩
theorem ko {α:Type} (p:α->Bool) (l:List α):(l.find? p=none/\bj p l= -1)\/∃(k:Nat) (x:α),l.find? p=some x/\l[k]?=some x/\bj p l=k:=by
 unfold bj
 cases h:l.findIdx? p with
 |none=>
  left
  have:=Xe.1 h
  exact⟨List.find?_eq_none.2 fun x hx=>by simp[this x hx],rfl⟩
 |some k=>
  right
  obtain⟨hk,h1,h2⟩:=Ww.1 h
  refine⟨k,l[k],?_,Wb hk,rfl⟩
  rw[List.find?_eq_some_iff_getElem]
  exact⟨h1,k,hk,rfl,fun j hj=>by simpa using h2 j hj⟩
theorem R0 (a b c d e f g h:PV):jx 8 0 [[a,b,c,d,e,f,g,h]] (some 0)=some (V.pv (.ro 0 [a,b,c,d,e,f,g,h])):=by rw[gB _ _ _ (by decide)]; rfl
theorem r507 (x:aH) (v:Nat):res A aA 507 [.agg x.c,.aq v []]=some [.bool true]:=by
 refine aw a507 rfl rfl ?_
 simp only[F507,LW]
 unfold aH.c
 simp(disch:=omega)only[go_sem]
 refine W.fv 0 (fun k=>⟨[(1,.pv (.aq v [])),(2,.ptr 2 0),(5,.pv (.int .i64 k))],⟨[(2,x.c.map .pv)],[],[]⟩⟩) (fun _=>True) rfl trivial fun k hk _=>?_
 simp(disch:=omega)only[go_sem]
 refine Br.aJ (fun c=>absurd c (by omega)) (fun c=>?_)
 simp(disch:=omega)only[go_sem]
set_option maxHeartbeats 4000000 in
theorem r502 (u:Nat) (T:List aH) (hT:RZ T):∀(n:Nat) (t:Int) (cs:List PV),mu n cs->eH t->res A aA 502 [.agg [.aq u (T.map aH.c)],.int .i64 t,.agg cs,.bool true]=some [.bool (fa T n t cs)]
 |0,_,_,h,_=>h.elim
 |n+1,t,cs,h,ht=>by
  obtain⟨v,rfl,⟨h1,h2,h3,h4⟩,⟨h5,h6,h7⟩,h8,h9,h10⟩:=h
  have ih:=r502 u T hT n
  rw[sU]
  obtain⟨ht1,ht2⟩:=ht
  have hTl:=hT.1
  refine aw a502 rfl rfl ?_
  simp only[F502,LS]
  unfold dz.c
  by_cases c0:t<0
  .rw[if_pos c0]
   have e0:decide (t<0)=true:=decide_eq_true c0
   simp(disch:=omega)only[go_sem,e0]
  .rw[if_neg c0]
   have e0:decide (t<0)=false:=decide_eq_false c0
   obtain⟨k,rfl⟩:=XB (by omega:0<=t)
   rw[WX]
   by_cases c1:(T.length:Int)<=k
   .rw[WS (by omega)]
    have e1:decide ((T.length:Int)<=k)=true:=decide_eq_true c1
    simp(disch:=omega)only[go_sem,e0,e1]
   .obtain⟨x,hx⟩:=get_some (l:=T) (k:=k) (by omega)
    have e1:decide ((T.length:Int)<=k)=false:=decide_eq_false c1
    have hxm:=Wa hx
    have hk:=hT.2.2 x hxm
    rw[hx]
    dsimp only
    by_cases ck:v.kind=x.kind
    .have e2:decide (v.kind=x.kind)=true:=decide_eq_true ck
     have h505:=r505 v (by omega) ⟨h5,h6,h7⟩
     rw[e2,WZ]
     cases hz:km v with
     |false=>
      rw[hz]at h505
      have:(km { v with rest:=[] }&&(v.rest.isEmpty&&gh (fa T n) x { v with rest:=[] }))=false:=by
       cases hr:v.rest with
       |nil=>rw[show ({ v with rest:=[] }:dz)=v by rw[<- hr],hz]; rfl
       |cons a b=>simp
      rw[this]
      simp only[dz.c]at h505
      simp(disch:=omega)only[go_sem,e0,e1,e2,hx,Option.map_some,aH.c,h505]
     |true=>
      rw[hz]at h505
      simp only[dz.c]at h505
      cases hr:v.rest with
      |cons a b=>
       rw[hr]at h505
       simp only[List.map_cons]at h505
       simp(disch:=omega)only[go_sem,e0,e1,e2,hx,Option.map_some,aH.c,h505,hr]
       refine Br.aJ (fun c=>?_) (fun c=>absurd (by omega) c)
       simp(disch:=omega)only[go_sem,e0,e1,e2,hx,Option.map_some,aH.c,h505,hr]
      |nil=>
       rw[hr]at h505
       simp only[List.map_nil]at h505
       simp(disch:=omega)only[go_sem,e0,e1,e2,hx,Option.map_some,aH.c,h505,hr,List.map_nil]
       refine Br.aJ (fun c=>absurd c (by omega)) (fun c=>?_)
       have hvv:({ v with rest:=[] }:dz)=v:=by rw[<- hr]
       rw[hvv,hz]
       try simp only[List.isEmpty_nil,Bool.true_and]
       have hxo:=hT.2.1 x hxm
       obtain⟨⟨x1,x2,x3,x4,x5,x6,x7⟩,⟨x8,x9⟩,x10,x11⟩:=hxo
       have h393:=r393 x v.id x8
       have h391:=r391 x v.id x9
       have h507:=r507 x
       obtain⟨kind,name,low,high,max,syms,bc,key,elem,jO⟩:=x
       have h508:∀(e:Int) (l:List (List PV)),eH e->bP l->(∀r∈l,mu n r)->res A aA 508 [.agg [.aq u (T.map aH.c)],.int .i64 e,.aq 0 l,.bool true]=some [.bool (l.all (fa T n e))]:=fun e l he hl hv=>r508 u 0 _ e l (fa T n e) hl (fun r hr=>(hv r hr).val) (fun r hr=>ih e r (hv r hr) he)
       dsimp only at *
       have hk5:=h508 key v.keys x6 h5 h8
       have he6:=h508 elem v.items x7 h6 h9
       unfold gh
       dsimp only
       simp only[aH.c]at h393 h391 h507
       rcases nine hk with rfl|rfl|rfl|rfl|rfl|rfl|rfl|rfl|rfl
       .simp(disch:=omega)only[go_sem,aH.c,h505,decide_true,decide_false,Int.reduceEq,if_true,if_false]
       .simp(disch:=omega)only[go_sem,aH.c,h505,decide_true,decide_false,Int.reduceEq,if_true,if_false]
        refine Br.aJ (fun c=>?_) (fun c=>?_)<;>simp(disch:=omega)only[go_sem,c,decide_true,decide_false,Bool.true_and,Bool.false_and]
       .simp(disch:=omega)only[go_sem,aH.c,h505,decide_true,decide_false,Int.reduceEq,if_true,if_false]
       .simp(disch:=omega)only[go_sem,aH.c,h505,decide_true,decide_false,Int.reduceEq,if_true,if_false,h393]
        refine Br.aJ (fun c=>?_) (fun c=>?_)<;>simp(disch:=omega)only[go_sem,c,decide_true,decide_false]
        cases jO<;>simp(disch:=omega)only[go_sem,c,decide_false]
       .simp(disch:=omega)only[go_sem,aH.c,h505,decide_true,decide_false,Int.reduceEq,if_true,if_false,h507]
        refine Br.aJ (fun c=>?_) (fun c=>?_)<;>simp(disch:=omega)only[go_sem,c,decide_true,decide_false,Bool.true_and,Bool.false_and]
        .have h507:=h507 0
         simp(disch:=omega)only[go_sem,h507]
         have hml:bc.length=v.items.length:=by omega
         have x9':bc.length<=9223372036854775807:=x9
         rw[decide_eq_true hml.symm,WZ]
         refine W.find (bc.zip v.items) (fun q=>!fa T n q.1.type q.2) (fun k=>⟨[(3,.pv (.bool true)),(4,.ptr 4 0),(6,.ptr 6 0),(9,.ptr 9 0),(12,.pv (.int .i64 k))],⟨[(4,[.pv (.aq u (T.map aH.c))]),(6,[.pv (.int .i64 v.kind),.pv (.bool v.bool),.pv (.int .i64 v.int),.pv (.str v.str),.pv (.int .i64 v.id),.pv (.aq 0 v.keys),.pv (.aq 0 v.items),.pv (.aq 0 [])]),(9,[.pv (.int .i64 5),.pv (.str name),.pv (.int .i64 low),.pv (.int .i64 high),.pv (.int .i64 max),.pv (.aq 0 (syms.map Sym.c)),.pv (.aq 0 (bc.map Mem.c)),.pv (.int .i64 key),.pv (.int .i64 elem),.pv (.bool jO)])],[],[]⟩⟩) rfl (fun k q hq hk hfd=>?_) (fun hn=>?_)
         .obtain⟨g1,g2⟩:=oF hq
          rw[oG hml]at hk
          have hm:=x11 q.1 (Wa g1)
          have hv:=h9 q.2 (Wa g2)
          have hc:=ih q.1.type q.2 hv hm.2.2.1
          have hfd:=fun g=>(hfd g).all
          rw[ju]at hfd
          generalize fa T n q.1.type q.2=e at hc hfd |-
          obtain⟨w,hw⟩:=hv.val
          rw[hw]at hc g2
          unfold dz.c at hc g2
          simp(disch:=omega)only[go_sem]
          refine Br.aJ (fun c=>?_) (fun c=>(c (by omega)).elim)
          simp(disch:=omega)only[go_sem,g1,g2,Option.map_some,Mem.c,hc]
          refine Br.of (fun g=>?_) (fun g=>?_)<;>simp(disch:=omega)only[go_sem]
          .exact bB.of (by rw[g]; rfl) rfl
          .rw[hfd (by rw[g]; rfl)]
         .have hn:=hn.all
          rw[ju]at hn
          rw[oG hml,hn]
          simp(disch:=omega)only[go_sem,hml]
        .have:decide (v.items.length=bc.length)=false:=decide_eq_false (fun e=>c (by rw[e]))
         rw[this,Xu]
       .simp(disch:=omega)only[go_sem,aH.c,h505,decide_true,decide_false,Int.reduceEq,if_true,if_false,h391]
        rcases ko (qP v.id) bc with⟨f1,f2⟩|⟨k,m,f1,f2,f3⟩
        .rw[f1]
         simp(disch:=omega)only[go_sem,f2]
         cases jO<;>simp(disch:=omega)only[go_sem,f2]
        .rw[f1]
         have d0:decide ((0:Int)<=(k:Int))=true:=by simp
         have d1:Max.max (k:Int) 0=(k:Int):=by omega
         simp(disch:=omega)only[go_sem,f2,f3,d0,d1]
         cases hi:v.items with
         |nil=>
          rw[hi]at h6
          have e7:decide (((0:Nat):Int)=1)=false:=rfl
          simp(disch:=omega)only[go_sem,List.length_nil,e7]
         |cons r rs=>
          cases rs with
          |cons r2 rs2=>
           have e7:decide (((rs2.length+1+1:Nat):Int)=1)=false:=decide_eq_false (by omega)
           simp(disch:=omega)only[go_sem,List.length_cons,e7]
          |nil=>
           have hv:=h9 r (by rw[hi]; exact WH)
           have hm:=x11 m (Wa f2)
           have hc:=ih m.type r hv hm.2.2.1
           obtain⟨w,hw⟩:=hv.val
           dsimp only
           generalize fa T n m.type r=e at hc |-
           rw[hw]at hc |-
           unfold dz.c at hc |-
           have e7:decide (((0+1:Nat):Int)=1)=true:=rfl
           have e8:decide (((0:Nat):Int)=0)=true:=rfl
           simp(disch:=omega)only[go_sem,f2,Option.map_some,Mem.c,hc,List.length_cons,List.length_nil,e7,e8,R0]
       .simp(disch:=omega)only[go_sem,aH.c,h505,decide_true,decide_false,Int.reduceEq,if_true,if_false]
        refine Br.aJ (fun c=>?_) (fun c=>?_)<;>simp(disch:=omega)only[go_sem,c,decide_true,decide_false,Bool.true_and,Bool.false_and,he6]
       .simp(disch:=omega)only[go_sem,aH.c,h505,decide_true,decide_false,Int.reduceEq,if_true,if_false]
        refine Br.aJ (fun c=>?_) (fun c=>?_)
        .rw[show decide ((v.keys.length:Int)<=max)=false from decide_eq_false (by omega),Xu]
         simp(disch:=omega)only[go_sem,c,decide_true,decide_false]
        .rw[show decide ((v.keys.length:Int)<=max)=true from decide_eq_true (by omega),WZ]
         simp(disch:=omega)only[go_sem,c,decide_true,decide_false]
         refine Br.aJ (fun d=>?_) (fun d=>?_)
         .rw[show decide (v.items.length=v.keys.length)=true from decide_eq_true (by omega),WZ]
          generalize v.keys.all (fa T n key)=p at hk5 |-
          generalize v.items.all (fa T n elem)=q at he6 |-
          simp(disch:=omega)only[go_sem,d,decide_true,decide_false,hk5]
          cases p
          .simp(disch:=omega)only[go_sem]
          .cases q
           .simp(disch:=omega)only[go_sem,he6]
           .simp(disch:=omega)only[go_sem,he6]
            have h5':v.keys.length<=9223372036854775807:=h5
            refine W.find (v.keys.zip v.keys.tail) (fun q=>!decide (HG q.1 q.2<0)) (fun k=>⟨[(6,.ptr 6 0),(15,.pv (.int .i64 (((k+1:Nat)):Int)))],⟨[(6,[.pv (.int .i64 v.kind),.pv (.bool v.bool),.pv (.int .i64 v.int),.pv (.str v.str),.pv (.int .i64 v.id),.pv (.aq 0 v.keys),.pv (.aq 0 v.items),.pv (.aq 0 [])])],[],[]⟩⟩) rfl (fun k q hq hk hfd=>?_) (fun hn=>?_)
            .obtain⟨g1,g2⟩:=oF hq
             rw[List.getElem?_tail]at g2
             have hk2:k+1<v.keys.length:=(V9.1 g2).1
             have e3:(((k+1:Nat):Int)) - 1=(k:Int):=by omega
             simp(disch:=omega)only[go_sem]
             refine Br.aJ (fun c=>?_) (fun c=>(c (by omega)).elim)
             have hv1:=h8 q.1 (Wa g1)
             have hv2:=h8 q.2 (Wa g2)
             obtain⟨w1,hw1⟩:=hv1.val
             obtain⟨w2,hw2⟩:=hv2.val
             have i1:=(hw1 ▸ hv1:mu n w1.c).is
             have i2:=(hw2 ▸ hv2:mu n w2.c).is
             have h509:=r509 w1 w2 i1.1 i2.1 i1.2 i2.2
             rw[hw1]at g1 hfd
             rw[hw2]at g2 hfd
             rw[hw1,hw2]
             have hfd:=fun g=>(hfd g).all
             rw[ju,oE]at hfd
             rw[oE]
             generalize lC w1 w2=e at h509 hfd |-
             unfold dz.c at h509 g1 g2
             simp(disch:=omega)only[go_sem,e3,g1,g2,h509]
             refine Br.aJ (fun g=>?_) (fun g=>?_)<;>simp(disch:=omega)only[go_sem]
             .have:=hfd (by simp; omega)
              rw[show C1 v.keys=false from this]
             .exact bB.of (by simp; omega) rfl
            .have:=hn.all
             rw[ju]at this
             rw[show C1 v.keys=true from this,oH]
             simp(disch:=omega)only[go_sem]
             refine Br.aJ (fun c=>absurd c (by omega)) (fun c=>?_)
             simp(disch:=omega)only[go_sem]
         .rw[show decide (v.items.length=v.keys.length)=false from decide_eq_false (by omega),Xu]
          simp(disch:=omega)only[go_sem,d,decide_true,decide_false]
       .simp(disch:=omega)only[go_sem,aH.c,h505,decide_true,decide_false,Int.reduceEq,if_true,if_false]
        refine Br.aJ (fun c=>?_) (fun c=>?_)<;>simp(disch:=omega)only[go_sem,c,decide_true,decide_false,Bool.true_and,Bool.false_and,he6]
    .have e2:decide (v.kind=x.kind)=false:=decide_eq_false ck
     rw[e2]
     simp(disch:=omega)only[go_sem,e0,e1,e2,hx,Option.map_some,aH.c]
theorem jv {rec:Int->List PV->Bool} {x:aH} {v:dz} (hr:v.rest=[]) (hz:km v=true):(km { v with rest:=[] }&&(v.rest.isEmpty&&gh rec x { v with rest:=[] }))=gh rec x v:=by
 rw[show ({ v with rest:=[] }:dz)=v by rw[<- hr],hz,hr]
 rfl
theorem wD {rec:Int->List PV->Bool} {x:aH} {v:dz} {a:Raw} {b:List Raw} (hr:v.rest=a::b):(km { v with rest:=[] }&&(v.rest.isEmpty&&gh rec x { v with rest:=[] }))=false:=by
 rw[hr]
 simp
set_option maxHeartbeats 4000000 in
theorem r503 (u:Nat) (T:List aH) (hT:RZ T):∀(n:Nat) (t:Int) (cs:List PV),mu n cs->eH t->res A aA 503 [.agg [.aq u (T.map aH.c)],.int .i64 t,.agg cs,.bool true]=some [.bool (fa T n t cs)]
 |0,_,_,h,_=>h.elim
 |n+1,t,cs,h,ht=>by
  obtain⟨v,rfl,⟨h1,h2,h3,h4⟩,⟨h5,h6,h7⟩,h8,h9,h10⟩:=h
  have ih:=r503 u T hT n
  rw[sU]
  obtain⟨ht1,ht2⟩:=ht
  have hTl:=hT.1
  refine aw a503 rfl rfl ?_
  simp only[F503,LU]
  unfold dz.c
  by_cases c0:t<0
  .rw[if_pos c0]
   have e0:decide (t<0)=true:=decide_eq_true c0
   simp(disch:=omega)only[go_sem,e0]
  .rw[if_neg c0]
   have e0:decide (t<0)=false:=decide_eq_false c0
   obtain⟨k,rfl⟩:=XB (by omega:0<=t)
   rw[WX]
   by_cases c1:(T.length:Int)<=k
   .rw[WS (by omega)]
    have e1:decide ((T.length:Int)<=k)=true:=decide_eq_true c1
    simp(disch:=omega)only[go_sem,e0,e1]
   .obtain⟨x,hx⟩:=get_some (l:=T) (k:=k) (by omega)
    have e1:decide ((T.length:Int)<=k)=false:=decide_eq_false c1
    have hxm:=Wa hx
    have hk:=hT.2.2 x hxm
    rw[hx]
    dsimp only
    by_cases ck:v.kind=x.kind
    .have e2:decide (v.kind=x.kind)=true:=decide_eq_true ck
     have h510:=r510 v (by omega) ⟨h5,h6,h7⟩
     rw[e2,WZ]
     cases hz:km v with
     |false=>
      rw[hz]at h510
      have:(km { v with rest:=[] }&&(v.rest.isEmpty&&gh (fa T n) x { v with rest:=[] }))=false:=by
       cases hr:v.rest with
       |nil=>rw[show ({ v with rest:=[] }:dz)=v by rw[<- hr],hz]; rfl
       |cons a b=>simp
      rw[this]
      simp only[dz.c]at h510
      simp(disch:=omega)only[go_sem,e0,e1,e2,hx,Option.map_some,aH.c,h510]
     |true=>
      rw[hz]at h510
      simp only[dz.c]at h510
      have hrest:¬(v.kind=5\/v.kind=6)->v.rest=[]:=fun hn=>by
       unfold km at hz
       have:=(of_decide_eq_true hz).2.2.2.2.2.2
       rcases this with h|h|h
       .exact absurd (.inl h) hn
       .exact absurd (.inr h) hn
       .exact h
      have hrc:v.rest=[]\/∃a b,v.rest=a::b:=by
       cases v.rest with
       |nil=>exact .inl rfl
       |cons a b=>exact .inr ⟨a,b,rfl⟩
      have hxo:=hT.2.1 x hxm
      obtain⟨⟨x1,x2,x3,x4,x5,x6,x7⟩,⟨x8,x9⟩,x10,x11⟩:=hxo
      have h392:=r392 x v.id x8
      have h281:=r281 x v.id x9
      obtain⟨kind,name,low,high,max,syms,bc,key,elem,jO⟩:=x
      have h512:∀(e:Int) (l:List (List PV)),eH e->bP l->(∀r∈l,mu n r)->res A aA 512 [.agg [.aq u (T.map aH.c)],.int .i64 e,.aq 0 l,.bool true]=some [.bool (l.all (fa T n e))]:=fun e l he hl hv=>r512 u 0 _ e l (fa T n e) hl (fun r hr=>(hv r hr).val) (fun r hr=>ih e r (hv r hr) he)
      dsimp only at *
      have hk5:=h512 key v.keys x6 h5 h8
      have he6:=h512 elem v.items x7 h6 h9
      simp only[aH.c]at h392 h281
      rcases nine hk with rfl|rfl|rfl|rfl|rfl|rfl|rfl|rfl|rfl
      .have hr:=hrest (by omega)
       rw[jv hr hz]
       rw[hr]at h510
       simp only[List.map_nil]at h510
       unfold gh
       dsimp only
       simp(disch:=omega)only[go_sem,e0,e1,e2,hx,Option.map_some,aH.c,h510,decide_true,decide_false,Int.reduceEq,if_true,if_false,hr,List.map_nil]
      .have hr:=hrest (by omega)
       rw[jv hr hz]
       rw[hr]at h510
       simp only[List.map_nil]at h510
       unfold gh
       dsimp only
       simp(disch:=omega)only[go_sem,e0,e1,e2,hx,Option.map_some,aH.c,h510,decide_true,decide_false,Int.reduceEq,if_true,if_false,hr,List.map_nil]
       refine Br.aJ (fun c=>?_) (fun c=>?_)<;>simp(disch:=omega)only[go_sem,c,decide_true,decide_false,Bool.true_and,Bool.false_and]
      .have hr:=hrest (by omega)
       rw[jv hr hz]
       rw[hr]at h510
       simp only[List.map_nil]at h510
       unfold gh
       dsimp only
       simp(disch:=omega)only[go_sem,e0,e1,e2,hx,Option.map_some,aH.c,h510,decide_true,decide_false,Int.reduceEq,if_true,if_false,hr,List.map_nil]
      .have hr:=hrest (by omega)
       rw[jv hr hz]
       rw[hr]at h510
       simp only[List.map_nil]at h510
       unfold gh
       dsimp only
       simp(disch:=omega)only[go_sem,e0,e1,e2,hx,Option.map_some,aH.c,h510,decide_true,decide_false,Int.reduceEq,if_true,if_false,hr,List.map_nil,h392]
       refine Br.aJ (fun c=>?_) (fun c=>?_)<;>simp(disch:=omega)only[go_sem,c,decide_true,decide_false]
       cases jO<;>simp(disch:=omega)only[go_sem,c,decide_false]
      .simp(disch:=omega)only[go_sem,e0,e1,e2,hx,Option.map_some,aH.c,h510,decide_true,decide_false,Int.reduceEq,if_true,if_false]
       rcases hrc with hr|⟨a,b,hr⟩
       .rw[jv hr hz]
        unfold gh
        simp only[Int.reduceEq,if_true,if_false]
        rw[hr]
        refine Br.aJ (fun c=>?_) (fun c=>?_)<;>simp(disch:=omega)only[go_sem,c,decide_true,decide_false,Bool.true_and,Bool.false_and,List.map_nil]
        .refine Br.aJ (fun c=>absurd c (by decide)) (fun _=>?_)
         simp(disch:=omega)only[go_sem,List.map_nil,List.length_nil]
         refine W.fv 0 (fun k=>⟨[(3,.pv (.bool true)),(4,.ptr 4 0),(6,.ptr 6 0),(9,.ptr 9 0),(111,.pv (.aq 0 [])),(112,.pv (.int .i64 0)),(113,.pv (.int .i64 k))],⟨[(4,[.pv (.aq u (T.map aH.c))]),(6,[.pv (.int .i64 v.kind),.pv (.bool v.bool),.pv (.int .i64 v.int),.pv (.str v.str),.pv (.int .i64 v.id),.pv (.aq 0 v.keys),.pv (.aq 0 v.items),.pv (.aq 0 [])]),(9,[.pv (.int .i64 5),.pv (.str name),.pv (.int .i64 low),.pv (.int .i64 high),.pv (.int .i64 max),.pv (.aq 0 (syms.map Sym.c)),.pv (.aq 0 (bc.map Mem.c)),.pv (.int .i64 key),.pv (.int .i64 elem),.pv (.bool jO)])],[],[]⟩⟩) (fun _=>True) rfl trivial fun k hk _=>?_
         simp(disch:=omega)only[go_sem]
         refine Br.aJ (fun c=>absurd c (by omega)) (fun _=>?_)
         simp(disch:=omega)only[go_sem]
         have hml:bc.length=v.items.length:=by omega
         have x9':bc.length<=9223372036854775807:=x9
         rw[decide_eq_true hml.symm,WZ]
         refine W.find (bc.zip v.items) (fun q=>!fa T n q.1.type q.2) (fun k=>⟨[(3,.pv (.bool true)),(4,.ptr 4 0),(6,.ptr 6 0),(150,.pv (.aq 0 (bc.map Mem.c))),(151,.pv (.int .i64 bc.length)),(152,.pv (.int .i64 k))],⟨[(4,[.pv (.aq u (T.map aH.c))]),(6,[.pv (.int .i64 v.kind),.pv (.bool v.bool),.pv (.int .i64 v.int),.pv (.str v.str),.pv (.int .i64 v.id),.pv (.aq 0 v.keys),.pv (.aq 0 v.items),.pv (.aq 0 [])])],[],[]⟩⟩) rfl (fun k q hq hk hfd=>?_) (fun hn=>?_)
         .obtain⟨g1,g2⟩:=oF hq
          rw[oG hml]at hk
          have hm:=x11 q.1 (Wa g1)
          have hv:=h9 q.2 (Wa g2)
          have hc:=ih q.1.type q.2 hv hm.2.2.1
          have hfd:=fun g=>(hfd g).all
          rw[ju]at hfd
          generalize fa T n q.1.type q.2=e at hc hfd |-
          obtain⟨w,hw⟩:=hv.val
          rw[hw]at hc g2
          unfold dz.c at hc g2
          simp(disch:=omega)only[go_sem]
          refine Br.aJ (fun c=>?_) (fun c=>(c (by omega)).elim)
          simp(disch:=omega)only[go_sem,g1,g2,Option.map_some,Mem.c,hc]
          refine Br.of (fun g=>?_) (fun g=>?_)<;>simp(disch:=omega)only[go_sem]
          .exact bB.of (by rw[g]; rfl) rfl
          .rw[hfd (by rw[g]; rfl)]
         .have hn:=hn.all
          rw[ju]at hn
          rw[oG hml,hn]
          simp(disch:=omega)only[go_sem,hml]
        .have:decide (v.items.length=bc.length)=false:=decide_eq_false (fun e=>c (by rw[e]))
         rw[this,Xu]
       .rw[wD hr]
        rw[hr]
        refine Br.aJ (fun c=>?_) (fun c=>?_)<;>simp(disch:=omega)only[go_sem,c,List.map_cons]
        refine Br.aJ (fun c=>?_) (fun c=>absurd (by omega) c)
        simp(disch:=omega)only[go_sem]
      .simp(disch:=omega)only[go_sem,e0,e1,e2,hx,Option.map_some,aH.c,h510,decide_true,decide_false,Int.reduceEq,if_true,if_false,h281]
       rcases ko (qP v.id) bc with⟨f1,f2⟩|⟨k,m,f1,f2,f3⟩
       .simp(disch:=omega)only[go_sem,f2]
        have:gh (fa T n) ⟨6,name,low,high,max,syms,bc,key,elem,jO⟩ v=false:=by
         unfold gh
         simp only[f1,Int.reduceEq,if_true,if_false]
        rcases hrc with hr|⟨a,b,hr⟩
        .rw[jv hr hz,this]
         cases jO<;>simp(disch:=omega)only[go_sem,f2]
        .rw[wD hr]
         cases jO<;>simp(disch:=omega)only[go_sem,f2]
       .have d0:decide ((0:Int)<=(k:Int))=true:=by simp
        have d1:Max.max (k:Int) 0=(k:Int):=by omega
        simp(disch:=omega)only[go_sem,f2,f3,d0,d1]
        rcases hrc with hr|⟨a,b,hr⟩
        .rw[jv hr hz]
         unfold gh
         simp only[Int.reduceEq,if_true,if_false]
         rw[f1,hr]
         cases hi:v.items with
         |nil=>
          rw[hi]at h6
          have e7:decide (((0:Nat):Int)=1)=false:=rfl
          simp(disch:=omega)only[go_sem,List.map_nil,List.length_nil,e7]
         |cons r rs=>
          cases rs with
          |cons r2 rs2=>
           have e7:decide (((rs2.length+1+1:Nat):Int)=1)=false:=decide_eq_false (by omega)
           simp(disch:=omega)only[go_sem,List.map_nil,List.length_cons,e7]
          |nil=>
           have hv:=h9 r (by rw[hi]; exact WH)
           have hm:=x11 m (Wa f2)
           have hc:=ih m.type r hv hm.2.2.1
           obtain⟨w,hw⟩:=hv.val
           dsimp only
           generalize fa T n m.type r=e at hc |-
           rw[hw]at hc |-
           unfold dz.c at hc |-
           have e7:decide (((0+1:Nat):Int)=1)=true:=rfl
           have e8:decide (((0:Nat):Int)=0)=true:=rfl
           simp(disch:=omega)only[go_sem,f2,Option.map_some,Mem.c,hc,List.map_nil,List.length_cons,List.length_nil,e7,e8,R0]
        .rw[wD hr]
         have e8:decide (((b.length+1:Nat):Int)=0)=false:=decide_eq_false (by omega)
         rw[hr]
         refine Br.aJ (fun c=>?_) (fun c=>?_)<;>simp(disch:=omega)only[go_sem,c,List.map_cons,List.length_cons,List.length_map,e8]
      .have hr:=hrest (by omega)
       rw[jv hr hz]
       rw[hr]at h510
       simp only[List.map_nil]at h510
       unfold gh
       dsimp only
       simp(disch:=omega)only[go_sem,e0,e1,e2,hx,Option.map_some,aH.c,h510,decide_true,decide_false,Int.reduceEq,if_true,if_false,hr,List.map_nil]
       refine Br.aJ (fun c=>?_) (fun c=>?_)<;>simp(disch:=omega)only[go_sem,c,decide_true,decide_false,Bool.true_and,Bool.false_and,he6]
      .have hr:=hrest (by omega)
       rw[jv hr hz]
       rw[hr]at h510
       simp only[List.map_nil]at h510
       unfold gh
       dsimp only
       simp(disch:=omega)only[go_sem,e0,e1,e2,hx,Option.map_some,aH.c,h510,decide_true,decide_false,Int.reduceEq,if_true,if_false,hr,List.map_nil]
       refine Br.aJ (fun c=>?_) (fun c=>?_)
       .rw[show decide ((v.keys.length:Int)<=max)=false from decide_eq_false (by omega),Xu]
        simp(disch:=omega)only[go_sem,c,decide_true,decide_false]
       .rw[show decide ((v.keys.length:Int)<=max)=true from decide_eq_true (by omega),WZ]
        simp(disch:=omega)only[go_sem,c,decide_true,decide_false]
        refine Br.aJ (fun d=>?_) (fun d=>?_)
        .rw[show decide (v.items.length=v.keys.length)=true from decide_eq_true (by omega),WZ]
         generalize v.keys.all (fa T n key)=p at hk5 |-
         generalize v.items.all (fa T n elem)=q at he6 |-
         simp(disch:=omega)only[go_sem,d,decide_true,decide_false,hk5]
         cases p
         .simp(disch:=omega)only[go_sem]
         .simp(disch:=omega)only[go_sem]
          have h5':v.keys.length<=9223372036854775807:=h5
          rw[WZ]
          refine W.find (v.keys.zip v.keys.tail) (fun q=>!decide (HG q.1 q.2<0)) (fun k=>⟨[(3,.pv (.bool true)),(4,.ptr 4 0),(6,.ptr 6 0),(9,.ptr 9 0),(20,.pv (.int .i64 (((k+1:Nat)):Int)))],⟨[(4,[.pv (.aq u (T.map aH.c))]),(6,[.pv (.int .i64 v.kind),.pv (.bool v.bool),.pv (.int .i64 v.int),.pv (.str v.str),.pv (.int .i64 v.id),.pv (.aq 0 v.keys),.pv (.aq 0 v.items),.pv (.aq 0 [])]),(9,[.pv (.int .i64 8),.pv (.str name),.pv (.int .i64 low),.pv (.int .i64 high),.pv (.int .i64 max),.pv (.aq 0 (syms.map Sym.c)),.pv (.aq 0 (bc.map Mem.c)),.pv (.int .i64 key),.pv (.int .i64 elem),.pv (.bool jO)])],[],[]⟩⟩) rfl (fun k q hq hk hfd=>?_) (fun hn=>?_)
          .obtain⟨g1,g2⟩:=oF hq
           rw[List.getElem?_tail]at g2
           have hk2:k+1<v.keys.length:=(V9.1 g2).1
           have e3:(((k+1:Nat):Int)) - 1=(k:Int):=by omega
           simp(disch:=omega)only[go_sem]
           refine Br.aJ (fun c=>?_) (fun c=>(c (by omega)).elim)
           have hv1:=h8 q.1 (Wa g1)
           have hv2:=h8 q.2 (Wa g2)
           obtain⟨w1,hw1⟩:=hv1.val
           obtain⟨w2,hw2⟩:=hv2.val
           have i1:=(hw1 ▸ hv1:mu n w1.c).is
           have i2:=(hw2 ▸ hv2:mu n w2.c).is
           have h513:=r513 w1 w2 i1.1 i2.1 i1.2 i2.2
           rw[hw1]at g1 hfd
           rw[hw2]at g2 hfd
           rw[hw1,hw2]
           have hfd:=fun g=>(hfd g).all
           rw[ju,oE]at hfd
           rw[oE]
           generalize lC w1 w2=e at h513 hfd |-
           unfold dz.c at h513 g1 g2
           simp(disch:=omega)only[go_sem,e3,g1,g2,h513]
           refine Br.aJ (fun g=>?_) (fun g=>?_)<;>simp(disch:=omega)only[go_sem]
           .have:=hfd (by simp; omega)
            rw[show C1 v.keys=false from this,abu]
           .exact bB.of (by simp; omega) rfl
          .have:=hn.all
           rw[ju]at this
           rw[show C1 v.keys=true from this,oH,Bool.and_true]
           simp(disch:=omega)only[go_sem]
           refine Br.aJ (fun c=>absurd c (by omega)) (fun c=>?_)
           simp(disch:=omega)only[go_sem,he6]
        .rw[show decide (v.items.length=v.keys.length)=false from decide_eq_false (by omega),Xu]
         simp(disch:=omega)only[go_sem,d,decide_true,decide_false]
      .have hr:=hrest (by omega)
       rw[jv hr hz]
       rw[hr]at h510
       simp only[List.map_nil]at h510
       unfold gh
       dsimp only
       simp(disch:=omega)only[go_sem,e0,e1,e2,hx,Option.map_some,aH.c,h510,decide_true,decide_false,Int.reduceEq,if_true,if_false,hr,List.map_nil]
       refine Br.aJ (fun c=>?_) (fun c=>?_)<;>simp(disch:=omega)only[go_sem,c,decide_true,decide_false,Bool.true_and,Bool.false_and,he6]
    .have e2:decide (v.kind=x.kind)=false:=decide_eq_false ck
     rw[e2]
     simp(disch:=omega)only[go_sem,e0,e1,e2,hx,Option.map_some,aH.c]
noncomputable def tZ (T:List aH) (t:Int) (cs:List PV):Bool:=by
 classical exact decide (∃n,mu n cs/\fa T n t cs=true)
theorem HH {T:List aH} (hT:RZ T) {n:Nat} {t:Int} {cs:List PV} (h:mu n cs) (ht:eH t):tZ T t cs=fa T n t cs:=by
 have key:∀m,mu m cs->fa T m t cs=fa T n t cs:=fun m hm=>by
  have h1:=r502 0 T hT n t cs h ht
  have h2:=r502 0 T hT m t cs hm ht
  rw[h1]at h2
  simpa using h2.symm
 classical
 unfold tZ
 cases hf:fa T n t cs with
 |true=>exact decide_eq_true ⟨n,h,hf⟩
 |false=>exact decide_eq_false fun⟨m,hm,he⟩=>by rw[key m hm,hf]at he; cases he
theorem r494 (u:Nat) (T:List aH) (hT:RZ T) (n:Nat) (t:Int) (v:dz) (h:mu n v.c) (ht:eH t):res A aA 494 [.agg [.aq u (T.map aH.c)],.int .i64 t,.agg v.c]=some [.bool (tZ T t v.c)]:=by
 have h502:=r502 u T hT n t v.c h ht
 rw[HH hT h ht]
 generalize fa T n t v.c=e at *
 refine aw a494 rfl rfl ?_
 simp only[F494,aaX]
 unfold dz.c at h502 |-
 simp(disch:=omega)only[go_sem,h502]
theorem r495 (u:Nat) (T:List aH) (hT:RZ T) (n:Nat) (t:Int) (v:dz) (h:mu n v.c) (ht:eH t):res A aA 495 [.agg [.aq u (T.map aH.c)],.int .i64 t,.agg v.c]=some [.bool (tZ T t v.c)]:=by
 have h503:=r503 u T hT n t v.c h ht
 rw[HH hT h ht]
 generalize fa T n t v.c=e at *
 refine aw a495 rfl rfl ?_
 simp only[F495,LN]
 unfold dz.c at h503 |-
 simp(disch:=omega)only[go_sem,h503]
noncomputable def ng (T:List aH) (m:Mem):Bool:=m.has&&!tZ T m.type m.ib.c
noncomputable def pR (T:List aH) (x:aH):Bool:=x.bc.any (ng T)
noncomputable def I2 (T:List aH):Int×Int×Int:=
 if cS T≠0 then (0,0,cS T) else match T.findIdx? (pR T)with
 |none=>(0,0,0)
 |some k=>(k,((T[k]?).bind fun x=>(x.bc.find? (ng T)).map (·.id)).getD 0,1)
theorem Fe {T:List aH} (ho:∀t∈T,t.ok) (h:cS T=0):RZ T:=by
 have hs:=eZ h
 refine⟨by have:=hs.len; omega,ho,fun x hx=>?_⟩
 have:=hs.own x hx
 unfold dO at this
 simp only[Bool.and_eq_true,decide_eq_true_eq]at this
 exact this.1
set_option maxHeartbeats 2000000 in
theorem r480 (u:Nat) (T:List aH) (hl:T.length<=2147483648) (ho:∀t∈T,t.ok) (hs:∀t∈T,t.held):res A aA 480 [.agg [.aq u (T.map aH.c)]]=some [.int .i64 (I2 T).1,.int .i64 (I2 T).2.1,.int .i64 (I2 T).2.2]:=by
 have h268:=r268 u T hl ho hs
 refine aw a480 rfl rfl ?_
 simp only[F480,aaR]
 simp(disch:=omega)only[go_sem,h268]
 unfold I2
 refine Br.aJ (fun c=>?_) (fun c=>?_)<;>simp(disch:=omega)only[go_sem,c,decide_true,decide_false]
 rotate_left
 .rw[if_pos c]
 rw[if_neg (by simp[c])]
 have hT:=Fe ho c
 obtain⟨G,hG⟩:∃G:Int×Int×Int,(match T.findIdx? (pR T)with
  |none=>(0,0,0)
  |some k=>(k,((T[k]?).bind fun x=>(x.bc.find? (ng T)).map (·.id)).getD 0,1))=G:=⟨_,rfl⟩
 rw[hG]
 refine W.find T (pR T) (fun k=>⟨[(1,.ptr 1 0),(6,.pv (.int .i64 k))],⟨[(1,[.pv (.aq u (T.map aH.c))])],[],[]⟩⟩) rfl (fun k x hx hk hfd=>?_) (fun hn=>?_)
 .have hxm:=Wa hx
  have hml:=(hs x hxm).bc
  obtain⟨_,⟨_,x9⟩,_,x11⟩:=ho x hxm
  simp(disch:=omega)only[go_sem]
  refine Br.aJ (fun c=>?_) (fun c=>(c (by omega)).elim)
  simp(disch:=omega)only[go_sem,hx,Option.map_some,aH.c]
  refine W.find x.bc (ng T) (fun j=>⟨[(1,.ptr 1 0),(6,.pv (.int .i64 k)),(7,.pv (.aq 0 (x.bc.map Mem.c))),(8,.pv (.int .i64 j))],⟨[(1,[.pv (.aq u (T.map aH.c))])],[],[]⟩⟩) rfl (fun j m hm hj hfm=>?_) (fun hn=>?_)
  .obtain⟨_,_,m3,n,m4⟩:=x11 m (Wa hm)
   have h494:=r494 u T hT n m.type m.ib m4 m3
   have hw:ng T m=(m.has&&!tZ T m.type m.ib.c):=rfl
   generalize tZ T m.type m.ib.c=e at h494 hw
   unfold dz.c at h494
   simp(disch:=omega)only[go_sem]
   refine Br.aJ (fun c=>?_) (fun c=>(c (by omega)).elim)
   simp(disch:=omega)only[go_sem,hm,Option.map_some,Mem.c,h494]
   cases hh:m.has with
   |false=>
    rw[hh]at hw
    simp(disch:=omega)only[go_sem]
    exact bB.of (by rw[hw]; rfl) rfl
   |true=>
    rw[hh]at hw
    simp(disch:=omega)only[go_sem,hm,Option.map_some,Mem.c,h494]
    cases e
    .have hf:=hfm (by rw[hw]; rfl)
     have hf2:=hfd hf.any
     simp(disch:=omega)only[go_sem,hm,Option.map_some,Mem.c]
     rw[<- hG,hf2.idx]
     dsimp only
     rw[hx,abw,hf.find]
     rfl
    .simp(disch:=omega)only[go_sem]
     exact bB.of (by rw[hw]; rfl) rfl
  .simp(disch:=omega)only[go_sem]
   exact bB.of hn.any rfl
 .simp(disch:=omega)only[go_sem]
  rw[<- hG,hn.idx]
set_option maxHeartbeats 2000000 in
theorem r484 (u:Nat) (T:List aH) (hl:T.length<=2147483648) (ho:∀t∈T,t.ok) (hs:∀t∈T,t.held):res A aA 484 [.agg [.aq u (T.map aH.c)]]=some [.int .i64 (I2 T).1,.int .i64 (I2 T).2.1,.int .i64 (I2 T).2.2]:=by
 have h267:=r267 u T hl ho hs
 refine aw a484 rfl rfl ?_
 simp only[F484,LD]
 simp(disch:=omega)only[go_sem,h267]
 unfold I2
 refine Br.aJ (fun c=>?_) (fun c=>?_)<;>simp(disch:=omega)only[go_sem,c,decide_true,decide_false]
 rotate_left
 .rw[if_pos c]
 rw[if_neg (by simp[c])]
 have hT:=Fe ho c
 obtain⟨G,hG⟩:∃G:Int×Int×Int,(match T.findIdx? (pR T)with
  |none=>(0,0,0)
  |some k=>(k,((T[k]?).bind fun x=>(x.bc.find? (ng T)).map (·.id)).getD 0,1))=G:=⟨_,rfl⟩
 rw[hG]
 refine W.find T (pR T) (fun k=>⟨[(1,.ptr 1 0),(16,.pv (.aq u (T.map aH.c))),(17,.pv (.int .i64 T.length)),(18,.pv (.int .i64 k))],⟨[(1,[.pv (.aq u (T.map aH.c))])],[],[]⟩⟩) rfl (fun k x hx hk hfd=>?_) (fun hn=>?_)
 .have hxm:=Wa hx
  have hml:=(hs x hxm).bc
  obtain⟨_,⟨_,x9⟩,_,x11⟩:=ho x hxm
  simp(disch:=omega)only[go_sem]
  refine Br.aJ (fun c=>?_) (fun c=>(c (by omega)).elim)
  simp(disch:=omega)only[go_sem,hx,Option.map_some,aH.c]
  refine W.find x.bc (ng T) (fun j=>⟨[(1,.ptr 1 0),(6,.pv (.int .i64 k)),(16,.pv (.aq u (T.map aH.c))),(17,.pv (.int .i64 T.length)),(18,.pv (.int .i64 k)),(24,.pv (.aq 0 (x.bc.map Mem.c))),(25,.pv (.int .i64 x.bc.length)),(26,.pv (.int .i64 j))],⟨[(1,[.pv (.aq u (T.map aH.c))])],[],[]⟩⟩) rfl (fun j m hm hj hfm=>?_) (fun hn=>?_)
  .obtain⟨_,_,m3,n,m4⟩:=x11 m (Wa hm)
   have h495:=r495 u T hT n m.type m.ib m4 m3
   have hw:ng T m=(m.has&&!tZ T m.type m.ib.c):=rfl
   generalize tZ T m.type m.ib.c=e at h495 hw
   unfold dz.c at h495
   simp(disch:=omega)only[go_sem]
   refine Br.aJ (fun c=>?_) (fun c=>(c (by omega)).elim)
   simp(disch:=omega)only[go_sem,hm,Option.map_some,Mem.c,h495]
   cases hh:m.has with
   |false=>
    rw[hh]at hw
    simp(disch:=omega)only[go_sem]
    exact bB.of (by rw[hw]; rfl) rfl
   |true=>
    rw[hh]at hw
    simp(disch:=omega)only[go_sem,hm,Option.map_some,Mem.c,h495]
    cases e
    .have hf:=hfm (by rw[hw]; rfl)
     have hf2:=hfd hf.any
     simp(disch:=omega)only[go_sem,hm,Option.map_some,Mem.c]
     rw[<- hG,hf2.idx]
     dsimp only
     rw[hx,abw,hf.find]
     rfl
    .simp(disch:=omega)only[go_sem]
     exact bB.of (by rw[hw]; rfl) rfl
  .simp(disch:=omega)only[go_sem]
   exact bB.of hn.any rfl
 .simp(disch:=omega)only[go_sem]
  rw[<- hG,hn.idx]
noncomputable def gi (T:List aH):Int:=(I2 T).2.2
theorem sV {T:List aH} (h:cS T≠0):gi T=cS T:=by
 unfold gi I2
 rw[if_pos h]
theorem lD {T:List aH} (h:gi T=0):cS T=0/\∀x∈T,∀m∈x.bc,m.has=true->tZ T m.type m.ib.c=true:=by
 by_cases hv:cS T=0
 .refine⟨hv,fun x hx m hm hh=>?_⟩
  unfold gi I2 at h
  rw[if_neg (by simp[hv])]at h
  cases hf:T.findIdx? (pR T)with
  |none=>
   have h1:=Xe.1 hf x hx
   have h2:=WY.1 h1 m hm
   unfold ng at h2
   rw[hh]at h2
   simpa using h2
  |some k=>
   rw[hf]at h
   cases h
 .rw[sV hv]at h
  exact absurd h hv
theorem r470 (u:Nat) (T:List aH) (hl:T.length<=2147483648) (ho:∀t∈T,t.ok) (hs:∀t∈T,t.held):res A aA 470 [.agg [.aq u (T.map aH.c)]]=some [.int .i64 (gi T)]:=by
 have h268:=r268 u T hl ho hs
 have h480:=r480 u T hl ho hs
 have hb:=sV (T:=T)
 unfold gi at hb |-
 refine aw a470 rfl rfl ?_
 simp only[F470,aaN]
 simp(disch:=omega)only[go_sem,h268]
 refine Br.aJ (fun c=>?_) (fun c=>?_)<;>simp(disch:=omega)only[go_sem,h480,c,decide_true,decide_false]
 rw[hb c]
theorem r473 (u:Nat) (T:List aH) (hl:T.length<=2147483648) (ho:∀t∈T,t.ok) (hs:∀t∈T,t.held):res A aA 473 [.agg [.aq u (T.map aH.c)]]=some [.int .i64 (gi T)]:=by
 have h267:=r267 u T hl ho hs
 have h484:=r484 u T hl ho hs
 have hb:=sV (T:=T)
 unfold gi at hb |-
 refine aw a473 rfl rfl ?_
 simp only[F473,Lw]
 simp(disch:=omega)only[go_sem,h267]
 refine Br.aJ (fun c=>?_) (fun c=>?_)<;>simp(disch:=omega)only[go_sem,h484,c,decide_true,decide_false]
 rw[hb c]
def X1 (n:List Int) (i:Int):Int:=n.getD i.toNat 0
def jN (b:Bool) (x:aH) (n:List Int):Int:=
 if x.kind=2 then (if x.low=x.high then 1 else 2)
 else if x.kind=3 then (if x.max=0 then 1 else 2)
 else if x.kind=4 then min 2 x.syms.length
 else if x.kind=5 then x.bc.foldl (fun c m=>min 2 (c*X1 n m.type)) 1
 else if x.kind=6 then x.bc.foldl (fun c m=>min 2 (c+X1 n m.type)) 0
 else if x.kind=7 then (if x.max=0\/X1 n x.elem=0 then 1 else 2)
 else if x.kind=8 then (if x.max=0\/X1 n x.elem=0\/b=true/\X1 n x.key=0 then 1 else 2)
 else if x.kind=9 then min 2 (1+X1 n x.elem)
 else 2
def yQ (n:List Int):Prop:=∀x∈n,0<=x/\x<=2
def kH (n m:List Int):Prop:=n.length=m.length/\∀k:Nat,n.getD k 0<=m.getD k 0
theorem yQ.at {n:List Int} (h:yQ n) (k:Nat):0<=n.getD k 0/\n.getD k 0<=2:=by
 rw[Ws]
 cases hk:n[k]? with
 |none=>simp
 |some x=>exact h x (Wa hk)
theorem kH.refl (n:List Int):kH n n:=⟨rfl,fun _=>XS _⟩
theorem kH.trans {a b c:List Int} (h:kH a b) (g:kH b c):kH a c:=⟨h.1.trans g.1,fun k=>Int.le_trans (h.2 k) (g.2 k)⟩
theorem kH.Mx {a b:List Int} (h:kH a b) (g:kH b a):a=b:=by
 refine afC h.1 fun k h1 h2=>?_
 have e1:=h.2 k
 have e2:=g.2 k
 rw[Ws,Ws,Wb h1,Wb h2]at e1 e2
 simp at e1 e2
 omega
theorem sW {α:Type} (f:Int->α->Int) (hf:∀c a,0<=c->0<=f c a/\f c a<=2):∀(l:List α) (c:Int),0<=c->c<=2->0<=l.foldl f c/\l.foldl f c<=2
 |[],c,h1,h2=>⟨h1,h2⟩
 |a::l,c,h1,_=>sW f hf l _ (hf c a h1).1 (hf c a h1).2
theorem pS {α:Type} {l0:List α} (f g:Int->α->Int) (hf:∀c d a,a∈l0->0<=c->c<=d->0<=f c a/\f c a<=g d a):∀(l:List α) (c d:Int),(∀a∈l,a∈l0)->0<=c->c<=d->l.foldl f c<=l.foldl g d
 |[],_,_,_,_,h2=>h2
 |a::l,c,d,hl,h1,h2=>pS f g hf l _ _ (fun x hx=>hl x (W3 _ hx)) (hf c d a (hl a WH) h1 h2).1 (hf c d a (hl a WH) h1 h2).2
theorem Ff {c a:Int} (h1:0<=c) (h2:0<=a):0<=min 2 (c*a)/\min 2 (c*a)<=2:=by
 have:=Int.mul_nonneg h1 h2
 omega
theorem wE (b:Bool) (x:aH) {n:List Int} (hn:yQ n):0<=jN b x n/\jN b x n<=2:=by
 have ha:∀i,0<=X1 n i/\X1 n i<=2:=fun i=>hn.at _
 unfold jN
 repeat' split
 all_goals first|decide|skip
 .omega
 .exact sW _ (fun c m h=>Ff h (ha _).1) _ _ (by decide) (by decide)
 .exact sW _ (fun c m h=>by have:=ha m.type; omega) _ _ (by decide) (by decide)
 .have:=ha x.elem
  omega
theorem sX (b:Bool) (x:aH) {n m:List Int} (hn:yQ n) (h:kH n m):jN b x n<=jN b x m:=by
 have ha:∀i,0<=X1 n i:=fun i=>(hn.at _).1
 have hm:∀i,X1 n i<=X1 m i:=fun i=>h.2 _
 unfold jN
 repeat' split
 all_goals first|decide|omega|skip
 .refine pS (l0:=x.bc) _ _ (fun c d a _ h1 h2=>?_) _ _ _ (fun _ h=>h) (by decide) (XS _)
  refine⟨(Ff h1 (ha _)).1,?_⟩
  have:=Int.mul_le_mul h2 (hm a.type) (ha _) (by omega)
  omega
 .refine pS (l0:=x.bc) _ _ (fun c d a _ h1 h2=>?_) _ _ _ (fun _ h=>h) (by decide) (XS _)
  have:=ha a.type
  have:=hm a.type
  omega
 .rename_i h1 h2
  have e1:=ha x.elem
  have e2:=hm x.elem
  exact absurd (h2.imp id fun h=>by omega) h1
 .rename_i h1 h2
  have e1:=ha x.elem
  have e2:=hm x.elem
  have e3:=ha x.key
  have e4:=hm x.key
  exact absurd (h2.imp id fun h=>h.imp (fun h=>by omega) (fun h=>⟨h.1,by omega⟩)) h1
 .have:=hm x.elem
  omega
theorem My (x:aH) (n:List Int) (hn:yQ n):jN true x n<=jN false x n:=by
 have ha:∀i,0<=X1 n i:=fun i=>(hn.at _).1
 unfold jN
 repeat' split
 all_goals first|decide|omega|skip
 rename_i h1 h2
 exact absurd (h2.imp id fun h=>h.imp id (fun h=>⟨by simp at h,by simp at h⟩)) h1
def swp (b:Bool) (T:List aH) (n:List Int):Nat->List Int
 |0=>n
 |k+1=>match T[k]? with
  |some x=>(swp b T n k).set k (jN b x (swp b T n k))
  |none=>swp b T n k
theorem ir {n:List Int} {k:Nat} {x:Int} (i:Nat) (hk:k<n.length):(n.set k x).getD i 0=if i=k then x else n.getD i 0:=by
 rw[Ws,afz]
 by_cases h:k=i
 .subst h
  rw[if_pos rfl,if_pos hk,if_pos rfl]
  rfl
 .rw[if_neg h,if_neg (fun e=>h e.symm),Ws]
def BV (b:Bool) (T:List aH) (n:List Int):Prop:=n.length=T.length/\yQ n/\∀k x,T[k]?=some x->n.getD k 0<=jN b x n
theorem yQ.set {n:List Int} (h:yQ n) {k:Nat} {x:Int} (hx:0<=x/\x<=2):yQ (n.set k x):=fun y hy=>by
 rcases XK hy with h1|rfl
 .exact h y h1
 .exact hx
theorem kH.set {n:List Int} {k:Nat} {x:Int} (hk:k<n.length) (hx:n.getD k 0<=x):kH n (n.set k x):=by
 refine⟨(Xx ..).symm,fun i=>?_⟩
 rw[ir i hk]
 split
 .rename_i h
  rw[h]
  exact hx
 .exact XS _
theorem BV.step {b:Bool} {T:List aH} {n:List Int} (h:BV b T n) {k:Nat} {x:aH} (hx:T[k]?=some x):BV b T (n.set k (jN b x n))/\kH n (n.set k (jN b x n)):=by
 obtain⟨h1,h2,h3⟩:=h
 have hk:k<n.length:=h1 ▸ (V9.1 hx).1
 have hle:=kH.set hk (h3 k x hx)
 refine⟨⟨by rw[Xx,h1],h2.set (wE b x h2),fun j y hy=>?_⟩,hle⟩
 have hm:=sX b y h2 hle
 rw[ir j hk]
 split
 .rename_i e
  rw[e,hx]at hy
  cases hy
  exact hm
 .exact Int.le_trans (h3 j y hy) hm
theorem BV.swp {b:Bool} {T:List aH} {n:List Int} (h:BV b T n):∀k,BV b T (swp b T n k)/\kH n (swp b T n k)
 |0=>⟨h,kH.refl n⟩
 |k+1=>by
  obtain⟨h1,h2⟩:=BV.swp h k
  unfold Go.Pv.swp
  split
  .rename_i x hx
   obtain⟨h3,h4⟩:=h1.step hx
   exact⟨h3,h2.trans h4⟩
  .exact⟨h1,h2⟩
def Fix (b:Bool) (T:List aH) (n:List Int):Prop:=n.length=T.length/\yQ n/\∀k x,T[k]?=some x->n.getD k 0=jN b x n
def qz (b:Bool) (T:List aH) (n:List Int):Prop:=Fix b T n/\∀m,Fix b T m->kH n m
theorem qz.uniq {b:Bool} {T:List aH} {n m:List Int} (h:qz b T n) (g:qz b T m):n=m:=(h.2 m g.1).Mx (g.2 n h.1)
theorem AG {b:Bool} {T:List aH} {n m:List Int} (hn:yQ n) (hm:Fix b T m) (h:kH n m) {k:Nat} {x:aH} (hx:T[k]?=some x):kH (n.set k (jN b x n)) m:=by
 have hk:k<n.length:=by rw[h.1,hm.1]; exact(V9.1 hx).1
 refine⟨by rw[Xx,h.1],fun i=>?_⟩
 rw[ir i hk]
 split
 .rename_i e
  rw[e,hm.2.2 k x hx]
  exact sX b x hn h
 .exact h.2 i
theorem Ya {b:Bool} {T:List aH} {n m:List Int} (hn:BV b T n) (hm:Fix b T m) (h:kH n m):∀k,kH (swp b T n k) m
 |0=>h
 |k+1=>by
  unfold swp
  split
  .rename_i x hx
   exact AG (hn.swp k).1.2.1 hm (Ya hn hm h k) hx
  .exact Ya hn hm h k
theorem Fg {b:Bool} {T:List aH} {n:List Int} (hn:BV b T n) (h:kH (swp b T n T.length) n):Fix b T n:=by
 have key:∀k,k<=T.length->swp b T n k=n:=fun k hk=>by
  have up:∀j,kH (swp b T n k) (swp b T n (k+j)):=fun j=>by
   induction j with
   |zero=>exact kH.refl _
   |succ j ih=>
    rw[<- W0]
    refine ih.trans ?_
    show kH _ (match T[k+j]? with
     |some x=>(swp b T n (k+j)).set (k+j) (jN b x (swp b T n (k+j)))
     |none=>swp b T n (k+j))
    split
    .rename_i x hx
     exact((hn.swp (k+j)).1.step hx).2
    .exact kH.refl _
  have:=up (T.length - k)
  rw[show k+(T.length - k)=T.length by omega]at this
  exact(this.trans h).Mx (hn.swp k).2
 refine⟨hn.1,hn.2.1,fun k x hx=>?_⟩
 have hk:=(V9.1 hx).1
 have h1:=key (k+1) hk
 have h2:=key k (by omega)
 unfold swp at h1
 rw[hx]at h1
 dsimp only at h1
 rw[h2]at h1
 have h3:=ir (n:=n) (x:=jN b x n) k (by rw[hn.1]; exact hk)
 rw[h1,if_pos rfl]at h3
 exact h3
def pT (n:List Int):Int:=n.foldl (·+·) 0
theorem sY:∀(n:List Int) (a:Int),n.foldl (·+·) a=a+pT n
 |[],a=>by simp[pT]
 |x::n,a=>by
  show n.foldl (·+·) (a+x)=a+n.foldl (·+·) (0+x)
  rw[sY n (a+x),sY n (0+x)]
  omega
theorem pU (x:Int) (n:List Int):pT (x::n)=x+pT n:=by
 show n.foldl (·+·) (0+x)=_
 rw[sY]
 omega
theorem wF:∀{a b:List Int},kH a b->pT a<=pT b/\(a≠b->pT a<pT b)
 |[],[],_=>⟨XS _,fun h=>(h rfl).elim⟩
 |[],_::_,h=>absurd h.1 (by simp)
 |_::_,[],h=>absurd h.1 (by simp)
 |x::a,y::b,h=>by
  have h0:=h.2 0
  have ht:kH a b:=⟨by have:=h.1; simpa using this,fun k=>by simpa using h.2 (k+1)⟩
  obtain⟨h1,h2⟩:=wF ht
  simp at h0
  rw[pU,pU]
  refine⟨by omega,fun hne=>?_⟩
  by_cases e:a=b
  .have:x≠y:=fun e2=>hne (by rw[e,e2])
   omega
  .have:=h2 e
   omega
theorem oI:∀{n:List Int},yQ n->0<=pT n/\pT n<=2*n.length
 |[],_=>by simp[pT]
 |x::n,h=>by
  have h1:=h x WH
  have h2:=oI (n:=n) fun y hy=>h y (W3 _ hy)
  rw[pU,abv]
  omega
def kG (b:Bool) (T:List aH):Nat->List Int
 |0=>List.replicate T.length 0
 |r+1=>swp b T (kG b T r) T.length
theorem yR (b:Bool) (T:List aH):BV b T (List.replicate T.length 0):=by
 have h2:yQ (List.replicate T.length 0):=fun x hx=>by
  rw[List.mem_replicate]at hx
  omega
 refine⟨XV,h2,fun k x _=>?_⟩
 have h1:=wE b x h2
 rw[Ws,XA]
 split<;>simpa using h1.1
theorem gF (b:Bool) (T:List aH):∀r,BV b T (kG b T r)
 |0=>yR b T
 |r+1=>((gF b T r).swp _).1
theorem nh {b:Bool} {T:List aH} {m:List Int} (hm:Fix b T m):∀r,kH (kG b T r) m
 |0=>by
  refine⟨by rw[hm.1]; exact XV,fun k=>?_⟩
  have h1:=hm.2.1.at k
  show (List.replicate T.length (0:Int)).getD k 0<=_
  rw[Ws,XA]
  split<;>simpa using h1.1
 |r+1=>Ya (gF b T r) hm (nh hm r) _
theorem BW {b:Bool} {T:List aH} {n:List Int} (h:Fix b T n):∀k,swp b T n k=n
 |0=>rfl
 |k+1=>by
  unfold swp
  rw[BW h k]
  split
  .rename_i x hx
   have hk:k<n.length:=by rw[h.1]; exact(V9.1 hx).1
   rw[<- h.2.2 k x hx,Ws,Wb hk]
   simp
  .rfl
theorem ni (b:Bool) (T:List aH):qz b T (kG b T (2*T.length+1)):=by
 have key:∀r,Fix b T (kG b T r)\/(r:Int)<=pT (kG b T r):=fun r=>by
  induction r with
  |zero=>exact .inr (oI (yR b T).2.1).1
  |succ r ih=>
   rcases ih with h|h
   .left
    show Fix b T (swp b T (kG b T r) T.length)
    rw[BW h]
    exact h
   .have hl:=gF b T r
    by_cases e:kG b T r=kG b T (r+1)
    .left
     rw[<- e]
     exact Fg hl (by show kH (kG b T (r+1)) _; rw[<- e]; exact kH.refl _)
    .right
     have:=(wF (hl.swp T.length).2).2 e
     have e2:kG b T (r+1)=swp b T (kG b T r) T.length:=rfl
     rw[e2]
     omega
 refine⟨(key _).resolve_right fun h=>?_,fun m hm=>nh hm _⟩
 have h1:=oI (gF b T (2*T.length+1)).2.1
 rw[(gF b T (2*T.length+1)).1]at h1
 omega
theorem C2 {T:List aH} {n:List Int} (h:qz true T n) (hk:∀x∈T,x.kind=8->X1 n x.key≠0):qz false T n:=by
 obtain⟨⟨h1,h2,h3⟩,h4⟩:=h
 have hf:Fix false T n:=⟨h1,h2,fun k x hx=>by
  rw[h3 k x hx]
  have:=hk x (Wa hx)
  unfold jN
  by_cases c:x.kind=8
  .have:=this c
   simp[c,this]
  .simp[c]⟩
 refine⟨hf,fun m hm=>?_⟩
 have hr:=ni true T
 have e:n=kG true T (2*T.length+1):=qz.uniq ⟨⟨h1,h2,h3⟩,h4⟩ hr
 rw[e]
 have key:∀r,kH (kG true T r) m:=fun r=>by
  induction r with
  |zero=>
   refine⟨by rw[hm.1]; exact XV,fun k=>?_⟩
   have h1:=hm.2.1.at k
   show (List.replicate T.length (0:Int)).getD k 0<=_
   rw[Ws,XA]
   split<;>simpa using h1.1
  |succ r ih=>
   have:∀k,kH (swp true T (kG true T r) k) m:=fun k=>by
    induction k with
    |zero=>exact ih
    |succ k ih2=>
     unfold swp
     split
     .rename_i x hx
      have hl:=((gF true T r).swp k).1.2.1
      have hk:k<(swp true T (kG true T r) k).length:=by rw[ih2.1,hm.1]; exact(V9.1 hx).1
      refine⟨by rw[Xx,ih2.1],fun i=>?_⟩
      rw[ir i hk]
      split
      .rename_i e
       rw[e,hm.2.2 k x hx]
       exact Int.le_trans (My x _ hl) (sX false x hl ih2)
      .exact ih2.2 i
     .exact ih2
   exact this _
 exact key _
def Fh (x:aH) (n:List Int):Int:=
 if x.kind=4 then x.syms.length
 else if x.kind=6 then x.bc.foldl (fun c m=>c+X1 n m.type) 0
 else if x.kind=9 then 1+X1 n x.elem
 else jN true x n
theorem yS {n:List Int} (ha:∀i,0<=X1 n i):∀(l:List Mem) (c:Int),0<=c->min 2 (l.foldl (fun c m=>c+X1 n m.type) c)=l.foldl (fun c m=>min 2 (c+X1 n m.type)) (min 2 c)
 |[],_,_=>rfl
 |m::l,c,h=>by
  have h1:=ha m.type
  rw[Xp,Xp,yS ha l _ (by omega)]
  congr 1
  omega
theorem Fi (x:aH) {n:List Int} (hn:yQ n):min 2 (Fh x n)=jN true x n:=by
 have h:=wE true x hn
 unfold Fh
 repeat' split
 .rename_i h1
  unfold jN
  rw[if_neg (by omega),if_neg (by omega),if_pos h1]
 .rename_i h1
  rw[yS (fun i=>(hn.at _).1) _ _ (by decide)]
  unfold jN
  rw[if_neg (by omega),if_neg (by omega),if_neg (by omega),if_neg (by omega),if_pos h1]
  rfl
 .rename_i h1
  unfold jN
  rw[if_neg (by omega),if_neg (by omega),if_neg (by omega),if_neg (by omega),if_neg (by omega),if_neg (by omega),if_neg (by omega),if_pos h1]
 .omega
theorem C3 {t:Nat} {n:List Int} {i:Int} (h0:0<=i) (h:i<n.length):jx 1 t (ints n) (some i)=some (V.pv (.ro t [.int .i64 (X1 n i)])):=by
 rw[gB _ _ _ h0,EC,Wb (show i.toNat<n.length by omega)]
 unfold X1
 rw[Ws,Wb (show i.toNat<n.length by omega)]
 rfl
theorem HI {c a:Int} (h1:0<=c) (h2:c<=2) (h3:0<=a) (h4:a<=2):0<=c*a/\c*a<=4:=by
 have:c=0\/c=1\/c=2:=by omega
 rcases this with rfl|rfl|rfl<;>omega
theorem yT {x:aH} {m:Mem} (h:m∈x.bc):m.type∈cT x:=by
 unfold cT
 exact Xa _ (Xa _ (Wk.2 ⟨m,h,rfl⟩))
theorem u7 {x:aH} (h:x.kind=7\/x.kind=8\/x.kind=9):x.elem∈cT x:=by
 unfold cT abG
 refine Xt _ ?_
 rcases h with h|h|h<;>simp[h]
set_option maxHeartbeats 4000000 in
theorem r481 (x:aH) (n:List Int) (t:Nat) (hk:1<=x.kind/\x.kind<=9) (hs:x.short) (hn:yQ n) (hu:∀u∈cT x,0<=u/\u<n.length):res A aA 481 [.agg x.c,.aq t (ints n)]=some [.int .i64 (jN false x n)]:=by
 refine aw a481 rfl rfl ?_
 simp only[F481,aaS]
 have ha:∀i,0<=X1 n i/\X1 n i<=2:=fun i=>hn.at _
 have hm:=fun m hm=>hu _ (yT (x:=x) (m:=m) hm)
 have hml:=hs.bc
 have hsl:=hs.syms
 have hel:=fun h=>hu _ (u7 (x:=x) h)
 unfold jN
 obtain⟨kind,name,low,high,max,syms,bc,key,elem,jO⟩:=x
 unfold aH.c
 dsimp only at *
 rcases nine hk with rfl|rfl|rfl|rfl|rfl|rfl|rfl|rfl|rfl
 .simp(disch:=omega)only[go_sem,decide_true,decide_false,Int.reduceEq,if_true,if_false]
 .simp(disch:=omega)only[go_sem,decide_true,decide_false,Int.reduceEq,if_true,if_false]
  refine Br.aJ (fun c=>?_) (fun c=>?_)<;>simp(disch:=omega)only[go_sem,c,if_true,if_false]
 .simp(disch:=omega)only[go_sem,decide_true,decide_false,Int.reduceEq,if_true,if_false]
  refine Br.aJ (fun c=>?_) (fun c=>?_)<;>simp(disch:=omega)only[go_sem,c,if_true,if_false]
 .simp(disch:=omega)only[go_sem,decide_true,decide_false,Int.reduceEq,if_true,if_false]
 .simp(disch:=omega)only[go_sem,decide_true,decide_false,Int.reduceEq,if_true,if_false]
  refine W.fold bc (fun c m=>min 2 (c*X1 n m.type)) 1 (fun k acc=>⟨[(1,.pv (.aq t (ints n))),(2,.ptr 2 0),(5,.pv (.int .i64 acc)),(6,.pv (.int .i64 k))],⟨[(2,[.pv (.int .i64 5),.pv (.str name),.pv (.int .i64 low),.pv (.int .i64 high),.pv (.int .i64 max),.pv (.aq 0 (syms.map Sym.c)),.pv (.aq 0 (bc.map Mem.c)),.pv (.int .i64 key),.pv (.int .i64 elem),.pv (.bool jO)])],[],[]⟩⟩) (fun _ acc=>0<=acc/\acc<=2) rfl (by decide) (fun k m acc hm1 hk1 _ hi=>?_) (fun acc hacc hi=>?_)
  .obtain⟨u1,u2⟩:=hm m (Wa hm1)
   have he:=fun t=>C3 (t:=t) u1 u2
   obtain⟨p1,p2⟩:=HI hi.1 hi.2 (ha m.type).1 (ha m.type).2
   generalize hp:acc*X1 n m.type=p at p1 p2
   simp(disch:=omega)only[go_sem]
   refine Br.aJ (fun c=>?_) (fun c=>(c (by omega)).elim)
   simp(disch:=omega)only[go_sem,hm1,Option.map_some,Mem.c,he,hp]
   exact cW.of rfl (by omega)
  .simp(disch:=omega)only[go_sem]
   rw[<- hacc]
 .simp(disch:=omega)only[go_sem,decide_true,decide_false,Int.reduceEq,if_true,if_false]
  refine W.fold bc (fun c m=>min 2 (c+X1 n m.type)) 0 (fun k acc=>⟨[(1,.pv (.aq t (ints n))),(2,.ptr 2 0),(7,.pv (.int .i64 acc)),(8,.pv (.int .i64 k))],⟨[(2,[.pv (.int .i64 6),.pv (.str name),.pv (.int .i64 low),.pv (.int .i64 high),.pv (.int .i64 max),.pv (.aq 0 (syms.map Sym.c)),.pv (.aq 0 (bc.map Mem.c)),.pv (.int .i64 key),.pv (.int .i64 elem),.pv (.bool jO)])],[],[]⟩⟩) (fun _ acc=>0<=acc/\acc<=2) rfl (by decide) (fun k m acc hm1 hk1 _ hi=>?_) (fun acc hacc hi=>?_)
  .obtain⟨u1,u2⟩:=hm m (Wa hm1)
   have he:=fun t=>C3 (t:=t) u1 u2
   have hat:=ha m.type
   simp(disch:=omega)only[go_sem]
   refine Br.aJ (fun c=>?_) (fun c=>(c (by omega)).elim)
   simp(disch:=omega)only[go_sem,hm1,Option.map_some,Mem.c,he]
   exact cW.of rfl (by omega)
  .simp(disch:=omega)only[go_sem]
   rw[<- hacc]
 .obtain⟨e1,e2⟩:=hel (by decide)
  have he:=fun t=>C3 (t:=t) e1 e2
  simp(disch:=omega)only[go_sem,decide_true,decide_false,Int.reduceEq,if_true,if_false,he]
  refine Br.aJ (fun c=>?_) (fun c=>?_)<;>simp(disch:=omega)only[go_sem,c,if_true,if_false,he]
  .rw[if_pos (.inl trivial)]
  .refine Br.aJ (fun d=>?_) (fun d=>?_)<;>simp(disch:=omega)only[go_sem,d]
   .rw[if_pos (by simp)]
   .rw[if_neg (by simp[c])]
 .obtain⟨e1,e2⟩:=hel (by decide)
  have he:=fun t=>C3 (t:=t) e1 e2
  simp(disch:=omega)only[go_sem,decide_true,decide_false,Int.reduceEq,if_true,if_false,he]
  refine Br.aJ (fun c=>?_) (fun c=>?_)<;>simp(disch:=omega)only[go_sem,c,if_true,if_false,he]
  .rw[if_pos (.inl trivial)]
  .refine Br.aJ (fun d=>?_) (fun d=>?_)<;>simp(disch:=omega)only[go_sem,d]
   .rw[if_pos (by simp)]
   .rw[if_neg (by simp[c])]
 .obtain⟨e1,e2⟩:=hel (by decide)
  have he:=fun t=>C3 (t:=t) e1 e2
  have:=ha elem
  simp(disch:=omega)only[go_sem,decide_true,decide_false,Int.reduceEq,if_true,if_false,he]
set_option maxHeartbeats 4000000 in
theorem r485 (x:aH) (n:List Int) (t:Nat) (hk:1<=x.kind/\x.kind<=9) (hs:x.short) (hn:yQ n) (hu:∀u∈cT x,0<=u/\u<n.length):res A aA 485 [.agg x.c,.aq t (ints n)]=some [.int .i64 (Fh x n)]:=by
 refine aw a485 rfl rfl ?_
 simp only[F485,LF]
 have ha:∀i,0<=X1 n i/\X1 n i<=2:=fun i=>hn.at _
 have hm:=fun m hm=>hu _ (yT (x:=x) (m:=m) hm)
 have hml:=hs.bc
 have hsl:=hs.syms
 have hel:=fun h=>hu _ (u7 (x:=x) h)
 have hkey:=fun h=>hu _ (ou (t:=x) h)
 unfold Fh jN
 obtain⟨kind,name,low,high,max,syms,bc,key,elem,jO⟩:=x
 unfold aH.c
 dsimp only at *
 rcases nine hk with rfl|rfl|rfl|rfl|rfl|rfl|rfl|rfl|rfl
 .simp(disch:=omega)only[go_sem,decide_true,decide_false,Int.reduceEq,if_true,if_false]
 .simp(disch:=omega)only[go_sem,decide_true,decide_false,Int.reduceEq,if_true,if_false]
  refine Br.aJ (fun c=>?_) (fun c=>?_)<;>simp(disch:=omega)only[go_sem,c,if_true,if_false]
 .simp(disch:=omega)only[go_sem,decide_true,decide_false,Int.reduceEq,if_true,if_false]
  refine Br.aJ (fun c=>?_) (fun c=>?_)<;>simp(disch:=omega)only[go_sem,c,if_true,if_false]
 .simp(disch:=omega)only[go_sem,decide_true,decide_false,Int.reduceEq,if_true,if_false]
 .simp(disch:=omega)only[go_sem,decide_true,decide_false,Int.reduceEq,if_true,if_false]
  refine W.fold bc (fun c m=>min 2 (c*X1 n m.type)) 1 (fun k acc=>⟨[(1,.pv (.aq t (ints n))),(5,.pv (.int .i64 acc)),(33,.pv (.aq 0 (bc.map Mem.c))),(34,.pv (.int .i64 bc.length)),(35,.pv (.int .i64 k))],⟨[],[],[]⟩⟩) (fun _ acc=>0<=acc/\acc<=2) rfl (by decide) (fun k m acc hm1 hk1 _ hi=>?_) (fun acc hacc hi=>?_)
  .obtain⟨u1,u2⟩:=hm m (Wa hm1)
   have he:=fun t=>C3 (t:=t) u1 u2
   obtain⟨p1,p2⟩:=HI hi.1 hi.2 (ha m.type).1 (ha m.type).2
   generalize hp:acc*X1 n m.type=p at p1 p2
   simp(disch:=omega)only[go_sem]
   refine Br.aJ (fun c=>?_) (fun c=>(c (by omega)).elim)
   simp(disch:=omega)only[go_sem,hm1,Option.map_some,Mem.c,he,hp]
   exact cW.of rfl (by omega)
  .simp(disch:=omega)only[go_sem]
   rw[<- hacc]
 .simp(disch:=omega)only[go_sem,decide_true,decide_false,Int.reduceEq,if_true,if_false]
  refine W.fold bc (fun c m=>c+X1 n m.type) 0 (fun k acc=>⟨[(1,.pv (.aq t (ints n))),(8,.pv (.int .i64 acc)),(52,.pv (.aq 0 (bc.map Mem.c))),(53,.pv (.int .i64 bc.length)),(54,.pv (.int .i64 k))],⟨[],[],[]⟩⟩) (fun k acc=>0<=acc/\acc<=2*(k:Int)) rfl (by decide) (fun k m acc hm1 hk1 _ hi=>?_) (fun acc hacc hi=>?_)
  .obtain⟨u1,u2⟩:=hm m (Wa hm1)
   have he:=fun t=>C3 (t:=t) u1 u2
   have hat:=ha m.type
   simp(disch:=omega)only[go_sem]
   refine Br.aJ (fun c=>?_) (fun c=>(c (by omega)).elim)
   simp(disch:=omega)only[go_sem,hm1,Option.map_some,Mem.c,he]
   exact cW.of rfl (by omega)
  .simp(disch:=omega)only[go_sem]
   rw[<- hacc]
 .obtain⟨e1,e2⟩:=hel (by decide)
  have he:=fun t=>C3 (t:=t) e1 e2
  simp(disch:=omega)only[go_sem,decide_true,decide_false,Int.reduceEq,if_true,if_false,he]
  refine Br.aJ (fun c=>?_) (fun c=>?_)<;>simp(disch:=omega)only[go_sem,c,if_true,if_false,he]
  .rw[if_pos (.inl trivial)]
  .refine Br.aJ (fun d=>?_) (fun d=>?_)<;>simp(disch:=omega)only[go_sem,d]
   .rw[if_pos (by simp)]
   .rw[if_neg (by simp[c])]
 .obtain⟨e1,e2⟩:=hel (by decide)
  obtain⟨k1,k2⟩:=hkey (by decide)
  have he:=fun t=>C3 (t:=t) e1 e2
  have hke:=fun t=>C3 (t:=t) k1 k2
  simp(disch:=omega)only[go_sem,decide_true,decide_false,Int.reduceEq,if_true,if_false,he]
  refine Br.aJ (fun c=>?_) (fun c=>?_)<;>simp(disch:=omega)only[go_sem,c,if_true,if_false,he]
  .rw[if_pos (.inl trivial)]
  .refine Br.aJ (fun d=>?_) (fun d=>?_)<;>simp(disch:=omega)only[go_sem,d,hke]
   .rw[if_pos (by simp)]
   .refine Br.aJ (fun e=>?_) (fun e=>?_)<;>simp(disch:=omega)only[go_sem,e]
    .rw[if_pos (by simp)]
    .rw[if_neg (by simp[c,d])]
 .obtain⟨e1,e2⟩:=hel (by decide)
  have he:=fun t=>C3 (t:=t) e1 e2
  have:=ha elem
  simp(disch:=omega)only[go_sem,decide_true,decide_false,Int.reduceEq,if_true,if_false,he]
structure aP.Good (a:aP):Prop where
 st:0<=a.start/\a.start<a.aj
 mx:a.aj<=12
 len:a.af.length<=100
 fit:∀e∈a.af,e.fits a.aj=true
 Ps:a.af.Pairwise (fun x y=>Edge.lt x y=true)
theorem Edge.u9 (x y z:Edge) (h1:Edge.lt x y=true) (h2:Edge.lt y z=true):Edge.lt x z=true:=by
 unfold Edge.lt at *
 by_cases a1:x.fr=y.fr<;>by_cases a2:y.fr=z.fr<;>by_cases b1:x.send=y.send<;>by_cases b2:y.send=z.send<;>simp_all<;>(try omega)
 all_goals (try (have:¬x.fr=z.fr:=by omega); simp_all; omega)
theorem Edge.wG {x y:Edge}:oV Edge.lt x y↔¬(x.fr=y.fr/\x.send=y.send/\x.label=y.label):=by
 unfold oV Edge.lt
 by_cases a1:x.fr=y.fr
 .cases h1:x.send<;>cases h2:y.send<;>simp[a1]<;>omega
 .have:¬y.fr=x.fr:=fun h=>a1 h.symm
  simp[a1,this]
  omega
theorem BX {n:Int}:∀{p:Option Edge} {l:List Edge},sF n p l=true->l.Pairwise (fun x y=>Edge.lt x y=true)/\∀q,p=some q->∀e∈l,Edge.lt q e=true
 |_,[],_=>⟨List.Pairwise.nil,fun _ _ e he=>absurd he (by simp)⟩
 |p,x::r,h=>by
  simp only[sF,Bool.and_eq_true]at h
  obtain⟨h1,h2⟩:=BX h.2
  refine⟨Wv.2 ⟨h2 x rfl,h1⟩,fun q hq e he=>?_⟩
  subst hq
  have hx:Edge.lt q x=true:=h.1.2
  rcases WG.1 he with rfl|he
  .exact hx
  .exact Edge.u9 _ _ _ hx (h2 x rfl e he)
theorem Fk {n:Int}:∀{p:Option Edge} {l:List Edge},l.Pairwise (fun x y=>Edge.lt x y=true)->(∀e∈l,e.fits n=true)->(∀q,p=some q->∀e∈l,Edge.lt q e=true)->sF n p l=true
 |_,[],_,_,_=>rfl
 |p,x::r,h1,h2,h3=>by
  obtain⟨g1,g2⟩:=Wv.1 h1
  simp only[sF,Bool.and_eq_true]
  refine⟨⟨h2 x (by simp),?_⟩,Fk g2 (fun e he=>h2 e (by simp[he])) fun q hq e he=>?_⟩
  .cases p with
   |none=>rfl
   |some q=>exact h3 q rfl x (by simp)
  .cases hq
   exact g1 e he
theorem aP.iV {a:aP}:a.err=0↔a.Good:=by
 unfold aP.err
 constructor
 .intro h
  split at h
  .cases h
  .split at h
   .split at h
    .rename_i h1 h2 h3
     exact⟨h2,by omega,by omega,yg h3,(BX h3).1⟩
    .cases h
   .cases h
 .intro h
  have:=h.mx; have:=h.len
  rw[if_neg (by omega),if_pos h.st,if_pos (Fk h.Ps h.fit (fun q hq=>by cases hq))]
theorem sZ {s:Int} {d:Bool} {x t:Int}:∀{es:List Edge},es.Pairwise (oV Edge.lt)->(cO s d x es=some t↔⟨s,d,x,t⟩∈es)
 |[],_=>by simp[cO]
 |e::r,h=>by
  obtain⟨h1,h2⟩:=Wv.1 h
  unfold cO
  split
  .rename_i hc
   constructor
   .intro h
    cases h
    obtain⟨rfl,rfl,rfl⟩:=hc
    exact WH ..
   .intro hm
    rcases WG.1 hm with hm|hm
    .rw[<- hm]
    .exact(Edge.wG.1 (h1 _ hm) hc).elim
  .rename_i hc
   rw[sZ h2,WG]
   refine⟨.inr,fun h=>h.elim (fun h=>?_) id⟩
   rw[<- h]at hc
   exact(hc ⟨rfl,rfl,rfl⟩).elim
theorem aP.Good.oV {a:aP} (h:a.Good):a.af.Pairwise (oV Edge.lt):=h.Ps.imp .inl
def outs (es:List Edge) (v:Int):List Int:=(es.filter fun e=>e.fr==v).map (·.to)
theorem s6 {es:List Edge} {v x:Int}:x∈outs es v↔∃e∈es,e.fr=v/\e.to=x:=by simp[outs,and_assoc]
def aP.from (a:aP) (s:Int):List Int:=pO (outs a.af) a.aj.toNat 0 [s]
def aP.order (a:aP):List Int:=a.from a.start
def aP.inr (a:aP) (v:Int):Prop:=0<=v/\v<a.aj
theorem aP.Good.BY {a:aP} (h:a.Good):∀v,a.inr v->∀x∈outs a.af v,a.inr x:=by
 intro v _ x hx
 obtain⟨e,he,_,rfl⟩:=s6.1 hx
 have:=fG.1 (h.fit e he)
 exact⟨this.2.2.1,this.2.2.2.1⟩
theorem aP.bound {a:aP}:∀o:List Int,o.Nodup->(∀v∈o,a.inr v)->o.length<=a.aj.toNat:=fun o hd ho=>yy hd fun x hx=>by
 have:=ho x hx
 unfold aP.inr at this
 omega
theorem aP.s7 (a:aP) (s:Int):(a.from s).Nodup:=uS _ _ (by simp)
theorem aP.Good.HJ {a:aP} (h:a.Good) {s:Int} (hs:a.inr s):∀v∈a.from s,a.inr v:=wA h.BY _ _ (by simpa using hs)
theorem aP.Good.lE {a:aP} (h:a.Good) {s:Int} (hs:a.inr s):(a.from s).length<=a.aj.toNat:=a.bound _ (a.s7 s) (h.HJ hs)
theorem s8 {x:Int}:∀{l:List Int} {k:Nat},x∈l->∃j,abH x k l=((k+j:Nat):Int)/\l[j]?=some x
 |[],_,h=>absurd h (by simp)
 |y::r,k,h=>by
  unfold abH
  split
  .rename_i hy
   exact⟨0,rfl,by simp[hy]⟩
  .rename_i hy
   rcases WG.1 h with rfl|h
   .exact(hy rfl).elim
   .obtain⟨j,h1,h2⟩:=s8 (k:=k+1) h
    exact⟨j+1,by rw[h1]; omega,by simpa using h2⟩
theorem rq {x:Int} {l:List Int} (h:x∈l):∃j:Nat,jM x l=(j:Int)/\l[j]?=some x:=by
 obtain⟨j,h1,h2⟩:=s8 (k:=0) h
 exact⟨j,by unfold jM; rw[h1,XN],h2⟩
theorem wH {x y:Int} {l:List Int} (hx:x∈l) (hy:y∈l) (h:jM x l=jM y l):x=y:=by
 obtain⟨i,h1,h2⟩:=rq hx
 obtain⟨j,g1,g2⟩:=rq hy
 rw[h1,g1]at h
 have:i=j:=by omega
 subst this
 rw[h2]at g2
 exact Option.some.inj g2
def iota (n:Nat):List Int:=(List.range n).map Int.ofNat
theorem yV {n:Nat} {x:Int}:x∈iota n↔0<=x/\x<n:=by
 unfold iota
 rw[Wk]
 constructor
 .rintro ⟨k,hk,rfl⟩
  have:=WJ.1 hk
  simp
  omega
 .intro h
  exact⟨x.toNat,List.mem_range.2 (by omega),by simp; omega⟩
def Edge.GC (o:List Int) (e:Edge):Edge:=⟨jM e.fr o,e.send,e.label,jM e.to o⟩
def kept (o:List Int) (es:List Edge):List Edge:=(es.filter fun e=>decide (e.fr∈o)).map (Edge.GC o)
def aP.trim (a:aP):aP:=⟨a.order.length,0,dp Edge.lt (kept a.order a.af)⟩
theorem s9 {o:List Int} {es:List Edge} (h:es.Pairwise (oV Edge.lt)):(kept o es).Pairwise (oV Edge.lt):=by
 unfold kept
 rw[afs]
 have h2:=h.filter (fun e=>decide (e.fr∈o))
 refine List.Pairwise.imp_of_mem (fun {x y} hx hy hxy=>?_) h2
 have hx':=(Xl.1 hx).2
 have hy':=(Xl.1 hy).2
 simp only[decide_eq_true_eq]at hx' hy'
 rw[Edge.wG]at hxy |-
 exact fun⟨e1,e2,e3⟩=>hxy ⟨wH hx' hy' e1,e2,e3⟩
def aP.proper (a:aP):Bool:=a.order.all fun v=>(a.from v).any fun w=>Fa w a.af
theorem adZ {α:Type} {a b:List α} {k:Nat} {x y:α} (hx:a[k]?=some x) (hy:b[k]?=some y) (h:a.take k=b.take k) (e:x=y):a.take (k+1)=b.take (k+1):=by
 rw[WL,WL,hx,hy,h,e]
theorem ad0 {α:Type} {a b:List α} {k:Nat} (ha:a.length<=k) (hb:b.length<=k) (h:a.take k=b.take k):a=b:=by
 rwa [Wq ha,Wq hb]at h
end Go.Pv
