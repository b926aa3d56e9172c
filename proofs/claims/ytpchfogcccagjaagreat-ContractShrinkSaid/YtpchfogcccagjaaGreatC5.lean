/-
 What the functions of the law give.
-/
import Derived.Test.YtpchfogcccagjaaGreatC4
set_option linter.unusedSimpArgs false
set_option linter.unusedVariables false
open List renaming getElem?_eq_some_iff → Vy, mem_of_getElem? → Vz, getElem?_eq_getElem → VA, getD_eq_getElem?_getD → VK, mem_map → VP, pairwise_cons → VQ, take_of_length_le → VS, take_add_one → VT, mem_cons → V6, getElem?_eq_none → V8, findIdx?_eq_some_iff_getElem → Wd, mem_cons_self → We, mem_append_left → Wh, mem_cons_of_mem → Wl, mem_append_right → Wn, any_eq_false → Wt, foldl_cons → Wy, length_set → WG, length_replicate → WI, getElem?_replicate → WM, getElem?_zip_eq_some → WW, findIdx?_eq_none_iff → WX, length_filter_le → Xk, length_cons → Xn
open Int renaming toNat_natCast → Ws, eq_ofNat_of_zero_le → W1, le_refl → Xa
open Nat renaming add_assoc → Wx, zero_add → WY
open Bool renaming true_and → W0, false_and → W5
namespace Go.Pv
def GY:List PV->List PV->Int
 |[.int _ k,.bool b,.int _ i,.str s,.int _ id,.aa _ ks,.aa _ is,_],[.int _ k',.bool b',.int _ i',.str s',.int _ id',.aa _ ks',.aa _ is',_]=>mu ⟨k,b,i,s,id,ks,is,[]⟩ ⟨k',b',i',s',id',ks',is',[]⟩
 |_,_=>0
theorem pB (a b:dM):GY a.c b.c=mu a b:=rfl
def EV (l:List (List PV)):Bool:=(l.zip l.tail).all fun q=>decide (GY q.1 q.2<0)
def kY (rec:Int->List PV->Bool) (x:aC) (v:dM):Bool:=
 if x.kind=1 then true
 else if x.kind=2 then decide (x.low<=v.int)&&decide (v.int<=x.high)
 else if x.kind=3 then decide ((v.str.size:Int)<=x.max)
 else if x.kind=4 then decide (0<=bd (uI v.id) x.syms)
 else if x.kind=5 then decide (v.items.length=x.aN.length)&&(x.aN.zip v.items).all fun q=>rec q.1.type q.2
 else if x.kind=6 then (match x.aN.find? (rD v.id),v.items with
  |some m,[r]=>rec m.type r
  |_,_=>false)
 else if x.kind=7 then decide ((v.items.length:Int)<=x.max)&&v.items.all (rec x.elem)
 else if x.kind=8 then decide ((v.keys.length:Int)<=x.max)&&(decide (v.items.length=v.keys.length)&&(v.keys.all (rec x.key)&&(v.items.all (rec x.elem)&&EV v.keys)))
 else decide ((v.items.length:Int)<=1)&&v.items.all (rec x.elem)
noncomputable def fH (T:List aC):Nat->Int->List PV->Bool
 |0,_,_=>false
 |n+1,t,cs=>match cs with
  |[.int _ k,.bool b,.int _ i,.str s,.int _ id,.aa _ ks,.aa _ is,.aa _ rest]=>
   (match (if t<0 then none else T[t.toNat]?)with
   |none=>false
   |some x=>decide (k=x.kind)&&(pA ⟨k,b,i,s,id,ks,is,[]⟩&&(rest.isEmpty&&kY (fH T n) x ⟨k,b,i,s,id,ks,is,[]⟩)))
  |_=>false
theorem zi (T : List aC) (n : Nat) (t : Int) (v : dM) : fH T (n + 1) t v.c = (match (if t < 0 then none else T[t.toNat]?) with
   | none => false
   | some x => decide (v.kind = x.kind) && (pA { v with rest := [] } && (v.rest.isEmpty && kY (fH T n) x { v with rest := [] }))) := by
 unfold dM.c
 simp only [fH,List.isEmpty_map]
def Oe (T:List aC):Prop:=T.length<=2147483648/\(∀x∈T,x.ok)/\∀x∈T,1<=x.kind/\x.kind<=9
theorem pC {α β:Type} {l:List α} {m:List β} {k:Nat} {q:α×β} (h:(l.zip m)[k]?=some q):l[k]?=some q.1/\m[k]?=some q.2:=by
 rw[WW]at h
 exact h
theorem pD {α β:Type} {l:List α} {m:List β} (h:l.length=m.length):(l.zip m).length=l.length:=by
 rw[List.length_zip]
 omega
theorem pE {α:Type} (l:List α):(l.zip l.tail).length=l.length - 1:=by
 rw[List.length_zip,List.length_tail]
 omega
theorem mH.is {n:Nat} {w:dM} (h:mH n w.c):dY w.int/\bw w.str:=by
 cases n with
 |zero=>exact h.elim
 |succ n=>
  obtain⟨v,hv,⟨_,h2,h3,_⟩,_⟩:=h
  simp only[dM.c,List.cons.injEq,PV.int.injEq,PV.str.injEq]at hv
  obtain⟨_,_,⟨_,e1⟩,e2,_⟩:=hv
  rw[e1,e2]
  exact⟨h2,h3⟩
theorem kZ {α:Type} (p:α->Bool) (l:List α):(l.find? p=none/\bd p l= -1)\/∃(k:Nat) (x:α),l.find? p=some x/\l[k]?=some x/\bd p l=k:=by
 unfold bd
 cases h:l.findIdx? p with
 |none=>
  left
  have:=WX.1 h
  exact⟨List.find?_eq_none.2 fun x hx=>by simp[this x hx],rfl⟩
 |some k=>
  right
  obtain⟨hk,h1,h2⟩:=Wd.1 h
  refine⟨k,l[k],?_,VA hk,rfl⟩
  rw[List.find?_eq_some_iff_getElem]
  exact⟨h1,k,hk,rfl,fun j hj=>by simpa using h2 j hj⟩
theorem Q8 (a b c d e f g h:PV):jz 8 0 [[a,b,c,d,e,f,g,h]] (some 0)=some (V.pv (.ro 0 [a,b,c,d,e,f,g,h])):=by rw[gQ _ _ _ (by decide)]; rfl
theorem r507 (x:aC) (v:Nat):res A az 507 [.agg x.c,.aa v []]=some [.bool true]:=by
 refine ai a507 rfl rfl ?_
 simp only[F507,Lb]
 unfold aC.c
 simp(disch:=omega)only[go_sem]
 refine W.cD 0 (fun k=>⟨[(1,.pv (.aa v [])),(2,.ptr 2 0),(5,.pv (.int .i64 k))],⟨[(2,x.c.map .pv)],[],[]⟩⟩) (fun _=>True) rfl trivial fun k hk _=>?_
 simp(disch:=omega)only[go_sem]
 refine Br.aD (fun c=>absurd c (by omega)) (fun c=>?_)
 simp(disch:=omega)only[go_sem]
set_option maxHeartbeats 4000000 in
theorem r502 (u:Nat) (T:List aC) (hT:Oe T):∀(n:Nat) (t:Int) (cs:List PV),mH n cs->dY t->res A az 502 [.agg [.aa u (T.map aC.c)],.int .i64 t,.agg cs,.bool true]=some [.bool (fH T n t cs)]
 |0,_,_,h,_=>h.elim
 |n+1,t,cs,h,ht=>by
  obtain⟨v,rfl,⟨h1,h2,h3,h4⟩,⟨h5,h6,h7⟩,h8,h9,h10⟩:=h
  have ih:=r502 u T hT n
  rw[zi]
  obtain⟨ht1,ht2⟩:=ht
  have hTl:=hT.1
  refine ai a502 rfl rfl ?_
  simp only[F502,K8]
  unfold dM.c
  by_cases c0:t<0
  .rw[if_pos c0]
   have e0:decide (t<0)=true:=decide_eq_true c0
   simp(disch:=omega)only[go_sem,e0]
  .rw[if_neg c0]
   have e0:decide (t<0)=false:=decide_eq_false c0
   obtain⟨k,rfl⟩:=W1 (by omega:0<=t)
   rw[Ws]
   by_cases c1:(T.length:Int)<=k
   .rw[V8 (by omega)]
    have e1:decide ((T.length:Int)<=k)=true:=decide_eq_true c1
    simp(disch:=omega)only[go_sem,e0,e1]
   .obtain⟨x,hx⟩:=get_some (l:=T) (k:=k) (by omega)
    have e1:decide ((T.length:Int)<=k)=false:=decide_eq_false c1
    have hxm:=Vz hx
    have hk:=hT.2.2 x hxm
    rw[hx]
    dsimp only
    by_cases ck:v.kind=x.kind
    .have e2:decide (v.kind=x.kind)=true:=decide_eq_true ck
     have h505:=r505 v (by omega) ⟨h5,h6,h7⟩
     rw[e2,W0]
     cases hz:pA v with
     |false=>
      rw[hz]at h505
      have:(pA { v with rest:=[] }&&(v.rest.isEmpty&&kY (fH T n) x { v with rest:=[] }))=false:=by
       cases hr:v.rest with
       |nil=>rw[show ({ v with rest:=[] }:dM)=v by rw[<- hr],hz]; rfl
       |cons a b=>simp
      rw[this]
      simp only[dM.c]at h505
      simp(disch:=omega)only[go_sem,e0,e1,e2,hx,Option.map_some,aC.c,h505]
     |true=>
      rw[hz]at h505
      simp only[dM.c]at h505
      cases hr:v.rest with
      |cons a b=>
       rw[hr]at h505
       simp only[List.map_cons]at h505
       simp(disch:=omega)only[go_sem,e0,e1,e2,hx,Option.map_some,aC.c,h505,hr]
       refine Br.aD (fun c=>?_) (fun c=>absurd (by omega) c)
       simp(disch:=omega)only[go_sem,e0,e1,e2,hx,Option.map_some,aC.c,h505,hr]
      |nil=>
       rw[hr]at h505
       simp only[List.map_nil]at h505
       simp(disch:=omega)only[go_sem,e0,e1,e2,hx,Option.map_some,aC.c,h505,hr,List.map_nil]
       refine Br.aD (fun c=>absurd c (by omega)) (fun c=>?_)
       have hvv:({ v with rest:=[] }:dM)=v:=by rw[<- hr]
       rw[hvv,hz]
       try simp only[List.isEmpty_nil,Bool.true_and]
       have hxo:=hT.2.1 x hxm
       obtain⟨⟨x1,x2,x3,x4,x5,x6,x7⟩,⟨x8,x9⟩,x10,x11⟩:=hxo
       have h393:=r393 x v.id x8
       have h391:=r391 x v.id x9
       have h507:=r507 x
       obtain⟨kind,name,low,high,max,syms,aN,key,elem,ku⟩:=x
       have h508:∀(e:Int) (l:List (List PV)),dY e->bV l->(∀r∈l,mH n r)->res A az 508 [.agg [.aa u (T.map aC.c)],.int .i64 e,.aa 0 l,.bool true]=some [.bool (l.all (fH T n e))]:=fun e l he hl hv=>r508 u 0 _ e l (fH T n e) hl (fun r hr=>(hv r hr).val) (fun r hr=>ih e r (hv r hr) he)
       dsimp only at *
       have hk5:=h508 key v.keys x6 h5 h8
       have he6:=h508 elem v.items x7 h6 h9
       unfold kY
       dsimp only
       simp only[aC.c]at h393 h391 h507
       rcases nine hk with rfl|rfl|rfl|rfl|rfl|rfl|rfl|rfl|rfl
       .simp(disch:=omega)only[go_sem,aC.c,h505,decide_true,decide_false,Int.reduceEq,if_true,if_false]
       .simp(disch:=omega)only[go_sem,aC.c,h505,decide_true,decide_false,Int.reduceEq,if_true,if_false]
        refine Br.aD (fun c=>?_) (fun c=>?_)<;>simp(disch:=omega)only[go_sem,c,decide_true,decide_false,Bool.true_and,Bool.false_and]
       .simp(disch:=omega)only[go_sem,aC.c,h505,decide_true,decide_false,Int.reduceEq,if_true,if_false]
       .simp(disch:=omega)only[go_sem,aC.c,h505,decide_true,decide_false,Int.reduceEq,if_true,if_false,h393]
        refine Br.aD (fun c=>?_) (fun c=>?_)<;>simp(disch:=omega)only[go_sem,c,decide_true,decide_false]
        cases ku<;>simp(disch:=omega)only[go_sem,c,decide_false]
       .simp(disch:=omega)only[go_sem,aC.c,h505,decide_true,decide_false,Int.reduceEq,if_true,if_false,h507]
        refine Br.aD (fun c=>?_) (fun c=>?_)<;>simp(disch:=omega)only[go_sem,c,decide_true,decide_false,Bool.true_and,Bool.false_and]
        .have h507:=h507 0
         simp(disch:=omega)only[go_sem,h507]
         have hml:aN.length=v.items.length:=by omega
         have x9':aN.length<=9223372036854775807:=x9
         rw[decide_eq_true hml.symm,W0]
         refine W.find (aN.zip v.items) (fun q=>!fH T n q.1.type q.2) (fun k=>⟨[(3,.pv (.bool true)),(4,.ptr 4 0),(6,.ptr 6 0),(9,.ptr 9 0),(12,.pv (.int .i64 k))],⟨[(4,[.pv (.aa u (T.map aC.c))]),(6,[.pv (.int .i64 v.kind),.pv (.bool v.bool),.pv (.int .i64 v.int),.pv (.str v.str),.pv (.int .i64 v.id),.pv (.aa 0 v.keys),.pv (.aa 0 v.items),.pv (.aa 0 [])]),(9,[.pv (.int .i64 5),.pv (.str name),.pv (.int .i64 low),.pv (.int .i64 high),.pv (.int .i64 max),.pv (.aa 0 (syms.map Sym.c)),.pv (.aa 0 (aN.map Mem.c)),.pv (.int .i64 key),.pv (.int .i64 elem),.pv (.bool ku)])],[],[]⟩⟩) rfl (fun k q hq hk hfd=>?_) (fun hn=>?_)
         .obtain⟨g1,g2⟩:=pC hq
          rw[pD hml]at hk
          have hm:=x11 q.1 (Vz g1)
          have hv:=h9 q.2 (Vz g2)
          have hc:=ih q.1.type q.2 hv hm.2.2.1
          have hfd:=fun g=>(hfd g).all
          rw[jU]at hfd
          generalize fH T n q.1.type q.2=e at hc hfd |-
          obtain⟨w,hw⟩:=hv.val
          rw[hw]at hc g2
          unfold dM.c at hc g2
          simp(disch:=omega)only[go_sem]
          refine Br.aD (fun c=>?_) (fun c=>(c (by omega)).elim)
          simp(disch:=omega)only[go_sem,g1,g2,Option.map_some,Mem.c,hc]
          refine Br.of (fun g=>?_) (fun g=>?_)<;>simp(disch:=omega)only[go_sem]
          .exact aX.of (by rw[g]; rfl) rfl
          .rw[hfd (by rw[g]; rfl)]
         .have hn:=hn.all
          rw[jU]at hn
          rw[pD hml,hn]
          simp(disch:=omega)only[go_sem,hml]
        .have:decide (v.items.length=aN.length)=false:=decide_eq_false (fun e=>c (by rw[e]))
         rw[this,W5]
       .simp(disch:=omega)only[go_sem,aC.c,h505,decide_true,decide_false,Int.reduceEq,if_true,if_false,h391]
        rcases kZ (rD v.id) aN with⟨f1,f2⟩|⟨k,m,f1,f2,f3⟩
        .rw[f1]
         simp(disch:=omega)only[go_sem,f2]
         cases ku<;>simp(disch:=omega)only[go_sem,f2]
        .rw[f1]
         have d0:decide ((0:Int)<=(k:Int))=true:=by simp
         have d1:Max.max (k:Int) 0=(k:Int):=by omega
         simp(disch:=omega)only[go_sem,f2,f3,d0,d1]
         cases hi:v.items with
         |nil=>
          rw[hi]at h6
          have e7:decide (((0:Nat):Int)=1)=false:=rfl
          simp(disch:=omega)only[go_sem,List.length_nil,e7]
         |cons r rs=>
          cases rs with
          |cons r2 Rn=>
           have e7:decide (((Rn.length+1+1:Nat):Int)=1)=false:=decide_eq_false (by omega)
           simp(disch:=omega)only[go_sem,List.length_cons,e7]
          |nil=>
           have hv:=h9 r (by rw[hi]; exact We)
           have hm:=x11 m (Vz f2)
           have hc:=ih m.type r hv hm.2.2.1
           obtain⟨w,hw⟩:=hv.val
           dsimp only
           generalize fH T n m.type r=e at hc |-
           rw[hw]at hc |-
           unfold dM.c at hc |-
           have e7:decide (((0+1:Nat):Int)=1)=true:=rfl
           have e8:decide (((0:Nat):Int)=0)=true:=rfl
           simp(disch:=omega)only[go_sem,f2,Option.map_some,Mem.c,hc,List.length_cons,List.length_nil,e7,e8,Q8]
       .simp(disch:=omega)only[go_sem,aC.c,h505,decide_true,decide_false,Int.reduceEq,if_true,if_false]
        refine Br.aD (fun c=>?_) (fun c=>?_)<;>simp(disch:=omega)only[go_sem,c,decide_true,decide_false,Bool.true_and,Bool.false_and,he6]
       .simp(disch:=omega)only[go_sem,aC.c,h505,decide_true,decide_false,Int.reduceEq,if_true,if_false]
        refine Br.aD (fun c=>?_) (fun c=>?_)
        .rw[show decide ((v.keys.length:Int)<=max)=false from decide_eq_false (by omega),W5]
         simp(disch:=omega)only[go_sem,c,decide_true,decide_false]
        .rw[show decide ((v.keys.length:Int)<=max)=true from decide_eq_true (by omega),W0]
         simp(disch:=omega)only[go_sem,c,decide_true,decide_false]
         refine Br.aD (fun d=>?_) (fun d=>?_)
         .rw[show decide (v.items.length=v.keys.length)=true from decide_eq_true (by omega),W0]
          generalize v.keys.all (fH T n key)=p at hk5 |-
          generalize v.items.all (fH T n elem)=q at he6 |-
          simp(disch:=omega)only[go_sem,d,decide_true,decide_false,hk5]
          cases p
          .simp(disch:=omega)only[go_sem]
          .cases q
           .simp(disch:=omega)only[go_sem,he6]
           .simp(disch:=omega)only[go_sem,he6]
            have h5':v.keys.length<=9223372036854775807:=h5
            refine W.find (v.keys.zip v.keys.tail) (fun q=>!decide (GY q.1 q.2<0)) (fun k=>⟨[(6,.ptr 6 0),(15,.pv (.int .i64 (((k+1:Nat)):Int)))],⟨[(6,[.pv (.int .i64 v.kind),.pv (.bool v.bool),.pv (.int .i64 v.int),.pv (.str v.str),.pv (.int .i64 v.id),.pv (.aa 0 v.keys),.pv (.aa 0 v.items),.pv (.aa 0 [])])],[],[]⟩⟩) rfl (fun k q hq hk hfd=>?_) (fun hn=>?_)
            .obtain⟨g1,g2⟩:=pC hq
             rw[List.getElem?_tail]at g2
             have hk2:k+1<v.keys.length:=(Vy.1 g2).1
             have e3:(((k+1:Nat):Int)) - 1=(k:Int):=by omega
             simp(disch:=omega)only[go_sem]
             refine Br.aD (fun c=>?_) (fun c=>(c (by omega)).elim)
             have hv1:=h8 q.1 (Vz g1)
             have hv2:=h8 q.2 (Vz g2)
             obtain⟨w1,hw1⟩:=hv1.val
             obtain⟨w2,hw2⟩:=hv2.val
             have i1:=(hw1 ▸ hv1:mH n w1.c).is
             have i2:=(hw2 ▸ hv2:mH n w2.c).is
             have h509:=r509 w1 w2 i1.1 i2.1 i1.2 i2.2
             rw[hw1]at g1 hfd
             rw[hw2]at g2 hfd
             rw[hw1,hw2]
             have hfd:=fun g=>(hfd g).all
             rw[jU,pB]at hfd
             rw[pB]
             generalize mu w1 w2=e at h509 hfd |-
             unfold dM.c at h509 g1 g2
             simp(disch:=omega)only[go_sem,e3,g1,g2,h509]
             refine Br.aD (fun g=>?_) (fun g=>?_)<;>simp(disch:=omega)only[go_sem]
             .have:=hfd (by simp; omega)
              rw[show EV v.keys=false from this]
             .exact aX.of (by simp; omega) rfl
            .have:=hn.all
             rw[jU]at this
             rw[show EV v.keys=true from this,pE]
             simp(disch:=omega)only[go_sem]
             refine Br.aD (fun c=>absurd c (by omega)) (fun c=>?_)
             simp(disch:=omega)only[go_sem]
         .rw[show decide (v.items.length=v.keys.length)=false from decide_eq_false (by omega),W5]
          simp(disch:=omega)only[go_sem,d,decide_true,decide_false]
       .simp(disch:=omega)only[go_sem,aC.c,h505,decide_true,decide_false,Int.reduceEq,if_true,if_false]
        refine Br.aD (fun c=>?_) (fun c=>?_)<;>simp(disch:=omega)only[go_sem,c,decide_true,decide_false,Bool.true_and,Bool.false_and,he6]
    .have e2:decide (v.kind=x.kind)=false:=decide_eq_false ck
     rw[e2]
     simp(disch:=omega)only[go_sem,e0,e1,e2,hx,Option.map_some,aC.c]
theorem jV {rec:Int->List PV->Bool} {x:aC} {v:dM} (hr:v.rest=[]) (hz:pA v=true):(pA { v with rest:=[] }&&(v.rest.isEmpty&&kY rec x { v with rest:=[] }))=kY rec x v:=by
 rw[show ({ v with rest:=[] }:dM)=v by rw[<- hr],hz,hr]
 rfl
theorem w9 {rec:Int->List PV->Bool} {x:aC} {v:dM} {a:Raw} {b:List Raw} (hr:v.rest=a::b):(pA { v with rest:=[] }&&(v.rest.isEmpty&&kY rec x { v with rest:=[] }))=false:=by
 rw[hr]
 simp
set_option maxHeartbeats 4000000 in
theorem r503 (u:Nat) (T:List aC) (hT:Oe T):∀(n:Nat) (t:Int) (cs:List PV),mH n cs->dY t->res A az 503 [.agg [.aa u (T.map aC.c)],.int .i64 t,.agg cs,.bool true]=some [.bool (fH T n t cs)]
 |0,_,_,h,_=>h.elim
 |n+1,t,cs,h,ht=>by
  obtain⟨v,rfl,⟨h1,h2,h3,h4⟩,⟨h5,h6,h7⟩,h8,h9,h10⟩:=h
  have ih:=r503 u T hT n
  rw[zi]
  obtain⟨ht1,ht2⟩:=ht
  have hTl:=hT.1
  refine ai a503 rfl rfl ?_
  simp only[F503,K9]
  unfold dM.c
  by_cases c0:t<0
  .rw[if_pos c0]
   have e0:decide (t<0)=true:=decide_eq_true c0
   simp(disch:=omega)only[go_sem,e0]
  .rw[if_neg c0]
   have e0:decide (t<0)=false:=decide_eq_false c0
   obtain⟨k,rfl⟩:=W1 (by omega:0<=t)
   rw[Ws]
   by_cases c1:(T.length:Int)<=k
   .rw[V8 (by omega)]
    have e1:decide ((T.length:Int)<=k)=true:=decide_eq_true c1
    simp(disch:=omega)only[go_sem,e0,e1]
   .obtain⟨x,hx⟩:=get_some (l:=T) (k:=k) (by omega)
    have e1:decide ((T.length:Int)<=k)=false:=decide_eq_false c1
    have hxm:=Vz hx
    have hk:=hT.2.2 x hxm
    rw[hx]
    dsimp only
    by_cases ck:v.kind=x.kind
    .have e2:decide (v.kind=x.kind)=true:=decide_eq_true ck
     have h510:=r510 v (by omega) ⟨h5,h6,h7⟩
     rw[e2,W0]
     cases hz:pA v with
     |false=>
      rw[hz]at h510
      have:(pA { v with rest:=[] }&&(v.rest.isEmpty&&kY (fH T n) x { v with rest:=[] }))=false:=by
       cases hr:v.rest with
       |nil=>rw[show ({ v with rest:=[] }:dM)=v by rw[<- hr],hz]; rfl
       |cons a b=>simp
      rw[this]
      simp only[dM.c]at h510
      simp(disch:=omega)only[go_sem,e0,e1,e2,hx,Option.map_some,aC.c,h510]
     |true=>
      rw[hz]at h510
      simp only[dM.c]at h510
      have hrest:¬(v.kind=5\/v.kind=6)->v.rest=[]:=fun hn=>by
       unfold pA at hz
       have:=(of_decide_eq_true hz).2.2.2.2.2.2
       rcases this with h|h|h
       .exact absurd (.inl h) hn
       .exact absurd (.inr h) hn
       .exact h
      have hrc:v.rest=[]\/∃a b,v.rest=a::b:=by
       cases v.rest with
       |nil=>exact .inl rfl
       |cons a b=>exact .inr ⟨a,b,rfl⟩
      have hxo:=hT.2.1 x hxm
      obtain⟨⟨x1,x2,x3,x4,x5,x6,x7⟩,⟨x8,x9⟩,x10,x11⟩:=hxo
      have h392:=r392 x v.id x8
      have h281:=r281 x v.id x9
      obtain⟨kind,name,low,high,max,syms,aN,key,elem,ku⟩:=x
      have h512:∀(e:Int) (l:List (List PV)),dY e->bV l->(∀r∈l,mH n r)->res A az 512 [.agg [.aa u (T.map aC.c)],.int .i64 e,.aa 0 l,.bool true]=some [.bool (l.all (fH T n e))]:=fun e l he hl hv=>r512 u 0 _ e l (fH T n e) hl (fun r hr=>(hv r hr).val) (fun r hr=>ih e r (hv r hr) he)
      dsimp only at *
      have hk5:=h512 key v.keys x6 h5 h8
      have he6:=h512 elem v.items x7 h6 h9
      simp only[aC.c]at h392 h281
      rcases nine hk with rfl|rfl|rfl|rfl|rfl|rfl|rfl|rfl|rfl
      .have hr:=hrest (by omega)
       rw[jV hr hz]
       rw[hr]at h510
       simp only[List.map_nil]at h510
       unfold kY
       dsimp only
       simp(disch:=omega)only[go_sem,e0,e1,e2,hx,Option.map_some,aC.c,h510,decide_true,decide_false,Int.reduceEq,if_true,if_false,hr,List.map_nil]
      .have hr:=hrest (by omega)
       rw[jV hr hz]
       rw[hr]at h510
       simp only[List.map_nil]at h510
       unfold kY
       dsimp only
       simp(disch:=omega)only[go_sem,e0,e1,e2,hx,Option.map_some,aC.c,h510,decide_true,decide_false,Int.reduceEq,if_true,if_false,hr,List.map_nil]
       refine Br.aD (fun c=>?_) (fun c=>?_)<;>simp(disch:=omega)only[go_sem,c,decide_true,decide_false,Bool.true_and,Bool.false_and]
      .have hr:=hrest (by omega)
       rw[jV hr hz]
       rw[hr]at h510
       simp only[List.map_nil]at h510
       unfold kY
       dsimp only
       simp(disch:=omega)only[go_sem,e0,e1,e2,hx,Option.map_some,aC.c,h510,decide_true,decide_false,Int.reduceEq,if_true,if_false,hr,List.map_nil]
      .have hr:=hrest (by omega)
       rw[jV hr hz]
       rw[hr]at h510
       simp only[List.map_nil]at h510
       unfold kY
       dsimp only
       simp(disch:=omega)only[go_sem,e0,e1,e2,hx,Option.map_some,aC.c,h510,decide_true,decide_false,Int.reduceEq,if_true,if_false,hr,List.map_nil,h392]
       refine Br.aD (fun c=>?_) (fun c=>?_)<;>simp(disch:=omega)only[go_sem,c,decide_true,decide_false]
       cases ku<;>simp(disch:=omega)only[go_sem,c,decide_false]
      .simp(disch:=omega)only[go_sem,e0,e1,e2,hx,Option.map_some,aC.c,h510,decide_true,decide_false,Int.reduceEq,if_true,if_false]
       rcases hrc with hr|⟨a,b,hr⟩
       .rw[jV hr hz]
        unfold kY
        simp only[Int.reduceEq,if_true,if_false]
        rw[hr]
        refine Br.aD (fun c=>?_) (fun c=>?_)<;>simp(disch:=omega)only[go_sem,c,decide_true,decide_false,Bool.true_and,Bool.false_and,List.map_nil]
        .refine Br.aD (fun c=>absurd c (by decide)) (fun _=>?_)
         simp(disch:=omega)only[go_sem,List.map_nil,List.length_nil]
         refine W.cD 0 (fun k=>⟨[(3,.pv (.bool true)),(4,.ptr 4 0),(6,.ptr 6 0),(9,.ptr 9 0),(111,.pv (.aa 0 [])),(112,.pv (.int .i64 0)),(113,.pv (.int .i64 k))],⟨[(4,[.pv (.aa u (T.map aC.c))]),(6,[.pv (.int .i64 v.kind),.pv (.bool v.bool),.pv (.int .i64 v.int),.pv (.str v.str),.pv (.int .i64 v.id),.pv (.aa 0 v.keys),.pv (.aa 0 v.items),.pv (.aa 0 [])]),(9,[.pv (.int .i64 5),.pv (.str name),.pv (.int .i64 low),.pv (.int .i64 high),.pv (.int .i64 max),.pv (.aa 0 (syms.map Sym.c)),.pv (.aa 0 (aN.map Mem.c)),.pv (.int .i64 key),.pv (.int .i64 elem),.pv (.bool ku)])],[],[]⟩⟩) (fun _=>True) rfl trivial fun k hk _=>?_
         simp(disch:=omega)only[go_sem]
         refine Br.aD (fun c=>absurd c (by omega)) (fun _=>?_)
         simp(disch:=omega)only[go_sem]
         have hml:aN.length=v.items.length:=by omega
         have x9':aN.length<=9223372036854775807:=x9
         rw[decide_eq_true hml.symm,W0]
         refine W.find (aN.zip v.items) (fun q=>!fH T n q.1.type q.2) (fun k=>⟨[(3,.pv (.bool true)),(4,.ptr 4 0),(6,.ptr 6 0),(150,.pv (.aa 0 (aN.map Mem.c))),(151,.pv (.int .i64 aN.length)),(152,.pv (.int .i64 k))],⟨[(4,[.pv (.aa u (T.map aC.c))]),(6,[.pv (.int .i64 v.kind),.pv (.bool v.bool),.pv (.int .i64 v.int),.pv (.str v.str),.pv (.int .i64 v.id),.pv (.aa 0 v.keys),.pv (.aa 0 v.items),.pv (.aa 0 [])])],[],[]⟩⟩) rfl (fun k q hq hk hfd=>?_) (fun hn=>?_)
         .obtain⟨g1,g2⟩:=pC hq
          rw[pD hml]at hk
          have hm:=x11 q.1 (Vz g1)
          have hv:=h9 q.2 (Vz g2)
          have hc:=ih q.1.type q.2 hv hm.2.2.1
          have hfd:=fun g=>(hfd g).all
          rw[jU]at hfd
          generalize fH T n q.1.type q.2=e at hc hfd |-
          obtain⟨w,hw⟩:=hv.val
          rw[hw]at hc g2
          unfold dM.c at hc g2
          simp(disch:=omega)only[go_sem]
          refine Br.aD (fun c=>?_) (fun c=>(c (by omega)).elim)
          simp(disch:=omega)only[go_sem,g1,g2,Option.map_some,Mem.c,hc]
          refine Br.of (fun g=>?_) (fun g=>?_)<;>simp(disch:=omega)only[go_sem]
          .exact aX.of (by rw[g]; rfl) rfl
          .rw[hfd (by rw[g]; rfl)]
         .have hn:=hn.all
          rw[jU]at hn
          rw[pD hml,hn]
          simp(disch:=omega)only[go_sem,hml]
        .have:decide (v.items.length=aN.length)=false:=decide_eq_false (fun e=>c (by rw[e]))
         rw[this,W5]
       .rw[w9 hr]
        rw[hr]
        refine Br.aD (fun c=>?_) (fun c=>?_)<;>simp(disch:=omega)only[go_sem,c,List.map_cons]
        refine Br.aD (fun c=>?_) (fun c=>absurd (by omega) c)
        simp(disch:=omega)only[go_sem]
      .simp(disch:=omega)only[go_sem,e0,e1,e2,hx,Option.map_some,aC.c,h510,decide_true,decide_false,Int.reduceEq,if_true,if_false,h281]
       rcases kZ (rD v.id) aN with⟨f1,f2⟩|⟨k,m,f1,f2,f3⟩
       .simp(disch:=omega)only[go_sem,f2]
        have:kY (fH T n) ⟨6,name,low,high,max,syms,aN,key,elem,ku⟩ v=false:=by
         unfold kY
         simp only[f1,Int.reduceEq,if_true,if_false]
        rcases hrc with hr|⟨a,b,hr⟩
        .rw[jV hr hz,this]
         cases ku<;>simp(disch:=omega)only[go_sem,f2]
        .rw[w9 hr]
         cases ku<;>simp(disch:=omega)only[go_sem,f2]
       .have d0:decide ((0:Int)<=(k:Int))=true:=by simp
        have d1:Max.max (k:Int) 0=(k:Int):=by omega
        simp(disch:=omega)only[go_sem,f2,f3,d0,d1]
        rcases hrc with hr|⟨a,b,hr⟩
        .rw[jV hr hz]
         unfold kY
         simp only[Int.reduceEq,if_true,if_false]
         rw[f1,hr]
         cases hi:v.items with
         |nil=>
          rw[hi]at h6
          have e7:decide (((0:Nat):Int)=1)=false:=rfl
          simp(disch:=omega)only[go_sem,List.map_nil,List.length_nil,e7]
         |cons r rs=>
          cases rs with
          |cons r2 Rn=>
           have e7:decide (((Rn.length+1+1:Nat):Int)=1)=false:=decide_eq_false (by omega)
           simp(disch:=omega)only[go_sem,List.map_nil,List.length_cons,e7]
          |nil=>
           have hv:=h9 r (by rw[hi]; exact We)
           have hm:=x11 m (Vz f2)
           have hc:=ih m.type r hv hm.2.2.1
           obtain⟨w,hw⟩:=hv.val
           dsimp only
           generalize fH T n m.type r=e at hc |-
           rw[hw]at hc |-
           unfold dM.c at hc |-
           have e7:decide (((0+1:Nat):Int)=1)=true:=rfl
           have e8:decide (((0:Nat):Int)=0)=true:=rfl
           simp(disch:=omega)only[go_sem,f2,Option.map_some,Mem.c,hc,List.map_nil,List.length_cons,List.length_nil,e7,e8,Q8]
        .rw[w9 hr]
         have e8:decide (((b.length+1:Nat):Int)=0)=false:=decide_eq_false (by omega)
         rw[hr]
         refine Br.aD (fun c=>?_) (fun c=>?_)<;>simp(disch:=omega)only[go_sem,c,List.map_cons,List.length_cons,List.length_map,e8]
      .have hr:=hrest (by omega)
       rw[jV hr hz]
       rw[hr]at h510
       simp only[List.map_nil]at h510
       unfold kY
       dsimp only
       simp(disch:=omega)only[go_sem,e0,e1,e2,hx,Option.map_some,aC.c,h510,decide_true,decide_false,Int.reduceEq,if_true,if_false,hr,List.map_nil]
       refine Br.aD (fun c=>?_) (fun c=>?_)<;>simp(disch:=omega)only[go_sem,c,decide_true,decide_false,Bool.true_and,Bool.false_and,he6]
      .have hr:=hrest (by omega)
       rw[jV hr hz]
       rw[hr]at h510
       simp only[List.map_nil]at h510
       unfold kY
       dsimp only
       simp(disch:=omega)only[go_sem,e0,e1,e2,hx,Option.map_some,aC.c,h510,decide_true,decide_false,Int.reduceEq,if_true,if_false,hr,List.map_nil]
       refine Br.aD (fun c=>?_) (fun c=>?_)
       .rw[show decide ((v.keys.length:Int)<=max)=false from decide_eq_false (by omega),W5]
        simp(disch:=omega)only[go_sem,c,decide_true,decide_false]
       .rw[show decide ((v.keys.length:Int)<=max)=true from decide_eq_true (by omega),W0]
        simp(disch:=omega)only[go_sem,c,decide_true,decide_false]
        refine Br.aD (fun d=>?_) (fun d=>?_)
        .rw[show decide (v.items.length=v.keys.length)=true from decide_eq_true (by omega),W0]
         generalize v.keys.all (fH T n key)=p at hk5 |-
         generalize v.items.all (fH T n elem)=q at he6 |-
         simp(disch:=omega)only[go_sem,d,decide_true,decide_false,hk5]
         cases p
         .simp(disch:=omega)only[go_sem]
         .simp(disch:=omega)only[go_sem]
          have h5':v.keys.length<=9223372036854775807:=h5
          rw[W0]
          refine W.find (v.keys.zip v.keys.tail) (fun q=>!decide (GY q.1 q.2<0)) (fun k=>⟨[(3,.pv (.bool true)),(4,.ptr 4 0),(6,.ptr 6 0),(9,.ptr 9 0),(20,.pv (.int .i64 (((k+1:Nat)):Int)))],⟨[(4,[.pv (.aa u (T.map aC.c))]),(6,[.pv (.int .i64 v.kind),.pv (.bool v.bool),.pv (.int .i64 v.int),.pv (.str v.str),.pv (.int .i64 v.id),.pv (.aa 0 v.keys),.pv (.aa 0 v.items),.pv (.aa 0 [])]),(9,[.pv (.int .i64 8),.pv (.str name),.pv (.int .i64 low),.pv (.int .i64 high),.pv (.int .i64 max),.pv (.aa 0 (syms.map Sym.c)),.pv (.aa 0 (aN.map Mem.c)),.pv (.int .i64 key),.pv (.int .i64 elem),.pv (.bool ku)])],[],[]⟩⟩) rfl (fun k q hq hk hfd=>?_) (fun hn=>?_)
          .obtain⟨g1,g2⟩:=pC hq
           rw[List.getElem?_tail]at g2
           have hk2:k+1<v.keys.length:=(Vy.1 g2).1
           have e3:(((k+1:Nat):Int)) - 1=(k:Int):=by omega
           simp(disch:=omega)only[go_sem]
           refine Br.aD (fun c=>?_) (fun c=>(c (by omega)).elim)
           have hv1:=h8 q.1 (Vz g1)
           have hv2:=h8 q.2 (Vz g2)
           obtain⟨w1,hw1⟩:=hv1.val
           obtain⟨w2,hw2⟩:=hv2.val
           have i1:=(hw1 ▸ hv1:mH n w1.c).is
           have i2:=(hw2 ▸ hv2:mH n w2.c).is
           have h513:=r513 w1 w2 i1.1 i2.1 i1.2 i2.2
           rw[hw1]at g1 hfd
           rw[hw2]at g2 hfd
           rw[hw1,hw2]
           have hfd:=fun g=>(hfd g).all
           rw[jU,pB]at hfd
           rw[pB]
           generalize mu w1 w2=e at h513 hfd |-
           unfold dM.c at h513 g1 g2
           simp(disch:=omega)only[go_sem,e3,g1,g2,h513]
           refine Br.aD (fun g=>?_) (fun g=>?_)<;>simp(disch:=omega)only[go_sem]
           .have:=hfd (by simp; omega)
            rw[show EV v.keys=false from this,Bool.and_false]
           .exact aX.of (by simp; omega) rfl
          .have:=hn.all
           rw[jU]at this
           rw[show EV v.keys=true from this,pE,Bool.and_true]
           simp(disch:=omega)only[go_sem]
           refine Br.aD (fun c=>absurd c (by omega)) (fun c=>?_)
           simp(disch:=omega)only[go_sem,he6]
        .rw[show decide (v.items.length=v.keys.length)=false from decide_eq_false (by omega),W5]
         simp(disch:=omega)only[go_sem,d,decide_true,decide_false]
      .have hr:=hrest (by omega)
       rw[jV hr hz]
       rw[hr]at h510
       simp only[List.map_nil]at h510
       unfold kY
       dsimp only
       simp(disch:=omega)only[go_sem,e0,e1,e2,hx,Option.map_some,aC.c,h510,decide_true,decide_false,Int.reduceEq,if_true,if_false,hr,List.map_nil]
       refine Br.aD (fun c=>?_) (fun c=>?_)<;>simp(disch:=omega)only[go_sem,c,decide_true,decide_false,Bool.true_and,Bool.false_and,he6]
    .have e2:decide (v.kind=x.kind)=false:=decide_eq_false ck
     rw[e2]
     simp(disch:=omega)only[go_sem,e0,e1,e2,hx,Option.map_some,aC.c]
noncomputable def uK (T:List aC) (t:Int) (cs:List PV):Bool:=by
 classical exact decide (∃n,mH n cs/\fH T n t cs=true)
theorem BX {T:List aC} (hT:Oe T) {n:Nat} {t:Int} {cs:List PV} (h:mH n cs) (ht:dY t):uK T t cs=fH T n t cs:=by
 have key:∀m,mH m cs->fH T m t cs=fH T n t cs:=fun m hm=>by
  have h1:=r502 0 T hT n t cs h ht
  have h2:=r502 0 T hT m t cs hm ht
  rw[h1]at h2
  simpa using h2.symm
 classical
 unfold uK
 cases hf:fH T n t cs with
 |true=>exact decide_eq_true ⟨n,h,hf⟩
 |false=>exact decide_eq_false fun⟨m,hm,he⟩=>by rw[key m hm,hf]at he; cases he
theorem r494 (u:Nat) (T:List aC) (hT:Oe T) (n:Nat) (t:Int) (v:dM) (h:mH n v.c) (ht:dY t):res A az 494 [.agg [.aa u (T.map aC.c)],.int .i64 t,.agg v.c]=some [.bool (uK T t v.c)]:=by
 have h502:=r502 u T hT n t v.c h ht
 rw[BX hT h ht]
 generalize fH T n t v.c=e at *
 refine ai a494 rfl rfl ?_
 simp only[F494,K6]
 unfold dM.c at h502 |-
 simp(disch:=omega)only[go_sem,h502]
theorem r495 (u:Nat) (T:List aC) (hT:Oe T) (n:Nat) (t:Int) (v:dM) (h:mH n v.c) (ht:dY t):res A az 495 [.agg [.aa u (T.map aC.c)],.int .i64 t,.agg v.c]=some [.bool (uK T t v.c)]:=by
 have h503:=r503 u T hT n t v.c h ht
 rw[BX hT h ht]
 generalize fH T n t v.c=e at *
 refine ai a495 rfl rfl ?_
 simp only[F495,K7]
 unfold dM.c at h503 |-
 simp(disch:=omega)only[go_sem,h503]
noncomputable def lb (T:List aC) (m:Mem):Bool:=m.has&&!uK T m.type m.il.c
noncomputable def qu (T:List aC) (x:aC):Bool:=x.aN.any (lb T)
noncomputable def EW (T:List aC):Int×Int×Int:=
 if bW T≠0 then (0,0,bW T) else match T.findIdx? (qu T)with
 |none=>(0,0,0)
 |some k=>(k,((T[k]?).bind fun x=>(x.aN.find? (lb T)).map (·.id)).getD 0,1)
theorem tL {T:List aC} (ho:∀t∈T,t.ok) (h:bW T=0):Oe T:=by
 have hs:=bS h
 refine⟨by have:=hs.len; omega,ho,fun x hx=>?_⟩
 have:=hs.own x hx
 unfold gi at this
 simp only[Bool.and_eq_true,decide_eq_true_eq]at this
 exact this.1
set_option maxHeartbeats 2000000 in
theorem r480 (u:Nat) (T:List aC) (hl:T.length<=2147483648) (ho:∀t∈T,t.ok) (hs:∀t∈T,t.short):res A az 480 [.agg [.aa u (T.map aC.c)]]=some [.int .i64 (EW T).1,.int .i64 (EW T).2.1,.int .i64 (EW T).2.2]:=by
 have h268:=r268 u T hl ho hs
 refine ai a480 rfl rfl ?_
 simp only[F480,KY]
 simp(disch:=omega)only[go_sem,h268]
 unfold EW
 refine Br.aD (fun c=>?_) (fun c=>?_)<;>simp(disch:=omega)only[go_sem,c,decide_true,decide_false]
 rotate_left
 .rw[if_pos c]
 rw[if_neg (by simp[c])]
 have hT:=tL ho c
 obtain⟨G,hG⟩:∃G:Int×Int×Int,(match T.findIdx? (qu T)with
  |none=>(0,0,0)
  |some k=>(k,((T[k]?).bind fun x=>(x.aN.find? (lb T)).map (·.id)).getD 0,1))=G:=⟨_,rfl⟩
 rw[hG]
 refine W.find T (qu T) (fun k=>⟨[(1,.ptr 1 0),(6,.pv (.int .i64 k))],⟨[(1,[.pv (.aa u (T.map aC.c))])],[],[]⟩⟩) rfl (fun k x hx hk hfd=>?_) (fun hn=>?_)
 .have hxm:=Vz hx
  have hml:=(hs x hxm).aN
  obtain⟨_,⟨_,x9⟩,_,x11⟩:=ho x hxm
  simp(disch:=omega)only[go_sem]
  refine Br.aD (fun c=>?_) (fun c=>(c (by omega)).elim)
  simp(disch:=omega)only[go_sem,hx,Option.map_some,aC.c]
  refine W.find x.aN (lb T) (fun j=>⟨[(1,.ptr 1 0),(6,.pv (.int .i64 k)),(7,.pv (.aa 0 (x.aN.map Mem.c))),(8,.pv (.int .i64 j))],⟨[(1,[.pv (.aa u (T.map aC.c))])],[],[]⟩⟩) rfl (fun j m hm hj hfm=>?_) (fun hn=>?_)
  .obtain⟨_,_,m3,n,m4⟩:=x11 m (Vz hm)
   have h494:=r494 u T hT n m.type m.il m4 m3
   have hw:lb T m=(m.has&&!uK T m.type m.il.c):=rfl
   generalize uK T m.type m.il.c=e at h494 hw
   unfold dM.c at h494
   simp(disch:=omega)only[go_sem]
   refine Br.aD (fun c=>?_) (fun c=>(c (by omega)).elim)
   simp(disch:=omega)only[go_sem,hm,Option.map_some,Mem.c,h494]
   cases hh:m.has with
   |false=>
    rw[hh]at hw
    simp(disch:=omega)only[go_sem]
    exact aX.of (by rw[hw]; rfl) rfl
   |true=>
    rw[hh]at hw
    simp(disch:=omega)only[go_sem,hm,Option.map_some,Mem.c,h494]
    cases e
    .have hf:=hfm (by rw[hw]; rfl)
     have hf2:=hfd hf.any
     simp(disch:=omega)only[go_sem,hm,Option.map_some,Mem.c]
     rw[<- hG,hf2.idx]
     dsimp only
     rw[hx,Option.bind_some,hf.find]
     rfl
    .simp(disch:=omega)only[go_sem]
     exact aX.of (by rw[hw]; rfl) rfl
  .simp(disch:=omega)only[go_sem]
   exact aX.of hn.any rfl
 .simp(disch:=omega)only[go_sem]
  rw[<- hG,hn.idx]
set_option maxHeartbeats 2000000 in
theorem r484 (u:Nat) (T:List aC) (hl:T.length<=2147483648) (ho:∀t∈T,t.ok) (hs:∀t∈T,t.short):res A az 484 [.agg [.aa u (T.map aC.c)]]=some [.int .i64 (EW T).1,.int .i64 (EW T).2.1,.int .i64 (EW T).2.2]:=by
 have h267:=r267 u T hl ho hs
 refine ai a484 rfl rfl ?_
 simp only[F484,K2]
 simp(disch:=omega)only[go_sem,h267]
 unfold EW
 refine Br.aD (fun c=>?_) (fun c=>?_)<;>simp(disch:=omega)only[go_sem,c,decide_true,decide_false]
 rotate_left
 .rw[if_pos c]
 rw[if_neg (by simp[c])]
 have hT:=tL ho c
 obtain⟨G,hG⟩:∃G:Int×Int×Int,(match T.findIdx? (qu T)with
  |none=>(0,0,0)
  |some k=>(k,((T[k]?).bind fun x=>(x.aN.find? (lb T)).map (·.id)).getD 0,1))=G:=⟨_,rfl⟩
 rw[hG]
 refine W.find T (qu T) (fun k=>⟨[(1,.ptr 1 0),(16,.pv (.aa u (T.map aC.c))),(17,.pv (.int .i64 T.length)),(18,.pv (.int .i64 k))],⟨[(1,[.pv (.aa u (T.map aC.c))])],[],[]⟩⟩) rfl (fun k x hx hk hfd=>?_) (fun hn=>?_)
 .have hxm:=Vz hx
  have hml:=(hs x hxm).aN
  obtain⟨_,⟨_,x9⟩,_,x11⟩:=ho x hxm
  simp(disch:=omega)only[go_sem]
  refine Br.aD (fun c=>?_) (fun c=>(c (by omega)).elim)
  simp(disch:=omega)only[go_sem,hx,Option.map_some,aC.c]
  refine W.find x.aN (lb T) (fun j=>⟨[(1,.ptr 1 0),(6,.pv (.int .i64 k)),(16,.pv (.aa u (T.map aC.c))),(17,.pv (.int .i64 T.length)),(18,.pv (.int .i64 k)),(24,.pv (.aa 0 (x.aN.map Mem.c))),(25,.pv (.int .i64 x.aN.length)),(26,.pv (.int .i64 j))],⟨[(1,[.pv (.aa u (T.map aC.c))])],[],[]⟩⟩) rfl (fun j m hm hj hfm=>?_) (fun hn=>?_)
  .obtain⟨_,_,m3,n,m4⟩:=x11 m (Vz hm)
   have h495:=r495 u T hT n m.type m.il m4 m3
   have hw:lb T m=(m.has&&!uK T m.type m.il.c):=rfl
   generalize uK T m.type m.il.c=e at h495 hw
   unfold dM.c at h495
   simp(disch:=omega)only[go_sem]
   refine Br.aD (fun c=>?_) (fun c=>(c (by omega)).elim)
   simp(disch:=omega)only[go_sem,hm,Option.map_some,Mem.c,h495]
   cases hh:m.has with
   |false=>
    rw[hh]at hw
    simp(disch:=omega)only[go_sem]
    exact aX.of (by rw[hw]; rfl) rfl
   |true=>
    rw[hh]at hw
    simp(disch:=omega)only[go_sem,hm,Option.map_some,Mem.c,h495]
    cases e
    .have hf:=hfm (by rw[hw]; rfl)
     have hf2:=hfd hf.any
     simp(disch:=omega)only[go_sem,hm,Option.map_some,Mem.c]
     rw[<- hG,hf2.idx]
     dsimp only
     rw[hx,Option.bind_some,hf.find]
     rfl
    .simp(disch:=omega)only[go_sem]
     exact aX.of (by rw[hw]; rfl) rfl
  .simp(disch:=omega)only[go_sem]
   exact aX.of hn.any rfl
 .simp(disch:=omega)only[go_sem]
  rw[<- hG,hn.idx]
noncomputable def gA (T:List aC):Int:=(EW T).2.2
theorem oc {T:List aC} (h:bW T≠0):gA T=bW T:=by
 unfold gA EW
 rw[if_pos h]
theorem gW {T:List aC} (h:gA T=0):bW T=0/\∀x∈T,∀m∈x.aN,m.has=true->uK T m.type m.il.c=true:=by
 by_cases hv:bW T=0
 .refine⟨hv,fun x hx m hm hh=>?_⟩
  unfold gA EW at h
  rw[if_neg (by simp[hv])]at h
  cases hf:T.findIdx? (qu T)with
  |none=>
   have h1:=WX.1 hf x hx
   have h2:=Wt.1 h1 m hm
   unfold lb at h2
   rw[hh]at h2
   simpa using h2
  |some k=>
   rw[hf]at h
   cases h
 .rw[oc hv]at h
  exact absurd h hv
theorem r470 (u:Nat) (T:List aC) (hl:T.length<=2147483648) (ho:∀t∈T,t.ok) (hs:∀t∈T,t.short):res A az 470 [.agg [.aa u (T.map aC.c)]]=some [.int .i64 (gA T)]:=by
 have h268:=r268 u T hl ho hs
 have h480:=r480 u T hl ho hs
 have hb:=oc (T:=T)
 unfold gA at hb |-
 refine ai a470 rfl rfl ?_
 simp only[F470,KQ]
 simp(disch:=omega)only[go_sem,h268]
 refine Br.aD (fun c=>?_) (fun c=>?_)<;>simp(disch:=omega)only[go_sem,h480,c,decide_true,decide_false]
 rw[hb c]
theorem r473 (u:Nat) (T:List aC) (hl:T.length<=2147483648) (ho:∀t∈T,t.ok) (hs:∀t∈T,t.short):res A az 473 [.agg [.aa u (T.map aC.c)]]=some [.int .i64 (gA T)]:=by
 have h267:=r267 u T hl ho hs
 have h484:=r484 u T hl ho hs
 have hb:=oc (T:=T)
 unfold gA at hb |-
 refine ai a473 rfl rfl ?_
 simp only[F473,KT]
 simp(disch:=omega)only[go_sem,h267]
 refine Br.aD (fun c=>?_) (fun c=>?_)<;>simp(disch:=omega)only[go_sem,h484,c,decide_true,decide_false]
 rw[hb c]
def nz (n:List Int) (i:Int):Int:=n.getD i.toNat 0
def mT (b:Bool) (x:aC) (n:List Int):Int:=
 if x.kind=2 then (if x.low=x.high then 1 else 2)
 else if x.kind=3 then (if x.max=0 then 1 else 2)
 else if x.kind=4 then min 2 x.syms.length
 else if x.kind=5 then x.aN.foldl (fun c m=>min 2 (c*nz n m.type)) 1
 else if x.kind=6 then x.aN.foldl (fun c m=>min 2 (c+nz n m.type)) 0
 else if x.kind=7 then (if x.max=0\/nz n x.elem=0 then 1 else 2)
 else if x.kind=8 then (if x.max=0\/nz n x.elem=0\/b=true/\nz n x.key=0 then 1 else 2)
 else if x.kind=9 then min 2 (1+nz n x.elem)
 else 2
def zO (n:List Int):Prop:=∀x∈n,0<=x/\x<=2
def lD (n m:List Int):Prop:=n.length=m.length/\∀k:Nat,n.getD k 0<=m.getD k 0
theorem zO.at {n:List Int} (h:zO n) (k:Nat):0<=n.getD k 0/\n.getD k 0<=2:=by
 rw[VK]
 cases hk:n[k]? with
 |none=>simp
 |some x=>exact h x (Vz hk)
theorem lD.refl (n:List Int):lD n n:=⟨rfl,fun _=>Xa _⟩
theorem lD.trans {a b c:List Int} (h:lD a b) (g:lD b c):lD a c:=⟨h.1.trans g.1,fun k=>Int.le_trans (h.2 k) (g.2 k)⟩
theorem lD.LN {a b:List Int} (h:lD a b) (g:lD b a):a=b:=by
 refine List.ext_getElem h.1 fun k h1 h2=>?_
 have e1:=h.2 k
 have e2:=g.2 k
 rw[VK,VK,VA h1,VA h2]at e1 e2
 simp at e1 e2
 omega
theorem tM {α:Type} (f:Int->α->Int) (hf:∀c a,0<=c->0<=f c a/\f c a<=2):∀(l:List α) (c:Int),0<=c->c<=2->0<=l.foldl f c/\l.foldl f c<=2
 |[],c,h1,h2=>⟨h1,h2⟩
 |a::l,c,h1,_=>tM f hf l _ (hf c a h1).1 (hf c a h1).2
theorem qw {α:Type} {l0:List α} (f g:Int->α->Int) (hf:∀c d a,a∈l0->0<=c->c<=d->0<=f c a/\f c a<=g d a):∀(l:List α) (c d:Int),(∀a∈l,a∈l0)->0<=c->c<=d->l.foldl f c<=l.foldl g d
 |[],_,_,_,_,h2=>h2
 |a::l,c,d,hl,h1,h2=>qw f g hf l _ _ (fun x hx=>hl x (Wl _ hx)) (hf c d a (hl a We) h1 h2).1 (hf c d a (hl a We) h1 h2).2
theorem EX {c a:Int} (h1:0<=c) (h2:0<=a):0<=min 2 (c*a)/\min 2 (c*a)<=2:=by
 have:=Int.mul_nonneg h1 h2
 omega
theorem xd (b:Bool) (x:aC) {n:List Int} (hn:zO n):0<=mT b x n/\mT b x n<=2:=by
 have ha:∀i,0<=nz n i/\nz n i<=2:=fun i=>hn.at _
 unfold mT
 repeat' split
 all_goals first|decide|skip
 .omega
 .exact tM _ (fun c m h=>EX h (ha _).1) _ _ (by decide) (by decide)
 .exact tM _ (fun c m h=>by have:=ha m.type; omega) _ _ (by decide) (by decide)
 .have:=ha x.elem
  omega
theorem tN (b:Bool) (x:aC) {n m:List Int} (hn:zO n) (h:lD n m):mT b x n<=mT b x m:=by
 have ha:∀i,0<=nz n i:=fun i=>(hn.at _).1
 have hm:∀i,nz n i<=nz m i:=fun i=>h.2 _
 unfold mT
 repeat' split
 all_goals first|decide|omega|skip
 .refine qw (l0:=x.aN) _ _ (fun c d a _ h1 h2=>?_) _ _ _ (fun _ h=>h) (by decide) (Xa _)
  refine⟨(EX h1 (ha _)).1,?_⟩
  have:=Int.mul_le_mul h2 (hm a.type) (ha _) (by omega)
  omega
 .refine qw (l0:=x.aN) _ _ (fun c d a _ h1 h2=>?_) _ _ _ (fun _ h=>h) (by decide) (Xa _)
  have:=ha a.type
  have:=hm a.type
  omega
 .rename_i h1 h2
  have e1:=ha x.elem
  have e2:=hm x.elem
  exact absurd (h2.imp id fun h=>by omega) h1
 .rename_i h1 h2
  have e1:=ha x.elem
  have e2:=hm x.elem
  have e3:=ha x.key
  have e4:=hm x.key
  exact absurd (h2.imp id fun h=>h.imp (fun h=>by omega) (fun h=>⟨h.1,by omega⟩)) h1
 .have:=hm x.elem
  omega
theorem LO (x:aC) (n:List Int) (hn:zO n):mT true x n<=mT false x n:=by
 have ha:∀i,0<=nz n i:=fun i=>(hn.at _).1
 unfold mT
 repeat' split
 all_goals first|decide|omega|skip
 rename_i h1 h2
 exact absurd (h2.imp id fun h=>h.imp id (fun h=>⟨by simp at h,by simp at h⟩)) h1
def swp (b:Bool) (T:List aC) (n:List Int):Nat->List Int
 |0=>n
 |k+1=>match T[k]? with
  |some x=>(swp b T n k).set k (mT b x (swp b T n k))
  |none=>swp b T n k
theorem iT {n:List Int} {k:Nat} {x:Int} (i:Nat) (hk:k<n.length):(n.set k x).getD i 0=if i=k then x else n.getD i 0:=by
 rw[VK,List.getElem?_set]
 by_cases h:k=i
 .subst h
  rw[if_pos rfl,if_pos hk,if_pos rfl]
  rfl
 .rw[if_neg h,if_neg (fun e=>h e.symm),VK]
def BY (b:Bool) (T:List aC) (n:List Int):Prop:=n.length=T.length/\zO n/\∀k x,T[k]?=some x->n.getD k 0<=mT b x n
theorem zO.set {n:List Int} (h:zO n) {k:Nat} {x:Int} (hx:0<=x/\x<=2):zO (n.set k x):=fun y hy=>by
 rcases List.mem_or_eq_of_mem_set hy with h1|rfl
 .exact h y h1
 .exact hx
theorem lD.set {n:List Int} {k:Nat} {x:Int} (hk:k<n.length) (hx:n.getD k 0<=x):lD n (n.set k x):=by
 refine⟨(WG ..).symm,fun i=>?_⟩
 rw[iT i hk]
 split
 .rename_i h
  rw[h]
  exact hx
 .exact Xa _
theorem BY.step {b:Bool} {T:List aC} {n:List Int} (h:BY b T n) {k:Nat} {x:aC} (hx:T[k]?=some x):BY b T (n.set k (mT b x n))/\lD n (n.set k (mT b x n)):=by
 obtain⟨h1,h2,h3⟩:=h
 have hk:k<n.length:=h1 ▸ (Vy.1 hx).1
 have hle:=lD.set hk (h3 k x hx)
 refine⟨⟨by rw[WG,h1],h2.set (xd b x h2),fun j y hy=>?_⟩,hle⟩
 have hm:=tN b y h2 hle
 rw[iT j hk]
 split
 .rename_i e
  rw[e,hx]at hy
  cases hy
  exact hm
 .exact Int.le_trans (h3 j y hy) hm
theorem BY.swp {b:Bool} {T:List aC} {n:List Int} (h:BY b T n):∀k,BY b T (swp b T n k)/\lD n (swp b T n k)
 |0=>⟨h,lD.refl n⟩
 |k+1=>by
  obtain⟨h1,h2⟩:=BY.swp h k
  unfold Go.Pv.swp
  split
  .rename_i x hx
   obtain⟨h3,h4⟩:=h1.step hx
   exact⟨h3,h2.trans h4⟩
  .exact⟨h1,h2⟩
def Fix (b:Bool) (T:List aC) (n:List Int):Prop:=n.length=T.length/\zO n/\∀k x,T[k]?=some x->n.getD k 0=mT b x n
def re (b:Bool) (T:List aC) (n:List Int):Prop:=Fix b T n/\∀m,Fix b T m->lD n m
theorem re.uniq {b:Bool} {T:List aC} {n m:List Int} (h:re b T n) (g:re b T m):n=m:=(h.2 m g.1).LN (g.2 n h.1)
theorem AY {b:Bool} {T:List aC} {n m:List Int} (hn:zO n) (hm:Fix b T m) (h:lD n m) {k:Nat} {x:aC} (hx:T[k]?=some x):lD (n.set k (mT b x n)) m:=by
 have hk:k<n.length:=by rw[h.1,hm.1]; exact(Vy.1 hx).1
 refine⟨by rw[WG,h.1],fun i=>?_⟩
 rw[iT i hk]
 split
 .rename_i e
  rw[e,hm.2.2 k x hx]
  exact tN b x hn h
 .exact h.2 i
theorem mU {b:Bool} {T:List aC} {n m:List Int} (hn:BY b T n) (hm:Fix b T m) (h:lD n m):∀k,lD (swp b T n k) m
 |0=>h
 |k+1=>by
  unfold swp
  split
  .rename_i x hx
   exact AY (hn.swp k).1.2.1 hm (mU hn hm h k) hx
  .exact mU hn hm h k
theorem EY {b:Bool} {T:List aC} {n:List Int} (hn:BY b T n) (h:lD (swp b T n T.length) n):Fix b T n:=by
 have key:∀k,k<=T.length->swp b T n k=n:=fun k hk=>by
  have up:∀j,lD (swp b T n k) (swp b T n (k+j)):=fun j=>by
   induction j with
   |zero=>exact lD.refl _
   |succ j ih=>
    rw[<- Wx]
    refine ih.trans ?_
    show lD _ (match T[k+j]? with
     |some x=>(swp b T n (k+j)).set (k+j) (mT b x (swp b T n (k+j)))
     |none=>swp b T n (k+j))
    split
    .rename_i x hx
     exact((hn.swp (k+j)).1.step hx).2
    .exact lD.refl _
  have:=up (T.length - k)
  rw[show k+(T.length - k)=T.length by omega]at this
  exact(this.trans h).LN (hn.swp k).2
 refine⟨hn.1,hn.2.1,fun k x hx=>?_⟩
 have hk:=(Vy.1 hx).1
 have h1:=key (k+1) hk
 have h2:=key k (by omega)
 unfold swp at h1
 rw[hx]at h1
 dsimp only at h1
 rw[h2]at h1
 have h3:=iT (n:=n) (x:=mT b x n) k (by rw[hn.1]; exact hk)
 rw[h1,if_pos rfl]at h3
 exact h3
def qx (n:List Int):Int:=n.foldl (·+·) 0
theorem tO:∀(n:List Int) (a:Int),n.foldl (·+·) a=a+qx n
 |[],a=>by simp[qx]
 |x::n,a=>by
  show n.foldl (·+·) (a+x)=a+n.foldl (·+·) (0+x)
  rw[tO n (a+x),tO n (0+x)]
  omega
theorem qy (x:Int) (n:List Int):qx (x::n)=x+qx n:=by
 show n.foldl (·+·) (0+x)=_
 rw[tO]
 omega
theorem xe:∀{a b:List Int},lD a b->qx a<=qx b/\(a≠b->qx a<qx b)
 |[],[],_=>⟨Xa _,fun h=>(h rfl).elim⟩
 |[],_::_,h=>absurd h.1 (by simp)
 |_::_,[],h=>absurd h.1 (by simp)
 |x::a,y::b,h=>by
  have h0:=h.2 0
  have ht:lD a b:=⟨by have:=h.1; simpa using this,fun k=>by simpa using h.2 (k+1)⟩
  obtain⟨h1,h2⟩:=xe ht
  simp at h0
  rw[qy,qy]
  refine⟨by omega,fun hne=>?_⟩
  by_cases e:a=b
  .have:x≠y:=fun e2=>hne (by rw[e,e2])
   omega
  .have:=h2 e
   omega
theorem pF:∀{n:List Int},zO n->0<=qx n/\qx n<=2*n.length
 |[],_=>by simp[qx]
 |x::n,h=>by
  have h1:=h x We
  have h2:=pF (n:=n) fun y hy=>h y (Wl _ hy)
  rw[qy,Xn]
  omega
def ib (b:Bool) (T:List aC):Nat->List Int
 |0=>List.replicate T.length 0
 |r+1=>swp b T (ib b T r) T.length
theorem zj (b:Bool) (T:List aC):BY b T (List.replicate T.length 0):=by
 have h2:zO (List.replicate T.length 0):=fun x hx=>by
  rw[List.mem_replicate]at hx
  omega
 refine⟨WI,h2,fun k x _=>?_⟩
 have h1:=xd b x h2
 rw[VK,WM]
 split<;>simpa using h1.1
theorem fU (b:Bool) (T:List aC):∀r,BY b T (ib b T r)
 |0=>zj b T
 |r+1=>((fU b T r).swp _).1
theorem od {b:Bool} {T:List aC} {m:List Int} (hm:Fix b T m):∀r,lD (ib b T r) m
 |0=>by
  refine⟨by rw[hm.1]; exact WI,fun k=>?_⟩
  have h1:=hm.2.1.at k
  show (List.replicate T.length (0:Int)).getD k 0<=_
  rw[VK,WM]
  split<;>simpa using h1.1
 |r+1=>mU (fU b T r) hm (od hm r) _
theorem BZ {b:Bool} {T:List aC} {n:List Int} (h:Fix b T n):∀k,swp b T n k=n
 |0=>rfl
 |k+1=>by
  unfold swp
  rw[BZ h k]
  split
  .rename_i x hx
   have hk:k<n.length:=by rw[h.1]; exact(Vy.1 hx).1
   rw[<- h.2.2 k x hx,VK,VA hk]
   simp
  .rfl
theorem tP (b:Bool) (T:List aC):re b T (ib b T (2*T.length+1)):=by
 have key:∀r,Fix b T (ib b T r)\/(r:Int)<=qx (ib b T r):=fun r=>by
  induction r with
  |zero=>exact .inr (pF (zj b T).2.1).1
  |succ r ih=>
   rcases ih with h|h
   .left
    show Fix b T (swp b T (ib b T r) T.length)
    rw[BZ h]
    exact h
   .have hl:=fU b T r
    by_cases e:ib b T r=ib b T (r+1)
    .left
     rw[<- e]
     exact EY hl (by show lD (ib b T (r+1)) _; rw[<- e]; exact lD.refl _)
    .right
     have:=(xe (hl.swp T.length).2).2 e
     have e2:ib b T (r+1)=swp b T (ib b T r) T.length:=rfl
     rw[e2]
     omega
 refine⟨(key _).resolve_right fun h=>?_,fun m hm=>od hm _⟩
 have h1:=pF (fU b T (2*T.length+1)).2.1
 rw[(fU b T (2*T.length+1)).1]at h1
 omega
theorem C8 {T:List aC} {n:List Int} (h:re true T n) (hk:∀x∈T,x.kind=8->nz n x.key≠0):re false T n:=by
 obtain⟨⟨h1,h2,h3⟩,h4⟩:=h
 have hf:Fix false T n:=⟨h1,h2,fun k x hx=>by
  rw[h3 k x hx]
  have:=hk x (Vz hx)
  unfold mT
  by_cases c:x.kind=8
  .have:=this c
   simp[c,this]
  .simp[c]⟩
 refine⟨hf,fun m hm=>?_⟩
 have hr:=tP true T
 have e:n=ib true T (2*T.length+1):=re.uniq ⟨⟨h1,h2,h3⟩,h4⟩ hr
 rw[e]
 have key:∀r,lD (ib true T r) m:=fun r=>by
  induction r with
  |zero=>
   refine⟨by rw[hm.1]; exact WI,fun k=>?_⟩
   have h1:=hm.2.1.at k
   show (List.replicate T.length (0:Int)).getD k 0<=_
   rw[VK,WM]
   split<;>simpa using h1.1
  |succ r ih=>
   have:∀k,lD (swp true T (ib true T r) k) m:=fun k=>by
    induction k with
    |zero=>exact ih
    |succ k ih2=>
     unfold swp
     split
     .rename_i x hx
      have hl:=((fU true T r).swp k).1.2.1
      have hk:k<(swp true T (ib true T r) k).length:=by rw[ih2.1,hm.1]; exact(Vy.1 hx).1
      refine⟨by rw[WG,ih2.1],fun i=>?_⟩
      rw[iT i hk]
      split
      .rename_i e
       rw[e,hm.2.2 k x hx]
       exact Int.le_trans (LO x _ hl) (tN false x hl ih2)
      .exact ih2.2 i
     .exact ih2
   exact this _
 exact key _
def EZ (x:aC) (n:List Int):Int:=
 if x.kind=4 then x.syms.length
 else if x.kind=6 then x.aN.foldl (fun c m=>c+nz n m.type) 0
 else if x.kind=9 then 1+nz n x.elem
 else mT true x n
theorem zk {n:List Int} (ha:∀i,0<=nz n i):∀(l:List Mem) (c:Int),0<=c->min 2 (l.foldl (fun c m=>c+nz n m.type) c)=l.foldl (fun c m=>min 2 (c+nz n m.type)) (min 2 c)
 |[],_,_=>rfl
 |m::l,c,h=>by
  have h1:=ha m.type
  rw[Wy,Wy,zk ha l _ (by omega)]
  congr 1
  omega
theorem E0 (x:aC) {n:List Int} (hn:zO n):min 2 (EZ x n)=mT true x n:=by
 have h:=xd true x hn
 unfold EZ
 repeat' split
 .rename_i h1
  unfold mT
  rw[if_neg (by omega),if_neg (by omega),if_pos h1]
 .rename_i h1
  rw[zk (fun i=>(hn.at _).1) _ _ (by decide)]
  unfold mT
  rw[if_neg (by omega),if_neg (by omega),if_neg (by omega),if_neg (by omega),if_pos h1]
  rfl
 .rename_i h1
  unfold mT
  rw[if_neg (by omega),if_neg (by omega),if_neg (by omega),if_neg (by omega),if_neg (by omega),if_neg (by omega),if_neg (by omega),if_pos h1]
 .omega
theorem tQ {t:Nat} {n:List Int} {i:Int} (h0:0<=i) (h:i<n.length):jz 1 t (ints n) (some i)=some (V.pv (.ro t [.int .i64 (nz n i)])):=by
 rw[gQ _ _ _ h0,Ew,VA (show i.toNat<n.length by omega)]
 unfold nz
 rw[VK,VA (show i.toNat<n.length by omega)]
 rfl
theorem B0 {c a:Int} (h1:0<=c) (h2:c<=2) (h3:0<=a) (h4:a<=2):0<=c*a/\c*a<=4:=by
 have:c=0\/c=1\/c=2:=by omega
 rcases this with rfl|rfl|rfl<;>omega
theorem zl {x:aC} {m:Mem} (h:m∈x.aN):m.type∈bT x:=by
 unfold bT
 exact Wh _ (Wh _ (VP.2 ⟨m,h,rfl⟩))
theorem vS {x:aC} (h:x.kind=7\/x.kind=8\/x.kind=9):x.elem∈bT x:=by
 unfold bT kU
 refine Wn _ ?_
 rcases h with h|h|h<;>simp[h]
set_option maxHeartbeats 4000000 in
theorem r481 (x:aC) (n:List Int) (t:Nat) (hk:1<=x.kind/\x.kind<=9) (hs:x.short) (hn:zO n) (hu:∀u∈bT x,0<=u/\u<n.length):res A az 481 [.agg x.c,.aa t (ints n)]=some [.int .i64 (mT false x n)]:=by
 refine ai a481 rfl rfl ?_
 simp only[F481,KZ]
 have ha:∀i,0<=nz n i/\nz n i<=2:=fun i=>hn.at _
 have hm:=fun m hm=>hu _ (zl (x:=x) (m:=m) hm)
 have hml:=hs.aN
 have hsl:=hs.syms
 have hel:=fun h=>hu _ (vS (x:=x) h)
 unfold mT
 obtain⟨kind,name,low,high,max,syms,aN,key,elem,ku⟩:=x
 unfold aC.c
 dsimp only at *
 rcases nine hk with rfl|rfl|rfl|rfl|rfl|rfl|rfl|rfl|rfl
 .simp(disch:=omega)only[go_sem,decide_true,decide_false,Int.reduceEq,if_true,if_false]
 .simp(disch:=omega)only[go_sem,decide_true,decide_false,Int.reduceEq,if_true,if_false]
  refine Br.aD (fun c=>?_) (fun c=>?_)<;>simp(disch:=omega)only[go_sem,c,if_true,if_false]
 .simp(disch:=omega)only[go_sem,decide_true,decide_false,Int.reduceEq,if_true,if_false]
  refine Br.aD (fun c=>?_) (fun c=>?_)<;>simp(disch:=omega)only[go_sem,c,if_true,if_false]
 .simp(disch:=omega)only[go_sem,decide_true,decide_false,Int.reduceEq,if_true,if_false]
 .simp(disch:=omega)only[go_sem,decide_true,decide_false,Int.reduceEq,if_true,if_false]
  refine W.fold aN (fun c m=>min 2 (c*nz n m.type)) 1 (fun k acc=>⟨[(1,.pv (.aa t (ints n))),(2,.ptr 2 0),(5,.pv (.int .i64 acc)),(6,.pv (.int .i64 k))],⟨[(2,[.pv (.int .i64 5),.pv (.str name),.pv (.int .i64 low),.pv (.int .i64 high),.pv (.int .i64 max),.pv (.aa 0 (syms.map Sym.c)),.pv (.aa 0 (aN.map Mem.c)),.pv (.int .i64 key),.pv (.int .i64 elem),.pv (.bool ku)])],[],[]⟩⟩) (fun _ acc=>0<=acc/\acc<=2) rfl (by decide) (fun k m acc hm1 hk1 _ hi=>?_) (fun acc hacc hi=>?_)
  .obtain⟨u1,u2⟩:=hm m (Vz hm1)
   have he:=fun t=>tQ (t:=t) u1 u2
   obtain⟨p1,p2⟩:=B0 hi.1 hi.2 (ha m.type).1 (ha m.type).2
   generalize hp:acc*nz n m.type=p at p1 p2
   simp(disch:=omega)only[go_sem]
   refine Br.aD (fun c=>?_) (fun c=>(c (by omega)).elim)
   simp(disch:=omega)only[go_sem,hm1,Option.map_some,Mem.c,he,hp]
   exact cI.of rfl (by omega)
  .simp(disch:=omega)only[go_sem]
   rw[<- hacc]
 .simp(disch:=omega)only[go_sem,decide_true,decide_false,Int.reduceEq,if_true,if_false]
  refine W.fold aN (fun c m=>min 2 (c+nz n m.type)) 0 (fun k acc=>⟨[(1,.pv (.aa t (ints n))),(2,.ptr 2 0),(7,.pv (.int .i64 acc)),(8,.pv (.int .i64 k))],⟨[(2,[.pv (.int .i64 6),.pv (.str name),.pv (.int .i64 low),.pv (.int .i64 high),.pv (.int .i64 max),.pv (.aa 0 (syms.map Sym.c)),.pv (.aa 0 (aN.map Mem.c)),.pv (.int .i64 key),.pv (.int .i64 elem),.pv (.bool ku)])],[],[]⟩⟩) (fun _ acc=>0<=acc/\acc<=2) rfl (by decide) (fun k m acc hm1 hk1 _ hi=>?_) (fun acc hacc hi=>?_)
  .obtain⟨u1,u2⟩:=hm m (Vz hm1)
   have he:=fun t=>tQ (t:=t) u1 u2
   have hat:=ha m.type
   simp(disch:=omega)only[go_sem]
   refine Br.aD (fun c=>?_) (fun c=>(c (by omega)).elim)
   simp(disch:=omega)only[go_sem,hm1,Option.map_some,Mem.c,he]
   exact cI.of rfl (by omega)
  .simp(disch:=omega)only[go_sem]
   rw[<- hacc]
 .obtain⟨e1,e2⟩:=hel (by decide)
  have he:=fun t=>tQ (t:=t) e1 e2
  simp(disch:=omega)only[go_sem,decide_true,decide_false,Int.reduceEq,if_true,if_false,he]
  refine Br.aD (fun c=>?_) (fun c=>?_)<;>simp(disch:=omega)only[go_sem,c,if_true,if_false,he]
  .rw[if_pos (.inl trivial)]
  .refine Br.aD (fun d=>?_) (fun d=>?_)<;>simp(disch:=omega)only[go_sem,d]
   .rw[if_pos (by simp)]
   .rw[if_neg (by simp[c])]
 .obtain⟨e1,e2⟩:=hel (by decide)
  have he:=fun t=>tQ (t:=t) e1 e2
  simp(disch:=omega)only[go_sem,decide_true,decide_false,Int.reduceEq,if_true,if_false,he]
  refine Br.aD (fun c=>?_) (fun c=>?_)<;>simp(disch:=omega)only[go_sem,c,if_true,if_false,he]
  .rw[if_pos (.inl trivial)]
  .refine Br.aD (fun d=>?_) (fun d=>?_)<;>simp(disch:=omega)only[go_sem,d]
   .rw[if_pos (by simp)]
   .rw[if_neg (by simp[c])]
 .obtain⟨e1,e2⟩:=hel (by decide)
  have he:=fun t=>tQ (t:=t) e1 e2
  have:=ha elem
  simp(disch:=omega)only[go_sem,decide_true,decide_false,Int.reduceEq,if_true,if_false,he]
set_option maxHeartbeats 4000000 in
theorem r485 (x:aC) (n:List Int) (t:Nat) (hk:1<=x.kind/\x.kind<=9) (hs:x.short) (hn:zO n) (hu:∀u∈bT x,0<=u/\u<n.length):res A az 485 [.agg x.c,.aa t (ints n)]=some [.int .i64 (EZ x n)]:=by
 refine ai a485 rfl rfl ?_
 simp only[F485,K3]
 have ha:∀i,0<=nz n i/\nz n i<=2:=fun i=>hn.at _
 have hm:=fun m hm=>hu _ (zl (x:=x) (m:=m) hm)
 have hml:=hs.aN
 have hsl:=hs.syms
 have hel:=fun h=>hu _ (vS (x:=x) h)
 have hkey:=fun h=>hu _ (ka (t:=x) h)
 unfold EZ mT
 obtain⟨kind,name,low,high,max,syms,aN,key,elem,ku⟩:=x
 unfold aC.c
 dsimp only at *
 rcases nine hk with rfl|rfl|rfl|rfl|rfl|rfl|rfl|rfl|rfl
 .simp(disch:=omega)only[go_sem,decide_true,decide_false,Int.reduceEq,if_true,if_false]
 .simp(disch:=omega)only[go_sem,decide_true,decide_false,Int.reduceEq,if_true,if_false]
  refine Br.aD (fun c=>?_) (fun c=>?_)<;>simp(disch:=omega)only[go_sem,c,if_true,if_false]
 .simp(disch:=omega)only[go_sem,decide_true,decide_false,Int.reduceEq,if_true,if_false]
  refine Br.aD (fun c=>?_) (fun c=>?_)<;>simp(disch:=omega)only[go_sem,c,if_true,if_false]
 .simp(disch:=omega)only[go_sem,decide_true,decide_false,Int.reduceEq,if_true,if_false]
 .simp(disch:=omega)only[go_sem,decide_true,decide_false,Int.reduceEq,if_true,if_false]
  refine W.fold aN (fun c m=>min 2 (c*nz n m.type)) 1 (fun k acc=>⟨[(1,.pv (.aa t (ints n))),(5,.pv (.int .i64 acc)),(33,.pv (.aa 0 (aN.map Mem.c))),(34,.pv (.int .i64 aN.length)),(35,.pv (.int .i64 k))],⟨[],[],[]⟩⟩) (fun _ acc=>0<=acc/\acc<=2) rfl (by decide) (fun k m acc hm1 hk1 _ hi=>?_) (fun acc hacc hi=>?_)
  .obtain⟨u1,u2⟩:=hm m (Vz hm1)
   have he:=fun t=>tQ (t:=t) u1 u2
   obtain⟨p1,p2⟩:=B0 hi.1 hi.2 (ha m.type).1 (ha m.type).2
   generalize hp:acc*nz n m.type=p at p1 p2
   simp(disch:=omega)only[go_sem]
   refine Br.aD (fun c=>?_) (fun c=>(c (by omega)).elim)
   simp(disch:=omega)only[go_sem,hm1,Option.map_some,Mem.c,he,hp]
   exact cI.of rfl (by omega)
  .simp(disch:=omega)only[go_sem]
   rw[<- hacc]
 .simp(disch:=omega)only[go_sem,decide_true,decide_false,Int.reduceEq,if_true,if_false]
  refine W.fold aN (fun c m=>c+nz n m.type) 0 (fun k acc=>⟨[(1,.pv (.aa t (ints n))),(8,.pv (.int .i64 acc)),(52,.pv (.aa 0 (aN.map Mem.c))),(53,.pv (.int .i64 aN.length)),(54,.pv (.int .i64 k))],⟨[],[],[]⟩⟩) (fun k acc=>0<=acc/\acc<=2*(k:Int)) rfl (by decide) (fun k m acc hm1 hk1 _ hi=>?_) (fun acc hacc hi=>?_)
  .obtain⟨u1,u2⟩:=hm m (Vz hm1)
   have he:=fun t=>tQ (t:=t) u1 u2
   have hat:=ha m.type
   simp(disch:=omega)only[go_sem]
   refine Br.aD (fun c=>?_) (fun c=>(c (by omega)).elim)
   simp(disch:=omega)only[go_sem,hm1,Option.map_some,Mem.c,he]
   exact cI.of rfl (by omega)
  .simp(disch:=omega)only[go_sem]
   rw[<- hacc]
 .obtain⟨e1,e2⟩:=hel (by decide)
  have he:=fun t=>tQ (t:=t) e1 e2
  simp(disch:=omega)only[go_sem,decide_true,decide_false,Int.reduceEq,if_true,if_false,he]
  refine Br.aD (fun c=>?_) (fun c=>?_)<;>simp(disch:=omega)only[go_sem,c,if_true,if_false,he]
  .rw[if_pos (.inl trivial)]
  .refine Br.aD (fun d=>?_) (fun d=>?_)<;>simp(disch:=omega)only[go_sem,d]
   .rw[if_pos (by simp)]
   .rw[if_neg (by simp[c])]
 .obtain⟨e1,e2⟩:=hel (by decide)
  obtain⟨k1,k2⟩:=hkey (by decide)
  have he:=fun t=>tQ (t:=t) e1 e2
  have hke:=fun t=>tQ (t:=t) k1 k2
  simp(disch:=omega)only[go_sem,decide_true,decide_false,Int.reduceEq,if_true,if_false,he]
  refine Br.aD (fun c=>?_) (fun c=>?_)<;>simp(disch:=omega)only[go_sem,c,if_true,if_false,he]
  .rw[if_pos (.inl trivial)]
  .refine Br.aD (fun d=>?_) (fun d=>?_)<;>simp(disch:=omega)only[go_sem,d,hke]
   .rw[if_pos (by simp)]
   .refine Br.aD (fun e=>?_) (fun e=>?_)<;>simp(disch:=omega)only[go_sem,e]
    .rw[if_pos (by simp)]
    .rw[if_neg (by simp[c,d])]
 .obtain⟨e1,e2⟩:=hel (by decide)
  have he:=fun t=>tQ (t:=t) e1 e2
  have:=ha elem
  simp(disch:=omega)only[go_sem,decide_true,decide_false,Int.reduceEq,if_true,if_false,he]
structure bj.Good (a:bj):Prop where
 st:0<=a.start/\a.start<a.ay
 mx:a.ay<=12
 len:a.aw.length<=100
 fit:∀e∈a.aw,e.fits a.ay=true
 SG:a.aw.Pairwise (fun x y=>Edge.lt x y=true)
theorem Edge.LP (x:Edge):Edge.lt x x=false:=by simp[Edge.lt]
theorem Edge.zm (x y z:Edge) (h1:Edge.lt x y=true) (h2:Edge.lt y z=true):Edge.lt x z=true:=by
 unfold Edge.lt at *
 by_cases a1:x.fr=y.fr<;>by_cases a2:y.fr=z.fr<;>by_cases b1:x.send=y.send<;>by_cases b2:y.send=z.send<;>simp_all<;>(try omega)
 all_goals (try (have:¬x.fr=z.fr:=by omega); simp_all; omega)
theorem Edge.B1 {x y:Edge}:qZ Edge.lt x y↔¬(x.fr=y.fr/\x.send=y.send/\x.label=y.label):=by
 unfold qZ Edge.lt
 by_cases a1:x.fr=y.fr
 .cases h1:x.send<;>cases h2:y.send<;>simp[a1]<;>omega
 .have:¬y.fr=x.fr:=fun h=>a1 h.symm
  simp[a1,this]
  omega
theorem B2 {n:Int}:∀{p:Option Edge} {l:List Edge},ta n p l=true->l.Pairwise (fun x y=>Edge.lt x y=true)/\∀q,p=some q->∀e∈l,Edge.lt q e=true
 |_,[],_=>⟨List.Pairwise.nil,fun _ _ e he=>absurd he (by simp)⟩
 |p,x::r,h=>by
  simp only[ta,Bool.and_eq_true]at h
  obtain⟨h1,h2⟩:=B2 h.2
  refine⟨VQ.2 ⟨h2 x rfl,h1⟩,fun q hq e he=>?_⟩
  subst hq
  have hx:Edge.lt q x=true:=h.1.2
  rcases V6.1 he with rfl|he
  .exact hx
  .exact Edge.zm _ _ _ hx (h2 x rfl e he)
theorem E1 {n:Int}:∀{p:Option Edge} {l:List Edge},l.Pairwise (fun x y=>Edge.lt x y=true)->(∀e∈l,e.fits n=true)->(∀q,p=some q->∀e∈l,Edge.lt q e=true)->ta n p l=true
 |_,[],_,_,_=>rfl
 |p,x::r,h1,h2,h3=>by
  obtain⟨g1,g2⟩:=VQ.1 h1
  simp only[ta,Bool.and_eq_true]
  refine⟨⟨h2 x (by simp),?_⟩,E1 g2 (fun e he=>h2 e (by simp[he])) fun q hq e he=>?_⟩
  .cases p with
   |none=>rfl
   |some q=>exact h3 q rfl x (by simp)
  .cases hq
   exact g1 e he
theorem bj.pG {a:bj}:a.err=0↔a.Good:=by
 unfold bj.err
 constructor
 .intro h
  split at h
  .cases h
  .split at h
   .split at h
    .rename_i h1 h2 h3
     exact⟨h2,by omega,by omega,yI h3,(B2 h3).1⟩
    .cases h
   .cases h
 .intro h
  have:=h.mx; have:=h.len
  rw[if_neg (by omega),if_pos h.st,if_pos (E1 h.SG h.fit (fun q hq=>by cases hq))]
theorem bj.Good.qZ {a:bj} (h:a.Good):a.aw.Pairwise (qZ Edge.lt):=h.SG.imp .inl
def outs (es:List Edge) (v:Int):List Int:=(es.filter fun e=>e.fr==v).map (·.to)
theorem zn {es:List Edge} {v x:Int}:x∈outs es v↔∃e∈es,e.fr=v/\e.to=x:=by simp[outs,and_assoc]
def bj.from (a:bj) (s:Int):List Int:=tw (outs a.aw) a.ay.toNat 0 [s]
def bj.order (a:bj):List Int:=a.from a.start
def bj.inr (a:bj) (v:Int):Prop:=0<=v/\v<a.ay
theorem bj.Good.B3 {a:bj} (h:a.Good):∀v,a.inr v->∀x∈outs a.aw v,a.inr x:=by
 intro v _ x hx
 obtain⟨e,he,_,rfl⟩:=zn.1 hx
 have:=ji.1 (h.fit e he)
 exact⟨this.2.2.1,this.2.2.2.1⟩
theorem bj.bound {a:bj}:∀o:List Int,o.Nodup->(∀v∈o,a.inr v)->o.length<=a.ay.toNat:=fun o hd ho=>qY hd fun x hx=>by
 have:=ho x hx
 unfold bj.inr at this
 omega
theorem bj.Good.zo {a:bj} (h:a.Good) {s v:Int} (hs:a.inr s):v∈a.from s↔N7 (outs a.aw) s v:=wZ h.B3 a.bound hs
theorem bj.AZ (a:bj) (s:Int):(a.from s).Nodup:=qo _ _ (by simp)
theorem bj.Good.GZ {a:bj} (h:a.Good) {s:Int} (hs:a.inr s):∀v∈a.from s,a.inr v:=rS h.B3 _ _ (by simpa using hs)
theorem bj.Good.pH {a:bj} (h:a.Good) {s:Int} (hs:a.inr s):(a.from s).length<=a.ay.toNat:=a.bound _ (a.AZ s) (h.GZ hs)
theorem bj.Good.xf {a:bj} (h:a.Good) {e:Edge} (he:e∈a.aw) (hf:e.fr∈a.order):e.to∈a.order:=(h.zo h.st).2 (.step ((h.zo h.st).1 hf) (zn.2 ⟨e,he,rfl,rfl⟩))
theorem bj.A1 (a:bj):∃r,a.order=a.start::r:=by
 obtain⟨t,ht⟩:=wY (nx:=outs a.aw) a.ay.toNat 0 [a.start]
 exact⟨t,ht.symm⟩
theorem tR {x:Int}:∀{l:List Int} {k:Nat},x∈l->∃j,eS x k l=((k+j:Nat):Int)/\l[j]?=some x
 |[],_,h=>absurd h (by simp)
 |y::r,k,h=>by
  unfold eS
  split
  .rename_i hy
   exact⟨0,rfl,by simp[hy]⟩
  .rename_i hy
   rcases V6.1 h with rfl|h
   .exact(hy rfl).elim
   .obtain⟨j,h1,h2⟩:=tR (k:=k+1) h
    exact⟨j+1,by rw[h1]; omega,by simpa using h2⟩
theorem xg {x:Int} {l:List Int} (h:x∈l):∃j:Nat,px x l=(j:Int)/\l[j]?=some x:=by
 obtain⟨j,h1,h2⟩:=tR (k:=0) h
 exact⟨j,by unfold px; rw[h1,WY],h2⟩
theorem G0 {x y:Int} {l:List Int} (hx:x∈l) (hy:y∈l) (h:px x l=px y l):x=y:=by
 obtain⟨i,h1,h2⟩:=xg hx
 obtain⟨j,g1,g2⟩:=xg hy
 rw[h1,g1]at h
 have:i=j:=by omega
 subst this
 rw[h2]at g2
 exact Option.some.inj g2
theorem vT {x:Int} {l:List Int} (hx:x∈l):0<=px x l/\px x l<l.length:=by
 obtain⟨i,h1,h2⟩:=xg hx
 have:=(Vy.1 h2).1
 omega
def Edge.LQ (o:List Int) (e:Edge):Edge:=⟨px e.fr o,e.send,e.label,px e.to o⟩
def kept (o:List Int) (es:List Edge):List Edge:=(es.filter fun e=>decide (e.fr∈o)).map (Edge.LQ o)
def bj.trim (a:bj):bj:=⟨a.order.length,0,ct Edge.lt (kept a.order a.aw)⟩
theorem E2 {o:List Int} {es:List Edge} {x:Edge}:x∈kept o es↔∃e∈es,e.fr∈o/\e.LQ o=x:=by simp[kept,and_assoc]
theorem tS {o:List Int} {es:List Edge} (h:es.Pairwise (qZ Edge.lt)):(kept o es).Pairwise (qZ Edge.lt):=by
 unfold kept
 rw[List.pairwise_map]
 have h2:=h.filter (fun e=>decide (e.fr∈o))
 refine List.Pairwise.imp_of_mem (fun {x y} hx hy hxy=>?_) h2
 have hx':=(List.mem_filter.1 hx).2
 have hy':=(List.mem_filter.1 hy).2
 simp only[decide_eq_true_eq]at hx' hy'
 rw[Edge.B1]at hxy |-
 exact fun⟨e1,e2,e3⟩=>hxy ⟨G0 hx' hy' e1,e2,e3⟩
theorem bj.E3 {a:bj} {x:Edge}:x∈a.trim.aw↔∃e∈a.aw,e.fr∈a.order/\e.LQ a.order=x:=by
 show x∈ct _ _↔_
 rw[(bJ _ _).mem_iff,E2]
theorem bj.Good.trim {a:bj} (h:a.Good):a.trim.Good where
 st:=by
  obtain⟨r,hr⟩:=a.A1
  show (0:Int)<=0/\(0:Int)<(a.order.length:Int)
  rw[hr]
  simp
 mx:=by
  have:=h.pH h.st
  have:=h.mx
  show (a.order.length:Int)<=12
  unfold bj.order
  omega
 len:=by
  show (ct _ (kept _ _)).length<=100
  rw[(bJ _ _).length_eq]
  have:=Xk (fun e:Edge=>decide (e.fr∈a.order)) a.aw
  have:=h.len
  simp only[kept,List.length_map]
  omega
 fit x hx:=by
  obtain⟨e,he,hf,rfl⟩:=bj.E3.1 hx
  have:=ji.1 (h.fit e he)
  have h1:=vT hf
  have h2:=vT (h.xf he hf)
  rw[ji]
  show 0<=px e.fr a.order/\px e.fr a.order<(a.order.length:Int)/\0<=px e.to a.order/\px e.to a.order<(a.order.length:Int)/\_
  exact⟨h1.1,h1.2,h2.1,h2.2,this.2.2.2.2⟩
 SG:=pw Edge.zm (tS h.qZ)
def bj.proper (a:bj):Bool:=a.order.all fun v=>(a.from v).any fun w=>EO w a.aw
theorem C9 {α:Type} {a b:List α} {k:Nat} {x y:α} (hx:a[k]?=some x) (hy:b[k]?=some y) (h:a.take k=b.take k) (e:x=y):a.take (k+1)=b.take (k+1):=by
 rw[VT,VT,hx,hy,h,e]
theorem Da {α:Type} {a b:List α} {k:Nat} (ha:a.length<=k) (hb:b.length<=k) (h:a.take k=b.take k):a=b:=by
 rwa [VS ha,VS hb]at h
@[go_sem] theorem LR (l:List Edge) (f:Int) (d:Bool) (x t:Int):cB l++[[.int .i64 f,.bool d,.int .i64 x,.int .i64 t]]=cB (l++[⟨f,d,x,t⟩]):=by simp[cB,Edge.c]
theorem E4 (e:Edge):(⟨e.fr,e.send,e.label,e.to⟩:Edge)=e:=rfl
@[go_sem] theorem LS {id row aq:Nat} {f x t:Int} {d:Bool} {l:List Edge} (h1:row<l.length):dC id row 0 [.pv (.int .i64 f),.pv (.bool d),.pv (.int .i64 x),.pv (.int .i64 t)] ⟨aq,4,.inl (cB l)⟩=some { ar:=some (id,⟨aq,4,.inl (cB (l.set row ⟨f,d,x,t⟩))⟩) }:=by
 rw[iD (l:=[.int .i64 f,.bool d,.int .i64 x,.int .i64 t]) (by rw[cb]; exact h1) rfl (by simp) rfl]
 have:over row 0 [.int .i64 f,.bool d,.int .i64 x,.int .i64 t] (cB l)=cB (l.set row ⟨f,d,x,t⟩):=by
  unfold over cB
  rw[List.map_set]
  congr 1
  obtain⟨e,he⟩:∃e,l[row]?=some e:=⟨l[row],by simp[h1]⟩
  simp[he,Edge.c]
 rw[this]
set_option maxHeartbeats 2000000 in
@[go_sem] theorem r43 (t:Nat) (a:bj) (hl:a.aw.length<=2000000000):
  res A az 43 [.agg [.int .i64 a.ay,.int .i64 a.start,.aa t (a.aw.map Edge.c)]]=some [.agg [.int .i64 a.ay,.int .i64 a.start,.aa 0 (cB (mn Edge.lt a.aw))]]:=by
 refine ai a43 rfl rfl ?_
 simp only[F43,To]
 simp(disch:=omega)only[go_sem]
 refine W.fold a.aw (fun o x=>uJ Edge.lt x o) [] (fun k o=>⟨[(1,.ptr 1 0),(2,.ptr 2 0),(3,.ptr 3 0),(4,.pv (.int .i64 k))],⟨[(1,[.pv (.int .i64 a.ay),.pv (.int .i64 a.start),.pv (.aa t (a.aw.map Edge.c))]),(2,[.pv (.int .i64 0),.pv (.int .i64 0),.tl []]),(3,[.pv (.int .i64 a.ay),.pv (.int .i64 a.start),cY 0 (cB o)])],cm 4 (cB o),[]⟩⟩) (fun k o=>o.length=k) rfl rfl (fun k e o he hk _ hi=>?_) (fun o ho hi=>?_)
 .simp(disch:=omega)only[go_sem]
  refine Br.aD (fun h=>?_) (fun h=>(h (by omega)).elim)
  simp(disch:=omega)only[go_sem,he]
  have hlen:(cB (o++[e])).length=o.length+1:=by simp[cB]
  refine W.cD o.length (fun j=>⟨[(1,.ptr 1 0),(2,.ptr 2 0),(3,.ptr 3 0),(4,.pv (.int .i64 k)),(5,.pv (.int .i64 (o.length - j:Nat)))],⟨[(1,[.pv (.int .i64 a.ay),.pv (.int .i64 a.start),.pv (.aa t (a.aw.map Edge.c))]),(2,[.pv (.int .i64 0),.pv (.int .i64 0),.tl []]),(3,[.pv (.int .i64 a.ay),.pv (.int .i64 a.start),.own 0 o.length 0 (o.length+1)])],[⟨o.length,4,.inl (cB (lB e o (o.length - j)))⟩],[]⟩⟩)
   (fun j=>vD Edge.lt e o o.length=vD Edge.lt e o (o.length - j)) ?_ rfl fun j hj hq=>?_
  .rw[pg hlen,kR hlen,show (((o.length+1:Nat):Int) - 1)=((o.length - 0:Nat):Int) by omega]
   simp[lB]
  have hpl:=tG e o (o.length - j) (by omega)
  have hp0:=BS e o (o.length - j) (by omega)
  simp(disch:=omega)only[go_sem]
  have fin:vD Edge.lt e o o.length=o.length - j->uJ Edge.lt e o=lB e o (o.length - j):=fun hb=>by unfold uJ; rw[hb]
  refine Br.aD (fun f1=>?_) (fun f1=>?_)
  .obtain⟨p,hp⟩:∃p,o.length - j=p+1:=⟨o.length - j - 1,by omega⟩
   have hpb:=AS e o p (by omega)
   have hpd:=CV e o p (by omega)
   have e1:((p+1:Nat):Int) - 1=(p:Int):=by omega
   have e2:o.length - (j+1)=p:=by omega
   rw[hp]at hq hpl hp0 fin
   have f2:(0:Int)<((p+1:Nat):Int):=by omega
   have hpl2:((lB e o (p+1)).set (p+1) (o.getD p default)).length=o.length+1:=by rw[WG]; exact hpl
   simp(disch:=omega)only[go_sem,hp,hp0,f2,e1,hpb]
   refine Br.of (fun f3=>?_) (fun f3=>?_)<;>simp(disch:=omega)only[go_sem,f3,hp0,e1,hpb,hpd,E4]
   .refine .of (by omega) ?_ ?_
    .show _=St.mk _ _
     rw[e2]
    .rw[hq,e2]
     simp only[vD,f3,if_true]
   .refine cI.of ?_ ?_
    .show _=St.mk _ _
     rw[fin (by rw[hq]; simp only[vD,f3,Bool.false_eq_true,if_false]),pg (by rw[cb]; exact hpl),kR (by rw[cb]; exact hpl)]
     rfl
    .rw[y5]
     omega
  .have h0:o.length - j=0:=by omega
   simp(disch:=omega)only[go_sem,f1]
   rw[h0]at hq hpl hp0 fin |-
   refine cI.of ?_ ?_
   .show _=St.mk _ _
    rw[fin hq,pg (by rw[cb]; exact hpl),kR (by rw[cb]; exact hpl)]
    rfl
   .rw[y5]
    omega
 .simp(disch:=omega)only[go_sem]
  rw[ho]
  rfl
theorem fold_filter {α β:Type} (p:α->Bool) (f:α->β):∀(l:List α) (o:List β),l.foldl (fun o x=>if p x=true then o++[f x] else o) o=o++(l.filter p).map f
 |[],o=>by simp
 |x::l,o=>by
  rw[Wy,fold_filter p f l]
  by_cases h:p x=true<;>simp[h]
@[go_sem] theorem r43e (t:Nat) (n s:Int) (l:List Edge) (hl:l.length<=2000000000):res A az 43 [.agg [.int .i64 n,.int .i64 s,.aa t (cB l)]]=some [.agg [.int .i64 n,.int .i64 s,.aa 0 (cB (mn Edge.lt l))]]:=r43 t ⟨n,s,l⟩ hl
theorem E5 (l:List Edge):aA Edge.dec (cB l)=some l:=by
 induction l with
 |nil=>rfl
 |cons x l ih=>
  show aA Edge.dec (x.c::cB l)=_
  have:Edge.dec x.c=some x:=rfl
  simp only[aA,this,ih]
theorem A2 {h:af} {id aq n:Nat} {l:List Edge} (hn:n=l.length) (ho:aF h id aq=some ⟨aq,4,.inl (cB l)⟩) (h0:l.length≠0) (hm:l.length<=2147483648) (hap:l.Pairwise (qZ Edge.lt)):
  j7 4 (gR Edge.c Edge.dec Edge.lt) 47 [.own id aq 0 n,.func 47 []] h=some (.dH [],{ ar:=some (id,⟨aq,4,.inl (cB (ct Edge.lt l))⟩) }):=by
 subst hn
 have e1:(cB l).length=l.length:=cb l
 have hr:=vG (pw Edge.zm hap)
 simp[j7,ho,h0,e1,aT,hm,gR,E5,hr,List.take_of_length_le (Nat.le_of_eq e1),List.drop_eq_nil_of_le (Nat.le_of_eq e1)]
 rfl
end Go.Pv
