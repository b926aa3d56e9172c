/-
 What the functions of the law give.
-/
import Derived.Test.YtpchfogcccagjaaGreatC1
set_option linter.unusedSimpArgs false
set_option linter.unusedVariables false
open List renaming getElem?_eq_some_iff → Pg, mem_of_getElem? → Ph, getElem?_eq_getElem → Pj, mem_iff_getElem? → Pk, length_map → Pm, getElem?_map → Pn, length_take → Pt, getElem?_take → Pw, take_of_length_le → Py, mem_map → PB, eq_nil_of_length_eq_zero → PC, take_add_one → PF, length_range → PL, mem_cons_self → PN, getElem?_eq_none → PS, findIdx?_eq_some_iff_getElem → PT, take_length → PU, ext_getElem? → PW, any_eq_false → P0, map_append → P6, any_map → Qe, map_take → Qf, getElem?_zip_eq_some → Ql, any_eq_true → Qs
open Nat renaming lt_or_ge → Po, zero_le → Qn
open Array renaming getElem?_toList → Px, getElem?_eq_getElem → Qy, length_toList → Qz
open Option renaming map_eq_some_iff → PQ
open Bool renaming eq_iff_iff → PY, true_and → Qo, false_and → Qt, and_eq_false_iff → QI
open Int renaming toNat_natCast → P9, eq_ofNat_of_zero_le → Qp, le_refl → QK
namespace Go.Pv
theorem i6 {rec:Int→List PV→Bool} {x:aF} {v:dC} (hr:v.rest=[]) (hz:nD v=true):(nD { v with rest:=[] }&&(v.rest.isEmpty&&jY rec x { v with rest:=[] }))=jY rec x v:=by
 rw[show ({ v with rest:=[] }:dC)=v by rw[← hr],hz,hr]
 rfl
theorem uI {rec:Int→List PV→Bool} {x:aF} {v:dC} {a:Raw} {b:List Raw} (hr:v.rest=a::b):(nD { v with rest:=[] }&&(v.rest.isEmpty&&jY rec x { v with rest:=[] }))=false:=by
 rw[hr]
 simp
set_option maxHeartbeats 4000000 in
theorem r503 (u:Nat) (T:List aF) (hT:Jk T):∀(n:Nat) (t:Int) (cs:List PV),jq n cs→fZ t→res A az 503 [.agg [.ae u (T.map aF.c)],.int .i64 t,.agg cs,.bool true]=some [.bool (fi T n t cs)]
 |0,_,_,h,_=>h.elim
 |n+1,t,cs,h,ht=>by
  obtain⟨v,rfl,⟨h1,h2,h3,h4⟩,⟨h5,h6,h7⟩,h8,h9,h10⟩:=h
  have ih:=r503 u T hT n
  rw[wz]
  obtain⟨ht1,ht2⟩:=ht
  have hTl:=hT.1
  refine aq a503 rfl rfl ?_
  simp only[F503]; try delta sS tT zZ nN gG bB pZ
  unfold dC.c
  by_cases c0:t<0
  ·rw[if_pos c0]
   have e0:decide (t<0)=true:=decide_eq_true c0
   simp(disch:=omega)only[go_sem,e0]
  ·rw[if_neg c0]
   have e0:decide (t<0)=false:=decide_eq_false c0
   obtain⟨k,rfl⟩:=Qp (by omega:0≤t)
   rw[P9]
   by_cases c1:(T.length:Int)≤k
   ·rw[PS (by omega)]
    have e1:decide ((T.length:Int)≤k)=true:=decide_eq_true c1
    simp(disch:=omega)only[go_sem,e0,e1]
   ·obtain⟨x,hx⟩:=get_some (l:=T) (k:=k) (by omega)
    have e1:decide ((T.length:Int)≤k)=false:=decide_eq_false c1
    have hxm:=Ph hx
    have hk:=hT.2.2 x hxm
    rw[hx]
    dsimp only
    by_cases ck:v.kind=x.kind
    ·have e2:decide (v.kind=x.kind)=true:=decide_eq_true ck
     have h510:=r510 v (by omega) ⟨h5,h6,h7⟩
     rw[e2,Qo]
     cases hz:nD v with
     |false=>
      rw[hz]at h510
      have:(nD { v with rest:=[] }&&(v.rest.isEmpty&&jY (fi T n) x { v with rest:=[] }))=false:=by
       cases hr:v.rest with
       |nil=>rw[show ({ v with rest:=[] }:dC)=v by rw[← hr],hz]; rfl
       |cons a b=>simp
      rw[this]
      simp only[dC.c]at h510
      simp(disch:=omega)only[go_sem,e0,e1,e2,hx,Option.map_some,aF.c,h510]
     |true=>
      rw[hz]at h510
      simp only[dC.c]at h510
      have hrest:¬(v.kind=5∨v.kind=6)→v.rest=[]:=fun hn=>by
       unfold nD at hz
       have:=(of_decide_eq_true hz).2.2.2.2.2.2
       rcases this with h|h|h
       ·exact absurd (.inl h) hn
       ·exact absurd (.inr h) hn
       ·exact h
      have hrc:v.rest=[]∨∃a b,v.rest=a::b:=by
       cases v.rest with
       |nil=>exact .inl rfl
       |cons a b=>exact .inr ⟨a,b,rfl⟩
      have hxo:=hT.2.1 x hxm
      obtain⟨⟨x1,x2,x3,x4,x5,x6,x7⟩,⟨x8,x9⟩,x10,x11⟩:=hxo
      have h392:=r392 x v.id x8
      have h281:=r281 x v.id x9
      obtain⟨kind,name,low,high,max,syms,aM,key,elem,pc⟩:=x
      have h512:∀(e:Int) (l:List (List PV)),fZ e→cu l→(∀r∈l,jq n r)→res A az 512 [.agg [.ae u (T.map aF.c)],.int .i64 e,.ae 0 l,.bool true]=some [.bool (l.all (fi T n e))]:=fun e l he hl hv=>r512 u 0 _ e l (fi T n e) hl (fun r hr=>(hv r hr).val) (fun r hr=>ih e r (hv r hr) he)
      dsimp only at *
      have hk5:=h512 key v.keys x6 h5 h8
      have he6:=h512 elem v.items x7 h6 h9
      simp only[aF.c]at h392 h281
      rcases nine hk with rfl|rfl|rfl|rfl|rfl|rfl|rfl|rfl|rfl
      ·have hr:=hrest (by omega)
       rw[i6 hr hz]
       rw[hr]at h510
       simp only[List.map_nil]at h510
       unfold jY
       dsimp only
       simp(disch:=omega)only[go_sem,e0,e1,e2,hx,Option.map_some,aF.c,h510,decide_true,decide_false,Int.reduceEq,if_true,if_false,hr,List.map_nil]
      ·have hr:=hrest (by omega)
       rw[i6 hr hz]
       rw[hr]at h510
       simp only[List.map_nil]at h510
       unfold jY
       dsimp only
       simp(disch:=omega)only[go_sem,e0,e1,e2,hx,Option.map_some,aF.c,h510,decide_true,decide_false,Int.reduceEq,if_true,if_false,hr,List.map_nil]
       refine Br.aG (fun c=>?_) (fun c=>?_)<;>simp(disch:=omega)only[go_sem,c,decide_true,decide_false,Bool.true_and,Bool.false_and]
      ·have hr:=hrest (by omega)
       rw[i6 hr hz]
       rw[hr]at h510
       simp only[List.map_nil]at h510
       unfold jY
       dsimp only
       simp(disch:=omega)only[go_sem,e0,e1,e2,hx,Option.map_some,aF.c,h510,decide_true,decide_false,Int.reduceEq,if_true,if_false,hr,List.map_nil]
      ·have hr:=hrest (by omega)
       rw[i6 hr hz]
       rw[hr]at h510
       simp only[List.map_nil]at h510
       unfold jY
       dsimp only
       simp(disch:=omega)only[go_sem,e0,e1,e2,hx,Option.map_some,aF.c,h510,decide_true,decide_false,Int.reduceEq,if_true,if_false,hr,List.map_nil,h392]
       refine Br.aG (fun c=>?_) (fun c=>?_)<;>simp(disch:=omega)only[go_sem,c,decide_true,decide_false]
       cases pc<;>simp(disch:=omega)only[go_sem,c,decide_false]
      ·simp(disch:=omega)only[go_sem,e0,e1,e2,hx,Option.map_some,aF.c,h510,decide_true,decide_false,Int.reduceEq,if_true,if_false]
       rcases hrc with hr|⟨a,b,hr⟩
       ·rw[i6 hr hz]
        unfold jY
        simp only[Int.reduceEq,if_true,if_false]
        rw[hr]
        refine Br.aG (fun c=>?_) (fun c=>?_)<;>simp(disch:=omega)only[go_sem,c,decide_true,decide_false,Bool.true_and,Bool.false_and,List.map_nil]
        ·refine Br.aG (fun c=>absurd c (by decide)) (fun _=>?_)
         simp(disch:=omega)only[go_sem,List.map_nil,List.length_nil]
         refine W.dD 0 (fun k=>⟨[(3,.pv (.bool true)),(4,.ptr 4 0),(6,.ptr 6 0),(9,.ptr 9 0),(111,.pv (.ae 0 [])),(112,.pv (.int .i64 0)),(113,.pv (.int .i64 k))],⟨[(4,[.pv (.ae u (T.map aF.c))]),(6,[.pv (.int .i64 v.kind),.pv (.bool v.bool),.pv (.int .i64 v.int),.pv (.str v.str),.pv (.int .i64 v.id),.pv (.ae 0 v.keys),.pv (.ae 0 v.items),.pv (.ae 0 [])]),(9,[.pv (.int .i64 5),.pv (.str name),.pv (.int .i64 low),.pv (.int .i64 high),.pv (.int .i64 max),.pv (.ae 0 (syms.map Sym.c)),.pv (.ae 0 (aM.map Mem.c)),.pv (.int .i64 key),.pv (.int .i64 elem),.pv (.bool pc)])],[],[]⟩⟩) (fun _=>True) rfl trivial fun k hk _=>?_
         simp(disch:=omega)only[go_sem]
         refine Br.aG (fun c=>absurd c (by omega)) (fun _=>?_)
         simp(disch:=omega)only[go_sem]
         have hml:aM.length=v.items.length:=by omega
         have x9':aM.length≤9223372036854775807:=x9
         rw[decide_eq_true hml.symm,Qo]
         refine W.find (aM.zip v.items) (fun q=>!fi T n q.1.type q.2) (fun k=>⟨[(3,.pv (.bool true)),(4,.ptr 4 0),(6,.ptr 6 0),(150,.pv (.ae 0 (aM.map Mem.c))),(151,.pv (.int .i64 aM.length)),(152,.pv (.int .i64 k))],⟨[(4,[.pv (.ae u (T.map aF.c))]),(6,[.pv (.int .i64 v.kind),.pv (.bool v.bool),.pv (.int .i64 v.int),.pv (.str v.str),.pv (.int .i64 v.id),.pv (.ae 0 v.keys),.pv (.ae 0 v.items),.pv (.ae 0 [])])],[],[]⟩⟩) rfl (fun k q hq hk hfd=>?_) (fun hn=>?_)
         ·obtain⟨g1,g2⟩:=nF hq
          rw[nG hml]at hk
          have hm:=x11 q.1 (Ph g1)
          have hv:=h9 q.2 (Ph g2)
          have hc:=ih q.1.type q.2 hv hm.2.2.1
          have hfd:=fun g=>(hfd g).all
          rw[iZ]at hfd
          generalize fi T n q.1.type q.2=e at hc hfd ⊢
          obtain⟨w,hw⟩:=hv.val
          rw[hw]at hc g2
          unfold dC.c at hc g2
          simp(disch:=omega)only[go_sem]
          refine Br.aG (fun c=>?_) (fun c=>(c (by omega)).elim)
          simp(disch:=omega)only[go_sem,g1,g2,Option.map_some,Mem.c,hc]
          refine Br.of (fun g=>?_) (fun g=>?_)<;>simp(disch:=omega)only[go_sem]
          ·exact aR.of (by rw[g]; rfl) rfl
          ·rw[hfd (by rw[g]; rfl)]
         ·have hn:=hn.all
          rw[iZ]at hn
          rw[nG hml,hn]
          simp(disch:=omega)only[go_sem,hml]
        ·have:decide (v.items.length=aM.length)=false:=decide_eq_false (fun e=>c (by rw[e]))
         rw[this,Qt]
       ·rw[uI hr]
        rw[hr]
        refine Br.aG (fun c=>?_) (fun c=>?_)<;>simp(disch:=omega)only[go_sem,c,List.map_cons]
        refine Br.aG (fun c=>?_) (fun c=>absurd (by omega) c)
        simp(disch:=omega)only[go_sem]
      ·simp(disch:=omega)only[go_sem,e0,e1,e2,hx,Option.map_some,aF.c,h510,decide_true,decide_false,Int.reduceEq,if_true,if_false,h281]
       rcases jZ (pU v.id) aM with⟨f1,f2⟩|⟨k,m,f1,f2,f3⟩
       ·simp(disch:=omega)only[go_sem,f2]
        have:jY (fi T n) ⟨6,name,low,high,max,syms,aM,key,elem,pc⟩ v=false:=by
         unfold jY
         simp only[f1,Int.reduceEq,if_true,if_false]
        rcases hrc with hr|⟨a,b,hr⟩
        ·rw[i6 hr hz,this]
         cases pc<;>simp(disch:=omega)only[go_sem,f2]
        ·rw[uI hr]
         cases pc<;>simp(disch:=omega)only[go_sem,f2]
       ·have d0:decide ((0:Int)≤(k:Int))=true:=by simp
        have d1:Max.max (k:Int) 0=(k:Int):=by omega
        simp(disch:=omega)only[go_sem,f2,f3,d0,d1]
        rcases hrc with hr|⟨a,b,hr⟩
        ·rw[i6 hr hz]
         unfold jY
         simp only[Int.reduceEq,if_true,if_false]
         rw[f1,hr]
         cases hi:v.items with
         |nil=>
          rw[hi]at h6
          have e7:decide (((0:Nat):Int)=1)=false:=rfl
          simp(disch:=omega)only[go_sem,List.map_nil,List.length_nil,e7]
         |cons r rs=>
          cases rs with
          |cons r2 rs2=>
           have e7:decide (((rs2.length+1+1:Nat):Int)=1)=false:=decide_eq_false (by omega)
           simp(disch:=omega)only[go_sem,List.map_nil,List.length_cons,e7]
          |nil=>
           have hv:=h9 r (by rw[hi]; exact PN)
           have hm:=x11 m (Ph f2)
           have hc:=ih m.type r hv hm.2.2.1
           obtain⟨w,hw⟩:=hv.val
           dsimp only
           generalize fi T n m.type r=e at hc ⊢
           rw[hw]at hc ⊢
           unfold dC.c at hc ⊢
           have e7:decide (((0+1:Nat):Int)=1)=true:=rfl
           have e8:decide (((0:Nat):Int)=0)=true:=rfl
           simp(disch:=omega)only[go_sem,f2,Option.map_some,Mem.c,hc,List.map_nil,List.length_cons,List.length_nil,e7,e8,Lu]
        ·rw[uI hr]
         have e8:decide (((b.length+1:Nat):Int)=0)=false:=decide_eq_false (by omega)
         rw[hr]
         refine Br.aG (fun c=>?_) (fun c=>?_)<;>simp(disch:=omega)only[go_sem,c,List.map_cons,List.length_cons,List.length_map,e8]
      ·have hr:=hrest (by omega)
       rw[i6 hr hz]
       rw[hr]at h510
       simp only[List.map_nil]at h510
       unfold jY
       dsimp only
       simp(disch:=omega)only[go_sem,e0,e1,e2,hx,Option.map_some,aF.c,h510,decide_true,decide_false,Int.reduceEq,if_true,if_false,hr,List.map_nil]
       refine Br.aG (fun c=>?_) (fun c=>?_)<;>simp(disch:=omega)only[go_sem,c,decide_true,decide_false,Bool.true_and,Bool.false_and,he6]
      ·have hr:=hrest (by omega)
       rw[i6 hr hz]
       rw[hr]at h510
       simp only[List.map_nil]at h510
       unfold jY
       dsimp only
       simp(disch:=omega)only[go_sem,e0,e1,e2,hx,Option.map_some,aF.c,h510,decide_true,decide_false,Int.reduceEq,if_true,if_false,hr,List.map_nil]
       refine Br.aG (fun c=>?_) (fun c=>?_)
       ·rw[show decide ((v.keys.length:Int)≤max)=false from decide_eq_false (by omega),Qt]
        simp(disch:=omega)only[go_sem,c,decide_true,decide_false]
       ·rw[show decide ((v.keys.length:Int)≤max)=true from decide_eq_true (by omega),Qo]
        simp(disch:=omega)only[go_sem,c,decide_true,decide_false]
        refine Br.aG (fun d=>?_) (fun d=>?_)
        ·rw[show decide (v.items.length=v.keys.length)=true from decide_eq_true (by omega),Qo]
         generalize v.keys.all (fi T n key)=p at hk5 ⊢
         generalize v.items.all (fi T n elem)=q at he6 ⊢
         simp(disch:=omega)only[go_sem,d,decide_true,decide_false,hk5]
         cases p
         ·simp(disch:=omega)only[go_sem]
         ·simp(disch:=omega)only[go_sem]
          have h5':v.keys.length≤9223372036854775807:=h5
          rw[Qo]
          refine W.find (v.keys.zip v.keys.tail) (fun q=>!decide (El q.1 q.2<0)) (fun k=>⟨[(3,.pv (.bool true)),(4,.ptr 4 0),(6,.ptr 6 0),(9,.ptr 9 0),(20,.pv (.int .i64 (((k+1:Nat)):Int)))],⟨[(4,[.pv (.ae u (T.map aF.c))]),(6,[.pv (.int .i64 v.kind),.pv (.bool v.bool),.pv (.int .i64 v.int),.pv (.str v.str),.pv (.int .i64 v.id),.pv (.ae 0 v.keys),.pv (.ae 0 v.items),.pv (.ae 0 [])]),(9,[.pv (.int .i64 8),.pv (.str name),.pv (.int .i64 low),.pv (.int .i64 high),.pv (.int .i64 max),.pv (.ae 0 (syms.map Sym.c)),.pv (.ae 0 (aM.map Mem.c)),.pv (.int .i64 key),.pv (.int .i64 elem),.pv (.bool pc)])],[],[]⟩⟩) rfl (fun k q hq hk hfd=>?_) (fun hn=>?_)
          ·obtain⟨g1,g2⟩:=nF hq
           rw[List.getElem?_tail]at g2
           have hk2:k+1<v.keys.length:=(Pg.1 g2).1
           have e3:(((k+1:Nat):Int)) - 1=(k:Int):=by omega
           simp(disch:=omega)only[go_sem]
           refine Br.aG (fun c=>?_) (fun c=>(c (by omega)).elim)
           have hv1:=h8 q.1 (Ph g1)
           have hv2:=h8 q.2 (Ph g2)
           obtain⟨w1,hw1⟩:=hv1.val
           obtain⟨w2,hw2⟩:=hv2.val
           have i1:=(hw1 ▸ hv1:jq n w1.c).is
           have i2:=(hw2 ▸ hv2:jq n w2.c).is
           have h513:=r513 w1 w2 i1.1 i2.1 i1.2 i2.2
           rw[hw1]at g1 hfd
           rw[hw2]at g2 hfd
           rw[hw1,hw2]
           have hfd:=fun g=>(hfd g).all
           rw[iZ,nE]at hfd
           rw[nE]
           generalize kT w1 w2=e at h513 hfd ⊢
           unfold dC.c at h513 g1 g2
           simp(disch:=omega)only[go_sem,e3,g1,g2,h513]
           refine Br.aG (fun g=>?_) (fun g=>?_)<;>simp(disch:=omega)only[go_sem]
           ·have:=hfd (by simp; omega)
            rw[show Cq v.keys=false from this,Bool.and_false]
           ·exact aR.of (by simp; omega) rfl
          ·have:=hn.all
           rw[iZ]at this
           rw[show Cq v.keys=true from this,nH,Bool.and_true]
           simp(disch:=omega)only[go_sem]
           refine Br.aG (fun c=>absurd c (by omega)) (fun c=>?_)
           simp(disch:=omega)only[go_sem,he6]
        ·rw[show decide (v.items.length=v.keys.length)=false from decide_eq_false (by omega),Qt]
         simp(disch:=omega)only[go_sem,d,decide_true,decide_false]
      ·have hr:=hrest (by omega)
       rw[i6 hr hz]
       rw[hr]at h510
       simp only[List.map_nil]at h510
       unfold jY
       dsimp only
       simp(disch:=omega)only[go_sem,e0,e1,e2,hx,Option.map_some,aF.c,h510,decide_true,decide_false,Int.reduceEq,if_true,if_false,hr,List.map_nil]
       refine Br.aG (fun c=>?_) (fun c=>?_)<;>simp(disch:=omega)only[go_sem,c,decide_true,decide_false,Bool.true_and,Bool.false_and,he6]
    ·have e2:decide (v.kind=x.kind)=false:=decide_eq_false ck
     rw[e2]
     simp(disch:=omega)only[go_sem,e0,e1,e2,hx,Option.map_some,aF.c]
end Go.Pv
namespace Go.Pv
def sA (x:Int):Bool:=decide (x=95)||(decide (97≤x)&&decide (x≤122))||(decide (65≤x)&&decide (x≤90))
def uJ (x:Int):Bool:=decide (48≤x)&&decide (x≤57)
theorem wA {p:Bool} (h:p=true):(some [PV.bool true]:Option (List PV))=some [PV.bool p]:=by rw[h]
theorem fT {p:Bool} (h:p=false):(some [PV.bool false]:Option (List PV))=some [PV.bool p]:=by rw[h]
@[go_sem] theorem r323 (x:Int):res A az 323 [.int .u8 x]=some [.bool (sA x)]:=by
 refine aq a323 rfl rfl ?_
 simp only[F323]; try delta sS tT zZ nN gG bB pZ
 simp(disch:=omega)only[go_sem]
 unfold sA
 repeat' (refine Br.aG (fun h=>?_) (fun h=>?_)<;>simp(disch:=omega)only[go_sem,h])
 all_goals (congr 3; rw[Bool.eq_iff_iff]; simp; omega)
@[go_sem] theorem r324 (x:Int):res A az 324 [.int .u8 x]=some [.bool (uJ x)]:=by
 refine aq a324 rfl rfl ?_
 simp only[F324]; try delta sS tT zZ nN gG bB pZ
 simp(disch:=omega)only[go_sem]
 unfold uJ
 repeat' (refine Br.aG (fun h=>?_) (fun h=>?_)<;>simp(disch:=omega)only[go_sem,h])
 all_goals (congr 3; rw[Bool.eq_iff_iff]; simp; omega)
@[go_sem] theorem r327 (x:Int):res A az 327 [.int .u8 x]=some [.bool (sA x)]:=by
 refine aq a327 rfl rfl ?_
 simp only[F327]; try delta sS tT zZ nN gG bB pZ
 simp(disch:=omega)only[go_sem]
 unfold sA
 repeat' (refine Br.aG (fun h=>?_) (fun h=>?_)<;>simp(disch:=omega)only[go_sem,h])
 all_goals (congr 3; rw[Bool.eq_iff_iff]; simp; omega)
@[go_sem] theorem r328 (x:Int):res A az 328 [.int .u8 x]=some [.bool (uJ x)]:=by
 refine aq a328 rfl rfl ?_
 simp only[F328]; try delta sS tT zZ nN gG bB pZ
 simp(disch:=omega)only[go_sem]
 unfold uJ
 repeat' (refine Br.aG (fun h=>?_) (fun h=>?_)<;>simp(disch:=omega)only[go_sem,h])
 all_goals (congr 3; rw[Bool.eq_iff_iff]; simp; omega)
def i7 (s:ByteArray):List Int:=s.data.toList.map fun b=>(b.toNat:Int)
theorem mm (s:ByteArray):(i7 s).length=s.size:=by
 show (s.data.toList.map _).length=s.data.size
 rw[Pm,Qz]
theorem uK {s:ByteArray} {i:Int} {x:Int} (h0:0≤i) (h:(i7 s)[i.toNat]?=some x):DX (some i) (.pv (.str s))=some (.pv (.int .u8 x)):=by
 have hlt:=(Pg.1 h).1
 rw[mm]at hlt
 have h1:s[i.toNat]?=some (s[i.toNat]'hlt):=getElem?_pos s i.toNat hlt
 simp only[DX,uD h0 (show i<(s.size:Int) by omega),h1]
 simp only[i7,List.getElem?_map]at h
 have h2:s.data.toList[i.toNat]?=some (s[i.toNat]'hlt):=by
  rw[Px]
  exact Qy hlt
 rw[h2]at h
 simp only[Option.map_some,Option.some.injEq]at h
 rw[h]
def kU:List Int→Bool
 |[]=>false
 |x::r=>decide ((x::r).length≤24)&&sA x&&!(x::r).any fun y=>!sA y&&!uJ y
def isName (s:ByteArray):Bool:=kU (i7 s)
theorem r306 (s:ByteArray) (hs:bh s):res A az 306 [.str s]=some [.bool (isName s)]:=by
 refine aq a306 rfl rfl ?_
 simp only[F306]; try delta sS tT zZ nN gG bB pZ
 simp(disch:=omega)only[go_sem]
 refine Br.aG (fun e=>?_) (fun e=>?_)<;>simp(disch:=omega)only[go_sem,e]
 ·rfl
 have hb:=mm s
 unfold bh at hs
 unfold isName
 generalize hl:i7 s=l at hb
 cases l with
 |nil=>exact(e (by
   obtain⟨⟨d⟩⟩:=s
   simp only[ByteArray.size,List.size_toArray,List.length_nil]at hb
   rw[PC hb.symm])).elim
 |cons x r=>
  have hx:(i7 s)[(0:Int).toNat]?=some x:=by rw[hl]; rfl
  have h0:=uK (QK 0) hx
  refine Br.aG (fun e2=>?_) (fun e2=>?_)<;>simp(disch:=omega)only[go_sem,e2]
  ·refine fT ?_
   have:¬(x::r).length≤24:=by omega
   simp only[kU,this,decide_false,Bool.false_and]
  simp(disch:=omega)only[go_sem,h0]
  refine Br.of (fun e3=>?_) (fun e3=>?_)<;>simp(disch:=omega)only[go_sem,e3]
  rotate_left
  ·refine fT ?_
   simp only[kU,e3,Bool.and_false,Bool.false_and]
  ·refine W.find (x::r) (fun y=>!sA y&&!uJ y) (fun k=>⟨[(0,.pv (.str s)),(18,.pv (.int .i64 s.size)),(19,.pv (.int .i64 k))],⟨[],[],[]⟩⟩) rfl (fun k y hy hk hfd=>?_) (fun hn=>?_)
   ·have hy':(i7 s)[(k:Int).toNat]?=some y:=by rw[hl,P9]; exact hy
    have hk':=uK (Int.natCast_nonneg k) hy'
    simp(disch:=omega)only[go_sem]
    refine Br.aG (fun c=>?_) (fun c=>(c (by omega)).elim)
    simp(disch:=omega)only[go_sem,hk']
    have done:(!sA y&&!uJ y)=true→(some [PV.bool false]:Option (List PV))=some [.bool (kU (x::r))]:=fun g=>by
     refine fT ?_
     simp only[kU,(hfd g).any,Bool.not_true,Bool.and_false]
    refine Br.of (fun g=>?_) (fun g=>?_)<;>simp(disch:=omega)only[go_sem,hk',g]
    ·exact aR.of (by simp[g]) rfl
    ·refine Br.of (fun g2=>?_) (fun g2=>?_)<;>simp(disch:=omega)only[go_sem,g2]
     ·exact aR.of (by simp[g2]) rfl
     ·exact done (by simp[g,g2])
   ·simp(disch:=omega)only[go_sem,hb]
    refine wA ?_
    have h24:(x::r).length≤24:=by omega
    simp only[kU,h24,e3,hn.any,decide_true,Bool.not_false,Bool.and_self]
theorem r310 (s:ByteArray) (hs:bh s):res A az 310 [.str s]=some [.bool (isName s)]:=by
 refine aq a310 rfl rfl ?_
 simp only[F310]; try delta sS tT zZ nN gG bB pZ
 simp(disch:=omega)only[go_sem]
 refine Br.aG (fun e=>?_) (fun e=>?_)<;>simp(disch:=omega)only[go_sem,e]
 ·rfl
 have hb:=mm s
 unfold bh at hs
 unfold isName
 generalize hl:i7 s=l at hb
 cases l with
 |nil=>exact(e (by
   obtain⟨⟨d⟩⟩:=s
   simp only[ByteArray.size,List.size_toArray,List.length_nil]at hb
   rw[PC hb.symm])).elim
 |cons x r=>
  have hx:(i7 s)[(0:Int).toNat]?=some x:=by rw[hl]; rfl
  have h0:=uK (QK 0) hx
  refine Br.aG (fun e2=>?_) (fun e2=>?_)<;>simp(disch:=omega)only[go_sem,e2]
  ·refine fT ?_
   have:¬(x::r).length≤24:=by omega
   simp only[kU,this,decide_false,Bool.false_and]
  simp(disch:=omega)only[go_sem,h0]
  refine Br.of (fun e3=>?_) (fun e3=>?_)<;>simp(disch:=omega)only[go_sem,e3]
  rotate_left
  ·refine fT ?_
   simp only[kU,e3,Bool.and_false,Bool.false_and]
  ·refine W.find (x::r) (fun y=>!sA y&&!uJ y) (fun k=>⟨[(0,.pv (.str s)),(3,.pv (.int .i64 k))],⟨[],[],[]⟩⟩) rfl (fun k y hy hk hfd=>?_) (fun hn=>?_)
   ·have hy':(i7 s)[(k:Int).toNat]?=some y:=by rw[hl,P9]; exact hy
    have hk':=uK (Int.natCast_nonneg k) hy'
    simp(disch:=omega)only[go_sem]
    refine Br.aG (fun c=>?_) (fun c=>(c (by omega)).elim)
    simp(disch:=omega)only[go_sem,hk']
    have done:(!sA y&&!uJ y)=true→(some [PV.bool false]:Option (List PV))=some [.bool (kU (x::r))]:=fun g=>by
     refine fT ?_
     simp only[kU,(hfd g).any,Bool.not_true,Bool.and_false]
    refine Br.of (fun g=>?_) (fun g=>?_)<;>simp(disch:=omega)only[go_sem,hk',g]
    ·exact aR.of (by simp[g]) rfl
    ·refine Br.of (fun g2=>?_) (fun g2=>?_)<;>simp(disch:=omega)only[go_sem,g2]
     ·exact aR.of (by simp[g2]) rfl
     ·exact done (by simp[g,g2])
   ·simp(disch:=omega)only[go_sem,hb]
    refine wA ?_
    have h24:(x::r).length≤24:=by omega
    simp only[kU,h24,e3,hn.any,decide_true,Bool.not_false,Bool.and_self]
end Go.Pv
namespace Go.Pv
def iA (l:List ByteArray):List (PV×PV):=l.map fun s=>(.str s,.bool true)
def ke (x:ByteArray) (l:List ByteArray):Option (Nat×PV):=(l.findIdx? fun s=>decide (s=x)).map fun i=>(i,.bool true)
def cp (l:List ByteArray) (x:ByteArray):Bool:=l.any fun s=>decide (s=x)
theorem iB {l:List ByteArray} {x:ByteArray}:cp l x=true↔x∈l:=by simp[cp]
def oJ (l:List ByteArray) (x:ByteArray):List ByteArray:=if cp l x=true then l else l++[x]
theorem Cr {l:List ByteArray} {x y:ByteArray}:y∈oJ l x↔y∈l∨y=x:=by
 unfold oJ
 split
 ·rename_i h
  rw[iB]at h
  constructor
  ·exact .inl
  ·rintro (h1|rfl)
   ·exact h1
   ·exact h
 ·simp
theorem tz (a b:ByteArray):jg false [2] (.str a) (.str b)=some (decide (a=b)):=by
 show aY [2] [.str a] [.str b]=_
 rw[pC,D2,xX]
 simp
theorem pF (x:ByteArray):∀(l:List ByteArray) (i:Nat),findKey false [2] (.str x) (iA l) i=some ((ke x l).map fun p=>(p.1+i,p.2))
 |[],i=>by
  show (if (jg false [2] (.str x) (.str x)).isSome then some none else none)=_
  rw[tz]
  rfl
 |y::l,i=>by
  show (match jg false [2] (.str x) (.str y)with
   |some true=>some (some (i,PV.bool true))
   |some false=>findKey false [2] (.str x) (iA l) (i+1)
   |none=>none)=_
  rw[tz]
  by_cases h:x=y
  ·subst h
   simp[ke,List.findIdx?_cons]
  ·have h':¬y=x:=fun e=>h e.symm
   simp only[h,decide_false]
   rw[pF x l (i+1)]
   simp only[ke,List.findIdx?_cons,h',decide_false]
   cases l.findIdx? fun s=>decide (s=x)with
   |none=>rfl
   |some j=>simp; omega
@[go_sem] theorem yk (x:ByteArray) (l:List ByteArray):findKey false [2] (.str x) (iA l) 0=some (ke x l):=by
 rw[pF]
 cases ke x l<;>rfl
theorem rn {x:ByteArray} {l:List ByteArray}:(ke x l).isSome=true↔x∈l:=by
 unfold ke
 rw[Option.isSome_map,List.findIdx?_isSome,Qs]
 simp
@[go_sem] theorem Fj (x:ByteArray) (l:List ByteArray):uC (.pv (.bool false)) false (ke x l)=.pv (.bool (cp l x)):=by
 have h:=rn (x:=x) (l:=l)
 rw[← iB]at h
 cases hl:ke x l with
 |none=>
  rw[hl]at h
  have:cp l x=false:=by
   cases hx:cp l x with
   |false=>rfl
   |true=>simpa using h.2 hx
  simp[uC,this]
 |some p=>
  rw[hl]at h
  have hx:cp l x=true:=h.1 rfl
  have hp:p.2=.bool true:=by
   unfold ke at hl
   obtain⟨i,_,rfl⟩:=PQ.1 hl
   rfl
  simp[uC,hx,hp]
@[go_sem] theorem Jl (x:ByteArray) (l:List ByteArray) (id:Nat):B3 false [2] (.str x) (.bool true) id (iA l)=some { mp:=some (id,iA (oJ l x)) }:=by
 unfold B3
 rw[yk]
 have h:=rn (x:=x) (l:=l)
 rw[← iB]at h
 cases hl:ke x l with
 |none=>
  rw[hl]at h
  have:cp l x=false:=by
   cases hx:cp l x with
   |false=>rfl
   |true=>simpa using h.2 hx
  simp[oJ,this,iA]
 |some p=>
  rw[hl]at h
  have hx:cp l x=true:=h.1 rfl
  unfold ke at hl
  obtain⟨i,hi,rfl⟩:=PQ.1 hl
  obtain⟨h1,h2,_⟩:=PT.1 hi
  have h3:l[i]=x:=by simpa using h2
  simp only[oJ,hx,if_true]
  congr 4
  apply PW
  intro j
  rw[List.getElem?_set]
  split
  ·rename_i hj
   subst hj
   simp[iA,h1,h3]
  ·rfl
end Go.Pv
namespace Go.Pv
def strs (l:List ByteArray):List (List PV):=l.map fun s=>[.str s]
@[go_sem] theorem ff (l:List ByteArray):(strs l).length=l.length:=by simp[strs]
@[go_sem] theorem Lv (l:List ByteArray) (i:Nat):(strs l)[i]?=l[i]?.map fun s=>[.str s]:=by simp[strs]
theorem oK (l:List ByteArray) (x:ByteArray):strs l++[[.str x]]=strs (l++[x]):=by simp[strs]
abbrev Nm:=Int×ByteArray
def lO (l:List Nm) (k:Nat):Int:=((l[k - 1]?).map (·.1)).getD 0
def iC (l:List Nm) (k:Nat) (p:Nm):Bool:=decide (p.1<1)||decide (1000<p.1)||(decide (0<k)&&decide (p.1≤lO l k))||cp ((l.map (·.2)).take k) p.2||!isName p.2
def iD (l:List Nm) (k:Nat):Bool:=match l[k]? with
 |some p=>iC l k p
 |none=>false
def kf (l:List Nm):Bool:=!(List.range l.length).any (iD l)
theorem cV {n k x:Nat} (h:(List.range n)[k]?=some x):x=k∧k<n:=by
 obtain⟨h1,h2⟩:=Pg.1 h
 simp at h1 h2
 exact⟨h2.symm,h1⟩
set_option maxHeartbeats 1000000 in
theorem r325 (t u:Nat) (l:List Nm) (hl:l.length≤2^63 - 1) (hs:∀p∈l,bh p.2):res A az 325 [.ae t (ints (l.map (·.1))),.ae u (strs (l.map (·.2)))]=some [.bool (kf l&&decide (l.length≤16))]:=by
 refine aq a325 rfl rfl ?_
 simp only[F325]; try delta sS tT zZ nN gG bB pZ
 simp(disch:=omega)only[go_sem]
 refine W.find (List.range l.length) (iD l) (fun k=>⟨[(0,.pv (.ae t (ints (l.map (·.1))))),(1,.pv (.ae u (strs (l.map (·.2))))),(5,.map 0),(9,.pv (.ae t (ints (l.map (·.1))))),(10,.pv (.int .i64 l.length)),(11,.pv (.int .i64 k))],⟨[],[],[iA ((l.map (·.2)).take k)]⟩⟩) ?_ (fun k x hx hk hfd=>?_) (fun hn=>?_)
 ·simp[iA]
 ·obtain⟨rfl,hk⟩:=cV hx
  have hp:=Pj hk
  generalize l[x]=p at hp
  have h1:(l.map (·.1))[x]?=some p.1:=by rw[Pn,hp]; rfl
  have h2:(l.map (·.2))[x]?=some p.2:=by rw[Pn,hp]; rfl
  have hnm:=r306 p.2 (hs p (Ph hp))
  have hb:iD l x=iC l x p:=by simp only[iD,hp]
  have done:iC l x p=true→(some [PV.bool false]:Option (List PV))=some [PV.bool (kf l&&decide (l.length≤16))]:=fun g=>by
   refine fT ?_
   rw[← hb]at g
   simp only[kf,(hfd g).any,Bool.not_true,Bool.false_and]
  rw[hb]
  have hins:cp ((l.map (·.2)).take x) p.2=false→oJ ((l.map (·.2)).take x) p.2=(l.map (·.2)).take (x+1):=fun h=>by
   rw[oJ,h,PF,Pn,hp]
   rfl
  simp(disch:=omega)only[go_sem]
  refine Br.aG (fun c=>?_) (fun c=>(c (by omega)).elim)
  simp(disch:=omega)only[go_sem,h1]
  refine Br.aG (fun c1=>?_) (fun c1=>?_)<;>simp(disch:=omega)only[go_sem,c1]
  ·exact done (by simp[iC,c1])
  refine Br.aG (fun c2=>?_) (fun c2=>?_)<;>simp(disch:=omega)only[go_sem,c2]
  ·exact done (by simp[iC,c2])
  have fin:(decide (0<x)&&decide (p.1≤lO l x))=false→iC l x p=(cp ((l.map (·.2)).take x) p.2||!isName p.2):=fun g=>by
   have d1:decide (p.1<1)=false:=by simp; omega
   have d2:decide (1000<p.1)=false:=by simp; omega
   simp only[iC,d1,d2,g,Bool.false_or]
  have hx1:0<x→(l.map (·.1))[x - 1]?=some (lO l x):=fun h=>by
   have hq:l[x - 1]?=some (l[x - 1]'(by omega)):=Pj (by omega)
   rw[Pn,lO,hq]
   rfl
  have hcast:0<x→(x:Int) - 1=((x - 1:Nat):Int):=fun h=>by omega
  refine Br.aG (fun c3=>?_) (fun c3=>?_)<;>simp(disch:=omega)only[go_sem,c3]
  ·have hq:l[x - 1]?=some (l[x - 1]'(by omega)):=Pj (by omega)
   have hpv:(l[x - 1]'(by omega)).1=lO l x:=by rw[lO,hq]; rfl
   simp(disch:=omega)only[go_sem,hcast (by omega),hq,hpv]
   refine Br.aG (fun c4=>?_) (fun c4=>?_)<;>simp(disch:=omega)only[go_sem,c4,hp]
   ·exact done (by simp[iC,c4,show 0<x by omega])
   refine Br.of (fun c5=>?_) (fun c5=>?_)<;>simp(disch:=omega)only[go_sem,c5,hnm,hp]
   ·exact done (by simp[iC,c5])
   refine Br.of (fun c6=>?_) (fun c6=>?_)<;>simp(disch:=omega)only[go_sem,c6,hp]
   ·refine aR.of ?_ ?_
    ·rw[fin (by simp; omega),c5,c6]
     rfl
    ·rw[hins c5]
     rfl
   ·exact done (by simp[iC,c6])
  ·simp(disch:=omega)only[go_sem,hp]
   refine Br.of (fun c5=>?_) (fun c5=>?_)<;>simp(disch:=omega)only[go_sem,c5,hnm,hp]
   ·exact done (by simp[iC,c5])
   refine Br.of (fun c6=>?_) (fun c6=>?_)<;>simp(disch:=omega)only[go_sem,c6,hp]
   ·refine aR.of ?_ ?_
    ·rw[fin (by simp; omega),c5,c6]
     rfl
    ·rw[hins c5]
     rfl
   ·exact done (by simp[iC,c6])
 ·rw[PL]
  simp(disch:=omega)only[go_sem]
  simp[kf,hn.any]
  omega
end Go.Pv
namespace Go.Pv
open Classical in
noncomputable def eqv {α:Type} (a b:α):Bool:=decide (a=b)
theorem eF {α:Type} (a:α):eqv a a=true:=by simp[eqv]
theorem gx {α:Type} {a b:α} (h:a≠b):eqv a b=false:=by simp[eqv,h]
theorem cz {α:Type} {a b:α}:eqv a b=true↔a=b:=by simp[eqv]
theorem kV {α:Type} {a b:α}:eqv a b=false↔a≠b:=by simp[eqv]
theorem jX.eq {α:Type} {l m:List α} (hl:l.length=m.length) (h:jX (l.zip m) fun q=>!eqv q.1 q.2):l=m:=by
 have ha:=h.any
 rw[P0]at ha
 apply List.ext_getElem hl
 intro i h1 h2
 have hm:(l[i],m[i])∈l.zip m:=Ph (Ql.2 ⟨Pj h1,Pj h2⟩)
 have:=ha _ hm
 simpa [cz]using this
theorem Found.ne {α:Type} {l m:List α} {k:Nat} {x:α×α} (h:Found (l.zip m) (fun q=>!eqv q.1 q.2) k x):eqv l m=false:=by
 rw[kV]
 rintro rfl
 have ha:=h.any
 rw[Qs]at ha
 obtain⟨q,hq,hn⟩:=ha
 obtain⟨i,hi⟩:=Pk.1 hq
 obtain⟨h1,h2⟩:=Ql.1 hi
 have:q.1=q.2:=Option.some.inj (h1.symm.trans h2)
 rw[this,eF]at hn
 cases hn
theorem gU {α:Type} {l m:List α} {k:Nat} {q:α×α} (h:(l.zip m)[k]?=some q):l[k]?=some q.1∧m[k]?=some q.2:=Ql.1 h
theorem Em {α β:Type} {f:α→β} (hf:∀x y,f x=f y→x=y) (l m:List α):eqv (l.map f) (m.map f)=eqv l m:=by
 rw[PY,cz,cz]
 refine⟨fun h=>?_,fun h=>by rw[h]⟩
 induction l generalizing m with
 |nil=>cases m with
  |nil=>rfl
  |cons y m=>simp at h
 |cons x l ih=>cases m with
  |nil=>simp at h
  |cons y m=>
   simp only[List.map_cons,List.cons.injEq]at h
   rw[hf _ _ h.1,ih _ h.2]
theorem Raw.Cs (x y:Raw) (h:x.c=y.c):x=y:=by
 obtain⟨a,b⟩:=x
 obtain⟨c,d⟩:=y
 simp only[Raw.c,List.cons.injEq,PV.int.injEq,PV.str.injEq,true_and,and_true]at h
 rw[h.1,h.2]
theorem zm (x y:Sym):eqv x y=(decide (x.id=y.id)&&decide (x.name=y.name)):=by
 obtain⟨a,b⟩:=x
 obtain⟨c,d⟩:=y
 simp[eqv]
theorem zn (x y:Raw):eqv x y=(decide (x.id=y.id)&&decide (x.data=y.data)):=by
 obtain⟨a,b⟩:=x
 obtain⟨c,d⟩:=y
 simp[eqv]
theorem dt {α:Type} {l m:List α} (h:l.length=m.length):(l.zip m).length=l.length:=by simp[h]
theorem r317 (t u:Nat) (l m:List Sym) (hl:l.length≤2^63 - 1) (_hm:m.length≤2^63 - 1):res A az 317 [.ae t (l.map Sym.c),.ae u (m.map Sym.c)]=some [.bool (eqv l m)]:=by
 refine aq a317 rfl rfl ?_
 simp only[F317]; try delta sS tT zZ nN gG bB pZ
 simp(disch:=omega)only[go_sem]
 refine Br.aG (fun h=>?_) (fun h=>?_)<;>simp(disch:=omega)only[go_sem]
 ·refine W.find (l.zip m) (fun q=>!eqv q.1 q.2) (fun k=>⟨[(0,.pv (.ae t (l.map Sym.c))),(1,.pv (.ae u (m.map Sym.c))),(12,.pv (.int .i64 l.length)),(13,.pv (.int .i64 k))],⟨[],[],[]⟩⟩) rfl (fun k q hq hk hfd=>?_) (fun hn=>?_)
  ·obtain⟨h1,h2⟩:=gU hq
   rw[dt (by omega)]at hk
   simp(disch:=omega)only[go_sem]
   refine Br.aG (fun c=>?_) (fun c=>(c (by omega)).elim)
   simp(disch:=omega)only[go_sem,h1,h2,Sym.c]
   rw[← zm]
   refine Br.of (fun g=>?_) (fun g=>?_)<;>simp(disch:=omega)only[go_sem]
   ·exact aR.of (by rw[g]; rfl) rfl
   ·rw[(hfd (by rw[g]; rfl)).ne]
  ·have hz:(l.zip m).length=l.length:=dt (by omega)
   rw[hz]
   simp(disch:=omega)only[go_sem]
   rw[hn.eq (by omega),eF]
 ·rw[gx (fun e=>h (by rw[e]))]
theorem r333 (t u:Nat) (l m:List Raw) (hl:l.length≤2^63 - 1) (_hm:m.length≤2^63 - 1):res A az 333 [.ae t (l.map Raw.c),.ae u (m.map Raw.c)]=some [.bool (eqv l m)]:=by
 refine aq a333 rfl rfl ?_
 simp only[F333]; try delta sS tT zZ nN gG bB pZ
 simp(disch:=omega)only[go_sem]
 refine Br.aG (fun h=>?_) (fun h=>?_)<;>simp(disch:=omega)only[go_sem]
 ·refine W.find (l.zip m) (fun q=>!eqv q.1 q.2) (fun k=>⟨[(0,.pv (.ae t (l.map Raw.c))),(1,.pv (.ae u (m.map Raw.c))),(12,.pv (.int .i64 l.length)),(13,.pv (.int .i64 k))],⟨[],[],[]⟩⟩) rfl (fun k q hq hk hfd=>?_) (fun hn=>?_)
  ·obtain⟨h1,h2⟩:=gU hq
   rw[dt (by omega)]at hk
   simp(disch:=omega)only[go_sem]
   refine Br.aG (fun c=>?_) (fun c=>(c (by omega)).elim)
   simp(disch:=omega)only[go_sem,h1,h2,Raw.c]
   rw[← zn]
   refine Br.of (fun g=>?_) (fun g=>?_)<;>simp(disch:=omega)only[go_sem]
   ·exact aR.of (by rw[g]; rfl) rfl
   ·rw[(hfd (by rw[g]; rfl)).ne]
  ·have hz:(l.zip m).length=l.length:=dt (by omega)
   rw[hz]
   simp(disch:=omega)only[go_sem]
   rw[hn.eq (by omega),eF]
 ·rw[gx (fun e=>h (by rw[e]))]
@[go_sem] theorem Lw (v:dC):v.c.length=8:=rfl
theorem r334 (t u:Nat) (l m:List (List PV)) (hl:l.length≤2^63 - 1) (_hm:m.length≤2^63 - 1) (vl:∀r∈l,∃v:dC,r=v.c) (vm:∀r∈m,∃v:dC,r=v.c)
  (hr:∀r∈l,∀q∈m,res A az 320 [.agg r,.agg q]=some [.bool (eqv r q)]):res A az 334 [.ae t l,.ae u m,.func 320 []]=some [.bool (eqv l m)]:=by
 refine aq a334 rfl rfl ?_
 simp only[F334]; try delta sS tT zZ nN gG bB pZ
 simp(disch:=omega)only[go_sem]
 refine Br.aG (fun h=>?_) (fun h=>?_)<;>simp(disch:=omega)only[go_sem]
 ·refine W.find (l.zip m) (fun q=>!eqv q.1 q.2) (fun k=>⟨[(1,.pv (.ae u m)),(2,.pv (.func 320 [])),(15,.pv (.ae t l)),(16,.pv (.int .i64 l.length)),(17,.pv (.int .i64 k))],⟨[],[],[]⟩⟩) rfl (fun k q hq hk hfd=>?_) (fun hn=>?_)
  ·obtain⟨h1,h2⟩:=gU hq
   rw[dt (by omega)]at hk
   have hc:=hr q.1 (Ph h1) q.2 (Ph h2)
   obtain⟨v,hv⟩:=vl q.1 (Ph h1)
   obtain⟨w,hw⟩:=vm q.2 (Ph h2)
   generalize eqv q.1 q.2=e at hc hfd ⊢
   rw[hv,hw]at hc
   rw[hv]at h1
   rw[hw]at h2
   unfold dC.c at hc h1 h2
   simp(disch:=omega)only[go_sem]
   refine Br.aG (fun c=>?_) (fun c=>(c (by omega)).elim)
   simp(disch:=omega)only[go_sem,h1,h2,hc]
   refine Br.of (fun g=>?_) (fun g=>?_)<;>simp(disch:=omega)only[go_sem]
   ·exact aR.of (by rw[g]; rfl) rfl
   ·rw[(hfd (by rw[g]; rfl)).ne]
  ·have hz:(l.zip m).length=l.length:=dt (by omega)
   rw[hz]
   simp(disch:=omega)only[go_sem]
   rw[hn.eq (by omega),eF]
 ·rw[gx (fun e=>h (by rw[e]))]
end Go.Pv
namespace Go.Pv
@[go_sem] theorem MW (h:af) (x:ByteArray):aU h 1 (.tl []) (.tl [[.str x]])=some (.own h.ar.length 0 0 1,{ push:=[⟨0,1,.inl (strs [x])⟩],base:=h.ar.length }):=zk h 1 [] [.str x] rfl (by simp) (by simp)
@[go_sem] theorem Ly (h:af) (id aj off len:Nat) (x:ByteArray):aU h 1 (.own id aj off len) (.tl [[.str x]])=(aB h id aj).bind (Je id aj off len 1 [.str x]):=Cl h id aj off len 1 [.str x] rfl
@[go_sem] theorem MX {id aj len:Nat} {x:ByteArray} {l:List ByteArray} (h1:len=l.length) (h2:l.length+1≤2147483648):Je id aj 0 len 1 [.str x] ⟨aj,1,.inl (strs l)⟩=some (.own id (aj+1) 0 (len+1),{ ar:=some (id,⟨aj+1,1,.inl (strs (l++[x]))⟩) }):=by
 rw[G0 (by rw[ff]; exact h1) (by rw[ff]; exact h2),oK]
def Bs (i k:Nat):V:=match k with
 |0=>.tl []
 |j+1=>.own i j 0 (j+1)
def Dt (A B:List (List PV)):List aK:=match A.length with
 |0=>[]
 |j+1=>[⟨j,1,.inl A⟩,⟨j,1,.inl B⟩]
def Sym.nm (s:Sym):Nm:=(s.id,s.name)
def j0 (l:List Sym):Bool:=decide (0<l.length)&&(kf (l.map Sym.nm)&&decide (l.length≤16))
set_option maxHeartbeats 1000000 in
theorem r307 (t:Nat) (l:List Sym) (hl:l.length≤2147483648) (hs:∀p∈l,bh p.name):res A az 307 [.ae t (l.map Sym.c)]=some [.bool (j0 l)]:=by
 refine aq a307 rfl rfl ?_
 simp only[F307]; try delta sS tT zZ nN gG bB pZ
 simp(disch:=omega)only[go_sem]
 refine W.dD l.length (fun k=>⟨[(0,.pv (.ae t (l.map Sym.c))),(3,Bs 0 k),(4,Bs 1 k),(7,.pv (.ae t (l.map Sym.c))),(8,.pv (.int .i64 l.length)),(9,.pv (.int .i64 k))],⟨[],Dt (ints ((l.take k).map (·.id))) (strs ((l.take k).map (·.name))),[]⟩⟩) (fun _=>True) rfl trivial (fun k hk _=>?_)
 rcases Po k l.length with hlt|hge
 ·have hp:=Pj hlt
  generalize l[k]=p at hp
  have t1:(l.take (k+1)).map (·.id)=(l.take k).map (·.id)++[p.id]:=by rw[PF,hp,P6]; rfl
  have t2:(l.take (k+1)).map (·.name)=(l.take k).map (·.name)++[p.name]:=by rw[PF,hp,P6]; rfl
  cases k with
  |zero=>
   simp only[Bs,Dt,List.take_zero,List.map_nil,wq,List.length_nil]
   simp(disch:=omega)only[go_sem]
   refine Br.aG (fun c=>?_) (fun c=>(c (by omega)).elim)
   simp(disch:=omega)only[go_sem,hp,Sym.c]
   refine .of (by omega) ?_ trivial
   rw[t1,t2]
   rfl
  |succ j=>
   have l1:((l.take (j+1)).map (·.id)).length=j+1:=by simp; omega
   have l2:((l.take (j+1)).map (·.name)).length=j+1:=by simp; omega
   generalize (l.take (j+1)).map (·.id)=A at t1 l1
   generalize (l.take (j+1)).map (·.name)=B at t2 l2
   simp only[Bs,Dt,aJ,l1]
   simp(disch:=omega)only[go_sem]
   refine Br.aG (fun c=>?_) (fun c=>(c (by omega)).elim)
   simp(disch:=omega)only[go_sem,hp,Sym.c]
   have l3:((l.take (j+1+1)).map (·.id)).length=j+1+1:=by rw[t1]; simp[l1]
   refine .of (by omega) ?_ trivial
   simp only[aJ,l3]
   rw[t1,t2]
   rfl
 ·obtain rfl:k=l.length:=by omega
  rw[PU]
  have nm1:l.map (·.id)=(l.map Sym.nm).map (·.1):=by rw[List.map_map]; rfl
  have nm2:l.map (·.name)=(l.map Sym.nm).map (·.2):=by rw[List.map_map]; rfl
  have h325:=fun t u=>r325 t u (l.map Sym.nm) (by simp; omega) (fun p hp=>by
   obtain⟨q,hq,rfl⟩:=PB.1 hp
   exact hs q hq)
  rw[nm1,nm2]
  rw[Pm]at h325
  unfold j0
  cases hn:l.length with
  |zero=>
   have h0:¬(0:Int)<l.length:=by omega
   simp only[Bs,Dt,hn,aJ,List.length_map]
   simp(disch:=omega)only[go_sem,h0]
  |succ j=>
   have l1:((l.map Sym.nm).map (·.1)).length=j+1:=by simp[hn]
   have l2:((l.map Sym.nm).map (·.2)).length=j+1:=by simp[hn]
   rw[hn]at h325
   generalize (l.map Sym.nm).map (·.1)=A at l1 h325
   generalize (l.map Sym.nm).map (·.2)=B at l2 h325
   simp only[Bs,Dt,aJ,l1]
   simp(disch:=omega)only[go_sem]
   have d1:A.take (j+1)=A:=Py (by omega)
   have d2:(strs B).take (j+1)=strs B:=Py (by rw[ff]; omega)
   refine Br.aG (fun c=>?_) (fun c=>(c (by omega)).elim)
   simp(disch:=omega)only[go_sem,c,d1,d2,h325]
   have h0:0<j+1:=by omega
   simp[h0]
end Go.Pv
namespace Go.Pv
theorem dC.Cs (x y:dC) (h:x.c=y.c):x=y:=by
 obtain⟨a1,a2,a3,a4,a5,a6,a7,a8⟩:=x
 obtain⟨b1,b2,b3,b4,b5,b6,b7,b8⟩:=y
 simp only[dC.c,List.cons.injEq,PV.int.injEq,PV.bool.injEq,PV.str.injEq,PV.ae.injEq,true_and,and_true]at h
 obtain⟨h1,h2,h3,h4,h5,h6,h7,h8⟩:=h
 have h8:a8=b8:=cz.1 (by rw[← Em Raw.Cs,h8,eF])
 rw[h1,h2,h3,h4,h5,h6,h7,h8]
theorem lq (x y:dC):eqv x.c y.c=eqv x y:=by
 rw[PY,cz,cz]
 exact⟨x.Cs y,fun h=>by rw[h]⟩
set_option maxHeartbeats 4000000 in
theorem r320:∀(n k:Nat) (cs ds:List PV),jq n cs→jq k ds→res A az 320 [.agg cs,.agg ds]=some [.bool (eqv cs ds)]
 |0,_,_,_,h,_=>h.elim
 |_+1,0,_,_,_,h=>h.elim
 |n+1,k+1,cs,ds,h,h'=>by
  obtain⟨v,rfl,⟨h1,h2,h3,h4⟩,⟨h5,h6,h7⟩,h8,h9,h10⟩:=h
  obtain⟨w,rfl,⟨g1,g2,g3,g4⟩,⟨g5,g6,g7⟩,g8,g9,g10⟩:=h'
  have ih:=r320 n k
  unfold cu at h5 h6 h7 g5 g6 g7
  have hk:=fun t u=>r334 t u v.keys w.keys (by omega) (by omega) (fun r hr=>(h8 r hr).val) (fun r hr=>(g8 r hr).val) (fun r hr q hq=>ih r q (h8 r hr) (g8 q hq))
  have hi:=fun t u=>r334 t u v.items w.items (by omega) (by omega) (fun r hr=>(h9 r hr).val) (fun r hr=>(g9 r hr).val) (fun r hr q hq=>ih r q (h9 r hr) (g9 q hq))
  have hr:=fun t u=>r333 t u v.rest w.rest (by omega) (by omega)
  rw[lq]
  obtain⟨a1,a2,a3,a4,a5,a6,a7,a8⟩:=v
  obtain⟨b1,b2,b3,b4,b5,b6,b7,b8⟩:=w
  unfold dC.c
  dsimp only at *
  clear ih
  refine aq a320 rfl rfl ?_
  simp only[F320]; try delta sS tT zZ nN gG bB pZ
  simp(disch:=omega)only[go_sem]
  have no:∀{p q:dC},p≠q→(some [PV.bool false]:Option (List PV))=some [PV.bool (eqv p q)]:=fun h=>by rw[gx h]
  refine Br.aG (fun e=>?_) (fun e=>?_)<;>simp(disch:=omega)only[go_sem,e]
  rotate_left
  ·exact no (fun q=>e (by cases q; rfl))
  subst e
  refine Br.aG (fun e=>?_) (fun e=>?_)<;>simp(disch:=omega)only[go_sem,e]
  rotate_left
  ·exact no (fun q=>e (by cases q; rfl))
  subst e
  refine Br.aG (fun e=>?_) (fun e=>?_)<;>simp(disch:=omega)only[go_sem,e]
  rotate_left
  ·exact no (fun q=>e (by cases q; rfl))
  subst e
  refine Br.aG (fun e=>?_) (fun e=>?_)<;>simp(disch:=omega)only[go_sem,e]
  rotate_left
  ·exact no (fun q=>e (by cases q; rfl))
  subst e
  refine Br.aG (fun e=>?_) (fun e=>?_)<;>simp(disch:=omega)only[go_sem,e]
  rotate_left
  ·exact no (fun q=>e (by cases q; rfl))
  subst e
  simp(disch:=omega)only[go_sem,hr]
  refine Br.of (fun e=>?_) (fun e=>?_)<;>simp(disch:=omega)only[go_sem,e]
  rotate_left
  ·exact no (fun q=>kV.1 e (by cases q; rfl))
  have e:=cz.1 e
  subst e
  simp(disch:=omega)only[go_sem,hk]
  refine Br.of (fun e=>?_) (fun e=>?_)<;>simp(disch:=omega)only[go_sem,e]
  rotate_left
  ·exact no (fun q=>kV.1 e (by cases q; rfl))
  have e:=cz.1 e
  subst e
  simp(disch:=omega)only[go_sem,hi]
  congr 3
  rw[PY,cz,cz]
  exact⟨fun e=>by rw[e],fun q=>by cases q; rfl⟩
theorem r320v {cs ds:List PV} (h:∃n,jq n cs) (h':∃n,jq n ds):res A az 320 [.agg cs,.agg ds]=some [.bool (eqv cs ds)]:=by
 obtain⟨n,h⟩:=h
 obtain⟨k,h'⟩:=h'
 exact r320 n k cs ds h h'
theorem r336 (t u:Nat) (l m:List (List PV)) (hl:l.length≤2^63 - 1) (_hm:m.length≤2^63 - 1) (vl:∀r∈l,∃v:dC,r=v.c) (vm:∀r∈m,∃v:dC,r=v.c)
  (hr:∀r∈l,∀q∈m,res A az 330 [.agg r,.agg q]=some [.bool (eqv r q)]):res A az 336 [.ae t l,.ae u m]=some [.bool (eqv l m)]:=by
 refine aq a336 rfl rfl ?_
 simp only[F336]; try delta sS tT zZ nN gG bB pZ
 simp(disch:=omega)only[go_sem]
 refine Br.aG (fun h=>?_) (fun h=>?_)<;>simp(disch:=omega)only[go_sem]
 ·refine W.find (l.zip m) (fun q=>!eqv q.1 q.2) (fun k=>⟨[(0,.pv (.ae t l)),(1,.pv (.ae u m)),(5,.pv (.int .i64 k))],⟨[],[],[]⟩⟩) rfl (fun k q hq hk hfd=>?_) (fun hn=>?_)
  ·obtain⟨h1,h2⟩:=gU hq
   rw[dt (by omega)]at hk
   have hc:=hr q.1 (Ph h1) q.2 (Ph h2)
   obtain⟨v,hv⟩:=vl q.1 (Ph h1)
   obtain⟨w,hw⟩:=vm q.2 (Ph h2)
   generalize eqv q.1 q.2=e at hc hfd ⊢
   rw[hv,hw]at hc
   rw[hv]at h1
   rw[hw]at h2
   unfold dC.c at hc h1 h2
   simp(disch:=omega)only[go_sem]
   refine Br.aG (fun c=>?_) (fun c=>(c (by omega)).elim)
   simp(disch:=omega)only[go_sem,h1,h2,hc]
   refine Br.of (fun g=>?_) (fun g=>?_)<;>simp(disch:=omega)only[go_sem]
   ·exact aR.of (by rw[g]; rfl) rfl
   ·rw[(hfd (by rw[g]; rfl)).ne]
  ·have hz:(l.zip m).length=l.length:=dt (by omega)
   rw[hz]
   simp(disch:=omega)only[go_sem]
   rw[hn.eq (by omega),eF]
 ·rw[gx (fun e=>h (by rw[e]))]
set_option maxHeartbeats 4000000 in
theorem r330:∀(n k:Nat) (cs ds:List PV),jq n cs→jq k ds→res A az 330 [.agg cs,.agg ds]=some [.bool (eqv cs ds)]
 |0,_,_,_,h,_=>h.elim
 |_+1,0,_,_,_,h=>h.elim
 |n+1,k+1,cs,ds,h,h'=>by
  obtain⟨v,rfl,⟨h1,h2,h3,h4⟩,⟨h5,h6,h7⟩,h8,h9,h10⟩:=h
  obtain⟨w,rfl,⟨g1,g2,g3,g4⟩,⟨g5,g6,g7⟩,g8,g9,g10⟩:=h'
  have ih:=r330 n k
  unfold cu at h5 h6 h7 g5 g6 g7
  have hk:=fun t u=>r336 t u v.keys w.keys (by omega) (by omega) (fun r hr=>(h8 r hr).val) (fun r hr=>(g8 r hr).val) (fun r hr q hq=>ih r q (h8 r hr) (g8 q hq))
  have hi:=fun t u=>r336 t u v.items w.items (by omega) (by omega) (fun r hr=>(h9 r hr).val) (fun r hr=>(g9 r hr).val) (fun r hr q hq=>ih r q (h9 r hr) (g9 q hq))
  rw[lq]
  obtain⟨a1,a2,a3,a4,a5,a6,a7,a8⟩:=v
  obtain⟨b1,b2,b3,b4,b5,b6,b7,b8⟩:=w
  unfold dC.c
  dsimp only at *
  clear ih
  refine aq a330 rfl rfl ?_
  simp only[F330]; try delta sS tT zZ nN gG bB pZ
  simp(disch:=omega)only[go_sem]
  have no:∀{p q:dC},p≠q→(some [PV.bool false]:Option (List PV))=some [PV.bool (eqv p q)]:=fun h=>by rw[gx h]
  refine Br.aG (fun e=>?_) (fun e=>?_)<;>simp(disch:=omega)only[go_sem,e]
  rotate_left
  ·exact no (fun q=>e (by cases q; rfl))
  subst e
  refine Br.aG (fun e=>?_) (fun e=>?_)<;>simp(disch:=omega)only[go_sem,e]
  rotate_left
  ·exact no (fun q=>e (by cases q; rfl))
  subst e
  refine Br.aG (fun e=>?_) (fun e=>?_)<;>simp(disch:=omega)only[go_sem,e]
  rotate_left
  ·exact no (fun q=>e (by cases q; rfl))
  subst e
  refine Br.aG (fun e=>?_) (fun e=>?_)<;>simp(disch:=omega)only[go_sem,e]
  rotate_left
  ·exact no (fun q=>e (by cases q; rfl))
  subst e
  refine Br.aG (fun e=>?_) (fun e=>?_)<;>simp(disch:=omega)only[go_sem,e]
  rotate_left
  ·exact no (fun q=>e (by cases q; rfl))
  subst e
  refine Br.aG (fun e=>?_) (fun e=>?_)<;>simp(disch:=omega)only[go_sem]
  rotate_left
  ·exact no (fun q=>e (by cases q; rfl))
  refine W.find (a8.zip b8) (fun q=>!eqv q.1 q.2) (fun k=>⟨[(2,.ptr 2 0),(3,.ptr 3 0),(5,.pv (.int .i64 k))],⟨[(2,[.pv (.int .i64 a1),.pv (.bool a2),.pv (.int .i64 a3),.pv (.str a4),.pv (.int .i64 a5),.pv (.ae 0 a6),.pv (.ae 0 a7),.pv (.ae 0 (a8.map Raw.c))]),(3,[.pv (.int .i64 a1),.pv (.bool a2),.pv (.int .i64 a3),.pv (.str a4),.pv (.int .i64 a5),.pv (.ae 0 b6),.pv (.ae 0 b7),.pv (.ae 0 (b8.map Raw.c))])],[],[]⟩⟩) rfl (fun k q hq hk' hfd=>?_) (fun hn=>?_)
  ·obtain⟨q1,q2⟩:=gU hq
   rw[dt (by omega)]at hk'
   simp(disch:=omega)only[go_sem]
   refine Br.aG (fun c=>?_) (fun c=>(c (by omega)).elim)
   simp(disch:=omega)only[go_sem,q1,q2,Raw.c]
   rw[← zn]
   refine Br.of (fun g=>?_) (fun g=>?_)<;>simp(disch:=omega)only[go_sem]
   ·exact aR.of (by rw[g]; rfl) rfl
   ·exact no (fun q=>kV.1 (hfd (by rw[g]; rfl)).ne (by cases q; rfl))
  ·have hz:(a8.zip b8).length=a8.length:=dt (by omega)
   rw[hz]
   have e:=hn.eq (by omega)
   subst e
   simp(disch:=omega)only[go_sem,hk]
   refine Br.of (fun e=>?_) (fun e=>?_)<;>simp(disch:=omega)only[go_sem,e]
   rotate_left
   ·exact no (fun q=>kV.1 e (by cases q; rfl))
   have e:=cz.1 e
   subst e
   simp(disch:=omega)only[go_sem,hi]
   congr 3
   rw[PY,cz,cz]
   exact⟨fun e=>by rw[e],fun q=>by cases q; rfl⟩
theorem r330v {cs ds:List PV} (h:∃n,jq n cs) (h':∃n,jq n ds):res A az 330 [.agg cs,.agg ds]=some [.bool (eqv cs ds)]:=by
 obtain⟨n,h⟩:=h
 obtain⟨k,h'⟩:=h'
 exact r330 n k cs ds h h'
end Go.Pv
namespace Go.Pv
def fy:dC:=⟨0,false,0,⟨#[]⟩,0,[],[],[]⟩
theorem zo:∃n,jq n fy.c:=by
 refine⟨1,fy,rfl,⟨?_,?_,?_,?_⟩,⟨?_,?_,?_⟩,fun r hr=>(List.not_mem_nil hr).elim,fun r hr=>(List.not_mem_nil hr).elim,fun r hr=>(List.not_mem_nil hr).elim⟩<;>simp[fy,fZ,bh,cu]
 exact Qn _
theorem r326 {v:dC} (h:∃n,jq n v.c):res A az 326 [.agg v.c]=some [.bool (eqv v fy)]:=by
 refine aq a326 rfl rfl ?_
 simp only[F326]; try delta sS tT zZ nN gG bB pZ
 have hc:=r320v h zo
 rw[lq]at hc
 unfold fy dC.c at *
 simp only[List.map_nil]at hc
 simp(disch:=omega)only[go_sem,hc]
noncomputable def iE (rec:Bool) (m:Mem):Bool:=(!rec&&(m.Di||m.has))||(m.Di&&m.has)||(!m.has&&!eqv m.gr fy)
def Mem.nm (s:Mem):Nm:=(s.id,s.name)
noncomputable def ek (rec:Bool) (l:List Mem):Bool:=!l.any (iE rec)&&((rec||decide (0<l.length))&&(kf (l.map Mem.nm)&&decide (l.length≤16)))
theorem oL {p:Bool} (h:p=false):(some [PV.bool false]:Option (List PV))=some [PV.bool p]:=by rw[h]
set_option maxHeartbeats 4000000 in
theorem r308 (t : aF) (ht : t.ok) (hl : t.aM.length ≤ 2147483648) (hk : t.kind = 5 ∨ t.kind = 6) : res A az 308 [.agg t.c] = some [.bool (ek (decide (t.kind = 5)) t.aM)] := by
  obtain ⟨_,⟨_,_⟩,_,ho⟩ := ht
  obtain ⟨a1,a2,a3,a4,a5,a6,l,a8,a9,a10⟩ := t
  unfold aF.c
  dsimp only at *
  refine aq a308 rfl rfl ?_
  simp only [F308]; try delta sS tT zZ nN gG bB pZ
  simp (disch := omega) only [go_sem]
  refine W.find l (iE (decide (a1 = 5))) (fun k => ⟨[(1,.ptr 1 0),(3,Bs 0 k),(4,Bs 1 k),(8,.pv (.ae 0 (l.map Mem.c))),(9,.pv (.int .i64 l.length)),(10,.pv (.int .i64 k))],⟨[(1,[.pv (.int .i64 a1),.pv (.str a2),.pv (.int .i64 a3),.pv (.int .i64 a4),.pv (.int .i64 a5),.pv (.ae 0 (a6.map Sym.c)),.pv (.ae 0 (l.map Mem.c)),.pv (.int .i64 a8),.pv (.int .i64 a9),.pv (.bool a10)])],Dt (ints ((l.take k).map (·.id))) (strs ((l.take k).map (·.name))),[]⟩⟩) rfl (fun k p hp hlt hfd => ?_) (fun hn => ?_)
  · have t1 : (l.take (k + 1)).map (·.id) = (l.take k).map (·.id) ++ [p.id] := by rw [PF,hp,P6]; rfl
    have t2 : (l.take (k + 1)).map (·.name) = (l.take k).map (·.name) ++ [p.name] := by rw [PF,hp,P6]; rfl
    obtain ⟨_,_,_,hd⟩ := ho p (Ph hp)
    have hz := r326 hd
    have done : iE (decide (a1 = 5)) p = true → (some [PV.bool false] : Option (List PV)) = some [PV.bool (ek (decide (a1 = 5)) l)] := fun g => by
      refine oL ?_
      simp only [ek,(hfd g).any,Bool.not_true,Bool.false_and]
    have hz0 : eqv p.gr fy = eqv p.gr fy := rfl
    generalize hzz : eqv p.gr fy = z at hz
    unfold dC.c at hz
    have hbad : iE (decide (a1 = 5)) p = ((!decide (a1 = 5) && (p.Di || p.has)) || (p.Di && p.has) || (!p.has && !z)) := by rw [iE,hzz]
    rw [hbad] at done ⊢
    cases k with
    | zero =>
      simp only [Bs,Dt,List.take_zero,List.map_nil,wq,List.length_nil]
      simp (disch := omega) only [go_sem]
      refine Br.aG (fun c => ?_) (fun c => (c (by omega)).elim)
      simp (disch := omega) only [go_sem,hp,Mem.c]
      repeat' (first
        | (refine Br.aG (fun h => ?_) (fun h => ?_) <;> simp (disch := omega) only [go_sem,h])
        | (refine Br.of (fun h => ?_) (fun h => ?_) <;> simp (disch := omega) only [go_sem,h,hz]))
      all_goals first
        | (refine done ?_; simp_all; done)
        | (refine aR.of (by simp_all; done) ?_
           rw [t1,t2]
           first
             | rfl
             | (rw [show a1 = 6 by omega]; rfl))
    | succ j =>
      have l1 : ((l.take (j + 1)).map (·.id)).length = j + 1 := by simp; omega
      have l2 : ((l.take (j + 1)).map (·.name)).length = j + 1 := by simp; omega
      have l3 : ((l.take (j + 1 + 1)).map (·.id)).length = j + 1 + 1 := by rw [t1]; simp; omega
      generalize (l.take (j + 1)).map (·.id) = A at t1 l1
      generalize (l.take (j + 1)).map (·.name) = B at t2 l2
      simp only [Bs,Dt,aJ,l1]
      simp (disch := omega) only [go_sem]
      refine Br.aG (fun c => ?_) (fun c => (c (by omega)).elim)
      simp (disch := omega) only [go_sem,hp,Mem.c]
      repeat' (first
        | (refine Br.aG (fun h => ?_) (fun h => ?_) <;> simp (disch := omega) only [go_sem,h])
        | (refine Br.of (fun h => ?_) (fun h => ?_) <;> simp (disch := omega) only [go_sem,h,hz]))
      all_goals first
        | (refine done ?_; simp_all; done)
        | (refine aR.of (by simp_all; done) ?_
           simp only [aJ,l3]
           rw [t1,t2]
           first
             | rfl
             | (rw [show a1 = 6 by omega]; rfl))
  · rw [PU]
    have nm1 : l.map (·.id) = (l.map Mem.nm).map (·.1) := by rw [List.map_map]; rfl
    have nm2 : l.map (·.name) = (l.map Mem.nm).map (·.2) := by rw [List.map_map]; rfl
    have h325 := fun t u => r325 t u (l.map Mem.nm) (by simp; omega) (fun p hp => by
      obtain ⟨q,hq,rfl⟩ := PB.1 hp
      exact (ho q hq).2.1)
    rw [nm1,nm2]
    rw [Pm] at h325
    unfold ek
    rw [hn.any]
    cases hn : l.length with
    | zero =>
      have hnil : l = [] := PC hn
      subst hnil
      simp only [List.map_nil,ints,strs] at h325
      simp only [Bs,Dt,hn,aJ,List.length_map]
      simp (disch := omega) only [go_sem]
      refine Br.aG (fun c => ?_) (fun c => ?_) <;> simp (disch := omega) only [go_sem,c,h325]
      refine Br.aG (fun c2 => absurd c2 (by omega)) (fun c2 => ?_)
      simp (disch := omega) only [go_sem,c2]
      simp [c]
    | succ j =>
      have l1 : ((l.map Mem.nm).map (·.1)).length = j + 1 := by simp [hn]
      have l2 : ((l.map Mem.nm).map (·.2)).length = j + 1 := by simp [hn]
      rw [hn] at h325
      generalize (l.map Mem.nm).map (·.1) = A at l1 h325
      generalize (l.map Mem.nm).map (·.2) = B at l2 h325
      simp only [Bs,Dt,aJ,l1]
      simp (disch := omega) only [go_sem]
      have d1 : A.take (j + 1) = A := Py (by omega)
      have d2 : (strs B).take (j + 1) = strs B := Py (by rw [ff]; omega)
      refine Br.aG (fun c => ?_) (fun c => ?_) <;> simp (disch := omega) only [go_sem,c,d1,d2,h325]
      refine Br.aG (fun c2 => ?_) (fun c2 => absurd (show (0 : Int) < ((j + 1 : Nat) : Int) by omega) c2)
      simp (disch := omega) only [go_sem,c,c2,d1,d2,h325]
      simp
end Go.Pv
namespace Go.Pv
def wB (b n:Int):Bool:=decide (b<n)&&(decide (1≤n)&&decide (n≤1000))
theorem r329 (b n:Int):res A az 329 [.int .i64 b,.int .i64 n]=some [.bool (wB b n)]:=by
 refine aq a329 rfl rfl ?_
 simp only[F329]; try delta sS tT zZ nN gG bB pZ
 simp(disch:=omega)only[go_sem]
 unfold wB
 repeat' (refine Br.aG (fun h=>?_) (fun h=>?_)<;>simp(disch:=omega)only[go_sem,h])
 all_goals simp[*]
def pV (l:List Nm) (k:Nat):Int:=match k with
 |0=>0
 |_+1=>lO l k
theorem Ct (l:List Nm) (k:Nat) (p:Nm):iC l k p=(!wB (pV l k) p.1||!isName p.2||cp ((l.map (·.2)).take k) p.2):=by
 have h:(decide (p.1<1)||decide (1000<p.1)||(decide (0<k)&&decide (p.1≤lO l k)))=!wB (pV l k) p.1:=by
  unfold wB
  rw[PY]
  cases k with
  |zero=>
   rw[Bool.not_eq_true',QI,QI,decide_eq_false_iff_not,decide_eq_false_iff_not,decide_eq_false_iff_not]
   simp only[pV,Bool.or_eq_true,Bool.and_eq_true,decide_eq_true_eq]
   omega
  |succ j=>
   rw[Bool.not_eq_true',QI,QI,decide_eq_false_iff_not,decide_eq_false_iff_not,decide_eq_false_iff_not]
   simp only[pV,Bool.or_eq_true,Bool.and_eq_true,decide_eq_true_eq]
   omega
 unfold iC
 rw[h]
 generalize (!wB (pV l k) p.1)=x
 generalize cp _ _=y
 generalize isName _=z
 cases x<;>cases y<;>cases z<;>rfl
theorem wC {l:List Nm} {k:Nat} {p:Nm} (hp:l[k]?=some p) (h:iC l k p=true):kf l=false:=by
 have hk:=(Pg.1 hp).1
 unfold kf
 rw[Bool.not_eq_false',Qs]
 exact⟨k,List.mem_range.2 hk,by simp only[iD,hp]; exact h⟩
theorem zq {α:Type} (nm:α→Nm) (l:List α) (k:Nat) (x:ByteArray):cp (((l.map nm).map (·.2)).take k) x=(l.take k).any fun q=>decide ((nm q).2=x):=by
 unfold cp
 rw[← Qf,← Qf,Qe,Qe]
 rfl
theorem wD {l:List Nm} {k:Nat} {p:Nm} (hp:l[k]?=some p):pV l (k+1)=p.1:=by
 show lO l (k+1)=p.1
 unfold lO
 rw[Nat.add_sub_cancel,hp]
 rfl
set_option maxHeartbeats 1000000 in
theorem r311 (t:Nat) (l:List Sym) (hl:l.length≤2147483648) (hs:∀p∈l,bh p.name):res A az 311 [.ae t (l.map Sym.c)]=some [.bool (j0 l)]:=by
 refine aq a311 rfl rfl ?_
 simp only[F311]; try delta sS tT zZ nN gG bB pZ
 simp(disch:=omega)only[go_sem]
 refine W.find (List.range l.length) (iD (l.map Sym.nm)) (fun k=>⟨[(0,.pv (.ae t (l.map Sym.c))),(3,.pv (.int .i64 (pV (l.map Sym.nm) k))),(4,.pv (.int .i64 k))],⟨[],[],[]⟩⟩) rfl (fun k x hx hk hfd=>?_) (fun hn=>?_)
 ·obtain⟨rfl,hk⟩:=cV hx
  have hp:=Pj hk
  generalize l[x]=p at hp
  have hq:(l.map Sym.nm)[x]?=some p.nm:=by rw[Pn,hp]; rfl
  have hnm:=r310 p.name (hs p (Ph hp))
  have hid:=r329 (pV (l.map Sym.nm) x) p.id
  have hb:iD (l.map Sym.nm) x=(!wB (pV (l.map Sym.nm) x) p.id||!isName p.name||(l.take x).any fun q=>decide (q.name=p.name)):=by
   simp only[iD,hq]
   rw[Ct,zq]
   rfl
  have done:iD (l.map Sym.nm) x=true→(some [PV.bool false]:Option (List PV))=some [PV.bool (j0 l)]:=fun g=>by
   refine oL ?_
   simp only[iD,hq]at g
   simp only[j0,wC hq g,Bool.false_and,Bool.and_false]
  rw[hb]at done ⊢
  simp(disch:=omega)only[go_sem]
  refine Br.aG (fun c=>?_) (fun c=>(c (by omega)).elim)
  simp(disch:=omega)only[go_sem,hp,Sym.c,hid]
  refine Br.of (fun c1=>?_) (fun c1=>?_)<;>simp(disch:=omega)only[go_sem,c1,hp,Sym.c,hnm]
  rotate_left
  ·exact done (by simp[c1])
  refine Br.of (fun c2=>?_) (fun c2=>?_)<;>simp(disch:=omega)only[go_sem,c2]
  rotate_left
  ·exact done (by simp[c2])
  refine W.find (l.take x) (fun q=>decide (q.name=p.name)) (fun j=>⟨[(0,.pv (.ae t (l.map Sym.c))),(4,.pv (.int .i64 x)),(5,.pv (.int .i64 j))],⟨[],[],[]⟩⟩) rfl (fun j q hj hjl hfd2=>?_) (fun hn=>?_)
  ·have hjl':j<x∧j<l.length:=by rw[Pt]at hjl; omega
   have hj':l[j]?=some q:=by
    rw[Pw,if_pos hjl'.1]at hj
    exact hj
   simp(disch:=omega)only[go_sem]
   refine Br.aG (fun c=>?_) (fun c=>(c (by omega)).elim)
   simp(disch:=omega)only[go_sem,hp,hj',Sym.c]
   refine Br.aG (fun c3=>?_) (fun c3=>?_)<;>simp(disch:=omega)only[go_sem,c3]
   ·exact done (by rw[(hfd2 (by simp[c3])).any,Bool.or_true])
   ·exact aR.of (by simp[c3]) rfl
  ·have hlx:(l.take x).length=x:=by rw[Pt]; omega
   rw[hlx]
   simp(disch:=omega)only[go_sem,hp,Sym.c]
   refine aR.of ?_ ?_
   ·rw[hn.any,c1,c2]
    rfl
   ·rw[wD hq]
    rfl
 ·rw[PL]
  simp(disch:=omega)only[go_sem]
  have hi:kf (l.map Sym.nm)=true:=by
   unfold kf
   rw[Pm,hn.any]
   rfl
  refine Br.aG (fun c3=>?_) (fun c3=>?_)<;>simp(disch:=omega)only[go_sem,c3]
  ·have h0:0<l.length:=by omega
   simp[j0,hi,h0]
   omega
  ·have h0:¬0<l.length:=by omega
   simp[j0,h0]
noncomputable def uL (rec:Bool) (l:List Mem) (k:Nat):Bool:=match l[k]? with
 |some m=>iE rec m
 |none=>false
set_option maxHeartbeats 4000000 in
theorem r312 (t : Nat) (l : List Mem) (rec : Bool) (hl : l.length ≤ 2147483648) (ho : ∀ p ∈ l,p.ok) : res A az 312 [.ae t (l.map Mem.c),.bool rec] = some [.bool (ek rec l)] := by
  refine aq a312 rfl rfl ?_
  simp only [F312]; try delta sS tT zZ nN gG bB pZ
  simp (disch := omega) only [go_sem]
  refine W.find (List.range l.length) (fun k => iD (l.map Mem.nm) k || uL rec l k) (fun k => ⟨[(0,.pv (.ae t (l.map Mem.c))),(1,.pv (.bool rec)),(5,.pv (.int .i64 (pV (l.map Mem.nm) k))),(6,.pv (.int .i64 k))],⟨[],[],[]⟩⟩) rfl (fun k x hx hk hfd => ?_) (fun hn => ?_)
  · obtain ⟨rfl,hk⟩ := cV hx
    have hp := Pj hk
    generalize l[x] = p at hp
    clear hfd
    have hq : (l.map Mem.nm)[x]? = some p.nm := by rw [Pn,hp]; rfl
    obtain ⟨_,hsn,_,hd⟩ := ho p (Ph hp)
    have hnm := r310 p.name hsn
    have hid := r329 (pV (l.map Mem.nm) x) p.id
    have hz := r330v hd zo
    rw [lq] at hz
    have hb : iD (l.map Mem.nm) x = (!wB (pV (l.map Mem.nm) x) p.id || !isName p.name || (l.take x).any fun q => decide (q.name = p.name)) := by
      simp only [iD,hq]
      rw [Ct,zq]
      rfl
    have done : (iD (l.map Mem.nm) x || iE rec p) = true → (some [PV.bool false] : Option (List PV)) = some [PV.bool (ek rec l)] := fun g => by
      refine oL ?_
      rcases Bool.or_eq_true _ _ |>.mp g with g | g
      · simp only [iD,hq] at g
        simp only [ek,wC hq g,Bool.false_and,Bool.and_false]
      · have : l.any (iE rec) = true := Qs.2 ⟨p,Ph hp,g⟩
        simp only [ek,this,Bool.not_true,Bool.false_and]
    have hbm : uL rec l x = iE rec p := by simp only [uL,hp]
    rw [hbm]
    rw [hb] at done ⊢
    unfold iE at done ⊢
    generalize eqv p.gr fy = z at hz done ⊢
    unfold fy dC.c at hz
    simp only [List.map_nil] at hz
    simp (disch := omega) only [go_sem]
    refine Br.aG (fun c => ?_) (fun c => (c (by omega)).elim)
    simp (disch := omega) only [go_sem,hp,Mem.c,hid]
    refine Br.of (fun c1 => ?_) (fun c1 => ?_) <;> simp (disch := omega) only [go_sem,c1,hnm]
    rotate_left
    · exact done (by simp [c1])
    refine Br.of (fun c2 => ?_) (fun c2 => ?_) <;> simp (disch := omega) only [go_sem,c2]
    rotate_left
    · exact done (by simp [c2])
    repeat' (refine Br.of (fun h => ?_) (fun h => ?_) <;> simp (disch := omega) only [go_sem,h,hz])
    all_goals subst_vars
    all_goals first
      | (refine done ?_
         simp [*]
         done)
      | skip
    all_goals
      refine W.find (l.take x) (fun q => decide (q.name = p.name)) ((fun (b : V) (cs : List V) => fun j => ⟨[(0,.pv (.ae t (l.map Mem.c))),(1,b),(6,.pv (.int .i64 x)),(7,.ptr 7 0),(8,.pv (.int .i64 (j : Nat)))],⟨[(7,cs)],[],[]⟩⟩) _ _) rfl (fun j q hj hjl hfd2 => ?_) (fun hn => ?_)
      · have hjl' : j < x ∧ j < l.length := by rw [Pt] at hjl; omega
        have hj' : l[j]? = some q := by
          rw [Pw,if_pos hjl'.1] at hj
          exact hj
        simp (disch := omega) only [go_sem]
        refine Br.aG (fun c => ?_) (fun c => (c (by omega)).elim)
        simp (disch := omega) only [go_sem,hj',Mem.c]
        refine Br.aG (fun c3 => ?_) (fun c3 => ?_) <;> simp (disch := omega) only [go_sem,c3]
        · exact done (by rw [(hfd2 (by simp [c3])).any]; simp)
        · exact aR.of (by simp [c3]) rfl
      · have hlx : (l.take x).length = x := by rw [Pt]; omega
        rw [hlx]
        simp (disch := omega) only [go_sem]
        refine aR.of ?_ ?_
        · rw [hn.any,c1,c2]
          simp [*]
        · rw [wD hq]
          rfl
  · rw [PL]
    simp (disch := omega) only [go_sem]
    have ha := hn.any
    rw [P0] at ha
    have hi : kf (l.map Mem.nm) = true := by
      unfold kf
      rw [Bool.not_eq_true',P0]
      intro k hk
      rw [Pm] at hk
      have := ha k hk
      simp only [Bool.or_eq_true,not_or] at this
      exact this.1
    have hb : l.any (iE rec) = false := by
      rw [P0]
      intro m hm
      obtain ⟨k,hk⟩ := Pk.1 hm
      have := ha k (List.mem_range.2 (Pg.1 hk).1)
      simp only [Bool.or_eq_true,not_or,uL,hk] at this
      simpa using this.2
    refine Br.aG (fun c3 => ?_) (fun c3 => ?_) <;> simp (disch := omega) only [go_sem,c3]
    · refine Br.of (fun c4 => ?_) (fun c4 => ?_) <;> simp (disch := omega) only [go_sem,c4]
      · subst c4
        have n3 : l.length ≤ 16 := by omega
        simp only [ek,hi,hb,n3]
        simp
      · subst c4
        have n3 : l.length ≤ 16 := by omega
        simp only [ek,hi,hb,n3]
        congr 3
        rw [PY]
        simp
        omega
    · have n3 : ¬ l.length ≤ 16 := by omega
      simp only [ek,hi,hb,n3]
      simp
end Go.Pv
namespace Go.Pv
set_option maxHeartbeats 4000000 in
theorem r319 (x y:Mem) (hx:x.ok) (hy:y.ok):res A az 319 [.agg x.c,.agg y.c]=some [.bool (eqv x y)]:=by
 have hv:=r320v hx.2.2.2 hy.2.2.2
 rw[lq]at hv
 obtain⟨a1,a2,a3,a4,a5,v⟩:=x
 obtain⟨b1,b2,b3,b4,b5,w⟩:=y
 unfold Mem.c
 unfold dC.c at hv
 dsimp only at *
 have no:∀{p q:Mem},p≠q→(some [PV.bool false]:Option (List PV))=some [PV.bool (eqv p q)]:=fun h=>by rw[gx h]
 refine aq a319 rfl rfl ?_
 simp only[F319]; try delta sS tT zZ nN gG bB pZ
 simp(disch:=omega)only[go_sem]
 refine Br.aG (fun e=>?_) (fun e=>?_)<;>simp(disch:=omega)only[go_sem,e]
 rotate_left
 ·exact no (fun q=>e (by cases q; rfl))
 subst e
 refine Br.aG (fun e=>?_) (fun e=>?_)<;>simp(disch:=omega)only[go_sem,e]
 rotate_left
 ·exact no (fun q=>e (by cases q; rfl))
 subst e
 refine Br.aG (fun e=>?_) (fun e=>?_)<;>simp(disch:=omega)only[go_sem,e]
 rotate_left
 ·exact no (fun q=>e (by cases q; rfl))
 subst e
 refine Br.aG (fun e=>?_) (fun e=>?_)<;>simp(disch:=omega)only[go_sem,e]
 rotate_left
 ·exact no (fun q=>e (by cases q; rfl))
 subst e
 refine Br.aG (fun e=>?_) (fun e=>?_)<;>simp(disch:=omega)only[go_sem,e]
 rotate_left
 ·exact no (fun q=>e (by cases q; rfl))
 subst e
 simp(disch:=omega)only[go_sem,hv]
 congr 3
 rw[PY,cz,cz]
 exact⟨fun e=>by rw[e],fun q=>by cases q; rfl⟩
set_option maxHeartbeats 4000000 in
theorem r316 (x y:Mem) (hx:x.ok) (hy:y.ok):res A az 316 [.agg x.c,.agg y.c]=some [.bool (eqv x y)]:=by
 have hv:=r330v hx.2.2.2 hy.2.2.2
 rw[lq]at hv
 obtain⟨a1,a2,a3,a4,a5,v⟩:=x
 obtain⟨b1,b2,b3,b4,b5,w⟩:=y
 unfold Mem.c
 unfold dC.c at hv
 dsimp only at *
 have no:∀{p q:Mem},p≠q→(some [PV.bool false]:Option (List PV))=some [PV.bool (eqv p q)]:=fun h=>by rw[gx h]
 refine aq a316 rfl rfl ?_
 simp only[F316]; try delta sS tT zZ nN gG bB pZ
 simp(disch:=omega)only[go_sem]
 refine Br.aG (fun e=>?_) (fun e=>?_)<;>simp(disch:=omega)only[go_sem,e]
 rotate_left
 ·exact no (fun q=>e (by cases q; rfl))
 subst e
 refine Br.aG (fun e=>?_) (fun e=>?_)<;>simp(disch:=omega)only[go_sem,e]
 rotate_left
 ·exact no (fun q=>e (by cases q; rfl))
 subst e
 refine Br.aG (fun e=>?_) (fun e=>?_)<;>simp(disch:=omega)only[go_sem,e]
 rotate_left
 ·exact no (fun q=>e (by cases q; rfl))
 subst e
 refine Br.aG (fun e=>?_) (fun e=>?_)<;>simp(disch:=omega)only[go_sem,e]
 rotate_left
 ·exact no (fun q=>e (by cases q; rfl))
 subst e
 refine Br.aG (fun e=>?_) (fun e=>?_)<;>simp(disch:=omega)only[go_sem,e]
 rotate_left
 ·exact no (fun q=>e (by cases q; rfl))
 subst e
 simp(disch:=omega)only[go_sem,hv]
 congr 3
 rw[PY,cz,cz]
 exact⟨fun e=>by rw[e],fun q=>by cases q; rfl⟩
set_option maxHeartbeats 4000000 in
theorem r318 (t u:Nat) (l m:List Mem) (hl:l.length≤2^63 - 1) (_hm:m.length≤2^63 - 1) (vl:∀r∈l,r.ok) (vm:∀r∈m,r.ok):res A az 318 [.ae t (l.map Mem.c),.ae u (m.map Mem.c),.func 319 []]=some [.bool (eqv l m)]:=by
 refine aq a318 rfl rfl ?_
 simp only[F318]; try delta sS tT zZ nN gG bB pZ
 simp(disch:=omega)only[go_sem]
 refine Br.aG (fun h=>?_) (fun h=>?_)<;>simp(disch:=omega)only[go_sem]
 ·refine W.find (l.zip m) (fun q=>!eqv q.1 q.2) (fun k=>⟨[(1,.pv (.ae u (m.map Mem.c))),(2,.pv (.func 319 [])),(15,.pv (.ae t (l.map Mem.c))),(16,.pv (.int .i64 l.length)),(17,.pv (.int .i64 k))],⟨[],[],[]⟩⟩) rfl (fun k q hq hk hfd=>?_) (fun hn=>?_)
  ·obtain⟨h1,h2⟩:=gU hq
   rw[dt (by omega)]at hk
   have hc:=r319 q.1 q.2 (vl q.1 (Ph h1)) (vm q.2 (Ph h2))
   unfold Mem.c at hc
   simp(disch:=omega)only[go_sem]
   refine Br.aG (fun c=>?_) (fun c=>(c (by omega)).elim)
   simp(disch:=omega)only[go_sem,h1,h2,Mem.c,hc]
   refine Br.of (fun g=>?_) (fun g=>?_)<;>simp(disch:=omega)only[go_sem]
   ·exact aR.of (by rw[g]; rfl) rfl
   ·rw[(hfd (by rw[g]; rfl)).ne]
  ·have hz:(l.zip m).length=l.length:=dt (by omega)
   rw[hz]
   simp(disch:=omega)only[go_sem]
   rw[hn.eq (by omega),eF]
 ·rw[gx (fun e=>h (by rw[e]))]
set_option maxHeartbeats 8000000 in
theorem r297 (x y:aF) (hx:x.ok) (hy:y.ok):res A az 297 [.agg x.c,.agg y.c]=some [.bool (eqv x y)]:=by
 obtain⟨_,⟨lx1,lx2⟩,_,lx3⟩:=hx
 obtain⟨_,⟨ly1,ly2⟩,_,ly3⟩:=hy
 unfold cu at *
 have hs:=fun t u=>r317 t u x.syms y.syms (by omega) (by omega)
 have hm:=fun t u=>r318 t u x.aM y.aM (by omega) (by omega) lx3 ly3
 obtain⟨a1,a2,a3,a4,a5,a6,a7,a8,a9,a10⟩:=x
 obtain⟨b1,b2,b3,b4,b5,b6,b7,b8,b9,b10⟩:=y
 unfold aF.c
 dsimp only at *
 have no:∀{p q:aF},p≠q→(some [PV.bool false]:Option (List PV))=some [PV.bool (eqv p q)]:=fun h=>by rw[gx h]
 refine aq a297 rfl rfl ?_
 simp only[F297]; try delta sS tT zZ nN gG bB pZ
 simp(disch:=omega)only[go_sem]
 refine Br.aG (fun e=>?_) (fun e=>?_)<;>simp(disch:=omega)only[go_sem,e]
 rotate_left
 ·exact no (fun q=>e (by cases q; rfl))
 subst e
 refine Br.aG (fun e=>?_) (fun e=>?_)<;>simp(disch:=omega)only[go_sem,e]
 rotate_left
 ·exact no (fun q=>e (by cases q; rfl))
 subst e
 refine Br.aG (fun e=>?_) (fun e=>?_)<;>simp(disch:=omega)only[go_sem,e]
 rotate_left
 ·exact no (fun q=>e (by cases q; rfl))
 subst e
 refine Br.aG (fun e=>?_) (fun e=>?_)<;>simp(disch:=omega)only[go_sem,e]
 rotate_left
 ·exact no (fun q=>e (by cases q; rfl))
 subst e
 refine Br.aG (fun e=>?_) (fun e=>?_)<;>simp(disch:=omega)only[go_sem,e]
 rotate_left
 ·exact no (fun q=>e (by cases q; rfl))
 subst e
 refine Br.aG (fun e=>?_) (fun e=>?_)<;>simp(disch:=omega)only[go_sem,e]
 rotate_left
 ·exact no (fun q=>e (by cases q; rfl))
 subst e
 refine Br.aG (fun e=>?_) (fun e=>?_)<;>simp(disch:=omega)only[go_sem,e]
 rotate_left
 ·exact no (fun q=>e (by cases q; rfl))
 subst e
 refine Br.aG (fun e=>?_) (fun e=>?_)<;>simp(disch:=omega)only[go_sem,e]
 rotate_left
 ·exact no (fun q=>e (by cases q; rfl))
 subst e
 simp(disch:=omega)only[go_sem,hs]
 refine Br.of (fun e=>?_) (fun e=>?_)<;>simp(disch:=omega)only[go_sem,e]
 rotate_left
 ·exact no (fun q=>kV.1 e (by cases q; rfl))
 have e:=cz.1 e
 subst e
 simp(disch:=omega)only[go_sem,hm]
 congr 3
 rw[PY,cz,cz]
 exact⟨fun e=>by rw[e],fun q=>by cases q; rfl⟩
set_option maxHeartbeats 8000000 in
theorem r295 (x y:aF) (hx:x.ok) (hy:y.ok):res A az 295 [.agg x.c,.agg y.c]=some [.bool (eqv x y)]:=by
 obtain⟨_,⟨lx1,lx2⟩,_,lx3⟩:=hx
 obtain⟨_,⟨ly1,ly2⟩,_,ly3⟩:=hy
 unfold cu at *
 obtain⟨a1,a2,a3,a4,a5,a6,a7,a8,a9,a10⟩:=x
 obtain⟨b1,b2,b3,b4,b5,b6,b7,b8,b9,b10⟩:=y
 unfold aF.c
 dsimp only at *
 have no:∀{p q:aF},p≠q→(some [PV.bool false]:Option (List PV))=some [PV.bool (eqv p q)]:=fun h=>by rw[gx h]
 refine aq a295 rfl rfl ?_
 simp only[F295]; try delta sS tT zZ nN gG bB pZ
 simp(disch:=omega)only[go_sem]
 refine Br.aG (fun e=>?_) (fun e=>?_)<;>simp(disch:=omega)only[go_sem,e]
 rotate_left
 ·exact no (fun q=>e (by cases q; rfl))
 subst e
 refine Br.aG (fun e=>?_) (fun e=>?_)<;>simp(disch:=omega)only[go_sem,e]
 rotate_left
 ·exact no (fun q=>e (by cases q; rfl))
 subst e
 refine Br.aG (fun e=>?_) (fun e=>?_)<;>simp(disch:=omega)only[go_sem,e]
 rotate_left
 ·exact no (fun q=>e (by cases q; rfl))
 subst e
 refine Br.aG (fun e=>?_) (fun e=>?_)<;>simp(disch:=omega)only[go_sem,e]
 rotate_left
 ·exact no (fun q=>e (by cases q; rfl))
 subst e
 refine Br.aG (fun e=>?_) (fun e=>?_)<;>simp(disch:=omega)only[go_sem,e]
 rotate_left
 ·exact no (fun q=>e (by cases q; rfl))
 subst e
 refine Br.aG (fun e=>?_) (fun e=>?_)<;>simp(disch:=omega)only[go_sem,e]
 rotate_left
 ·exact no (fun q=>e (by cases q; rfl))
 subst e
 refine Br.aG (fun e=>?_) (fun e=>?_)<;>simp(disch:=omega)only[go_sem,e]
 rotate_left
 ·exact no (fun q=>e (by cases q; rfl))
 subst e
 refine Br.aG (fun e=>?_) (fun e=>?_)<;>simp(disch:=omega)only[go_sem,e]
 rotate_left
 ·exact no (fun q=>e (by cases q; rfl))
 subst e
 refine Br.aG (fun e=>?_) (fun e=>?_)<;>simp(disch:=omega)only[go_sem,e]
 rotate_left
 ·exact no (fun q=>e (by cases q; rfl))
 refine Br.aG (fun e2=>?_) (fun e2=>?_)<;>simp(disch:=omega)only[go_sem,e2]
 rotate_left
 ·exact no (fun q=>e2 (by cases q; rfl))
 refine W.find (a6.zip b6) (fun q=>!eqv q.1 q.2) (fun k=>⟨[(2,.ptr 2 0),(3,.ptr 3 0),(5,.pv (.int .i64 k))],⟨[(2,[.pv (.int .i64 a1),.pv (.str a2),.pv (.int .i64 a3),.pv (.int .i64 a4),.pv (.int .i64 a5),.pv (.ae 0 (a6.map Sym.c)),.pv (.ae 0 (a7.map Mem.c)),.pv (.int .i64 a8),.pv (.int .i64 a9),.pv (.bool a10)]),(3,[.pv (.int .i64 a1),.pv (.str a2),.pv (.int .i64 a3),.pv (.int .i64 a4),.pv (.int .i64 a5),.pv (.ae 0 (b6.map Sym.c)),.pv (.ae 0 (b7.map Mem.c)),.pv (.int .i64 a8),.pv (.int .i64 a9),.pv (.bool a10)])],[],[]⟩⟩) rfl (fun k q hq hk hfd=>?_) (fun hn=>?_)
 ·obtain⟨h1,h2⟩:=gU hq
  rw[dt (by omega)]at hk
  simp(disch:=omega)only[go_sem]
  refine Br.aG (fun c=>?_) (fun c=>(c (by omega)).elim)
  simp(disch:=omega)only[go_sem,h1,h2,Sym.c]
  rw[← zm]
  refine Br.of (fun g=>?_) (fun g=>?_)<;>simp(disch:=omega)only[go_sem]
  ·exact aR.of (by rw[g]; rfl) rfl
  ·exact no (fun q=>kV.1 (hfd (by rw[g]; rfl)).ne (by cases q; rfl))
 ·have hz:(a6.zip b6).length=a6.length:=dt (by omega)
  rw[hz]
  have e:=hn.eq (by omega)
  subst e
  simp(disch:=omega)only[go_sem]
  refine W.find (a7.zip b7) (fun q=>!eqv q.1 q.2) (fun k=>⟨[(2,.ptr 2 0),(3,.ptr 3 0),(6,.pv (.int .i64 k))],⟨[(2,[.pv (.int .i64 a1),.pv (.str a2),.pv (.int .i64 a3),.pv (.int .i64 a4),.pv (.int .i64 a5),.pv (.ae 0 (a6.map Sym.c)),.pv (.ae 0 (a7.map Mem.c)),.pv (.int .i64 a8),.pv (.int .i64 a9),.pv (.bool a10)]),(3,[.pv (.int .i64 a1),.pv (.str a2),.pv (.int .i64 a3),.pv (.int .i64 a4),.pv (.int .i64 a5),.pv (.ae 0 (a6.map Sym.c)),.pv (.ae 0 (b7.map Mem.c)),.pv (.int .i64 a8),.pv (.int .i64 a9),.pv (.bool a10)])],[],[]⟩⟩) rfl (fun k q hq hk hfd=>?_) (fun hn=>?_)
  ·obtain⟨h1,h2⟩:=gU hq
   rw[dt (by omega)]at hk
   have hc:=r316 q.1 q.2 (lx3 q.1 (Ph h1)) (ly3 q.2 (Ph h2))
   unfold Mem.c at hc
   simp(disch:=omega)only[go_sem]
   refine Br.aG (fun c=>?_) (fun c=>(c (by omega)).elim)
   simp(disch:=omega)only[go_sem,h1,h2,Mem.c,hc]
   refine Br.of (fun g=>?_) (fun g=>?_)<;>simp(disch:=omega)only[go_sem]
   ·exact aR.of (by rw[g]; rfl) rfl
   ·exact no (fun q=>kV.1 (hfd (by rw[g]; rfl)).ne (by cases q; rfl))
  ·have hz:(a7.zip b7).length=a7.length:=dt (by omega)
   rw[hz]
   have e:=hn.eq (by omega)
   subst e
   simp(disch:=omega)only[go_sem]
   rw[eF]
end Go.Pv
namespace Go.Pv
theorem r286 (k:Int):res A az 286 [.int .i64 k]=some [.bool (decide (4≤k)&&decide (k≤6))]:=by
 refine aq a286 rfl rfl ?_
 simp only[F286]; try delta sS tT zZ nN gG bB pZ
 simp(disch:=omega)only[go_sem]
 have hk:(decide (4≤k)&&decide (k≤6))=decide (k=4∨k=5∨k=6):=by
  rw[PY]
  simp only[Bool.and_eq_true,decide_eq_true_eq]
  omega
 rw[hk]
 refine Br.aG (fun h1=>?_) (fun h1=>?_)
 ·have:decide (k=4∨k=5∨k=6)=true:=by simp[h1]
  rw[this]
  simp(disch:=omega)only[go_sem,h1]
 ·by_cases h2:k=5
  ·have:decide (k=4∨k=5∨k=6)=true:=by simp[h2]
   rw[this]
   simp(disch:=omega)only[go_sem,h2]
  ·have:decide (k=4∨k=5∨k=6)=decide (k=6):=by simp[h1,h2]
   rw[this]
   simp(disch:=omega)only[go_sem,h1]
   refine Br.aG (fun h3=>(h2 h3).elim) (fun h3=>?_)
   simp(disch:=omega)only[go_sem,h3]
end Go.Pv
namespace Go.Pv
def dW:aF:=⟨0,⟨#[]⟩,0,0,0,[],[],0,0,false⟩
def eH (t:aF):aF:=
 if t.kind=1 then { dW with kind:=1 }
 else if t.kind=2 then { dW with kind:=2,low:=t.low,high:=t.high }
 else if t.kind=3 then { dW with kind:=3,max:=t.max }
 else if t.kind=4 then { dW with kind:=4,name:=t.name,syms:=t.syms,pc:=t.pc }
 else if t.kind=5 then { dW with kind:=5,name:=t.name,aM:=t.aM }
 else if t.kind=6 then { dW with kind:=6,name:=t.name,aM:=t.aM,pc:=t.pc }
 else if t.kind=7 then { dW with kind:=7,max:=t.max,elem:=t.elem }
 else if t.kind=8 then { dW with kind:=8,max:=t.max,key:=t.key,elem:=t.elem }
 else { dW with kind:=t.kind,elem:=t.elem }
theorem rp (k:Int):k=1∨k=2∨k=3∨k=4∨k=5∨k=6∨k=7∨k=8∨(k≠1∧k≠2∧k≠3∧k≠4∧k≠5∧k≠6∧k≠7∧k≠8):=by omega
theorem rq:dW.ok:=by
 refine⟨?_,?_,fun s hs=>(List.not_mem_nil hs).elim,fun s hs=>(List.not_mem_nil hs).elim⟩<;>simp[dW,fZ,bh,cu]
 exact Qn _
theorem As {t:aF} (h:t.ok):(eH t).ok:=by
 obtain⟨⟨h0,h1,h2,h3,h4,h5,h6⟩,⟨h7,h8⟩,h9,h10⟩:=h
 obtain⟨⟨z0,z1,z2,z3,z4,z5,z6⟩,⟨z7,z8⟩,z9,z10⟩:=rq
 have kk:fZ 1∧fZ 2∧fZ 3∧fZ 4∧fZ 5∧fZ 6∧fZ 7∧fZ 8:=by simp[fZ]
 obtain⟨k1,k2,k3,k4,k5,k6,k7,k8⟩:=kk
 unfold eH
 repeat' split
 all_goals exact⟨⟨by assumption,by assumption,by assumption,by assumption,by assumption,by assumption,by assumption⟩,⟨by assumption,by assumption⟩,by assumption,by assumption⟩
set_option maxHeartbeats 4000000 in
theorem r309 (t:aF):res A az 309 [.agg t.c]=some [.agg (eH t).c]:=by
 obtain⟨k,a2,a3,a4,a5,a6,a7,a8,a9,a10⟩:=t
 refine aq a309 rfl rfl ?_
 simp only[F309]; try delta sS tT zZ nN gG bB pZ
 unfold eH aF.c dW
 dsimp only
 rcases rp k with rfl|rfl|rfl|rfl|rfl|rfl|rfl|rfl|⟨n1,n2,n3,n4,n5,n6,n7,n8⟩
 all_goals simp(disch:=omega)only[go_sem, *]
 all_goals simp
end Go.Pv
