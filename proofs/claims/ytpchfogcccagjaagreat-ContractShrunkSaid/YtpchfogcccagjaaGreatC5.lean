/-
 What the functions of the law give.
-/
import Derived.Test.YtpchfogcccagjaaGreatC4
set_option linter.unusedSimpArgs false
set_option linter.unusedVariables false
open List renaming mem_of_getElem? → aaj, getElem?_eq_some_iff → aak, getElem?_eq_getElem → aal, getElem?_map → aap, mem_map → aaq, getD_eq_getElem?_getD → aat, mem_cons_of_mem → aaz, findIdx?_eq_some_iff_getElem → aaC, mem_cons → aaE, pairwise_cons → aaI, mem_cons_self → aaN, mem_range → aaV, any_eq_false → aaW, getElem?_eq_none → aaX, ext_getElem? → aa0, mem_append_left → aa2, findIdx?_eq_none_iff → aa3, map_map → aa6, mem_append_right → aa9, foldl_cons → abd, length_set → abe, pairwise_iff_getElem → abh, getElem?_zip_eq_some → abn, length_replicate → abu, getElem?_replicate → abw, mem_filter → aby, length_filter_le → abU, pairwise_map → abW, mem_or_eq_of_mem_set → abX, getElem?_set → aca, length_cons → ach, ext_getElem → aci
open Nat renaming lt_or_ge → aar, add_assoc → abx, zero_add → ab2
open Int renaming toNat_natCast → aaU, eq_ofNat_of_zero_le → abM, le_refl → abP
open Bool renaming true_and → aa8, false_and → abG, and_false → ace
namespace Go.Pv
theorem kW {α:Type}(l:List α)(f:α->Bool):l.all (λy=>!!f y)=l.all f:=by simp
theorem r508 (u v:Nat)(T:List (List PV))(t:Int)(l:List (List PV))(f:List PV->Bool)(hl:l.length<=2^63 - 1)(hv:∀r∈l,∃w:dO,r=w.c)(h:∀r∈l,res A ay 502 [.agg [.ae u T],.int .i64 t,.agg r,.bool true]=some [.bool (f r)]):res A ay 508 [.agg [.ae u T],.int .i64 t,.ae v l,.bool true]=some [.bool (l.all f)]:=by
 refine ai a508 rfl rfl ?_;simp only[F508,Qd];simp(disch:=omega)only[go_sem];refine W.find l (λr=>!f r) (λk=>⟨[(1,.pv (.int .i64 t)),(2,.pv (.ae v l)),(3,.pv (.bool true)),(4,.ptr 4 0),(9,.pv (.int .i64 k))],⟨[(4,[.pv (.ae u T)])],[],[]⟩⟩) rfl (λk x hx hk hfd=>?_) (λhn=>?_)
 .obtain⟨w,rfl⟩:=hv x (aaj hx);have hc:=h w.c (aaj hx);have hfd:=λg=>(hfd g).all;rw[kW]at hfd;generalize f w.c=e at hc hfd |-;unfold dO.c at hc hx;simp(disch:=omega)only[go_sem];refine Br.aF (λc=>?_) (λc=>(c (by omega)).elim);simp(disch:=omega)only[go_sem,hx,hc];refine Br.of (λg=>?_) (λg=>?_)<;>simp(disch:=omega)only[go_sem]
  .exact aX.of (by rw[g];rfl) rfl
  .rw[hfd (by rw[g];rfl)]
 .have hn:=hn.all;rw[kW]at hn;simp(disch:=omega)only[go_sem];rw[hn]
theorem r518 (u a b c:Nat)(T:List (List PV))(t:Int)(w:dO)(e:Bool)(h:res A ay 503 [.agg [.ae u T],.int .i64 t,.agg w.c,.bool true]=some [.bool e]):res A ay 518 [.agg w.c,.ro a [.ae u T],.ro b [.int .i64 t],.ro c [.bool true]]=some [.bool (!e)]:=by
 refine ai a518 rfl rfl ?_;simp only[F518,Qm];unfold dO.c at h |-;simp(disch:=omega)only[go_sem,h]
theorem r522 (u v a b c:Nat)(T:List (List PV))(t:Int)(l:List (List PV))(f:List PV->Bool)(hl:l.length<=2^63 - 1)(hv:∀r∈l,∃w:dO,r=w.c)(h:∀r∈l,res A ay 503 [.agg [.ae u T],.int .i64 t,.agg r,.bool true]=some [.bool (f r)]):res A ay 522 [.ae v l,.func 518 [.ro a [.ae u T],.ro b [.int .i64 t],.ro c [.bool true]]]=some [.int .i64 (bg (λr=>!f r) l)]:=by
 refine ai a522 rfl rfl ?_;simp only[F522,Qq];simp(disch:=omega)only[go_sem];refine W.find l (λr=>!f r) (λk=>⟨[(0,.pv (.ae v l)),(1,.pv (.func 518 [.ro a [.ae u T],.ro b [.int .i64 t],.ro c [.bool true]])),(7,.pv (.int .i64 l.length)),(8,.pv (.int .i64 k))],⟨[],[],[]⟩⟩) rfl (λk x hx hk hfd=>?_) (λhn=>?_)
 .obtain⟨w,rfl⟩:=hv x (aaj hx);have hc:=r518 u a b c T t w _ (h w.c (aaj hx));have hfd:=λg=>(hfd g).bg;generalize f w.c=e at hc hfd |-;unfold dO.c at hc hx;simp(disch:=omega)only[go_sem];refine Br.aF (λc=>?_) (λc=>(c (by omega)).elim);simp(disch:=omega)only[go_sem,hx,hc];refine Br.of (λg=>?_) (λg=>?_)<;>simp(disch:=omega)only[go_sem]
  .exact aX.of (by rw[g];rfl) rfl
  .rw[hfd (by rw[g];rfl)]
 .simp(disch:=omega)only[go_sem];rw[hn.bg]
theorem Dv {α:Type}(f:α->Bool)(l:List α):decide (0<=bg (λr=>!f r) l)=!l.all f:=by
 unfold bg;cases h:l.findIdx? (λr=>!f r)with
 |none=>
  have:=aa3.1 h;have h2:l.all f=true:=List.all_eq_true.2 λx hx=>by simpa using this x hx
  simp[h2]
 |some k=>
  obtain⟨hk,h2,_⟩:=aaC.1 h;have h3:l.all f=false:=List.all_eq_false.2 ⟨_,List.getElem_mem hk,by simpa using h2⟩;rw[h3];simp
theorem r512 (u v:Nat)(T:List (List PV))(t:Int)(l:List (List PV))(f:List PV->Bool)(hl:l.length<=2^63 - 1)(hv:∀r∈l,∃w:dO,r=w.c)(h:∀r∈l,res A ay 503 [.agg [.ae u T],.int .i64 t,.agg r,.bool true]=some [.bool (f r)]):res A ay 512 [.agg [.ae u T],.int .i64 t,.ae v l,.bool true]=some [.bool (l.all f)]:=by
 refine ai a512 rfl rfl ?_;simp only[F512,Qg];have h517:∀a b c,res A ay 517 [.ae v l,.func 518 [.ro a [.ae u T],.ro b [.int .i64 t],.ro c [.bool true]]]=some [.bool (!l.all f)]:=by
  intro a b c;refine ai a517 rfl rfl ?_;simp only[F517,Ql];have h522:=r522 u v a b c T t l f hl hv h;simp(disch:=omega)only[go_sem,h522,Dv]
 simp(disch:=omega)only[go_sem,h517,Bool.not_not]
def K3:List PV->List PV->Int
 |[.int _ k,.bool b,.int _ i,.str s,.int _ id,.ae _ ks,.ae _ is,_],[.int _ k',.bool b',.int _ i',.str s',.int _ id',.ae _ ks',.ae _ is',_]=>nO ⟨k,b,i,s,id,ks,is,[]⟩ ⟨k',b',i',s',id',ks',is',[]⟩
 |_,_=>0
theorem qV (a b:dO):K3 a.c b.c=nO a b:=rfl
def F5 (l:List (List PV)):Bool:=(l.zip l.tail).all λq=>decide (K3 q.1 q.2<0)
def gp (rec:Int->List PV->Bool)(x:aB)(v:dO):Bool:=
 if x.kind=1 then true
 else if x.kind=2 then decide (x.low<=v.int)&&decide (v.int<=x.high)
 else if x.kind=3 then decide ((v.str.size:Int)<=x.max)
 else if x.kind=4 then decide (0<=bg (tM v.id) x.syms)
 else if x.kind=5 then decide (v.items.length=x.aO.length)&&(x.aO.zip v.items).all λq=>rec q.1.type q.2
 else if x.kind=6 then (match x.aO.find? (pE v.id),v.items with
  |some m,[r]=>rec m.type r
  |_,_=>false)
 else if x.kind=7 then decide ((v.items.length:Int)<=x.max)&&v.items.all (rec x.elem)
 else if x.kind=8 then decide ((v.keys.length:Int)<=x.max)&&(decide (v.items.length=v.keys.length)&&(v.keys.all (rec x.key)&&(v.items.all (rec x.elem)&&F5 v.keys)))
 else decide ((v.items.length:Int)<=1)&&v.items.all (rec x.elem)
noncomputable def dK (T:List aB):Nat->Int->List PV->Bool
 |0,_,_=>false
 |n+1,t,cs=>match cs with
  |[.int _ k,.bool b,.int _ i,.str s,.int _ id,.ae _ ks,.ae _ is,.ae _ rest]=>
   (match (if t<0 then none else T[t.toNat]?)with
   |none=>false
   |some x=>decide (k=x.kind)&&(mu ⟨k,b,i,s,id,ks,is,[]⟩&&(rest.isEmpty&&gp (dK T n) x ⟨k,b,i,s,id,ks,is,[]⟩)))
  |_=>false
theorem vM (T : List aB)(n : Nat)(t : Int)(v : dO) : dK T (n + 1) t v.c = (match (if t < 0 then none else T[t.toNat]?) with
   | none => false
   | some x => decide (v.kind = x.kind) && (mu {v with rest := []} && (v.rest.isEmpty && gp (dK T n) x {v with rest := []}))) := by
 unfold dO.c;simp only [dK,List.isEmpty_map]
def Td (T:List aB):Prop:=T.length<=2147483648/\(∀x∈T,x.ok)/\∀x∈T,1<=x.kind/\x.kind<=9
theorem qW {α β:Type}{l:List α}{m:List β}{k:Nat}{q:α×β}(h:(l.zip m)[k]?=some q):l[k]?=some q.1/\m[k]?=some q.2:=by
 rw[abn]at h;exact h
theorem qX {α β:Type}{l:List α}{m:List β}(h:l.length=m.length):(l.zip m).length=l.length:=by
 rw[List.length_zip];omega
theorem qY {α:Type}(l:List α):(l.zip l.tail).length=l.length - 1:=by
 rw[List.length_zip,List.length_tail];omega
theorem mM.is {n:Nat}{w:dO}(h:mM n w.c):eG w.int/\bo w.str:=by
 cases n with
 |zero=>exact h.elim
 |succ n=>
  obtain⟨v,hv,⟨_,h2,h3,_⟩,_⟩:=h;simp only[dO.c,List.cons.injEq,PV.int.injEq,PV.str.injEq]at hv;obtain⟨_,_,⟨_,e1⟩,e2,_⟩:=hv;rw[e1,e2];exact⟨h2,h3⟩
theorem mw {α:Type}(p:α->Bool)(l:List α):(l.find? p=none/\bg p l= -1)\/∃(k:Nat)(x:α),l.find? p=some x/\l[k]?=some x/\bg p l=k:=by
 unfold bg;cases h:l.findIdx? p with
 |none=>
  left;have:=aa3.1 h;exact⟨List.find?_eq_none.2 λx hx=>by simp[this x hx],rfl⟩
 |some k=>
  right;obtain⟨hk,h1,h2⟩:=aaC.1 h;refine⟨k,l[k],?_,aal hk,rfl⟩;rw[List.find?_eq_some_iff_getElem];exact⟨h1,k,hk,rfl,λj hj=>by simpa using h2 j hj⟩
theorem VM (a b c d e f g h:PV):kx 8 0 [[a,b,c,d,e,f,g,h]] (some 0)=some (V.pv (.ro 0 [a,b,c,d,e,f,g,h])):=by rw[fH _ _ _ (by decide)];rfl
theorem r507 (x:aB)(v:Nat):res A ay 507 [.agg x.c,.ae v []]=some [.bool true]:=by
 refine ai a507 rfl rfl ?_;simp only[F507,Qc];unfold aB.c;simp(disch:=omega)only[go_sem];refine W.dx 0 (λk=>⟨[(1,.pv (.ae v [])),(2,.ptr 2 0),(5,.pv (.int .i64 k))],⟨[(2,x.c.map .pv)],[],[]⟩⟩) (λ_=>True) rfl trivial λk hk _=>?_;simp(disch:=omega)only[go_sem];refine Br.aF (λc=>absurd c (by omega)) (λc=>?_);simp(disch:=omega)only[go_sem]
set_option maxHeartbeats 4000000 in
theorem r502 (u:Nat)(T:List aB)(hT:Td T):∀(n:Nat)(t:Int)(cs:List PV),mM n cs->eG t->res A ay 502 [.agg [.ae u (T.map aB.c)],.int .i64 t,.agg cs,.bool true]=some [.bool (dK T n t cs)]
 |0,_,_,h,_=>h.elim
 |n+1,t,cs,h,ht=>by
  obtain⟨v,rfl,⟨h1,h2,h3,h4⟩,⟨h5,h6,h7⟩,h8,h9,h10⟩:=h;have ih:=r502 u T hT n;rw[vM];obtain⟨ht1,ht2⟩:=ht;have hTl:=hT.1;refine ai a502 rfl rfl ?_;simp only[F502,P9];unfold dO.c;by_cases c0:t<0
  .rw[if_pos c0];have e0:decide (t<0)=true:=decide_eq_true c0;simp(disch:=omega)only[go_sem,e0]
  .rw[if_neg c0];have e0:decide (t<0)=false:=decide_eq_false c0;obtain⟨k,rfl⟩:=abM (by omega:0<=t);rw[aaU];by_cases c1:(T.length:Int)<=k
   .rw[aaX (by omega)];have e1:decide ((T.length:Int)<=k)=true:=decide_eq_true c1;simp(disch:=omega)only[go_sem,e0,e1]
   .obtain⟨x,hx⟩:=get_some (l:=T) (k:=k) (by omega);have e1:decide ((T.length:Int)<=k)=false:=decide_eq_false c1;have hxm:=aaj hx;have hk:=hT.2.2 x hxm;rw[hx];dsimp only;by_cases ck:v.kind=x.kind
    .have e2:decide (v.kind=x.kind)=true:=decide_eq_true ck;have h505:=r505 v (by omega) ⟨h5,h6,h7⟩;rw[e2,aa8];cases hz:mu v with
     |false=>
      rw[hz]at h505;have:(mu {v with rest:=[]}&&(v.rest.isEmpty&&gp (dK T n) x {v with rest:=[]}))=false:=by
       cases hr:v.rest with
       |nil=>rw[show ({v with rest:=[]}:dO)=v by rw[<- hr],hz];rfl
       |cons a b=>simp
      rw[this];simp only[dO.c]at h505;simp(disch:=omega)only[go_sem,e0,e1,e2,hx,Option.map_some,aB.c,h505]
     |true=>
      rw[hz]at h505;simp only[dO.c]at h505;cases hr:v.rest with
      |cons a b=>
       rw[hr]at h505;simp only[List.map_cons]at h505;simp(disch:=omega)only[go_sem,e0,e1,e2,hx,Option.map_some,aB.c,h505,hr];refine Br.aF (λc=>?_) (λc=>absurd (by omega) c);simp(disch:=omega)only[go_sem,e0,e1,e2,hx,Option.map_some,aB.c,h505,hr]
      |nil=>
       rw[hr]at h505;simp only[List.map_nil]at h505;simp(disch:=omega)only[go_sem,e0,e1,e2,hx,Option.map_some,aB.c,h505,hr,List.map_nil];refine Br.aF (λc=>absurd c (by omega)) (λc=>?_);have hvv:({v with rest:=[]}:dO)=v:=by rw[<- hr]
       rw[hvv,hz]
       try simp only[List.isEmpty_nil,Bool.true_and]
       have hxo:=hT.2.1 x hxm;obtain⟨⟨x1,x2,x3,x4,x5,x6,x7⟩,⟨x8,x9⟩,x10,x11⟩:=hxo;have h393:=r393 x v.id x8;have h391:=r391 x v.id x9;have h507:=r507 x;obtain⟨kind,name,low,high,max,syms,aO,key,elem,jO⟩:=x;have h508:∀(e:Int)(l:List (List PV)),eG e->cc l->(∀r∈l,mM n r)->res A ay 508 [.agg [.ae u (T.map aB.c)],.int .i64 e,.ae 0 l,.bool true]=some [.bool (l.all (dK T n e))]:=λe l he hl hv=>r508 u 0 _ e l (dK T n e) hl (λr hr=>(hv r hr).val) (λr hr=>ih e r (hv r hr) he);dsimp only at *;have hk5:=h508 key v.keys x6 h5 h8;have he6:=h508 elem v.items x7 h6 h9;unfold gp;dsimp only;simp only[aB.c]at h393 h391 h507;rcases nine hk with rfl|rfl|rfl|rfl|rfl|rfl|rfl|rfl|rfl
       .simp(disch:=omega)only[go_sem,aB.c,h505,decide_true,decide_false,Int.reduceEq,if_true,if_false]
       .simp(disch:=omega)only[go_sem,aB.c,h505,decide_true,decide_false,Int.reduceEq,if_true,if_false];refine Br.aF (λc=>?_) (λc=>?_)<;>simp(disch:=omega)only[go_sem,c,decide_true,decide_false,Bool.true_and,Bool.false_and]
       .simp(disch:=omega)only[go_sem,aB.c,h505,decide_true,decide_false,Int.reduceEq,if_true,if_false]
       .simp(disch:=omega)only[go_sem,aB.c,h505,decide_true,decide_false,Int.reduceEq,if_true,if_false,h393];refine Br.aF (λc=>?_) (λc=>?_)<;>simp(disch:=omega)only[go_sem,c,decide_true,decide_false];cases jO<;>simp(disch:=omega)only[go_sem,c,decide_false]
       .simp(disch:=omega)only[go_sem,aB.c,h505,decide_true,decide_false,Int.reduceEq,if_true,if_false,h507];refine Br.aF (λc=>?_) (λc=>?_)<;>simp(disch:=omega)only[go_sem,c,decide_true,decide_false,Bool.true_and,Bool.false_and]
        .have h507:=h507 0;simp(disch:=omega)only[go_sem,h507];have hml:aO.length=v.items.length:=by omega
         have x9':aO.length<=9223372036854775807:=x9;rw[decide_eq_true hml.symm,aa8];refine W.find (aO.zip v.items) (λq=>!dK T n q.1.type q.2) (λk=>⟨[(3,.pv (.bool true)),(4,.ptr 4 0),(6,.ptr 6 0),(9,.ptr 9 0),(12,.pv (.int .i64 k))],⟨[(4,[.pv (.ae u (T.map aB.c))]),(6,[.pv (.int .i64 v.kind),.pv (.bool v.bool),.pv (.int .i64 v.int),.pv (.str v.str),.pv (.int .i64 v.id),.pv (.ae 0 v.keys),.pv (.ae 0 v.items),.pv (.ae 0 [])]),(9,[.pv (.int .i64 5),.pv (.str name),.pv (.int .i64 low),.pv (.int .i64 high),.pv (.int .i64 max),.pv (.ae 0 (syms.map Sym.c)),.pv (.ae 0 (aO.map Mem.c)),.pv (.int .i64 key),.pv (.int .i64 elem),.pv (.bool jO)])],[],[]⟩⟩) rfl (λk q hq hk hfd=>?_) (λhn=>?_)
         .obtain⟨g1,g2⟩:=qW hq;rw[qX hml]at hk;have hm:=x11 q.1 (aaj g1);have hv:=h9 q.2 (aaj g2);have hc:=ih q.1.type q.2 hv hm.2.2.1;have hfd:=λg=>(hfd g).all;rw[kW]at hfd;generalize dK T n q.1.type q.2=e at hc hfd |-;obtain⟨w,hw⟩:=hv.val;rw[hw]at hc g2;unfold dO.c at hc g2;simp(disch:=omega)only[go_sem];refine Br.aF (λc=>?_) (λc=>(c (by omega)).elim);simp(disch:=omega)only[go_sem,g1,g2,Option.map_some,Mem.c,hc];refine Br.of (λg=>?_) (λg=>?_)<;>simp(disch:=omega)only[go_sem]
          .exact aX.of (by rw[g];rfl) rfl
          .rw[hfd (by rw[g];rfl)]
         .have hn:=hn.all;rw[kW]at hn;rw[qX hml,hn];simp(disch:=omega)only[go_sem,hml]
        .have:decide (v.items.length=aO.length)=false:=decide_eq_false (λe=>c (by rw[e]));rw[this,abG]
       .simp(disch:=omega)only[go_sem,aB.c,h505,decide_true,decide_false,Int.reduceEq,if_true,if_false,h391];rcases mw (pE v.id) aO with⟨f1,f2⟩|⟨k,m,f1,f2,f3⟩
        .rw[f1];simp(disch:=omega)only[go_sem,f2];cases jO<;>simp(disch:=omega)only[go_sem,f2]
        .rw[f1];have d0:decide ((0:Int)<=(k:Int))=true:=by simp
         have d1:Max.max (k:Int) 0=(k:Int):=by omega
         simp(disch:=omega)only[go_sem,f2,f3,d0,d1];cases hi:v.items with
         |nil=>
          rw[hi]at h6;have e7:decide (((0:Nat):Int)=1)=false:=rfl;simp(disch:=omega)only[go_sem,List.length_nil,e7]
         |cons r rs=>
          cases rs with
          |cons r2 rs2=>
           have e7:decide (((rs2.length+1+1:Nat):Int)=1)=false:=decide_eq_false (by omega);simp(disch:=omega)only[go_sem,List.length_cons,e7]
          |nil=>
           have hv:=h9 r (by rw[hi];exact aaN);have hm:=x11 m (aaj f2);have hc:=ih m.type r hv hm.2.2.1;obtain⟨w,hw⟩:=hv.val;dsimp only;generalize dK T n m.type r=e at hc |-;rw[hw]at hc |-;unfold dO.c at hc |-;have e7:decide (((0+1:Nat):Int)=1)=true:=rfl;have e8:decide (((0:Nat):Int)=0)=true:=rfl;simp(disch:=omega)only[go_sem,f2,Option.map_some,Mem.c,hc,List.length_cons,List.length_nil,e7,e8,VM]
       .simp(disch:=omega)only[go_sem,aB.c,h505,decide_true,decide_false,Int.reduceEq,if_true,if_false];refine Br.aF (λc=>?_) (λc=>?_)<;>simp(disch:=omega)only[go_sem,c,decide_true,decide_false,Bool.true_and,Bool.false_and,he6]
       .simp(disch:=omega)only[go_sem,aB.c,h505,decide_true,decide_false,Int.reduceEq,if_true,if_false];refine Br.aF (λc=>?_) (λc=>?_)
        .rw[show decide ((v.keys.length:Int)<=max)=false from decide_eq_false (by omega),abG];simp(disch:=omega)only[go_sem,c,decide_true,decide_false]
        .rw[show decide ((v.keys.length:Int)<=max)=true from decide_eq_true (by omega),aa8];simp(disch:=omega)only[go_sem,c,decide_true,decide_false];refine Br.aF (λd=>?_) (λd=>?_)
         .rw[show decide (v.items.length=v.keys.length)=true from decide_eq_true (by omega),aa8];generalize v.keys.all (dK T n key)=p at hk5 |-;generalize v.items.all (dK T n elem)=q at he6 |-;simp(disch:=omega)only[go_sem,d,decide_true,decide_false,hk5];cases p
          .simp(disch:=omega)only[go_sem]
          .cases q
           .simp(disch:=omega)only[go_sem,he6]
           .simp(disch:=omega)only[go_sem,he6];have h5':v.keys.length<=9223372036854775807:=h5;refine W.find (v.keys.zip v.keys.tail) (λq=>!decide (K3 q.1 q.2<0)) (λk=>⟨[(6,.ptr 6 0),(15,.pv (.int .i64 (((k+1:Nat)):Int)))],⟨[(6,[.pv (.int .i64 v.kind),.pv (.bool v.bool),.pv (.int .i64 v.int),.pv (.str v.str),.pv (.int .i64 v.id),.pv (.ae 0 v.keys),.pv (.ae 0 v.items),.pv (.ae 0 [])])],[],[]⟩⟩) rfl (λk q hq hk hfd=>?_) (λhn=>?_)
            .obtain⟨g1,g2⟩:=qW hq;rw[List.getElem?_tail]at g2;have hk2:k+1<v.keys.length:=(aak.1 g2).1;have e3:(((k+1:Nat):Int)) - 1=(k:Int):=by omega
             simp(disch:=omega)only[go_sem];refine Br.aF (λc=>?_) (λc=>(c (by omega)).elim);have hv1:=h8 q.1 (aaj g1);have hv2:=h8 q.2 (aaj g2);obtain⟨w1,hw1⟩:=hv1.val;obtain⟨w2,hw2⟩:=hv2.val;have i1:=(hw1 ▸ hv1:mM n w1.c).is;have i2:=(hw2 ▸ hv2:mM n w2.c).is;have h509:=r509 w1 w2 i1.1 i2.1 i1.2 i2.2;rw[hw1]at g1 hfd;rw[hw2]at g2 hfd;rw[hw1,hw2];have hfd:=λg=>(hfd g).all;rw[kW,qV]at hfd;rw[qV];generalize nO w1 w2=e at h509 hfd |-;unfold dO.c at h509 g1 g2;simp(disch:=omega)only[go_sem,e3,g1,g2,h509];refine Br.aF (λg=>?_) (λg=>?_)<;>simp(disch:=omega)only[go_sem]
             .have:=hfd (by simp;omega)
              rw[show F5 v.keys=false from this]
             .exact aX.of (by simp;omega) rfl
            .have:=hn.all
             rw[kW]at this;rw[show F5 v.keys=true from this,qY];simp(disch:=omega)only[go_sem];refine Br.aF (λc=>absurd c (by omega)) (λc=>?_);simp(disch:=omega)only[go_sem]
         .rw[show decide (v.items.length=v.keys.length)=false from decide_eq_false (by omega),abG];simp(disch:=omega)only[go_sem,d,decide_true,decide_false]
       .simp(disch:=omega)only[go_sem,aB.c,h505,decide_true,decide_false,Int.reduceEq,if_true,if_false];refine Br.aF (λc=>?_) (λc=>?_)<;>simp(disch:=omega)only[go_sem,c,decide_true,decide_false,Bool.true_and,Bool.false_and,he6]
    .have e2:decide (v.kind=x.kind)=false:=decide_eq_false ck;rw[e2];simp(disch:=omega)only[go_sem,e0,e1,e2,hx,Option.map_some,aB.c]
theorem kX {rec:Int->List PV->Bool}{x:aB}{v:dO}(hr:v.rest=[])(hz:mu v=true):(mu {v with rest:=[]}&&(v.rest.isEmpty&&gp rec x {v with rest:=[]}))=gp rec x v:=by
 rw[show ({v with rest:=[]}:dO)=v by rw[<- hr],hz,hr];rfl
theorem zn {rec:Int->List PV->Bool}{x:aB}{v:dO}{a:Raw}{b:List Raw}(hr:v.rest=a::b):(mu {v with rest:=[]}&&(v.rest.isEmpty&&gp rec x {v with rest:=[]}))=false:=by
 rw[hr];simp
set_option maxHeartbeats 4000000 in
theorem r503 (u:Nat)(T:List aB)(hT:Td T):∀(n:Nat)(t:Int)(cs:List PV),mM n cs->eG t->res A ay 503 [.agg [.ae u (T.map aB.c)],.int .i64 t,.agg cs,.bool true]=some [.bool (dK T n t cs)]
 |0,_,_,h,_=>h.elim
 |n+1,t,cs,h,ht=>by
  obtain⟨v,rfl,⟨h1,h2,h3,h4⟩,⟨h5,h6,h7⟩,h8,h9,h10⟩:=h;have ih:=r503 u T hT n;rw[vM];obtain⟨ht1,ht2⟩:=ht;have hTl:=hT.1;refine ai a503 rfl rfl ?_;simp only[F503,Qa];unfold dO.c;by_cases c0:t<0
  .rw[if_pos c0];have e0:decide (t<0)=true:=decide_eq_true c0;simp(disch:=omega)only[go_sem,e0]
  .rw[if_neg c0];have e0:decide (t<0)=false:=decide_eq_false c0;obtain⟨k,rfl⟩:=abM (by omega:0<=t);rw[aaU];by_cases c1:(T.length:Int)<=k
   .rw[aaX (by omega)];have e1:decide ((T.length:Int)<=k)=true:=decide_eq_true c1;simp(disch:=omega)only[go_sem,e0,e1]
   .obtain⟨x,hx⟩:=get_some (l:=T) (k:=k) (by omega);have e1:decide ((T.length:Int)<=k)=false:=decide_eq_false c1;have hxm:=aaj hx;have hk:=hT.2.2 x hxm;rw[hx];dsimp only;by_cases ck:v.kind=x.kind
    .have e2:decide (v.kind=x.kind)=true:=decide_eq_true ck;have h510:=r510 v (by omega) ⟨h5,h6,h7⟩;rw[e2,aa8];cases hz:mu v with
     |false=>
      rw[hz]at h510;have:(mu {v with rest:=[]}&&(v.rest.isEmpty&&gp (dK T n) x {v with rest:=[]}))=false:=by
       cases hr:v.rest with
       |nil=>rw[show ({v with rest:=[]}:dO)=v by rw[<- hr],hz];rfl
       |cons a b=>simp
      rw[this];simp only[dO.c]at h510;simp(disch:=omega)only[go_sem,e0,e1,e2,hx,Option.map_some,aB.c,h510]
     |true=>
      rw[hz]at h510;simp only[dO.c]at h510;have hrest:¬(v.kind=5\/v.kind=6)->v.rest=[]:=λhn=>by
       unfold mu at hz;have:=(of_decide_eq_true hz).2.2.2.2.2.2;rcases this with h|h|h
       .exact absurd (.inl h) hn
       .exact absurd (.inr h) hn
       .exact h
      have hrc:v.rest=[]\/∃a b,v.rest=a::b:=by
       cases v.rest with
       |nil=>exact .inl rfl
       |cons a b=>exact .inr ⟨a,b,rfl⟩
      have hxo:=hT.2.1 x hxm;obtain⟨⟨x1,x2,x3,x4,x5,x6,x7⟩,⟨x8,x9⟩,x10,x11⟩:=hxo;have h392:=r392 x v.id x8;have h281:=r281 x v.id x9;obtain⟨kind,name,low,high,max,syms,aO,key,elem,jO⟩:=x;have h512:∀(e:Int)(l:List (List PV)),eG e->cc l->(∀r∈l,mM n r)->res A ay 512 [.agg [.ae u (T.map aB.c)],.int .i64 e,.ae 0 l,.bool true]=some [.bool (l.all (dK T n e))]:=λe l he hl hv=>r512 u 0 _ e l (dK T n e) hl (λr hr=>(hv r hr).val) (λr hr=>ih e r (hv r hr) he);dsimp only at *;have hk5:=h512 key v.keys x6 h5 h8;have he6:=h512 elem v.items x7 h6 h9;simp only[aB.c]at h392 h281;rcases nine hk with rfl|rfl|rfl|rfl|rfl|rfl|rfl|rfl|rfl
      .have hr:=hrest (by omega);rw[kX hr hz];rw[hr]at h510;simp only[List.map_nil]at h510;unfold gp;dsimp only;simp(disch:=omega)only[go_sem,e0,e1,e2,hx,Option.map_some,aB.c,h510,decide_true,decide_false,Int.reduceEq,if_true,if_false,hr,List.map_nil]
      .have hr:=hrest (by omega);rw[kX hr hz];rw[hr]at h510;simp only[List.map_nil]at h510;unfold gp;dsimp only;simp(disch:=omega)only[go_sem,e0,e1,e2,hx,Option.map_some,aB.c,h510,decide_true,decide_false,Int.reduceEq,if_true,if_false,hr,List.map_nil];refine Br.aF (λc=>?_) (λc=>?_)<;>simp(disch:=omega)only[go_sem,c,decide_true,decide_false,Bool.true_and,Bool.false_and]
      .have hr:=hrest (by omega);rw[kX hr hz];rw[hr]at h510;simp only[List.map_nil]at h510;unfold gp;dsimp only;simp(disch:=omega)only[go_sem,e0,e1,e2,hx,Option.map_some,aB.c,h510,decide_true,decide_false,Int.reduceEq,if_true,if_false,hr,List.map_nil]
      .have hr:=hrest (by omega);rw[kX hr hz];rw[hr]at h510;simp only[List.map_nil]at h510;unfold gp;dsimp only;simp(disch:=omega)only[go_sem,e0,e1,e2,hx,Option.map_some,aB.c,h510,decide_true,decide_false,Int.reduceEq,if_true,if_false,hr,List.map_nil,h392];refine Br.aF (λc=>?_) (λc=>?_)<;>simp(disch:=omega)only[go_sem,c,decide_true,decide_false];cases jO<;>simp(disch:=omega)only[go_sem,c,decide_false]
      .simp(disch:=omega)only[go_sem,e0,e1,e2,hx,Option.map_some,aB.c,h510,decide_true,decide_false,Int.reduceEq,if_true,if_false];rcases hrc with hr|⟨a,b,hr⟩
       .rw[kX hr hz];unfold gp;simp only[Int.reduceEq,if_true,if_false];rw[hr];refine Br.aF (λc=>?_) (λc=>?_)<;>simp(disch:=omega)only[go_sem,c,decide_true,decide_false,Bool.true_and,Bool.false_and,List.map_nil]
        .refine Br.aF (λc=>absurd c (by decide)) (λ_=>?_);simp(disch:=omega)only[go_sem,List.map_nil,List.length_nil];refine W.dx 0 (λk=>⟨[(3,.pv (.bool true)),(4,.ptr 4 0),(6,.ptr 6 0),(9,.ptr 9 0),(111,.pv (.ae 0 [])),(112,.pv (.int .i64 0)),(113,.pv (.int .i64 k))],⟨[(4,[.pv (.ae u (T.map aB.c))]),(6,[.pv (.int .i64 v.kind),.pv (.bool v.bool),.pv (.int .i64 v.int),.pv (.str v.str),.pv (.int .i64 v.id),.pv (.ae 0 v.keys),.pv (.ae 0 v.items),.pv (.ae 0 [])]),(9,[.pv (.int .i64 5),.pv (.str name),.pv (.int .i64 low),.pv (.int .i64 high),.pv (.int .i64 max),.pv (.ae 0 (syms.map Sym.c)),.pv (.ae 0 (aO.map Mem.c)),.pv (.int .i64 key),.pv (.int .i64 elem),.pv (.bool jO)])],[],[]⟩⟩) (λ_=>True) rfl trivial λk hk _=>?_;simp(disch:=omega)only[go_sem];refine Br.aF (λc=>absurd c (by omega)) (λ_=>?_);simp(disch:=omega)only[go_sem];have hml:aO.length=v.items.length:=by omega
         have x9':aO.length<=9223372036854775807:=x9;rw[decide_eq_true hml.symm,aa8];refine W.find (aO.zip v.items) (λq=>!dK T n q.1.type q.2) (λk=>⟨[(3,.pv (.bool true)),(4,.ptr 4 0),(6,.ptr 6 0),(150,.pv (.ae 0 (aO.map Mem.c))),(151,.pv (.int .i64 aO.length)),(152,.pv (.int .i64 k))],⟨[(4,[.pv (.ae u (T.map aB.c))]),(6,[.pv (.int .i64 v.kind),.pv (.bool v.bool),.pv (.int .i64 v.int),.pv (.str v.str),.pv (.int .i64 v.id),.pv (.ae 0 v.keys),.pv (.ae 0 v.items),.pv (.ae 0 [])])],[],[]⟩⟩) rfl (λk q hq hk hfd=>?_) (λhn=>?_)
         .obtain⟨g1,g2⟩:=qW hq;rw[qX hml]at hk;have hm:=x11 q.1 (aaj g1);have hv:=h9 q.2 (aaj g2);have hc:=ih q.1.type q.2 hv hm.2.2.1;have hfd:=λg=>(hfd g).all;rw[kW]at hfd;generalize dK T n q.1.type q.2=e at hc hfd |-;obtain⟨w,hw⟩:=hv.val;rw[hw]at hc g2;unfold dO.c at hc g2;simp(disch:=omega)only[go_sem];refine Br.aF (λc=>?_) (λc=>(c (by omega)).elim);simp(disch:=omega)only[go_sem,g1,g2,Option.map_some,Mem.c,hc];refine Br.of (λg=>?_) (λg=>?_)<;>simp(disch:=omega)only[go_sem]
          .exact aX.of (by rw[g];rfl) rfl
          .rw[hfd (by rw[g];rfl)]
         .have hn:=hn.all;rw[kW]at hn;rw[qX hml,hn];simp(disch:=omega)only[go_sem,hml]
        .have:decide (v.items.length=aO.length)=false:=decide_eq_false (λe=>c (by rw[e]));rw[this,abG]
       .rw[zn hr];rw[hr];refine Br.aF (λc=>?_) (λc=>?_)<;>simp(disch:=omega)only[go_sem,c,List.map_cons];refine Br.aF (λc=>?_) (λc=>absurd (by omega) c);simp(disch:=omega)only[go_sem]
      .simp(disch:=omega)only[go_sem,e0,e1,e2,hx,Option.map_some,aB.c,h510,decide_true,decide_false,Int.reduceEq,if_true,if_false,h281];rcases mw (pE v.id) aO with⟨f1,f2⟩|⟨k,m,f1,f2,f3⟩
       .simp(disch:=omega)only[go_sem,f2];have:gp (dK T n) ⟨6,name,low,high,max,syms,aO,key,elem,jO⟩ v=false:=by
         unfold gp;simp only[f1,Int.reduceEq,if_true,if_false]
        rcases hrc with hr|⟨a,b,hr⟩
        .rw[kX hr hz,this];cases jO<;>simp(disch:=omega)only[go_sem,f2]
        .rw[zn hr];cases jO<;>simp(disch:=omega)only[go_sem,f2]
       .have d0:decide ((0:Int)<=(k:Int))=true:=by simp
        have d1:Max.max (k:Int) 0=(k:Int):=by omega
        simp(disch:=omega)only[go_sem,f2,f3,d0,d1];rcases hrc with hr|⟨a,b,hr⟩
        .rw[kX hr hz];unfold gp;simp only[Int.reduceEq,if_true,if_false];rw[f1,hr];cases hi:v.items with
         |nil=>
          rw[hi]at h6;have e7:decide (((0:Nat):Int)=1)=false:=rfl;simp(disch:=omega)only[go_sem,List.map_nil,List.length_nil,e7]
         |cons r rs=>
          cases rs with
          |cons r2 rs2=>
           have e7:decide (((rs2.length+1+1:Nat):Int)=1)=false:=decide_eq_false (by omega);simp(disch:=omega)only[go_sem,List.map_nil,List.length_cons,e7]
          |nil=>
           have hv:=h9 r (by rw[hi];exact aaN);have hm:=x11 m (aaj f2);have hc:=ih m.type r hv hm.2.2.1;obtain⟨w,hw⟩:=hv.val;dsimp only;generalize dK T n m.type r=e at hc |-;rw[hw]at hc |-;unfold dO.c at hc |-;have e7:decide (((0+1:Nat):Int)=1)=true:=rfl;have e8:decide (((0:Nat):Int)=0)=true:=rfl;simp(disch:=omega)only[go_sem,f2,Option.map_some,Mem.c,hc,List.map_nil,List.length_cons,List.length_nil,e7,e8,VM]
        .rw[zn hr];have e8:decide (((b.length+1:Nat):Int)=0)=false:=decide_eq_false (by omega);rw[hr];refine Br.aF (λc=>?_) (λc=>?_)<;>simp(disch:=omega)only[go_sem,c,List.map_cons,List.length_cons,List.length_map,e8]
      .have hr:=hrest (by omega);rw[kX hr hz];rw[hr]at h510;simp only[List.map_nil]at h510;unfold gp;dsimp only;simp(disch:=omega)only[go_sem,e0,e1,e2,hx,Option.map_some,aB.c,h510,decide_true,decide_false,Int.reduceEq,if_true,if_false,hr,List.map_nil];refine Br.aF (λc=>?_) (λc=>?_)<;>simp(disch:=omega)only[go_sem,c,decide_true,decide_false,Bool.true_and,Bool.false_and,he6]
      .have hr:=hrest (by omega);rw[kX hr hz];rw[hr]at h510;simp only[List.map_nil]at h510;unfold gp;dsimp only;simp(disch:=omega)only[go_sem,e0,e1,e2,hx,Option.map_some,aB.c,h510,decide_true,decide_false,Int.reduceEq,if_true,if_false,hr,List.map_nil];refine Br.aF (λc=>?_) (λc=>?_)
       .rw[show decide ((v.keys.length:Int)<=max)=false from decide_eq_false (by omega),abG];simp(disch:=omega)only[go_sem,c,decide_true,decide_false]
       .rw[show decide ((v.keys.length:Int)<=max)=true from decide_eq_true (by omega),aa8];simp(disch:=omega)only[go_sem,c,decide_true,decide_false];refine Br.aF (λd=>?_) (λd=>?_)
        .rw[show decide (v.items.length=v.keys.length)=true from decide_eq_true (by omega),aa8];generalize v.keys.all (dK T n key)=p at hk5 |-;generalize v.items.all (dK T n elem)=q at he6 |-;simp(disch:=omega)only[go_sem,d,decide_true,decide_false,hk5];cases p
         .simp(disch:=omega)only[go_sem]
         .simp(disch:=omega)only[go_sem];have h5':v.keys.length<=9223372036854775807:=h5;rw[aa8];refine W.find (v.keys.zip v.keys.tail) (λq=>!decide (K3 q.1 q.2<0)) (λk=>⟨[(3,.pv (.bool true)),(4,.ptr 4 0),(6,.ptr 6 0),(9,.ptr 9 0),(20,.pv (.int .i64 (((k+1:Nat)):Int)))],⟨[(4,[.pv (.ae u (T.map aB.c))]),(6,[.pv (.int .i64 v.kind),.pv (.bool v.bool),.pv (.int .i64 v.int),.pv (.str v.str),.pv (.int .i64 v.id),.pv (.ae 0 v.keys),.pv (.ae 0 v.items),.pv (.ae 0 [])]),(9,[.pv (.int .i64 8),.pv (.str name),.pv (.int .i64 low),.pv (.int .i64 high),.pv (.int .i64 max),.pv (.ae 0 (syms.map Sym.c)),.pv (.ae 0 (aO.map Mem.c)),.pv (.int .i64 key),.pv (.int .i64 elem),.pv (.bool jO)])],[],[]⟩⟩) rfl (λk q hq hk hfd=>?_) (λhn=>?_)
          .obtain⟨g1,g2⟩:=qW hq;rw[List.getElem?_tail]at g2;have hk2:k+1<v.keys.length:=(aak.1 g2).1;have e3:(((k+1:Nat):Int)) - 1=(k:Int):=by omega
           simp(disch:=omega)only[go_sem];refine Br.aF (λc=>?_) (λc=>(c (by omega)).elim);have hv1:=h8 q.1 (aaj g1);have hv2:=h8 q.2 (aaj g2);obtain⟨w1,hw1⟩:=hv1.val;obtain⟨w2,hw2⟩:=hv2.val;have i1:=(hw1 ▸ hv1:mM n w1.c).is;have i2:=(hw2 ▸ hv2:mM n w2.c).is;have h513:=r513 w1 w2 i1.1 i2.1 i1.2 i2.2;rw[hw1]at g1 hfd;rw[hw2]at g2 hfd;rw[hw1,hw2];have hfd:=λg=>(hfd g).all;rw[kW,qV]at hfd;rw[qV];generalize nO w1 w2=e at h513 hfd |-;unfold dO.c at h513 g1 g2;simp(disch:=omega)only[go_sem,e3,g1,g2,h513];refine Br.aF (λg=>?_) (λg=>?_)<;>simp(disch:=omega)only[go_sem]
           .have:=hfd (by simp;omega)
            rw[show F5 v.keys=false from this,ace]
           .exact aX.of (by simp;omega) rfl
          .have:=hn.all
           rw[kW]at this;rw[show F5 v.keys=true from this,qY,Bool.and_true];simp(disch:=omega)only[go_sem];refine Br.aF (λc=>absurd c (by omega)) (λc=>?_);simp(disch:=omega)only[go_sem,he6]
        .rw[show decide (v.items.length=v.keys.length)=false from decide_eq_false (by omega),abG];simp(disch:=omega)only[go_sem,d,decide_true,decide_false]
      .have hr:=hrest (by omega);rw[kX hr hz];rw[hr]at h510;simp only[List.map_nil]at h510;unfold gp;dsimp only;simp(disch:=omega)only[go_sem,e0,e1,e2,hx,Option.map_some,aB.c,h510,decide_true,decide_false,Int.reduceEq,if_true,if_false,hr,List.map_nil];refine Br.aF (λc=>?_) (λc=>?_)<;>simp(disch:=omega)only[go_sem,c,decide_true,decide_false,Bool.true_and,Bool.false_and,he6]
    .have e2:decide (v.kind=x.kind)=false:=decide_eq_false ck;rw[e2];simp(disch:=omega)only[go_sem,e0,e1,e2,hx,Option.map_some,aB.c]
noncomputable def qZ (T:List aB)(t:Int)(cs:List PV):Bool:=by
 classical exact decide (∃n,mM n cs/\dK T n t cs=true)
theorem EN {T:List aB}(hT:Td T){n:Nat}{t:Int}{cs:List PV}(h:mM n cs)(ht:eG t):qZ T t cs=dK T n t cs:=by
 have key:∀m,mM m cs->dK T m t cs=dK T n t cs:=λm hm=>by
  have h1:=r502 0 T hT n t cs h ht;have h2:=r502 0 T hT m t cs hm ht;rw[h1]at h2;simpa using h2.symm
 classical
 unfold qZ;cases hf:dK T n t cs with
 |true=>exact decide_eq_true ⟨n,h,hf⟩
 |false=>exact decide_eq_false λ⟨m,hm,he⟩=>by rw[key m hm,hf]at he;cases he
theorem r494 (u:Nat)(T:List aB)(hT:Td T)(n:Nat)(t:Int)(v:dO)(h:mM n v.c)(ht:eG t):res A ay 494 [.agg [.ae u (T.map aB.c)],.int .i64 t,.agg v.c]=some [.bool (qZ T t v.c)]:=by
 have h502:=r502 u T hT n t v.c h ht;rw[EN hT h ht];generalize dK T n t v.c=e at *;refine ai a494 rfl rfl ?_;simp only[F494,P3];unfold dO.c at h502 |-;simp(disch:=omega)only[go_sem,h502]
theorem r495 (u:Nat)(T:List aB)(hT:Td T)(n:Nat)(t:Int)(v:dO)(h:mM n v.c)(ht:eG t):res A ay 495 [.agg [.ae u (T.map aB.c)],.int .i64 t,.agg v.c]=some [.bool (qZ T t v.c)]:=by
 have h503:=r503 u T hT n t v.c h ht;rw[EN hT h ht];generalize dK T n t v.c=e at *;refine ai a495 rfl rfl ?_;simp only[F495,P4];unfold dO.c at h503 |-;simp(disch:=omega)only[go_sem,h503]
noncomputable def kY (T:List aB)(m:Mem):Bool:=m.has&&!qZ T m.type m.gN.c
noncomputable def nP (T:List aB)(x:aB):Bool:=x.aO.any (kY T)
noncomputable def G3 (T:List aB):Int×Int×Int:=
 if bG T≠0 then (0,0,bG T) else match T.findIdx? (nP T)with
 |none=>(0,0,0)
 |some k=>(k,((T[k]?).bind λx=>(x.aO.find? (kY T)).map (·.id)).getD 0,1)
theorem vN {T:List aB}(ho:∀t∈T,t.ok)(h:bG T=0):Td T:=by
 have hs:=bB h;refine⟨by have:=hs.len;omega,ho,λx hx=>?_⟩;have:=hs.own x hx;unfold dA at this;simp only[Bool.and_eq_true,decide_eq_true_eq]at this;exact this.1
set_option maxHeartbeats 2000000 in
theorem r480 (u:Nat)(T:List aB)(hl:T.length<=2147483648)(ho:∀t∈T,t.ok)(hs:∀t∈T,t.short):res A ay 480 [.agg [.ae u (T.map aB.c)]]=some [.int .i64 (G3 T).1,.int .i64 (G3 T).2.1,.int .i64 (G3 T).2.2]:=by
 have h268:=r268 u T hl ho hs;refine ai a480 rfl rfl ?_;simp only[F480,PO];simp(disch:=omega)only[go_sem,h268];unfold G3;refine Br.aF (λc=>?_) (λc=>?_)<;>simp(disch:=omega)only[go_sem,c,decide_true,decide_false]
 rotate_left
 .rw[if_pos c]
 rw[if_neg (by simp[c])];have hT:=vN ho c;obtain⟨G,hG⟩:∃G:Int×Int×Int,(match T.findIdx? (nP T)with
  |none=>(0,0,0)
  |some k=>(k,((T[k]?).bind λx=>(x.aO.find? (kY T)).map (·.id)).getD 0,1))=G:=⟨_,rfl⟩
 rw[hG];refine W.find T (nP T) (λk=>⟨[(1,.ptr 1 0),(6,.pv (.int .i64 k))],⟨[(1,[.pv (.ae u (T.map aB.c))])],[],[]⟩⟩) rfl (λk x hx hk hfd=>?_) (λhn=>?_)
 .have hxm:=aaj hx;have hml:=(hs x hxm).aO;obtain⟨_,⟨_,x9⟩,_,x11⟩:=ho x hxm;simp(disch:=omega)only[go_sem];refine Br.aF (λc=>?_) (λc=>(c (by omega)).elim);simp(disch:=omega)only[go_sem,hx,Option.map_some,aB.c];refine W.find x.aO (kY T) (λj=>⟨[(1,.ptr 1 0),(6,.pv (.int .i64 k)),(7,.pv (.ae 0 (x.aO.map Mem.c))),(8,.pv (.int .i64 j))],⟨[(1,[.pv (.ae u (T.map aB.c))])],[],[]⟩⟩) rfl (λj m hm hj hfm=>?_) (λhn=>?_)
  .obtain⟨_,_,m3,n,m4⟩:=x11 m (aaj hm);have h494:=r494 u T hT n m.type m.gN m4 m3;have hw:kY T m=(m.has&&!qZ T m.type m.gN.c):=rfl;generalize qZ T m.type m.gN.c=e at h494 hw;unfold dO.c at h494;simp(disch:=omega)only[go_sem];refine Br.aF (λc=>?_) (λc=>(c (by omega)).elim);simp(disch:=omega)only[go_sem,hm,Option.map_some,Mem.c,h494];cases hh:m.has with
   |false=>
    rw[hh]at hw;simp(disch:=omega)only[go_sem];exact aX.of (by rw[hw];rfl) rfl
   |true=>
    rw[hh]at hw;simp(disch:=omega)only[go_sem,hm,Option.map_some,Mem.c,h494];cases e
    .have hf:=hfm (by rw[hw];rfl);have hf2:=hfd hf.any;simp(disch:=omega)only[go_sem,hm,Option.map_some,Mem.c];rw[<- hG,hf2.idx];dsimp only;rw[hx,Option.bind_some,hf.find];rfl
    .simp(disch:=omega)only[go_sem];exact aX.of (by rw[hw];rfl) rfl
  .simp(disch:=omega)only[go_sem];exact aX.of hn.any rfl
 .simp(disch:=omega)only[go_sem];rw[<- hG,hn.idx]
set_option maxHeartbeats 2000000 in
theorem r484 (u:Nat)(T:List aB)(hl:T.length<=2147483648)(ho:∀t∈T,t.ok)(hs:∀t∈T,t.short):res A ay 484 [.agg [.ae u (T.map aB.c)]]=some [.int .i64 (G3 T).1,.int .i64 (G3 T).2.1,.int .i64 (G3 T).2.2]:=by
 have h267:=r267 u T hl ho hs;refine ai a484 rfl rfl ?_;simp only[F484,PU];simp(disch:=omega)only[go_sem,h267];unfold G3;refine Br.aF (λc=>?_) (λc=>?_)<;>simp(disch:=omega)only[go_sem,c,decide_true,decide_false]
 rotate_left
 .rw[if_pos c]
 rw[if_neg (by simp[c])];have hT:=vN ho c;obtain⟨G,hG⟩:∃G:Int×Int×Int,(match T.findIdx? (nP T)with
  |none=>(0,0,0)
  |some k=>(k,((T[k]?).bind λx=>(x.aO.find? (kY T)).map (·.id)).getD 0,1))=G:=⟨_,rfl⟩
 rw[hG];refine W.find T (nP T) (λk=>⟨[(1,.ptr 1 0),(16,.pv (.ae u (T.map aB.c))),(17,.pv (.int .i64 T.length)),(18,.pv (.int .i64 k))],⟨[(1,[.pv (.ae u (T.map aB.c))])],[],[]⟩⟩) rfl (λk x hx hk hfd=>?_) (λhn=>?_)
 .have hxm:=aaj hx;have hml:=(hs x hxm).aO;obtain⟨_,⟨_,x9⟩,_,x11⟩:=ho x hxm;simp(disch:=omega)only[go_sem];refine Br.aF (λc=>?_) (λc=>(c (by omega)).elim);simp(disch:=omega)only[go_sem,hx,Option.map_some,aB.c];refine W.find x.aO (kY T) (λj=>⟨[(1,.ptr 1 0),(6,.pv (.int .i64 k)),(16,.pv (.ae u (T.map aB.c))),(17,.pv (.int .i64 T.length)),(18,.pv (.int .i64 k)),(24,.pv (.ae 0 (x.aO.map Mem.c))),(25,.pv (.int .i64 x.aO.length)),(26,.pv (.int .i64 j))],⟨[(1,[.pv (.ae u (T.map aB.c))])],[],[]⟩⟩) rfl (λj m hm hj hfm=>?_) (λhn=>?_)
  .obtain⟨_,_,m3,n,m4⟩:=x11 m (aaj hm);have h495:=r495 u T hT n m.type m.gN m4 m3;have hw:kY T m=(m.has&&!qZ T m.type m.gN.c):=rfl;generalize qZ T m.type m.gN.c=e at h495 hw;unfold dO.c at h495;simp(disch:=omega)only[go_sem];refine Br.aF (λc=>?_) (λc=>(c (by omega)).elim);simp(disch:=omega)only[go_sem,hm,Option.map_some,Mem.c,h495];cases hh:m.has with
   |false=>
    rw[hh]at hw;simp(disch:=omega)only[go_sem];exact aX.of (by rw[hw];rfl) rfl
   |true=>
    rw[hh]at hw;simp(disch:=omega)only[go_sem,hm,Option.map_some,Mem.c,h495];cases e
    .have hf:=hfm (by rw[hw];rfl);have hf2:=hfd hf.any;simp(disch:=omega)only[go_sem,hm,Option.map_some,Mem.c];rw[<- hG,hf2.idx];dsimp only;rw[hx,Option.bind_some,hf.find];rfl
    .simp(disch:=omega)only[go_sem];exact aX.of (by rw[hw];rfl) rfl
  .simp(disch:=omega)only[go_sem];exact aX.of hn.any rfl
 .simp(disch:=omega)only[go_sem];rw[<- hG,hn.idx]
noncomputable def er (T:List aB):Int:=(G3 T).2.2
theorem pO {T:List aB}(h:bG T≠0):er T=bG T:=by
 unfold er G3;rw[if_pos h]
theorem gl {T:List aB}(h:er T=0):bG T=0/\∀x∈T,∀m∈x.aO,m.has=true->qZ T m.type m.gN.c=true:=by
 by_cases hv:bG T=0
 .refine⟨hv,λx hx m hm hh=>?_⟩;unfold er G3 at h;rw[if_neg (by simp[hv])]at h;cases hf:T.findIdx? (nP T)with
  |none=>
   have h1:=aa3.1 hf x hx;have h2:=aaW.1 h1 m hm;unfold kY at h2;rw[hh]at h2;simpa using h2
  |some k=>
   rw[hf]at h;cases h
 .rw[pO hv]at h;exact absurd h hv
theorem r470 (u:Nat)(T:List aB)(hl:T.length<=2147483648)(ho:∀t∈T,t.ok)(hs:∀t∈T,t.short):res A ay 470 [.agg [.ae u (T.map aB.c)]]=some [.int .i64 (er T)]:=by
 have h268:=r268 u T hl ho hs;have h480:=r480 u T hl ho hs;have hb:=pO (T:=T);unfold er at hb |-;refine ai a470 rfl rfl ?_;simp only[F470,PF];simp(disch:=omega)only[go_sem,h268];refine Br.aF (λc=>?_) (λc=>?_)<;>simp(disch:=omega)only[go_sem,h480,c,decide_true,decide_false];rw[hb c]
theorem r473 (u:Nat)(T:List aB)(hl:T.length<=2147483648)(ho:∀t∈T,t.ok)(hs:∀t∈T,t.short):res A ay 473 [.agg [.ae u (T.map aB.c)]]=some [.int .i64 (er T)]:=by
 have h267:=r267 u T hl ho hs;have h484:=r484 u T hl ho hs;have hb:=pO (T:=T);unfold er at hb |-;refine ai a473 rfl rfl ?_;simp only[F473,PI];simp(disch:=omega)only[go_sem,h267];refine Br.aF (λc=>?_) (λc=>?_)<;>simp(disch:=omega)only[go_sem,h484,c,decide_true,decide_false];rw[hb c]
def gQ (n:List Int)(i:Int):Int:=n.getD i.toNat 0
def jM (b:Bool)(x:aB)(n:List Int):Int:=
 if x.kind=2 then (if x.low=x.high then 1 else 2)
 else if x.kind=3 then (if x.max=0 then 1 else 2)
 else if x.kind=4 then min 2 x.syms.length
 else if x.kind=5 then x.aO.foldl (λc m=>min 2 (c*gQ n m.type)) 1
 else if x.kind=6 then x.aO.foldl (λc m=>min 2 (c+gQ n m.type)) 0
 else if x.kind=7 then (if x.max=0\/gQ n x.elem=0 then 1 else 2)
 else if x.kind=8 then (if x.max=0\/gQ n x.elem=0\/b=true/\gQ n x.key=0 then 1 else 2)
 else if x.kind=9 then min 2 (1+gQ n x.elem)
 else 2
def yd (n:List Int):Prop:=∀x∈n,0<=x/\x<=2
def my (n m:List Int):Prop:=n.length=m.length/\∀k:Nat,n.getD k 0<=m.getD k 0
theorem yd.at {n:List Int}(h:yd n)(k:Nat):0<=n.getD k 0/\n.getD k 0<=2:=by
 rw[aat];cases hk:n[k]? with
 |none=>simp
 |some x=>exact h x (aaj hk)
theorem my.refl (n:List Int):my n n:=⟨rfl,λ_=>abP _⟩
theorem my.trans {a b c:List Int}(h:my a b)(g:my b c):my a c:=⟨h.1.trans g.1,λk=>Int.le_trans (h.2 k) (g.2 k)⟩
theorem my.QO {a b:List Int}(h:my a b)(g:my b a):a=b:=by
 refine aci h.1 λk h1 h2=>?_;have e1:=h.2 k;have e2:=g.2 k;rw[aat,aat,aal h1,aal h2]at e1 e2;simp at e1 e2;omega
theorem vO {α:Type}(f:Int->α->Int)(hf:∀c a,0<=c->0<=f c a/\f c a<=2):∀(l:List α)(c:Int),0<=c->c<=2->0<=l.foldl f c/\l.foldl f c<=2
 |[],c,h1,h2=>⟨h1,h2⟩
 |a::l,c,h1,_=>vO f hf l _ (hf c a h1).1 (hf c a h1).2
theorem sr {α:Type}{l0:List α}(f g:Int->α->Int)(hf:∀c d a,a∈l0->0<=c->c<=d->0<=f c a/\f c a<=g d a):∀(l:List α)(c d:Int),(∀a∈l,a∈l0)->0<=c->c<=d->l.foldl f c<=l.foldl g d
 |[],_,_,_,_,h2=>h2
 |a::l,c,d,hl,h1,h2=>sr f g hf l _ _ (λx hx=>hl x (aaz _ hx)) (hf c d a (hl a aaN) h1 h2).1 (hf c d a (hl a aaN) h1 h2).2
theorem Iy {c a:Int}(h1:0<=c)(h2:0<=a):0<=min 2 (c*a)/\min 2 (c*a)<=2:=by
 have:=Int.mul_nonneg h1 h2;omega
theorem ui (b:Bool)(x:aB){n:List Int}(hn:yd n):0<=jM b x n/\jM b x n<=2:=by
 have ha:∀i,0<=gQ n i/\gQ n i<=2:=λi=>hn.at _;unfold jM
 repeat' split
 all_goals first|decide|skip
 .omega
 .exact vO _ (λc m h=>Iy h (ha _).1) _ _ (by decide) (by decide)
 .exact vO _ (λc m h=>by have:=ha m.type;omega) _ _ (by decide) (by decide)
 .have:=ha x.elem
  omega
theorem q9 (b:Bool)(x:aB){n m:List Int}(hn:yd n)(h:my n m):jM b x n<=jM b x m:=by
 have ha:∀i,0<=gQ n i:=λi=>(hn.at _).1;have hm:∀i,gQ n i<=gQ m i:=λi=>h.2 _;unfold jM
 repeat' split
 all_goals first|decide|omega|skip
 .refine sr (l0:=x.aO) _ _ (λc d a _ h1 h2=>?_) _ _ _ (λ_ h=>h) (by decide) (abP _);refine⟨(Iy h1 (ha _)).1,?_⟩;have:=Int.mul_le_mul h2 (hm a.type) (ha _) (by omega);omega
 .refine sr (l0:=x.aO) _ _ (λc d a _ h1 h2=>?_) _ _ _ (λ_ h=>h) (by decide) (abP _);have:=ha a.type;have:=hm a.type;omega
 .rename_i h1 h2;have e1:=ha x.elem;have e2:=hm x.elem;exact absurd (h2.imp id λh=>by omega) h1
 .rename_i h1 h2;have e1:=ha x.elem;have e2:=hm x.elem;have e3:=ha x.key;have e4:=hm x.key;exact absurd (h2.imp id λh=>h.imp (λh=>by omega) (λh=>⟨h.1,by omega⟩)) h1
 .have:=hm x.elem
  omega
theorem QP (x:aB)(n:List Int)(hn:yd n):jM true x n<=jM false x n:=by
 have ha:∀i,0<=gQ n i:=λi=>(hn.at _).1;unfold jM
 repeat' split
 all_goals first|decide|omega|skip
 rename_i h1 h2;exact absurd (h2.imp id λh=>h.imp id (λh=>⟨by simp at h,by simp at h⟩)) h1
def swp (b:Bool)(T:List aB)(n:List Int):Nat->List Int
 |0=>n
 |k+1=>match T[k]? with
  |some x=>(swp b T n k).set k (jM b x (swp b T n k))
  |none=>swp b T n k
theorem iB {n:List Int}{k:Nat}{x:Int}(i:Nat)(hk:k<n.length):(n.set k x).getD i 0=if i=k then x else n.getD i 0:=by
 rw[aat,aca];by_cases h:k=i
 .subst h;rw[if_pos rfl,if_pos hk,if_pos rfl];rfl
 .rw[if_neg h,if_neg (λe=>h e.symm),aat]
def Dw (b:Bool)(T:List aB)(n:List Int):Prop:=n.length=T.length/\yd n/\∀k x,T[k]?=some x->n.getD k 0<=jM b x n
theorem yd.set {n:List Int}(h:yd n){k:Nat}{x:Int}(hx:0<=x/\x<=2):yd (n.set k x):=λy hy=>by
 rcases abX hy with h1|rfl
 .exact h y h1
 .exact hx
theorem my.set {n:List Int}{k:Nat}{x:Int}(hk:k<n.length)(hx:n.getD k 0<=x):my n (n.set k x):=by
 refine⟨(abe ..).symm,λi=>?_⟩;rw[iB i hk];split
 .rename_i h;rw[h];exact hx
 .exact abP _
theorem Dw.step {b:Bool}{T:List aB}{n:List Int}(h:Dw b T n){k:Nat}{x:aB}(hx:T[k]?=some x):Dw b T (n.set k (jM b x n))/\my n (n.set k (jM b x n)):=by
 obtain⟨h1,h2,h3⟩:=h;have hk:k<n.length:=h1 ▸ (aak.1 hx).1;have hle:=my.set hk (h3 k x hx);refine⟨⟨by rw[abe,h1],h2.set (ui b x h2),λj y hy=>?_⟩,hle⟩;have hm:=q9 b y h2 hle;rw[iB j hk];split
 .rename_i e;rw[e,hx]at hy;cases hy;exact hm
 .exact Int.le_trans (h3 j y hy) hm
theorem Dw.swp {b:Bool}{T:List aB}{n:List Int}(h:Dw b T n):∀k,Dw b T (swp b T n k)/\my n (swp b T n k)
 |0=>⟨h,my.refl n⟩
 |k+1=>by
  obtain⟨h1,h2⟩:=Dw.swp h k;unfold Go.Pv.swp;split
  .rename_i x hx;obtain⟨h3,h4⟩:=h1.step hx;exact⟨h3,h2.trans h4⟩
  .exact⟨h1,h2⟩
def Fix (b:Bool)(T:List aB)(n:List Int):Prop:=n.length=T.length/\yd n/\∀k x,T[k]?=some x->n.getD k 0=jM b x n
def tj (b:Bool)(T:List aB)(n:List Int):Prop:=Fix b T n/\∀m,Fix b T m->my n m
theorem tj.uniq {b:Bool}{T:List aB}{n m:List Int}(h:tj b T n)(g:tj b T m):n=m:=(h.2 m g.1).QO (g.2 n h.1)
theorem Dx {b:Bool}{T:List aB}{n m:List Int}(hn:yd n)(hm:Fix b T m)(h:my n m){k:Nat}{x:aB}(hx:T[k]?=some x):my (n.set k (jM b x n)) m:=by
 have hk:k<n.length:=by rw[h.1,hm.1];exact(aak.1 hx).1
 refine⟨by rw[abe,h.1],λi=>?_⟩;rw[iB i hk];split
 .rename_i e;rw[e,hm.2.2 k x hx];exact q9 b x hn h
 .exact h.2 i
theorem oy {b:Bool}{T:List aB}{n m:List Int}(hn:Dw b T n)(hm:Fix b T m)(h:my n m):∀k,my (swp b T n k) m
 |0=>h
 |k+1=>by
  unfold swp;split
  .rename_i x hx;exact Dx (hn.swp k).1.2.1 hm (oy hn hm h k) hx
  .exact oy hn hm h k
theorem Iz {b:Bool}{T:List aB}{n:List Int}(hn:Dw b T n)(h:my (swp b T n T.length) n):Fix b T n:=by
 have key:∀k,k<=T.length->swp b T n k=n:=λk hk=>by
  have up:∀j,my (swp b T n k) (swp b T n (k+j)):=λj=>by
   induction j with
   |zero=>exact my.refl _
   |succ j ih=>
    rw[<- abx];refine ih.trans ?_;show my _ (match T[k+j]? with
     |some x=>(swp b T n (k+j)).set (k+j) (jM b x (swp b T n (k+j)))
     |none=>swp b T n (k+j))
    split
    .rename_i x hx;exact((hn.swp (k+j)).1.step hx).2
    .exact my.refl _
  have:=up (T.length - k);rw[show k+(T.length - k)=T.length by omega]at this;exact(this.trans h).QO (hn.swp k).2
 refine⟨hn.1,hn.2.1,λk x hx=>?_⟩;have hk:=(aak.1 hx).1;have h1:=key (k+1) hk;have h2:=key k (by omega);unfold swp at h1;rw[hx]at h1;dsimp only at h1;rw[h2]at h1;have h3:=iB (n:=n) (x:=jM b x n) k (by rw[hn.1];exact hk);rw[h1,if_pos rfl]at h3;exact h3
def su (n:List Int):Int:=n.foldl (·+·) 0
theorem vP:∀(n:List Int)(a:Int),n.foldl (·+·) a=a+su n
 |[],a=>by simp[su]
 |x::n,a=>by
  show n.foldl (·+·) (a+x)=a+n.foldl (·+·) (0+x);rw[vP n (a+x),vP n (0+x)];omega
theorem sw (x:Int)(n:List Int):su (x::n)=x+su n:=by
 show n.foldl (·+·) (0+x)=_;rw[vP];omega
theorem zo:∀{a b:List Int},my a b->su a<=su b/\(a≠b->su a<su b)
 |[],[],_=>⟨abP _,λh=>(h rfl).elim⟩
 |[],_::_,h=>absurd h.1 (by simp)
 |_::_,[],h=>absurd h.1 (by simp)
 |x::a,y::b,h=>by
  have h0:=h.2 0;have ht:my a b:=⟨by have:=h.1;simpa using this,λk=>by simpa using h.2 (k+1)⟩;obtain⟨h1,h2⟩:=zo ht;simp at h0;rw[sw,sw];refine⟨by omega,λhne=>?_⟩;by_cases e:a=b
  .have:x≠y:=λe2=>hne (by rw[e,e2]);omega
  .have:=h2 e
   omega
theorem re:∀{n:List Int},yd n->0<=su n/\su n<=2*n.length
 |[],_=>by simp[su]
 |x::n,h=>by
  have h1:=h x aaN;have h2:=re (n:=n) λy hy=>h y (aaz _ hy);rw[sw,ach];omega
def gV (b:Bool)(T:List aB):Nat->List Int
 |0=>List.replicate T.length 0
 |r+1=>swp b T (gV b T r) T.length
theorem BA (b:Bool)(T:List aB):Dw b T (List.replicate T.length 0):=by
 have h2:yd (List.replicate T.length 0):=λx hx=>by
  rw[List.mem_replicate]at hx;omega
 refine⟨abu,h2,λk x _=>?_⟩;have h1:=ui b x h2;rw[aat,abw];split<;>simpa using h1.1
theorem fI (b:Bool)(T:List aB):∀r,Dw b T (gV b T r)
 |0=>BA b T
 |r+1=>((fI b T r).swp _).1
theorem pP {b:Bool}{T:List aB}{m:List Int}(hm:Fix b T m):∀r,my (gV b T r) m
 |0=>by
  refine⟨by rw[hm.1];exact abu,λk=>?_⟩;have h1:=hm.2.1.at k;show (List.replicate T.length (0:Int)).getD k 0<=_;rw[aat,abw];split<;>simpa using h1.1
 |r+1=>oy (fI b T r) hm (pP hm r) _
theorem EO {b:Bool}{T:List aB}{n:List Int}(h:Fix b T n):∀k,swp b T n k=n
 |0=>rfl
 |k+1=>by
  unfold swp;rw[EO h k];split
  .rename_i x hx;have hk:k<n.length:=by rw[h.1];exact(aak.1 hx).1
   rw[<- h.2.2 k x hx,aat,aal hk];simp
  .rfl
theorem mz (b:Bool)(T:List aB):tj b T (gV b T (2*T.length+1)):=by
 have key:∀r,Fix b T (gV b T r)\/(r:Int)<=su (gV b T r):=λr=>by
  induction r with
  |zero=>exact .inr (re (BA b T).2.1).1
  |succ r ih=>
   rcases ih with h|h
   .left;show Fix b T (swp b T (gV b T r) T.length);rw[EO h];exact h
   .have hl:=fI b T r;by_cases e:gV b T r=gV b T (r+1)
    .left;rw[<- e];exact Iz hl (by show my (gV b T (r+1)) _;rw[<- e];exact my.refl _)
    .right;have:=(zo (hl.swp T.length).2).2 e;have e2:gV b T (r+1)=swp b T (gV b T r) T.length:=rfl;rw[e2];omega
 refine⟨(key _).resolve_right λh=>?_,λm hm=>pP hm _⟩;have h1:=re (fI b T (2*T.length+1)).2.1;rw[(fI b T (2*T.length+1)).1]at h1;omega
theorem F6 {T:List aB}{n:List Int}(h:tj true T n)(hk:∀x∈T,x.kind=8->gQ n x.key≠0):tj false T n:=by
 obtain⟨⟨h1,h2,h3⟩,h4⟩:=h;have hf:Fix false T n:=⟨h1,h2,λk x hx=>by
  rw[h3 k x hx];have:=hk x (aaj hx);unfold jM;by_cases c:x.kind=8
  .have:=this c
   simp[c,this]
  .simp[c]⟩
 refine⟨hf,λm hm=>?_⟩;have hr:=mz true T;have e:n=gV true T (2*T.length+1):=tj.uniq ⟨⟨h1,h2,h3⟩,h4⟩ hr;rw[e];have key:∀r,my (gV true T r) m:=λr=>by
  induction r with
  |zero=>
   refine⟨by rw[hm.1];exact abu,λk=>?_⟩;have h1:=hm.2.1.at k;show (List.replicate T.length (0:Int)).getD k 0<=_;rw[aat,abw];split<;>simpa using h1.1
  |succ r ih=>
   have:∀k,my (swp true T (gV true T r) k) m:=λk=>by
    induction k with
    |zero=>exact ih
    |succ k ih2=>
     unfold swp;split
     .rename_i x hx;have hl:=((fI true T r).swp k).1.2.1;have hk:k<(swp true T (gV true T r) k).length:=by rw[ih2.1,hm.1];exact(aak.1 hx).1
      refine⟨by rw[abe,ih2.1],λi=>?_⟩;rw[iB i hk];split
      .rename_i e;rw[e,hm.2.2 k x hx];exact Int.le_trans (QP x _ hl) (q9 false x hl ih2)
      .exact ih2.2 i
     .exact ih2
   exact this _
 exact key _
def IA (x:aB)(n:List Int):Int:=
 if x.kind=4 then x.syms.length
 else if x.kind=6 then x.aO.foldl (λc m=>c+gQ n m.type) 0
 else if x.kind=9 then 1+gQ n x.elem
 else jM true x n
theorem BB {n:List Int}(ha:∀i,0<=gQ n i):∀(l:List Mem)(c:Int),0<=c->min 2 (l.foldl (λc m=>c+gQ n m.type) c)=l.foldl (λc m=>min 2 (c+gQ n m.type)) (min 2 c)
 |[],_,_=>rfl
 |m::l,c,h=>by
  have h1:=ha m.type;rw[abd,abd,BB ha l _ (by omega)];congr 1;omega
theorem IB (x:aB){n:List Int}(hn:yd n):min 2 (IA x n)=jM true x n:=by
 have h:=ui true x hn;unfold IA
 repeat' split
 .rename_i h1;unfold jM;rw[if_neg (by omega),if_neg (by omega),if_pos h1]
 .rename_i h1;rw[BB (λi=>(hn.at _).1) _ _ (by decide)];unfold jM;rw[if_neg (by omega),if_neg (by omega),if_neg (by omega),if_neg (by omega),if_pos h1];rfl
 .rename_i h1;unfold jM;rw[if_neg (by omega),if_neg (by omega),if_neg (by omega),if_neg (by omega),if_neg (by omega),if_neg (by omega),if_neg (by omega),if_pos h1]
 .omega
theorem vQ {t:Nat}{n:List Int}{i:Int}(h0:0<=i)(h:i<n.length):kx 1 t (ints n) (some i)=some (V.pv (.ro t [.int .i64 (gQ n i)])):=by
 rw[fH _ _ _ h0,HS,aal (show i.toNat<n.length by omega)];unfold gQ;rw[aat,aal (show i.toNat<n.length by omega)];rfl
theorem EP {c a:Int}(h1:0<=c)(h2:c<=2)(h3:0<=a)(h4:a<=2):0<=c*a/\c*a<=4:=by
 have:c=0\/c=1\/c=2:=by omega
 rcases this with rfl|rfl|rfl<;>omega
theorem vR {x:aB}{m:Mem}(h:m∈x.aO):m.type∈bw x:=by
 unfold bw;exact aa2 _ (aa2 _ (aaq.2 ⟨m,h,rfl⟩))
theorem sx {x:aB}(h:x.kind=7\/x.kind=8\/x.kind=9):x.elem∈bw x:=by
 unfold bw fj;refine aa9 _ ?_;rcases h with h|h|h<;>simp[h]
set_option maxHeartbeats 4000000 in
theorem r481 (x:aB)(n:List Int)(t:Nat)(hk:1<=x.kind/\x.kind<=9)(hs:x.short)(hn:yd n)(hu:∀u∈bw x,0<=u/\u<n.length):res A ay 481 [.agg x.c,.ae t (ints n)]=some [.int .i64 (jM false x n)]:=by
 refine ai a481 rfl rfl ?_;simp only[F481,PQ];have ha:∀i,0<=gQ n i/\gQ n i<=2:=λi=>hn.at _;have hm:=λm hm=>hu _ (vR (x:=x) (m:=m) hm);have hml:=hs.aO;have hsl:=hs.syms;have hel:=λh=>hu _ (sx (x:=x) h);unfold jM;obtain⟨kind,name,low,high,max,syms,aO,key,elem,jO⟩:=x;unfold aB.c;dsimp only at *;rcases nine hk with rfl|rfl|rfl|rfl|rfl|rfl|rfl|rfl|rfl
 .simp(disch:=omega)only[go_sem,decide_true,decide_false,Int.reduceEq,if_true,if_false]
 .simp(disch:=omega)only[go_sem,decide_true,decide_false,Int.reduceEq,if_true,if_false];refine Br.aF (λc=>?_) (λc=>?_)<;>simp(disch:=omega)only[go_sem,c,if_true,if_false]
 .simp(disch:=omega)only[go_sem,decide_true,decide_false,Int.reduceEq,if_true,if_false];refine Br.aF (λc=>?_) (λc=>?_)<;>simp(disch:=omega)only[go_sem,c,if_true,if_false]
 .simp(disch:=omega)only[go_sem,decide_true,decide_false,Int.reduceEq,if_true,if_false]
 .simp(disch:=omega)only[go_sem,decide_true,decide_false,Int.reduceEq,if_true,if_false];refine W.fold aO (λc m=>min 2 (c*gQ n m.type)) 1 (λk acc=>⟨[(1,.pv (.ae t (ints n))),(2,.ptr 2 0),(5,.pv (.int .i64 acc)),(6,.pv (.int .i64 k))],⟨[(2,[.pv (.int .i64 5),.pv (.str name),.pv (.int .i64 low),.pv (.int .i64 high),.pv (.int .i64 max),.pv (.ae 0 (syms.map Sym.c)),.pv (.ae 0 (aO.map Mem.c)),.pv (.int .i64 key),.pv (.int .i64 elem),.pv (.bool jO)])],[],[]⟩⟩) (λ_ acc=>0<=acc/\acc<=2) rfl (by decide) (λk m acc hm1 hk1 _ hi=>?_) (λacc hacc hi=>?_)
  .obtain⟨u1,u2⟩:=hm m (aaj hm1);have he:=λt=>vQ (t:=t) u1 u2;obtain⟨p1,p2⟩:=EP hi.1 hi.2 (ha m.type).1 (ha m.type).2;generalize hp:acc*gQ n m.type=p at p1 p2;simp(disch:=omega)only[go_sem];refine Br.aF (λc=>?_) (λc=>(c (by omega)).elim);simp(disch:=omega)only[go_sem,hm1,Option.map_some,Mem.c,he,hp];exact cV.of rfl (by omega)
  .simp(disch:=omega)only[go_sem];rw[<- hacc]
 .simp(disch:=omega)only[go_sem,decide_true,decide_false,Int.reduceEq,if_true,if_false];refine W.fold aO (λc m=>min 2 (c+gQ n m.type)) 0 (λk acc=>⟨[(1,.pv (.ae t (ints n))),(2,.ptr 2 0),(7,.pv (.int .i64 acc)),(8,.pv (.int .i64 k))],⟨[(2,[.pv (.int .i64 6),.pv (.str name),.pv (.int .i64 low),.pv (.int .i64 high),.pv (.int .i64 max),.pv (.ae 0 (syms.map Sym.c)),.pv (.ae 0 (aO.map Mem.c)),.pv (.int .i64 key),.pv (.int .i64 elem),.pv (.bool jO)])],[],[]⟩⟩) (λ_ acc=>0<=acc/\acc<=2) rfl (by decide) (λk m acc hm1 hk1 _ hi=>?_) (λacc hacc hi=>?_)
  .obtain⟨u1,u2⟩:=hm m (aaj hm1);have he:=λt=>vQ (t:=t) u1 u2;have hat:=ha m.type;simp(disch:=omega)only[go_sem];refine Br.aF (λc=>?_) (λc=>(c (by omega)).elim);simp(disch:=omega)only[go_sem,hm1,Option.map_some,Mem.c,he];exact cV.of rfl (by omega)
  .simp(disch:=omega)only[go_sem];rw[<- hacc]
 .obtain⟨e1,e2⟩:=hel (by decide);have he:=λt=>vQ (t:=t) e1 e2;simp(disch:=omega)only[go_sem,decide_true,decide_false,Int.reduceEq,if_true,if_false,he];refine Br.aF (λc=>?_) (λc=>?_)<;>simp(disch:=omega)only[go_sem,c,if_true,if_false,he]
  .rw[if_pos (.inl trivial)]
  .refine Br.aF (λd=>?_) (λd=>?_)<;>simp(disch:=omega)only[go_sem,d]
   .rw[if_pos (by simp)]
   .rw[if_neg (by simp[c])]
 .obtain⟨e1,e2⟩:=hel (by decide);have he:=λt=>vQ (t:=t) e1 e2;simp(disch:=omega)only[go_sem,decide_true,decide_false,Int.reduceEq,if_true,if_false,he];refine Br.aF (λc=>?_) (λc=>?_)<;>simp(disch:=omega)only[go_sem,c,if_true,if_false,he]
  .rw[if_pos (.inl trivial)]
  .refine Br.aF (λd=>?_) (λd=>?_)<;>simp(disch:=omega)only[go_sem,d]
   .rw[if_pos (by simp)]
   .rw[if_neg (by simp[c])]
 .obtain⟨e1,e2⟩:=hel (by decide);have he:=λt=>vQ (t:=t) e1 e2;have:=ha elem;simp(disch:=omega)only[go_sem,decide_true,decide_false,Int.reduceEq,if_true,if_false,he]
set_option maxHeartbeats 4000000 in
theorem r485 (x:aB)(n:List Int)(t:Nat)(hk:1<=x.kind/\x.kind<=9)(hs:x.short)(hn:yd n)(hu:∀u∈bw x,0<=u/\u<n.length):res A ay 485 [.agg x.c,.ae t (ints n)]=some [.int .i64 (IA x n)]:=by
 refine ai a485 rfl rfl ?_;simp only[F485,PW];have ha:∀i,0<=gQ n i/\gQ n i<=2:=λi=>hn.at _;have hm:=λm hm=>hu _ (vR (x:=x) (m:=m) hm);have hml:=hs.aO;have hsl:=hs.syms;have hel:=λh=>hu _ (sx (x:=x) h);have hkey:=λh=>hu _ (gH (t:=x) h);unfold IA jM;obtain⟨kind,name,low,high,max,syms,aO,key,elem,jO⟩:=x;unfold aB.c;dsimp only at *;rcases nine hk with rfl|rfl|rfl|rfl|rfl|rfl|rfl|rfl|rfl
 .simp(disch:=omega)only[go_sem,decide_true,decide_false,Int.reduceEq,if_true,if_false]
 .simp(disch:=omega)only[go_sem,decide_true,decide_false,Int.reduceEq,if_true,if_false];refine Br.aF (λc=>?_) (λc=>?_)<;>simp(disch:=omega)only[go_sem,c,if_true,if_false]
 .simp(disch:=omega)only[go_sem,decide_true,decide_false,Int.reduceEq,if_true,if_false];refine Br.aF (λc=>?_) (λc=>?_)<;>simp(disch:=omega)only[go_sem,c,if_true,if_false]
 .simp(disch:=omega)only[go_sem,decide_true,decide_false,Int.reduceEq,if_true,if_false]
 .simp(disch:=omega)only[go_sem,decide_true,decide_false,Int.reduceEq,if_true,if_false];refine W.fold aO (λc m=>min 2 (c*gQ n m.type)) 1 (λk acc=>⟨[(1,.pv (.ae t (ints n))),(5,.pv (.int .i64 acc)),(33,.pv (.ae 0 (aO.map Mem.c))),(34,.pv (.int .i64 aO.length)),(35,.pv (.int .i64 k))],⟨[],[],[]⟩⟩) (λ_ acc=>0<=acc/\acc<=2) rfl (by decide) (λk m acc hm1 hk1 _ hi=>?_) (λacc hacc hi=>?_)
  .obtain⟨u1,u2⟩:=hm m (aaj hm1);have he:=λt=>vQ (t:=t) u1 u2;obtain⟨p1,p2⟩:=EP hi.1 hi.2 (ha m.type).1 (ha m.type).2;generalize hp:acc*gQ n m.type=p at p1 p2;simp(disch:=omega)only[go_sem];refine Br.aF (λc=>?_) (λc=>(c (by omega)).elim);simp(disch:=omega)only[go_sem,hm1,Option.map_some,Mem.c,he,hp];exact cV.of rfl (by omega)
  .simp(disch:=omega)only[go_sem];rw[<- hacc]
 .simp(disch:=omega)only[go_sem,decide_true,decide_false,Int.reduceEq,if_true,if_false];refine W.fold aO (λc m=>c+gQ n m.type) 0 (λk acc=>⟨[(1,.pv (.ae t (ints n))),(8,.pv (.int .i64 acc)),(52,.pv (.ae 0 (aO.map Mem.c))),(53,.pv (.int .i64 aO.length)),(54,.pv (.int .i64 k))],⟨[],[],[]⟩⟩) (λk acc=>0<=acc/\acc<=2*(k:Int)) rfl (by decide) (λk m acc hm1 hk1 _ hi=>?_) (λacc hacc hi=>?_)
  .obtain⟨u1,u2⟩:=hm m (aaj hm1);have he:=λt=>vQ (t:=t) u1 u2;have hat:=ha m.type;simp(disch:=omega)only[go_sem];refine Br.aF (λc=>?_) (λc=>(c (by omega)).elim);simp(disch:=omega)only[go_sem,hm1,Option.map_some,Mem.c,he];exact cV.of rfl (by omega)
  .simp(disch:=omega)only[go_sem];rw[<- hacc]
 .obtain⟨e1,e2⟩:=hel (by decide);have he:=λt=>vQ (t:=t) e1 e2;simp(disch:=omega)only[go_sem,decide_true,decide_false,Int.reduceEq,if_true,if_false,he];refine Br.aF (λc=>?_) (λc=>?_)<;>simp(disch:=omega)only[go_sem,c,if_true,if_false,he]
  .rw[if_pos (.inl trivial)]
  .refine Br.aF (λd=>?_) (λd=>?_)<;>simp(disch:=omega)only[go_sem,d]
   .rw[if_pos (by simp)]
   .rw[if_neg (by simp[c])]
 .obtain⟨e1,e2⟩:=hel (by decide);obtain⟨k1,k2⟩:=hkey (by decide);have he:=λt=>vQ (t:=t) e1 e2;have hke:=λt=>vQ (t:=t) k1 k2;simp(disch:=omega)only[go_sem,decide_true,decide_false,Int.reduceEq,if_true,if_false,he];refine Br.aF (λc=>?_) (λc=>?_)<;>simp(disch:=omega)only[go_sem,c,if_true,if_false,he]
  .rw[if_pos (.inl trivial)]
  .refine Br.aF (λd=>?_) (λd=>?_)<;>simp(disch:=omega)only[go_sem,d,hke]
   .rw[if_pos (by simp)]
   .refine Br.aF (λe=>?_) (λe=>?_)<;>simp(disch:=omega)only[go_sem,e]
    .rw[if_pos (by simp)]
    .rw[if_neg (by simp[c,d])]
 .obtain⟨e1,e2⟩:=hel (by decide);have he:=λt=>vQ (t:=t) e1 e2;have:=ha elem;simp(disch:=omega)only[go_sem,decide_true,decide_false,Int.reduceEq,if_true,if_false,he]
structure aT.Good (a:aT):Prop where
 st:0<=a.start/\a.start<a.aj
 mx:a.aj<=12
 len:a.aa.length<=100
 fit:∀e∈a.aa,e.fits a.aj=true
 JM:a.aa.Pairwise (λx y=>Edge.lt x y=true)
theorem Edge.IC (x:Edge):Edge.lt x x=false:=by simp[Edge.lt]
theorem Edge.ye (x y z:Edge)(h1:Edge.lt x y=true)(h2:Edge.lt y z=true):Edge.lt x z=true:=by
 unfold Edge.lt at *;by_cases a1:x.fr=y.fr<;>by_cases a2:y.fr=z.fr<;>by_cases b1:x.send=y.send<;>by_cases b2:y.send=z.send<;>simp_all<;>(try omega)
 all_goals (try (have:¬x.fr=z.fr:=by omega);simp_all;omega)
theorem Edge.zq {x y:Edge}:oI Edge.lt x y↔¬(x.fr=y.fr/\x.send=y.send/\x.label=y.label):=by
 unfold oI Edge.lt;by_cases a1:x.fr=y.fr
 .cases h1:x.send<;>cases h2:y.send<;>simp[a1]<;>omega
 .have:¬y.fr=x.fr:=λh=>a1 h.symm;simp[a1,this];omega
theorem ER {n:Int}:∀{p:Option Edge}{l:List Edge},vn n p l=true->l.Pairwise (λx y=>Edge.lt x y=true)/\∀q,p=some q->∀e∈l,Edge.lt q e=true
 |_,[],_=>⟨List.Pairwise.nil,λ_ _ e he=>absurd he (by simp)⟩
 |p,x::r,h=>by
  simp only[vn,Bool.and_eq_true]at h;obtain⟨h1,h2⟩:=ER h.2;refine⟨aaI.2 ⟨h2 x rfl,h1⟩,λq hq e he=>?_⟩;subst hq;have hx:Edge.lt q x=true:=h.1.2;rcases aaE.1 he with rfl|he
  .exact hx
  .exact Edge.ye _ _ _ hx (h2 x rfl e he)
theorem ID {n:Int}:∀{p:Option Edge}{l:List Edge},l.Pairwise (λx y=>Edge.lt x y=true)->(∀e∈l,e.fits n=true)->(∀q,p=some q->∀e∈l,Edge.lt q e=true)->vn n p l=true
 |_,[],_,_,_=>rfl
 |p,x::r,h1,h2,h3=>by
  obtain⟨g1,g2⟩:=aaI.1 h1;simp only[vn,Bool.and_eq_true];refine⟨⟨h2 x (by simp),?_⟩,ID g2 (λe he=>h2 e (by simp[he])) λq hq e he=>?_⟩
  .cases p with
   |none=>rfl
   |some q=>exact h3 q rfl x (by simp)
  .cases hq;exact g1 e he
theorem aT.kj {a:aT}:a.err=0↔a.Good:=by
 unfold aT.err;constructor
 .intro h;split at h
  .cases h
  .split at h
   .split at h
    .rename_i h1 h2 h3;exact⟨h2,by omega,by omega,AT h3,(ER h3).1⟩
    .cases h
   .cases h
 .intro h;have:=h.mx;have:=h.len
  rw[if_neg (by omega),if_pos h.st,if_pos (ID h.JM h.fit (λq hq=>by cases hq))]
theorem fU {s:Int}{d:Bool}{x t:Int}:∀{es:List Edge},es.Pairwise (oI Edge.lt)->(bz s d x es=some t↔⟨s,d,x,t⟩∈es)
 |[],_=>by simp[bz]
 |e::r,h=>by
  obtain⟨h1,h2⟩:=aaI.1 h;unfold bz;split
  .rename_i hc;constructor
   .intro h;cases h;obtain⟨rfl,rfl,rfl⟩:=hc;exact aaN ..
   .intro hm;rcases aaE.1 hm with hm|hm
    .rw[<- hm]
    .exact(Edge.zq.1 (h1 _ hm) hc).elim
  .rename_i hc;rw[fU h2,aaE];refine⟨.inr,λh=>h.elim (λh=>?_) id⟩;rw[<- h]at hc;exact(hc ⟨rfl,rfl,rfl⟩).elim
theorem aT.Good.oI {a:aT}(h:a.Good):a.aa.Pairwise (oI Edge.lt):=h.JM.imp .inl
def outs (es:List Edge)(v:Int):List Int:=(es.filter λe=>e.fr==v).map (·.to)
theorem vS {es:List Edge}{v x:Int}:x∈outs es v↔∃e∈es,e.fr=v/\e.to=x:=by simp[outs,and_assoc]
def aT.from (a:aT)(s:Int):List Int:=qM (outs a.aa) a.aj.toNat 0 [s]
def aT.order (a:aT):List Int:=a.from a.start
def aT.inr (a:aT)(v:Int):Prop:=0<=v/\v<a.aj
theorem aT.Good.ES {a:aT}(h:a.Good):∀v,a.inr v->∀x∈outs a.aa v,a.inr x:=by
 intro v _ x hx;obtain⟨e,he,_,rfl⟩:=vS.1 hx;have:=ff.1 (h.fit e he);exact⟨this.2.2.1,this.2.2.2.1⟩
theorem aT.bound {a:aT}:∀o:List Int,o.Nodup->(∀v∈o,a.inr v)->o.length<=a.aj.toNat:=λo hd ho=>td hd λx hx=>by
 have:=ho x hx;unfold aT.inr at this;omega
theorem aT.Good.BC {a:aT}(h:a.Good){s v:Int}(hs:a.inr s):v∈a.from s↔KR (outs a.aa) s v:=qN h.ES a.bound hs
theorem aT.vT (a:aT)(s:Int):(a.from s).Nodup:=sh _ _ (by simp)
theorem aT.Good.K4 {a:aT}(h:a.Good){s:Int}(hs:a.inr s):∀v∈a.from s,a.inr v:=ug h.ES _ _ (by simpa using hs)
theorem aT.Good.nQ {a:aT}(h:a.Good){s:Int}(hs:a.inr s):(a.from s).length<=a.aj.toNat:=a.bound _ (a.vT s) (h.K4 hs)
theorem aT.Good.rf {a:aT}(h:a.Good){e:Edge}(he:e∈a.aa)(hf:e.fr∈a.order):e.to∈a.order:=(h.BC h.st).2 (.step ((h.BC h.st).1 hf) (vS.2 ⟨e,he,rfl,rfl⟩))
theorem aT.pQ (a:aT):∃r,a.order=a.start::r:=by
 obtain⟨t,ht⟩:=zi (nx:=outs a.aa) a.aj.toNat 0 [a.start];exact⟨t,ht.symm⟩
theorem vU {x:Int}:∀{l:List Int}{k:Nat},x∈l->∃j,fm x k l=((k+j:Nat):Int)/\l[j]?=some x
 |[],_,h=>absurd h (by simp)
 |y::r,k,h=>by
  unfold fm;split
  .rename_i hy;exact⟨0,rfl,by simp[hy]⟩
  .rename_i hy;rcases aaE.1 h with rfl|h
   .exact(hy rfl).elim
   .obtain⟨j,h1,h2⟩:=vU (k:=k+1) h;exact⟨j+1,by rw[h1];omega,by simpa using h2⟩
theorem uj {x:Int}{l:List Int}(h:x∈l):∃j:Nat,lL x l=(j:Int)/\l[j]?=some x:=by
 obtain⟨j,h1,h2⟩:=vU (k:=0) h;exact⟨j,by unfold lL;rw[h1,ab2],h2⟩
theorem QR {x:Int}{l:List Int}{j:Nat}(hd:l.Nodup)(h:l[j]?=some x):lL x l=j:=by
 obtain⟨i,h1,h2⟩:=uj (aaj h);rw[h1];obtain⟨g1,g2⟩:=aak.1 h;obtain⟨f1,f2⟩:=aak.1 h2;have:=(abh.1 hd);rcases Nat.lt_trichotomy i j with hl|rfl|hl
 .exact(this i j f1 g1 hl (f2.trans g2.symm)).elim
 .rfl
 .exact(this j i g1 f1 hl (g2.trans f2.symm)).elim
theorem zr {x y:Int}{l:List Int}(hx:x∈l)(hy:y∈l)(h:lL x l=lL y l):x=y:=by
 obtain⟨i,h1,h2⟩:=uj hx;obtain⟨j,g1,g2⟩:=uj hy;rw[h1,g1]at h;have:i=j:=by omega
 subst this;rw[h2]at g2;exact Option.some.inj g2
theorem yf {x:Int}{l:List Int}(hx:x∈l):0<=lL x l/\lL x l<l.length:=by
 obtain⟨i,h1,h2⟩:=uj hx;have:=(aak.1 h2).1;omega
def iota (n:Nat):List Int:=(List.range n).map Int.ofNat
theorem IE {n k:Nat}(h:k<n):(iota n)[k]?=some (k:Int):=by simp[iota,h]
theorem BD {n:Nat}{x:Int}:x∈iota n↔0<=x/\x<n:=by
 unfold iota;rw[aaq];constructor
 .rintro ⟨k,hk,rfl⟩
  have:=aaV.1 hk;simp;omega
 .intro h;exact⟨x.toNat,List.mem_range.2 (by omega),by simp;omega⟩
theorem K5 {l:List Int}(hd:l.Nodup):l.map (lL · l)=iota l.length:=by
 apply aa0;intro i;rw[aap];rcases aar i l.length with h|h
 .rw[aal h,IE h];simp only[Option.map_some];rw[QR hd (aal h)]
 .rw[List.getElem?_eq_none h,List.getElem?_eq_none (by simp[iota,h])];rfl
def Edge.JX (o:List Int)(e:Edge):Edge:=⟨lL e.fr o,e.send,e.label,lL e.to o⟩
def kept (o:List Int)(es:List Edge):List Edge:=(es.filter λe=>decide (e.fr∈o)).map (Edge.JX o)
def aT.trim (a:aT):aT:=⟨a.order.length,0,cU Edge.lt (kept a.order a.aa)⟩
theorem IF {o:List Int}{es:List Edge}{x:Edge}:x∈kept o es↔∃e∈es,e.fr∈o/\e.JX o=x:=by simp[kept,and_assoc]
theorem vV {o:List Int}{es:List Edge}(h:es.Pairwise (oI Edge.lt)):(kept o es).Pairwise (oI Edge.lt):=by
 unfold kept;rw[abW];have h2:=h.filter (λe=>decide (e.fr∈o));refine List.Pairwise.imp_of_mem (λ{x y} hx hy hxy=>?_) h2;have hx':=(aby.1 hx).2;have hy':=(aby.1 hy).2;simp only[decide_eq_true_eq]at hx' hy';rw[Edge.zq]at hxy |-;exact λ⟨e1,e2,e3⟩=>hxy ⟨zr hx' hy' e1,e2,e3⟩
theorem aT.vW {a:aT}{x:Edge}:x∈a.trim.aa↔∃e∈a.aa,e.fr∈a.order/\e.JX a.order=x:=by
 show x∈cU _ _↔_;rw[(bW _ _).mem_iff,IF]
theorem aT.Good.trim {a:aT}(h:a.Good):a.trim.Good where
 st:=by
  obtain⟨r,hr⟩:=a.pQ;show (0:Int)<=0/\(0:Int)<(a.order.length:Int);rw[hr];simp
 mx:=by
  have:=h.nQ h.st;have:=h.mx;show (a.order.length:Int)<=12;unfold aT.order;omega
 len:=by
  show (cU _ (kept _ _)).length<=100;rw[(bW _ _).length_eq];have:=abU (λe:Edge=>decide (e.fr∈a.order)) a.aa;have:=h.len;simp only[kept,List.length_map];omega
 fit x hx:=by
  obtain⟨e,he,hf,rfl⟩:=aT.vW.1 hx;have:=ff.1 (h.fit e he);have h1:=yf hf;have h2:=yf (h.rf he hf);rw[ff];show 0<=lL e.fr a.order/\lL e.fr a.order<(a.order.length:Int)/\0<=lL e.to a.order/\lL e.to a.order<(a.order.length:Int)/\_;exact⟨h1.1,h1.2,h2.1,h2.2,this.2.2.2.2⟩
 JM:=qT Edge.ye (vV h.oI)
theorem aT.Good.F7 {a:aT}(h:a.Good){v:Int}(hv:v∈a.order):outs a.trim.aa (lL v a.order)=(outs a.aa v).map (lL · a.order):=by
 have key:(a.trim.aa.filter λe=>e.fr==lL v a.order)=(a.aa.filter λe=>e.fr==v).map (Edge.JX a.order):=by
  refine EK Edge.IC Edge.ye (h.trim.JM.filter _) ?_ λx=>?_
  .rw[abW];refine List.Pairwise.imp_of_mem (λ{x y} hx hy hxy=>?_) (h.JM.filter _);have hx':=(aby.1 hx).2;have hy':=(aby.1 hy).2;simp only[beq_iff_eq]at hx' hy';unfold Edge.lt at hxy |-;simp only[Edge.JX,hx',hy',ne_eq,not_true_eq_false,if_false]at hxy |-;exact hxy
  .rw[aby,aT.vW,aaq];simp only[beq_iff_eq];constructor
   .rintro ⟨⟨e,he,hf,rfl⟩,hx⟩
    exact⟨e,List.mem_filter.2 ⟨he,by simpa using zr hf hv hx⟩,rfl⟩
   .rintro ⟨e,he,rfl⟩
    obtain⟨he,hf⟩:=aby.1 he;simp only[beq_iff_eq]at hf;exact⟨⟨e,he,hf ▸ hv,rfl⟩,by simp[Edge.JX,hf]⟩
 unfold outs;rw[key,aa6,aa6];rfl
theorem aT.Good.F8 {a:aT}(h:a.Good){s:Int}(hs:s∈a.order):a.trim.from (lL s a.order)=(a.from s).map (lL · a.order):=by
 have hcl:∀v,v∈a.order->∀x∈outs a.aa v,x∈a.order:=λv hv x hx=>by
  obtain⟨e,he,rfl,rfl⟩:=vS.1 hx;exact h.rf he hv
 have hm:=EA (g:=(lL · a.order)) (P:=λv=>v∈a.order) (nx:=outs a.aa) (nx':=outs a.trim.aa) (λx y hx hy e=>zr hx hy e) hcl (λv hv=>h.F7 hv) a.order.length 0 (o:=[s]) (by simpa using hs);show qM (outs a.trim.aa) ((a.order.length:Int)).toNat 0 [lL s a.order]=_;rw[aaU];refine hm.trans ?_;congr 1;refine Bd (N:=a.order.length) hcl (λo hd ho=>List.Nodup.length_le_of_subset hd ho) _ _ 0 (by omega) ?_ (by simp) (by simpa using hs);have:=h.nQ h.st;unfold aT.order;omega
theorem aT.F9 (a:aT):a.start∈a.order:=by
 obtain⟨r,hr⟩:=a.pQ;rw[hr];simp
theorem aT.Good.Dy {a:aT}(h:a.Good):a.trim.order=iota a.order.length:=by
 obtain⟨r,hr⟩:=a.pQ;have h0:lL a.start a.order=0:=by
  rw[hr];simp[lL,fm]
 have:=h.F8 a.F9;rw[h0]at this;show a.trim.from 0=_;rw[this];exact K5 (a.vT a.start)
def aT.proper (a:aT):Bool:=a.order.all λv=>(a.from v).any λw=>Iu w a.aa
end Go.Pv
