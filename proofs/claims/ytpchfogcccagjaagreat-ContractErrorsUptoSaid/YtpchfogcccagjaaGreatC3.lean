/-
 What the functions of the law give.
-/
import Derived.Test.YtpchfogcccagjaaGreatC2
set_option linter.unusedSimpArgs false
set_option linter.unusedVariables false
open List renaming mem_of_getElem? → Tf, getElem?_eq_some_iff → Tg, getElem?_eq_getElem → Th, length_map → Tl, findIdx?_eq_some_iff_getElem → TG, mem_cons_self → TP, getElem?_eq_none → TZ, getElem?_zip_eq_some → Uo, findIdx?_eq_none_iff → Up
open Bool renaming true_and → TL, false_and → T1, and_false → Um
open Int renaming toNat_natCast → T0, eq_ofNat_of_zero_le → T6
open Option renaming bind_some → UD
namespace Go.Pv
def aU (s:Int) (d:Bool) (x:Int):List Edge->Option Int
 |[]=>none
 |e::r=>if e.fr=s/\e.send=d/\e.label=x then some e.to else aU s d x r
@[go_sem] theorem r45 (t:Nat) (a:aO) (s:Int) (d:Bool) (x:Int) (hl:a.aa.length<=2^63 - 1):
  res A ay 45 [.agg [.int .i64 a.af,.int .i64 a.start,.ai t (a.aa.map Edge.c)],.int .i64 s,.bool d,.int .i64 x]=some [.int .i64 ((aU s d x a.aa).getD 0),.bool (aU s d x a.aa).isSome]:=by
 refine aq a45 rfl rfl ?_
 simp only[F45,RG]
 simp(disch:=omega)only[go_sem]
 refine W.du a.aa.length (fun k=>⟨[(1,.pv (.int .i64 s)),(2,.pv (.bool d)),(3,.pv (.int .i64 x)),(13,.pv (.ai t (a.aa.map Edge.c))),(14,.pv (.int .i64 a.aa.length)),(15,.pv (.int .i64 k))],⟨[],[],[]⟩⟩) (fun k=>aU s d x a.aa=aU s d x (a.aa.drop k)) rfl rfl fun k hk hi=>?_
 simp(disch:=omega)only[go_sem]
 refine Br.aB (fun h=>?_) (fun h=>?_)
 .obtain⟨e,he⟩:=get_at (l:=a.aa) (k:=k) (by omega)
  rw[fm he]at hi
  have no:¬(e.fr=s/\e.send=d/\e.label=x)->aU s d x a.aa=aU s d x (a.aa.drop (k+1)):=fun hn=>hi.trans (by simp only[aU,if_neg hn])
  have yes:(e.fr=s/\e.send=d/\e.label=x)->aU s d x a.aa=some e.to:=fun hn=>hi.trans (by simp only[aU,if_pos hn])
  simp(disch:=omega)only[go_sem,he]
  refine Br.aB (fun g1=>?_) (fun g1=>?_)<;>simp(disch:=omega)only[go_sem,g1]
  .refine Br.aB (fun g2=>?_) (fun g2=>?_)<;>simp(disch:=omega)only[go_sem,g2]
   .refine Br.aB (fun g3=>?_) (fun g3=>?_)<;>simp(disch:=omega)only[go_sem,g3]
    .rw[yes ⟨g1,g2,g3⟩]
     rfl
    .exact .of (by omega) rfl (no (fun hn=>g3 hn.2.2))
   .exact .of (by omega) rfl (no (fun hn=>g2 hn.2.1))
  .exact .of (by omega) rfl (no (fun hn=>g1 hn.1))
 .simp(disch:=omega)only[go_sem]
  rw[hi,jn h]
  rfl
@[go_sem] theorem r39 (t:Nat) (a:aO) (s:Int) (d:Bool) (x:Int) (hl:a.aa.length<=2^63 - 1):
  res A ay 39 [.agg [.int .i64 a.af,.int .i64 a.start,.ai t (a.aa.map Edge.c)],.int .i64 s,.bool d,.int .i64 x]=some [.int .i64 ((aU s d x a.aa).getD 0),.bool (aU s d x a.aa).isSome]:=by
 refine aq a39 rfl rfl ?_
 simp only[F39,RC]
 simp(disch:=omega)only[go_sem]
 refine W.du a.aa.length (fun k=>⟨[(1,.pv (.int .i64 s)),(2,.pv (.bool d)),(3,.pv (.int .i64 x)),(4,.ptr 4 0),(10,.pv (.int .i64 k))],⟨[(4,[.pv (.int .i64 a.af),.pv (.int .i64 a.start),.pv (.ai t (a.aa.map Edge.c))])],[],[]⟩⟩) (fun k=>aU s d x a.aa=aU s d x (a.aa.drop k)) rfl rfl fun k hk hi=>?_
 simp(disch:=omega)only[go_sem]
 refine Br.aB (fun h=>?_) (fun h=>?_)
 .obtain⟨e,he⟩:=get_at (l:=a.aa) (k:=k) (by omega)
  rw[fm he]at hi
  have no:¬(e.fr=s/\e.send=d/\e.label=x)->aU s d x a.aa=aU s d x (a.aa.drop (k+1)):=fun hn=>hi.trans (by simp only[aU,if_neg hn])
  have yes:(e.fr=s/\e.send=d/\e.label=x)->aU s d x a.aa=some e.to:=fun hn=>hi.trans (by simp only[aU,if_pos hn])
  simp(disch:=omega)only[go_sem,he]
  refine Br.aB (fun g1=>?_) (fun g1=>?_)<;>simp(disch:=omega)only[go_sem,g1]
  .refine Br.aB (fun g2=>?_) (fun g2=>?_)<;>simp(disch:=omega)only[go_sem,g2]
   .refine Br.aB (fun g3=>?_) (fun g3=>?_)<;>simp(disch:=omega)only[go_sem,g3]
    .rw[yes ⟨g1,g2,g3⟩]
     rfl
    .exact .of (by omega) rfl (no (fun hn=>g3 hn.2.2))
   .exact .of (by omega) rfl (no (fun hn=>g2 hn.2.1))
  .exact .of (by omega) rfl (no (fun hn=>g1 hn.1))
 .simp(disch:=omega)only[go_sem]
  rw[hi,jn h]
  rfl
def CM (s:Int):List Edge->Bool
 |[]=>true
 |e::r=>if e.fr=s then false else CM s r
def yx (es:List Edge):Nat->List Int
 |0=>[]
 |k+1=>if CM k es then yx es k++[(k:Int)] else yx es k
def aO.ends (a:aO):List Int:=if a.af<=12 then yx a.aa a.af.toNat else []
def er (x:Int):Nat->List Int->Int
 |_,[]=> -1
 |k,y::r=>if y=x then k else er x (k+1) r
def rK (x:Int) (l:List Int):Int:=er x 0 l
@[go_sem] theorem r53 (t:Nat) (l:List Int) (x:Int) (hl:l.length<=2^63 - 1):res A ay 53 [.ai t (ints l),.int .i64 x]=some [.int .i64 (rK x l)]:=by
 refine aq a53 rfl rfl ?_
 simp only[F53,RL]
 simp(disch:=omega)only[go_sem]
 refine W.du l.length (fun k=>⟨[(0,.pv (.ai t (ints l))),(1,.pv (.int .i64 x)),(5,.pv (.int .i64 k))],⟨[],[],[]⟩⟩) (fun k=>rK x l=er x k (l.drop k)) rfl rfl fun k hk hi=>?_
 simp(disch:=omega)only[go_sem]
 refine Br.aB (fun h=>?_) (fun h=>?_)
 .obtain⟨y,hy⟩:=get_at (l:=l) (k:=k) (by omega)
  rw[fm hy]at hi
  simp(disch:=omega)only[go_sem,hy]
  refine Br.aB (fun g1=>?_) (fun g1=>?_)<;>simp(disch:=omega)only[go_sem,g1]
  .rw[hi]
   simp only[er,if_pos g1]
  .exact .of (by omega) rfl (hi.trans (by simp only[er,if_neg g1]))
 .simp(disch:=omega)only[go_sem]
  rw[hi,jn h]
  rfl
@[go_sem] theorem Kc (a b c d:Nat):distinct (dM [.own a b c d])=true:=rfl
inductive yy where
 |e
 |a (x:Int) (l:List Int)
 |b (x:Int) (l:List Int)
 |ab (x:Int) (l:List Int) (y:Int) (r:List Int)
 |ba (x:Int) (l:List Int) (y:Int) (r:List Int)
def ow (i:Nat) (l:List Int):V:=.own i l.length 0 (l.length+1)
def ao (x:Int) (l:List Int):aR:=⟨l.length,1,.inl (ints (x::l))⟩
def yy.v0:yy->V
 |.e|.b _ _=>.tl []
 |.a _ l|.ab _ l _ _=>ow 0 l
 |.ba _ l _ _=>ow 1 l
def yy.v1:yy->V
 |.e|.a _ _=>.tl []
 |.b _ l|.ba _ _ _ l=>ow 0 l
 |.ab _ _ _ r=>ow 1 r
def yy.ar:yy->List aR
 |.e=>[]
 |.a x l|.b x l=>[ao x l]
 |.ab x l y r=>[ao x l,ao y r]
 |.ba x l y r=>[ao y r,ao x l]
def yy.l0:yy->List Int
 |.e|.b _ _=>[]
 |.a x l|.ab x l _ _|.ba x l _ _=>x::l
def yy.l1:yy->List Int
 |.e|.a _ _=>[]
 |.b x l|.ab _ _ x l|.ba _ _ x l=>x::l
def yy.put (s:Bool) (z:Int):yy->yy
 |.e=>if s then .b z [] else .a z []
 |.a x l=>if s then .ab x l z [] else .a x (l++[z])
 |.b x l=>if s then .b x (l++[z]) else .ba z [] x l
 |.ab x l y r=>if s then .ab x l y (r++[z]) else .ab x (l++[z]) y r
 |.ba x l y r=>if s then .ba x l y (r++[z]) else .ba x (l++[z]) y r
def yy.len (t:yy):Nat:=t.l0.length+t.l1.length
@[go_sem] theorem Mo (h:aw):gp [.tl []] h=some (.dp [],{}):=rfl
def zB (id aA len:Nat) (a:aR):Option (List PV×Option (Nat×aR)):=
 if a.size=len/\a.k≠0 then (match a.body with
   |.inl rows=>some ([.fr a.k rows],some (id,⟨aA+1,0,.inl []⟩))
   |.inr _=>none) else none
theorem rL {x:Int}:∀{l:List Int} {k:Nat},er x k l<0↔x∉l
 |[],k=>by simp[er]
 |y::r,k=>by
  unfold er
  split
  .rename_i h
   subst h
   simp
  .rename_i h
   rw[rL]
   simp only[List.mem_cons,not_or]
   exact⟨fun h2=>⟨fun e=>h e.symm,h2⟩,fun h2=>h2.2⟩
theorem ny {x:Int} {l:List Int}:rK x l<0↔x∉l:=rL
theorem qk {x:Int} {l:List Int}:0<=rK x l↔x∈l:=by
 rw[<- Int.not_lt,ny]
 simp
@[go_sem] theorem Mp (g:bJ->V) (h:aw) (k t:Nat) (rows:List (List PV)) (hi:bJ):
  da g h k (.pv (.ai t rows)) none (some hi) none=if aW k (.inl rows)=true then (intOf (g hi)).bind fun i=>ym i rows.length (.pv (.ai t (rows.take i.toNat)),{}) else none:=by
 cases hf:aW k (.inl rows)with
 |false=>simp[da,hf]
 |true=>
  cases hj:intOf (g hi)with
  |none=>simp[da,hf,bounds,bound,hj]
  |some i=>by_cases h0:0<=i/\i<=rows.length<;>simp[da,hf,bounds,bound,hj,h0,ym]
def dc (t u x y:Nat) (v:iN):List PV:=[.str v.name,.ai t (v.types.map aD.c),.ai u (cQ v.calls),.ai x (aF v.aF),.ai y (cM v.aL)]
theorem r447 (t:Nat) (w:mj) (nm:ByteArray):res A ay 447 [.agg w.c,.ro t [.str nm]]=some [.bool (decide (w.name=nm))]:=by
 refine aq a447 rfl rfl ?_
 simp only[F447,IT]
 simp(disch:=omega)only[go_sem]
theorem r446 (t u:Nat) (l:List mj) (nm:ByteArray) (hl:l.length<=2^63 - 1):res A ay 446 [.ai t (cQ l),.func 447 [.ro u [.str nm]]]=some [.int .i64 (pU (fun w=>decide (w.name=nm)) l)]:=by
 refine aq a446 rfl rfl ?_
 simp only[F446,IS]
 simp(disch:=omega)only[go_sem]
 refine W.du l.length (fun k=>⟨[(0,.pv (.ai t (cQ l))),(1,.pv (.func 447 [.ro u [.str nm]])),(7,.pv (.int .i64 l.length)),(8,.pv (.int .i64 k))],⟨[],[],[]⟩⟩) (fun k=>∀(i:Nat) (w:mj),i<k->l[i]?=some w->decide (w.name=nm)=false) rfl (fun i w hi=>absurd hi (by omega)) fun k hk hi=>?_
 simp(disch:=omega)only[go_sem]
 refine Br.aB (fun c1=>?_) (fun c1=>?_)
 .obtain⟨w,hw⟩:=get_some (l:=l) (k:=k) (by omega)
  have h447:=fun t=>r447 t w nm
  simp only[mj.c]at h447
  cases hd:decide (w.name=nm)with
  |true=>
   rw[hd]at h447
   simp(disch:=omega)only[go_sem,hw,Option.map_some,h447]
   unfold pU
   rw[lj hw hd hi]
  |false=>
   rw[hd]at h447
   simp(disch:=omega)only[go_sem,hw,Option.map_some,h447]
   exact .of (by omega) rfl (im hw hi hd)
 .simp(disch:=omega)only[go_sem]
  unfold pU
  rw[lk (fK (k:=k) (by omega) hi)]
def AU (o:Option mj):List PV:=match o with
 |some w=>[.agg w.c,.bool true]
 |none=>[.agg [.str ⟨#[]⟩,.int .i64 0,.int .i64 0],.bool false]
theorem r410 (t u x y:Nat) (v:iN) (nm:ByteArray) (hl:v.calls.length<=2^63 - 1):res A ay 410 [.agg (dc t u x y v),.str nm]=some (AU (dA (fun w=>decide (w.name=nm)) v.calls)):=by
 refine aq a410 rfl rfl ?_
 simp only[F410,Ix,dc]
 have h446:=fun t u=>r446 t u v.calls nm hl
 unfold pU at h446
 unfold dA
 cases hj:v.calls.findIdx? fun w=>decide (w.name=nm)with
 |none=>
  rw[hj]at h446
  have e0:decide ((0:Int)<= -1)=false:=rfl
  simp(disch:=omega)only[go_sem,h446]
  rfl
 |some j=>
  rw[hj]at h446
  have hjl:=(TG.1 hj).1
  obtain⟨w,hw⟩:=get_some hjl
  have e0:decide ((0:Int)<=(j:Int))=true:=decide_eq_true (by omega)
  simp(disch:=omega)only[go_sem,h446,e0,hw,Option.map_some,Option.bind_some]
  rfl
theorem r411 (t u x y:Nat) (v:iN) (nm:ByteArray) (hl:v.calls.length<=2^63 - 1):res A ay 411 [.agg (dc t u x y v),.str nm]=some (AU (dA (fun w=>decide (w.name=nm)) v.calls)):=by
 refine aq a411 rfl rfl ?_
 simp only[F411,Iy,dc]
 simp(disch:=omega)only[go_sem]
 refine W.du v.calls.length (fun k=>⟨[(1,.pv (.str nm)),(2,.ptr 2 0),(4,.ptr 4 0),(6,.pv (.int .i64 k))],⟨[(2,[.pv (.str v.name),.pv (.ai t (v.types.map aD.c)),.pv (.ai u (cQ v.calls)),.pv (.ai x (aF v.aF)),.pv (.ai y (cM v.aL))]),(4,[.pv (.str ⟨#[]⟩),.pv (.int .i64 0),.pv (.int .i64 0)])],[],[]⟩⟩) (fun k=>∀(i:Nat) (w:mj),i<k->v.calls[i]?=some w->decide (w.name=nm)=false) rfl (fun i w hi=>absurd hi (by omega)) fun k hk hi=>?_
 simp(disch:=omega)only[go_sem]
 refine Br.aB (fun c1=>?_) (fun c1=>?_)
 .obtain⟨w,hw⟩:=get_some (l:=v.calls) (k:=k) (by omega)
  cases hd:decide (w.name=nm)with
  |true=>
   simp(disch:=omega)only[go_sem,hw,Option.map_some,hd]
   unfold dA
   rw[lj hw hd hi,UD,hw]
   rfl
  |false=>
   simp(disch:=omega)only[go_sem,hw,Option.map_some,hd]
   exact .of (by omega) rfl (im hw hi hd)
 .simp(disch:=omega)only[go_sem]
  unfold dA
  rw[lk (fK (k:=k) (by omega) hi)]
  rfl
theorem r449 (t:Nat) (w:dw) (nm:ByteArray):res A ay 449 [.agg w.c,.ro t [.str nm]]=some [.bool (decide (w.name=nm))]:=by
 refine aq a449 rfl rfl ?_
 simp only[F449,IU]
 simp(disch:=omega)only[go_sem]
theorem r448 (t u:Nat) (l:List dw) (nm:ByteArray) (hl:l.length<=2^63 - 1):res A ay 448 [.ai t (aF l),.func 449 [.ro u [.str nm]]]=some [.int .i64 (pU (fun w=>decide (w.name=nm)) l)]:=by
 refine aq a448 rfl rfl ?_
 simp only[F448,EN]
 simp(disch:=omega)only[go_sem]
 refine W.du l.length (fun k=>⟨[(0,.pv (.ai t (aF l))),(1,.pv (.func 449 [.ro u [.str nm]])),(7,.pv (.int .i64 l.length)),(8,.pv (.int .i64 k))],⟨[],[],[]⟩⟩) (fun k=>∀(i:Nat) (w:dw),i<k->l[i]?=some w->decide (w.name=nm)=false) rfl (fun i w hi=>absurd hi (by omega)) fun k hk hi=>?_
 simp(disch:=omega)only[go_sem]
 refine Br.aB (fun c1=>?_) (fun c1=>?_)
 .obtain⟨w,hw⟩:=get_some (l:=l) (k:=k) (by omega)
  have h449:=fun t=>r449 t w nm
  simp only[dw.c]at h449
  cases hd:decide (w.name=nm)with
  |true=>
   rw[hd]at h449
   simp(disch:=omega)only[go_sem,hw,Option.map_some,h449]
   unfold pU
   rw[lj hw hd hi]
  |false=>
   rw[hd]at h449
   simp(disch:=omega)only[go_sem,hw,Option.map_some,h449]
   exact .of (by omega) rfl (im hw hi hd)
 .simp(disch:=omega)only[go_sem]
  unfold pU
  rw[lk (fK (k:=k) (by omega) hi)]
def sJ (o:Option dw):List PV:=match o with
 |some w=>[.agg w.c,.bool true]
 |none=>[.agg [.str ⟨#[]⟩,.ai 0 [],.int .i64 0,.int .i64 0,.ai 0 []],.bool false]
def Kd (k:Nat) (rows:List (List PV)):PV:=if rows=[] then .ai 0 [] else .fr k rows
theorem CO {α:Type} {c:α->List PV} {k:Nat} (hc:∀x,(c x).length=k) (l:List α) (hm:l.length<=2147483648):(l=[]/\∀h,cd k [.pv (.ai 0 (l.map c))] h=some (.tl [],{}))\/(l≠[]/\∀h,cd k [.pv (.ai 0 (l.map c))] h=some (.own h.ar.length 0 0 l.length,{ push:=[⟨0,k,.inl (l.map c)⟩],base:=h.ar.length })):=by
 have hf:aW k (.inl (l.map c))=true:=by simp[aW,hc]
 cases l with
 |nil=>exact .inl ⟨rfl,fun h=>by simp[cd,bB,aW]⟩
 |cons x l=>
  refine .inr ⟨by simp,fun h=>?_⟩
  have hl:((x::l).map c).length=(x::l).length:=Tl _
  have h0:¬((x::l).map c).length=0:=by simp
  unfold cd
  simp only[bB]
  rw[if_pos (by omega:0<=1)]
  dsimp only
  rw[if_pos ⟨hf,by unfold aT; rw[hl]; omega⟩,if_neg h0,hl]
theorem r445 (x:dw) (h1:x.msgs.length<=2147483648) (h2:x.auto.aa.length<=2147483648):res A ay 445 [.agg x.c]=some [.agg [.str x.name,Kd 3 (msgs x.msgs),.int .i64 x.auto.af,.int .i64 x.auto.start,Kd 4 (x.auto.aa.map Edge.c)]]:=by
 refine aq a445 rfl rfl ?_
 simp only[F445,IQ,dw.c]
 have k1:(x.msgs.map eo.c).take x.msgs.length=x.msgs.map eo.c:=List.take_of_length_le (by simp)
 have k2:(x.auto.aa.map Edge.c).take x.auto.aa.length=x.auto.aa.map Edge.c:=List.take_of_length_le (by simp)
 rcases CO (c:=eo.c) (k:=3) (fun _=>rfl) x.msgs h1 with⟨h3,h4⟩|⟨h3,h4⟩<;>rcases CO (c:=Edge.c) (k:=4) (fun _=>rfl) x.auto.aa h2 with⟨h5,h6⟩|⟨h5,h6⟩
 .simp only[h3,h5,List.map_nil]at h4 h6 |-
  simp(disch:=omega)only[go_sem,h4,h6]
  refine Eq.trans (if_pos (by rfl)) ?_
  simp[cx,az,eC,bw,PV.perm,Kd,msgs,h3,h5]
 .simp only[h3,List.map_nil]at h4 |-
  simp(disch:=omega)only[go_sem,h4,h6]
  refine Eq.trans (if_pos (by rfl)) ?_
  simp[cx,az,eC,aE,bw,PV.perm,Kd,msgs,h3,h5,k2]
 .simp only[h5,List.map_nil]at h6 |-
  simp(disch:=omega)only[go_sem,h4,h6]
  refine Eq.trans (if_pos (by rfl)) ?_
  simp[cx,az,eC,aE,bw,PV.perm,Kd,msgs,h3,h5,k1]
 .simp(disch:=omega)only[go_sem,h4,h6]
  refine Eq.trans (if_pos (by rfl)) ?_
  simp[cx,az,eC,aE,bw,PV.perm,Kd,msgs,h3,h5,k1,k2]
theorem r412 (t u x y:Nat) (v:iN) (nm:ByteArray) (hl:v.aF.length<=2^63 - 1) (hs:∀w∈v.aF,w.msgs.length<=2147483648/\w.auto.aa.length<=2147483648):res A ay 412 [.agg (dc t u x y v),.str nm]=some (sJ (dA (fun w=>decide (w.name=nm)) v.aF)):=by
 refine aq a412 rfl rfl ?_
 simp only[F412,Iz,dc]
 have h448:=fun t u=>r448 t u v.aF nm hl
 unfold pU at h448
 unfold dA
 cases hj:v.aF.findIdx? fun w=>decide (w.name=nm)with
 |none=>
  rw[hj]at h448
  have e0:decide ((0:Int)<= -1)=false:=rfl
  simp(disch:=omega)only[go_sem,h448]
  rfl
 |some j=>
  rw[hj]at h448
  have hjl:=(TG.1 hj).1
  obtain⟨w,hw⟩:=get_some hjl
  have e0:decide ((0:Int)<=(j:Int))=true:=decide_eq_true (by omega)
  have hsw:=hs w (Tf hw)
  have h445:=r445 w hsw.1 hsw.2
  have k1:(w.msgs.map eo.c).take w.msgs.length=w.msgs.map eo.c:=List.take_of_length_le (by simp)
  have k2:(w.auto.aa.map Edge.c).take w.auto.aa.length=w.auto.aa.map Edge.c:=List.take_of_length_le (by simp)
  unfold Kd msgs dw.c at h445
  by_cases h3:w.msgs=[]<;>by_cases h5:w.auto.aa=[]
  .simp only[h3,h5,List.map_nil,if_true]at h445
   simp(disch:=omega)only[go_sem,h448,e0,hw,Option.map_some,Option.bind_some,h3,h5,List.map_nil,h445]
   simp[sJ,dw.c,h3,h5]
  .simp only[h3,h5,List.map_nil,if_true,List.map_eq_nil_iff,if_false]at h445
   simp(disch:=omega)only[go_sem,h448,e0,hw,Option.map_some,Option.bind_some,h3,List.map_nil,h445]
   simp[sJ,dw.c,k2,h3]
  .simp only[h3,h5,List.map_nil,if_true,List.map_eq_nil_iff,if_false]at h445
   simp(disch:=omega)only[go_sem,h448,e0,hw,Option.map_some,Option.bind_some,h5,List.map_nil,h445]
   simp[sJ,dw.c,k1,h5]
  .simp only[h3,h5,List.map_eq_nil_iff,if_false]at h445
   simp(disch:=omega)only[go_sem,h448,e0,hw,Option.map_some,Option.bind_some,h445]
   simp[sJ,dw.c,k1,k2]
theorem r413 (t u x y:Nat) (v:iN) (nm:ByteArray) (hl:v.aF.length<=2^63 - 1):res A ay 413 [.agg (dc t u x y v),.str nm]=some (sJ (dA (fun w=>decide (w.name=nm)) v.aF)):=by
 refine aq a413 rfl rfl ?_
 simp only[F413,IA,dc]
 simp(disch:=omega)only[go_sem]
 refine W.du v.aF.length (fun k=>⟨[(1,.pv (.str nm)),(2,.ptr 2 0),(4,.ptr 4 0),(6,.pv (.int .i64 k))],⟨[(2,[.pv (.str v.name),.pv (.ai t (v.types.map aD.c)),.pv (.ai u (cQ v.calls)),.pv (.ai x (aF v.aF)),.pv (.ai y (cM v.aL))]),(4,[.pv (.str ⟨#[]⟩),.tl [],.pv (.int .i64 0),.pv (.int .i64 0),.tl []])],[],[]⟩⟩) (fun k=>∀(i:Nat) (w:dw),i<k->v.aF[i]?=some w->decide (w.name=nm)=false) rfl (fun i w hi=>absurd hi (by omega)) fun k hk hi=>?_
 simp(disch:=omega)only[go_sem]
 refine Br.aB (fun c1=>?_) (fun c1=>?_)
 .obtain⟨w,hw⟩:=get_some (l:=v.aF) (k:=k) (by omega)
  cases hd:decide (w.name=nm)with
  |true=>
   simp(disch:=omega)only[go_sem,hw,Option.map_some,hd]
   unfold dA
   rw[lj hw hd hi,UD,hw]
   rfl
  |false=>
   simp(disch:=omega)only[go_sem,hw,Option.map_some,hd]
   exact .of (by omega) rfl (im hw hi hd)
 .simp(disch:=omega)only[go_sem]
  unfold dA
  rw[lk (fK (k:=k) (by omega) hi)]
  rfl
theorem r451 (t:Nat) (w:lP) (nm:ByteArray):res A ay 451 [.agg w.c,.ro t [.str nm]]=some [.bool (decide (w.name=nm))]:=by
 refine aq a451 rfl rfl ?_
 simp only[F451,IX]
 simp(disch:=omega)only[go_sem]
theorem r450 (t u:Nat) (l:List lP) (nm:ByteArray) (hl:l.length<=2^63 - 1):res A ay 450 [.ai t (cM l),.func 451 [.ro u [.str nm]]]=some [.int .i64 (pU (fun w=>decide (w.name=nm)) l)]:=by
 refine aq a450 rfl rfl ?_
 simp only[F450,IV]
 simp(disch:=omega)only[go_sem]
 refine W.du l.length (fun k=>⟨[(0,.pv (.ai t (cM l))),(1,.pv (.func 451 [.ro u [.str nm]])),(7,.pv (.int .i64 l.length)),(8,.pv (.int .i64 k))],⟨[],[],[]⟩⟩) (fun k=>∀(i:Nat) (w:lP),i<k->l[i]?=some w->decide (w.name=nm)=false) rfl (fun i w hi=>absurd hi (by omega)) fun k hk hi=>?_
 simp(disch:=omega)only[go_sem]
 refine Br.aB (fun c1=>?_) (fun c1=>?_)
 .obtain⟨w,hw⟩:=get_some (l:=l) (k:=k) (by omega)
  have h451:=fun t=>r451 t w nm
  simp only[lP.c]at h451
  cases hd:decide (w.name=nm)with
  |true=>
   rw[hd]at h451
   simp(disch:=omega)only[go_sem,hw,Option.map_some,h451]
   unfold pU
   rw[lj hw hd hi]
  |false=>
   rw[hd]at h451
   simp(disch:=omega)only[go_sem,hw,Option.map_some,h451]
   exact .of (by omega) rfl (im hw hi hd)
 .simp(disch:=omega)only[go_sem]
  unfold pU
  rw[lk (fK (k:=k) (by omega) hi)]
def AV (o:Option lP):List PV:=match o with
 |some w=>[.agg w.c,.bool true]
 |none=>[.agg [.str ⟨#[]⟩,.int .i64 0],.bool false]
theorem r414 (t u x y:Nat) (v:iN) (nm:ByteArray) (hl:v.aL.length<=2^63 - 1):res A ay 414 [.agg (dc t u x y v),.str nm]=some (AV (dA (fun w=>decide (w.name=nm)) v.aL)):=by
 refine aq a414 rfl rfl ?_
 simp only[F414,IB,dc]
 have h450:=fun t u=>r450 t u v.aL nm hl
 unfold pU at h450
 unfold dA
 cases hj:v.aL.findIdx? fun w=>decide (w.name=nm)with
 |none=>
  rw[hj]at h450
  have e0:decide ((0:Int)<= -1)=false:=rfl
  simp(disch:=omega)only[go_sem,h450]
  rfl
 |some j=>
  rw[hj]at h450
  have hjl:=(TG.1 hj).1
  obtain⟨w,hw⟩:=get_some hjl
  have e0:decide ((0:Int)<=(j:Int))=true:=decide_eq_true (by omega)
  simp(disch:=omega)only[go_sem,h450,e0,hw,Option.map_some,Option.bind_some]
  rfl
theorem r415 (t u x y:Nat) (v:iN) (nm:ByteArray) (hl:v.aL.length<=2^63 - 1):res A ay 415 [.agg (dc t u x y v),.str nm]=some (AV (dA (fun w=>decide (w.name=nm)) v.aL)):=by
 refine aq a415 rfl rfl ?_
 simp only[F415,IC,dc]
 simp(disch:=omega)only[go_sem]
 refine W.du v.aL.length (fun k=>⟨[(1,.pv (.str nm)),(2,.ptr 2 0),(4,.ptr 4 0),(6,.pv (.int .i64 k))],⟨[(2,[.pv (.str v.name),.pv (.ai t (v.types.map aD.c)),.pv (.ai u (cQ v.calls)),.pv (.ai x (aF v.aF)),.pv (.ai y (cM v.aL))]),(4,[.pv (.str ⟨#[]⟩),.pv (.int .i64 0)])],[],[]⟩⟩) (fun k=>∀(i:Nat) (w:lP),i<k->v.aL[i]?=some w->decide (w.name=nm)=false) rfl (fun i w hi=>absurd hi (by omega)) fun k hk hi=>?_
 simp(disch:=omega)only[go_sem]
 refine Br.aB (fun c1=>?_) (fun c1=>?_)
 .obtain⟨w,hw⟩:=get_some (l:=v.aL) (k:=k) (by omega)
  cases hd:decide (w.name=nm)with
  |true=>
   simp(disch:=omega)only[go_sem,hw,Option.map_some,hd]
   unfold dA
   rw[lj hw hd hi,UD,hw]
   rfl
  |false=>
   simp(disch:=omega)only[go_sem,hw,Option.map_some,hd]
   exact .of (by omega) rfl (im hw hi hd)
 .simp(disch:=omega)only[go_sem]
  unfold dA
  rw[lk (fK (k:=k) (by omega) hi)]
  rfl
theorem jo (x:Int):IntKind.wrap .u64 x=x%18446744073709551616:=by
 show (if (false&&decide (x%(2^64:Int)≥(2^63:Int)))=true then x%(2^64:Int) - (2^64:Int) else x%(2^64:Int))=_
 simp only[Bool.false_and,Bool.false_eq_true,if_false,Int.reducePow]
theorem gf {x:Int} (h1:0<=x) (h2:x<18446744073709551616):IntKind.wrap .u64 x=x:=by
 rw[jo]
 omega
def zz (n:Int):Int:=if 0<=n then 2*n else -2*n - 1
theorem Pc {a b:Int}:zz a=zz b↔a=b:=by
 unfold zz
 split<;>split<;>omega
theorem r515 (n:Int) (h:fT n):res A ay 515 [.int .i64 n]=some [.int .u64 (zz n)]:=by
 refine aq a515 rfl rfl ?_
 simp only[F515,JR]
 obtain⟨h1,h2⟩:=h
 unfold zz
 simp(disch:=omega)only[go_sem]
 refine Br.aB (fun c=>?_) (fun c=>?_)
 .have e1:=gf (x:=n) (by omega) (by omega)
  have e2:=gf (x:=2*n) (by omega) (by omega)
  simp(disch:=omega)only[go_sem,e1,e2]
  rw[if_pos c]
 .have e1:=gf (x:=0 - (n+1)) (by omega) (by omega)
  have e2:=gf (x:=2*(0 - (n+1))) (by omega) (by omega)
  have e3:=gf (x:=2*(0 - (n+1))+1) (by omega) (by omega)
  simp(disch:=omega)only[go_sem,e1,e2,e3]
  rw[if_neg c]
  congr 3
  omega
theorem EU (a b:Int):dV .xor (.pv (.int .u64 a)) (.pv (.int .u64 b))=some (.pv (.int .u64 (IntKind.wrap .u64 (BitVec.ofInt 64 a^^^BitVec.ofInt 64 b).toNat))):=rfl
theorem EV (a:Int):dV .shl (.pv (.int .u64 a)) (.pv (.int .u64 1))=some (.pv (.int .u64 (IntKind.wrap .u64 (a*2)))):=rfl
theorem EW (a:Int):dV .shr (.pv (.int .i64 a)) (.pv (.int .u64 63))=some (.pv (.int .i64 (a.fdiv 9223372036854775808))):=rfl
theorem r520 (n:Int) (h:fT n):res A ay 520 [.int .i64 n]=some [.int .u64 (zz n)]:=by
 refine aq a520 rfl rfl ?_
 simp only[F520,JW]
 obtain⟨h1,h2⟩:=h
 simp(disch:=omega)only[go_sem,EU,EV,EW]
 congr 3
 rw[jo,jo,jo,jo]
 unfold zz
 by_cases c:0<=n
 .have f1:n.fdiv 9223372036854775808=0:=by
   rw[Int.fdiv_eq_ediv_of_nonneg _ (by decide)]
   omega
  have f2:(n%18446744073709551616*2)%18446744073709551616=2*n:=by omega
  rw[if_pos c,f1,f2]
  have f3:BitVec.ofInt 64 (0%18446744073709551616)=0#64:=by decide
  rw[f3,BitVec.xor_zero]
  simp only[BitVec.toNat_ofInt]
  omega
 .have f1:n.fdiv 9223372036854775808= -1:=by
   rw[Int.fdiv_eq_ediv_of_nonneg _ (by decide)]
   omega
  have f2:(n%18446744073709551616*2)%18446744073709551616=2*n+18446744073709551616:=by omega
  rw[if_neg c,f1,f2]
  have f3:BitVec.ofInt 64 (-1%18446744073709551616)=BitVec.allOnes 64:=by decide
  rw[f3,BitVec.xor_allOnes,BitVec.toNat_not]
  simp only[BitVec.toNat_ofInt]
  omega
theorem r523 (n:Int):res A ay 523 [.int .u64 n]=some [.bool false]:=by
 refine aq a523 rfl rfl ?_
 simp only[F523,JZ]
 simp(disch:=omega)only[go_sem]
theorem r524 (s:ByteArray):res A ay 524 [.str s]=some [.bool false]:=by
 refine aq a524 rfl rfl ?_
 simp only[F524,J0]
 simp(disch:=omega)only[go_sem]
def strLt (a b:ByteArray):Bool:=Go.Op.bytesLess a.toList b.toList
@[go_sem] theorem Mq (a b:ByteArray):dV .lss (.pv (.str a)) (.pv (.str b))=some (.pv (.bool (strLt a b))):=rfl
@[go_sem] theorem Mr (a b:ByteArray):dV .gtr (.pv (.str a)) (.pv (.str b))=some (.pv (.bool (!(strLt a b||decide (a=b))))):=by simp only[dV,qq,Option.map_some,ng]; rfl
theorem wP:∀l:List UInt8,Go.Op.bytesLess l l=false
 |[]=>rfl
 |a::l=>by simp[Go.Op.bytesLess,wP l]
theorem AW (a:ByteArray):strLt a a=false:=wP _
def wQ (a b:ByteArray):Int:=if strLt a b=true then -1 else if a=b then 0 else 1
theorem r519 (a b:Int):res A ay 519 [.int .u64 a,.int .u64 b]=some [.int .i64 (gI a b)]:=by
 refine aq a519 rfl rfl ?_
 simp only[F519,JV]
 have h1:=r523 a
 have h2:=r523 b
 unfold gI
 simp(disch:=omega)only[go_sem,h1,h2]
 refine Br.aB (fun c=>?_) (fun c=>?_)
 .simp(disch:=omega)only[go_sem]
  rw[if_pos c]
 .simp(disch:=omega)only[go_sem]
  refine Br.aB (fun d=>?_) (fun d=>?_)
  .simp(disch:=omega)only[go_sem]
   rw[if_neg c,if_pos d]
  .simp(disch:=omega)only[go_sem]
   rw[if_neg c,if_neg d]
theorem r521 (a b:ByteArray):res A ay 521 [.str a,.str b]=some [.int .i64 (wQ a b)]:=by
 refine aq a521 rfl rfl ?_
 simp only[F521,JX]
 have h1:=r524 a
 have h2:=r524 b
 unfold wQ
 cases hs:strLt a b with
 |true=>simp(disch:=omega)only[go_sem,h1,h2,hs,if_true]
 |false=>
  by_cases he:a=b
  .have e:decide (a=b)=true:=decide_eq_true he
   simp(disch:=omega)only[go_sem,h1,h2,hs,e,Bool.or_true,Bool.not_true]
   rw[if_pos he]
  .have e:decide (a=b)=false:=decide_eq_false he
   simp(disch:=omega)only[go_sem,h1,h2,hs,e,Bool.or_false,Bool.not_false]
   rw[if_neg he]
def yz (l e:Bool):Int:=if e=true then 0 else if l=true then -1 else 1
theorem r514 (l e:Bool):res A ay 514 [.bool l,.bool e]=some [.int .i64 (yz l e)]:=by
 refine aq a514 rfl rfl ?_
 simp only[F514,JQ]
 cases e<;>cases l<;>simp(disch:=omega)only[go_sem]<;>rfl
def kM (a b:cU):Int:=if a.kind≠b.kind then 0 else
 if a.kind=1 then (if a.bool=b.bool then 0 else if b.bool=true then -1 else 1)
 else if a.kind=2 then gI (zz a.int) (zz b.int)
 else if a.kind=3 then CJ [gI a.str.size b.str.size,wQ a.str b.str]
 else if a.kind=4 then gI a.id b.id else 0
set_option maxHeartbeats 2000000 in
theorem r513 (a b:cU) (ha:fT a.int) (hb:fT b.int) (has:bh a.str) (hbs:bh b.str):res A ay 513 [.agg a.c,.agg b.c]=some [.int .i64 (kM a b)]:=by
 refine aq a513 rfl rfl ?_
 simp only[F513,JP,cU.c]
 unfold bh at has hbs
 have h1:=r520 a.int ha
 have h2:=r520 b.int hb
 have h3:=r519 (zz a.int) (zz b.int)
 have h4:=r60 (Pr:=ay) (by kernel_rfl) (a.str.size:Int) (b.str.size:Int)
 have h5:=r521 a.str b.str
 have h6:=fun t=>r59 (Pr:=ay) t [gI a.str.size b.str.size,wQ a.str b.str] (by simp)
 have h7:=r60 (Pr:=ay) (by kernel_rfl) a.id b.id
 unfold kM
 by_cases c0:a.kind=b.kind
 .have e0:decide (a.kind=b.kind)=true:=decide_eq_true c0
  rw[if_neg (by simpa using c0)]
  by_cases c1:a.kind=1
  .have e1:decide (a.kind=1)=true:=decide_eq_true c1
   rw[if_pos c1]
   have b1:decide (true=false)=false:=rfl
   have b2:decide (false=true)=false:=rfl
   cases hab:a.bool<;>cases hbb:b.bool<;>simp(disch:=omega)only[go_sem,e0,e1,hab,hbb,b1,b2]<;>rfl
  .have e1:decide (a.kind=1)=false:=decide_eq_false c1
   rw[if_neg c1]
   by_cases c2:a.kind=2
   .have e2:decide (a.kind=2)=true:=decide_eq_true c2
    rw[if_pos c2]
    simp(disch:=omega)only[go_sem,e0,e1,e2,h1,h2,h3]
   .have e2:decide (a.kind=2)=false:=decide_eq_false c2
    rw[if_neg c2]
    by_cases c3:a.kind=3
    .have e3:decide (a.kind=3)=true:=decide_eq_true c3
     rw[if_pos c3]
     have hi:ints [gI a.str.size b.str.size,wQ a.str b.str]=[[.int .i64 (gI a.str.size b.str.size)],[.int .i64 (wQ a.str b.str)]]:=rfl
     rw[hi]at h6
     simp(disch:=omega)only[go_sem,e0,e1,e2,e3,h4,h5,h6]
    .have e3:decide (a.kind=3)=false:=decide_eq_false c3
     rw[if_neg c3]
     by_cases c4:a.kind=4
     .have e4:decide (a.kind=4)=true:=decide_eq_true c4
      rw[if_pos c4]
      simp(disch:=omega)only[go_sem,e0,e1,e2,e3,e4,h7]
     .have e4:decide (a.kind=4)=false:=decide_eq_false c4
      rw[if_neg c4]
      simp(disch:=omega)only[go_sem,e0,e1,e2,e3,e4]
 .have e0:decide (a.kind=b.kind)=false:=decide_eq_false c0
  rw[if_pos c0]
  simp(disch:=omega)only[go_sem,e0]
theorem zC (x y:Int):CJ [x,y]=if x=0 then y else x:=by
 by_cases h:x=0
 .rw[if_pos h]
  subst h
  by_cases g:y=0
  .subst g
   rfl
  .simp[CJ,g]
 .rw[if_neg h]
  simp[CJ,h]
theorem R5 (a b:ByteArray):yz (strLt a b) (decide (a=b))=wQ a b:=by
 unfold yz wQ
 by_cases h:a=b
 .subst h
  rw[AW]
  simp
 .simp[h]
theorem Pd (a b:Int):yz (decide (a<b)) (decide (a=b))=gI a b:=by
 unfold yz gI
 simp only[decide_eq_true_eq]
 by_cases h:a=b
 .rw[if_pos h,if_neg (by omega),if_neg (by omega)]
 .rw[if_neg h]
  by_cases g:a<b
  .rw[if_pos g,if_pos g]
  .rw[if_neg g,if_neg g,if_pos (by omega)]
set_option maxHeartbeats 2000000 in
theorem r509 (a b:cU) (ha:fT a.int) (hb:fT b.int) (has:bh a.str) (hbs:bh b.str):res A ay 509 [.agg a.c,.agg b.c]=some [.int .i64 (kM a b)]:=by
 refine aq a509 rfl rfl ?_
 simp only[F509,JM,cU.c]
 unfold bh at has hbs
 have h1:=r515 a.int ha
 have h2:=r515 b.int hb
 unfold kM
 by_cases c0:a.kind=b.kind
 .have e0:decide (a.kind=b.kind)=true:=decide_eq_true c0
  rw[if_neg (by simpa using c0)]
  by_cases c1:a.kind=1
  .have e1:decide (a.kind=1)=true:=decide_eq_true c1
   rw[if_pos c1]
   have h3:=r514 b.bool (decide (a.bool=b.bool))
   simp(disch:=omega)only[go_sem,e0,e1,h3]
   unfold yz
   cases a.bool<;>cases b.bool<;>rfl
  .have e1:decide (a.kind=1)=false:=decide_eq_false c1
   rw[if_neg c1]
   by_cases c2:a.kind=2
   .have e2:decide (a.kind=2)=true:=decide_eq_true c2
    rw[if_pos c2]
    have h3:=r514 (decide (zz a.int<zz b.int)) (decide (a.int=b.int))
    simp(disch:=omega)only[go_sem,e0,e1,e2,h1,h2,h3]
    unfold yz gI
    simp only[decide_eq_true_eq]
    have:=Pc (a:=a.int) (b:=b.int)
    congr 3
    by_cases d:a.int=b.int
    .rw[if_pos d,d,if_neg (by omega),if_neg (by omega)]
    .rw[if_neg d]
     have d2:zz a.int≠zz b.int:=fun e=>d (this.1 e)
     split
     .rfl
     .rw[if_pos (by omega)]
   .have e2:decide (a.kind=2)=false:=decide_eq_false c2
    rw[if_neg c2]
    by_cases c3:a.kind=3
    .have e3:decide (a.kind=3)=true:=decide_eq_true c3
     rw[if_pos c3]
     by_cases d:(a.str.size:Int)=(b.str.size:Int)
     .have d1:decide ((a.str.size:Int)=(b.str.size:Int))=true:=decide_eq_true d
      have h3:=r514 (strLt a.str b.str) (decide (a.str=b.str))
      simp(disch:=omega)only[go_sem,e0,e1,e2,e3,d1,h3]
      have d2:gI a.str.size b.str.size=0:=by
       unfold gI
       rw[if_neg (by omega),if_neg (by omega)]
      rw[zC,if_pos d2,R5]
     .have d1:decide ((a.str.size:Int)=(b.str.size:Int))=false:=decide_eq_false d
      have h3:=r514 (decide ((a.str.size:Int)<(b.str.size:Int))) false
      simp(disch:=omega)only[go_sem,e0,e1,e2,e3,d1,h3]
      have d2:gI a.str.size b.str.size≠0:=by
       unfold gI
       split
       .decide
       .rw[if_pos (by omega)]
        decide
      rw[zC,if_neg d2,<- Pd,d1]
    .have e3:decide (a.kind=3)=false:=decide_eq_false c3
     rw[if_neg c3]
     by_cases c4:a.kind=4
     .have e4:decide (a.kind=4)=true:=decide_eq_true c4
      rw[if_pos c4]
      have h3:=r514 (decide (a.id<b.id)) (decide (a.id=b.id))
      simp(disch:=omega)only[go_sem,e0,e1,e2,e3,e4,h3]
      rw[Pd]
     .have e4:decide (a.kind=4)=false:=decide_eq_false c4
      rw[if_neg c4]
      simp(disch:=omega)only[go_sem,e0,e1,e2,e3,e4]
 .have e0:decide (a.kind=b.kind)=false:=decide_eq_false c0
  rw[if_pos c0]
  simp(disch:=omega)only[go_sem,e0]
def CP (v:cU):cU:=⟨v.kind,if v.kind=1 then v.bool else false,if v.kind=2 then v.int else 0,if v.kind=3 then v.str else ⟨#[]⟩,if v.kind=4\/v.kind=6 then v.id else 0,if v.kind=8 then v.keys else [],if 5<=v.kind then v.items else [],if v.kind=5\/v.kind=6 then v.rest else []⟩
theorem nine {k:Int} (h:1<=k/\k<=9):k=1\/k=2\/k=3\/k=4\/k=5\/k=6\/k=7\/k=8\/k=9:=by omega
theorem r516 (v:cU) (hk:1<=v.kind/\v.kind<=9):res A ay 516 [.agg v.c]=some [.agg (CP v).c]:=by
 refine aq a516 rfl rfl ?_
 simp only[F516,JS]
 obtain⟨kind,bool,int,str,id,keys,items,rest⟩:=v
 unfold cU.c CP
 dsimp only at *
 rcases nine hk with rfl|rfl|rfl|rfl|rfl|rfl|rfl|rfl|rfl<;>
 .simp(disch:=omega)only[go_sem,decide_true,decide_false,Int.reduceEq,Int.reduceLE,if_true,if_false,or_true,true_or,or_false,false_or]
  try rfl
noncomputable def nz (v:cU):Bool:=by
 classical exact decide ((v.kind=1\/v.bool=false)/\(v.kind=2\/v.int=0)/\(v.kind=3\/v.str=⟨#[]⟩)/\(v.kind=4\/v.kind=6\/v.id=0)/\(v.kind=8\/v.keys=[])/\(5<=v.kind\/v.items=[])/\(v.kind=5\/v.kind=6\/v.rest=[]))
set_option maxHeartbeats 4000000 in
theorem r510 (v:cU) (hk:1<=v.kind/\v.kind<=9) (hv:bT v.keys/\bT v.items/\bT v.rest):res A ay 510 [.agg v.c]=some [.bool (nz v)]:=by
 refine aq a510 rfl rfl ?_
 simp only[F510,JN]
 have h1:=r516 v hk
 obtain⟨kind,bool,int,str,id,keys,items,rest⟩:=v
 unfold cU.c CP at h1
 unfold cU.c
 dsimp only at *
 unfold nz
 have l1:((keys.length:Int)=0)=(keys=[]):=by simp
 have l2:((items.length:Int)=0)=(items=[]):=by simp
 have l3:((rest.length:Int)=0)=(rest=[]):=by simp
 rcases nine hk with rfl|rfl|rfl|rfl|rfl|rfl|rfl|rfl|rfl<;>cases bool<;>
 .simp(disch:=omega)only[go_sem,decide_true,decide_false,Int.reduceEq,Int.reduceLE,if_true,if_false,or_true,true_or,or_false,false_or]at h1
  simp(disch:=omega)only[go_sem,h1,l1,l2,l3,List.length_nil,Int.reduceEq,Int.reduceLE,List.map_nil,reduceCtorEq,decide_false]
  clear h1 hk hv
  repeat' (refine Br.aB (fun c=>?_) (fun c=>?_)<;>simp(disch:=omega)only[go_sem,c,decide_true,decide_false,reduceCtorEq])
  all_goals first|rfl|(simp; done)|(simp_all; done)
set_option maxHeartbeats 4000000 in
theorem r505 (v:cU) (hk:1<=v.kind/\v.kind<=9) (hv:bT v.keys/\bT v.items/\bT v.rest):res A ay 505 [.agg v.c]=some [.bool (nz v)]:=by
 refine aq a505 rfl rfl ?_
 simp only[F505,JJ]
 obtain⟨kind,bool,int,str,id,keys,items,rest⟩:=v
 unfold cU.c nz
 dsimp only at *
 obtain⟨g1,g2,g3⟩:=hv
 unfold bT at g1 g2 g3
 rcases nine hk with rfl|rfl|rfl|rfl|rfl|rfl|rfl|rfl|rfl<;>cases bool<;>
 .simp(disch:=omega)only[go_sem,List.length_nil,Int.reduceEq,Int.reduceLE,List.map_nil,List.length_map,reduceCtorEq,decide_false,decide_true]
  clear hk
  repeat' (refine Br.aB (fun c=>?_) (fun c=>?_)<;>simp(disch:=omega)only[go_sem,c,decide_true,decide_false,reduceCtorEq])
  all_goals first|rfl|(simp; done)|(simp_all; done)
theorem ja {α:Type} (l:List α) (f:α->Bool):l.all (fun y=>!!f y)=l.all f:=by simp
theorem r508 (u v:Nat) (T:List (List PV)) (t:Int) (l:List (List PV)) (f:List PV->Bool) (hl:l.length<=2^63 - 1) (hv:∀r∈l,∃w:cU,r=w.c) (h:∀r∈l,res A ay 502 [.agg [.ai u T],.int .i64 t,.agg r,.bool true]=some [.bool (f r)]):res A ay 508 [.agg [.ai u T],.int .i64 t,.ai v l,.bool true]=some [.bool (l.all f)]:=by
 refine aq a508 rfl rfl ?_
 simp only[F508,JL]
 simp(disch:=omega)only[go_sem]
 refine W.find l (fun r=>!f r) (fun k=>⟨[(1,.pv (.int .i64 t)),(2,.pv (.ai v l)),(3,.pv (.bool true)),(4,.ptr 4 0),(9,.pv (.int .i64 k))],⟨[(4,[.pv (.ai u T)])],[],[]⟩⟩) rfl (fun k x hx hk hfd=>?_) (fun hn=>?_)
 .obtain⟨w,rfl⟩:=hv x (Tf hx)
  have hc:=h w.c (Tf hx)
  have hfd:=fun g=>(hfd g).all
  rw[ja]at hfd
  generalize f w.c=e at hc hfd |-
  unfold cU.c at hc hx
  simp(disch:=omega)only[go_sem]
  refine Br.aB (fun c=>?_) (fun c=>(c (by omega)).elim)
  simp(disch:=omega)only[go_sem,hx,hc]
  refine Br.of (fun g=>?_) (fun g=>?_)<;>simp(disch:=omega)only[go_sem]
  .exact aN.of (by rw[g]; rfl) rfl
  .rw[hfd (by rw[g]; rfl)]
 .have hn:=hn.all
  rw[ja]at hn
  simp(disch:=omega)only[go_sem]
  rw[hn]
theorem r518 (u a b c:Nat) (T:List (List PV)) (t:Int) (w:cU) (e:Bool) (h:res A ay 503 [.agg [.ai u T],.int .i64 t,.agg w.c,.bool true]=some [.bool e]):res A ay 518 [.agg w.c,.ro a [.ai u T],.ro b [.int .i64 t],.ro c [.bool true]]=some [.bool (!e)]:=by
 refine aq a518 rfl rfl ?_
 simp only[F518,JU]
 unfold cU.c at h |-
 simp(disch:=omega)only[go_sem,h]
theorem r522 (u v a b c:Nat) (T:List (List PV)) (t:Int) (l:List (List PV)) (f:List PV->Bool) (hl:l.length<=2^63 - 1) (hv:∀r∈l,∃w:cU,r=w.c) (h:∀r∈l,res A ay 503 [.agg [.ai u T],.int .i64 t,.agg r,.bool true]=some [.bool (f r)]):res A ay 522 [.ai v l,.func 518 [.ro a [.ai u T],.ro b [.int .i64 t],.ro c [.bool true]]]=some [.int .i64 (bl (fun r=>!f r) l)]:=by
 refine aq a522 rfl rfl ?_
 simp only[F522,JY]
 simp(disch:=omega)only[go_sem]
 refine W.find l (fun r=>!f r) (fun k=>⟨[(0,.pv (.ai v l)),(1,.pv (.func 518 [.ro a [.ai u T],.ro b [.int .i64 t],.ro c [.bool true]])),(7,.pv (.int .i64 l.length)),(8,.pv (.int .i64 k))],⟨[],[],[]⟩⟩) rfl (fun k x hx hk hfd=>?_) (fun hn=>?_)
 .obtain⟨w,rfl⟩:=hv x (Tf hx)
  have hc:=r518 u a b c T t w _ (h w.c (Tf hx))
  have hfd:=fun g=>(hfd g).bl
  generalize f w.c=e at hc hfd |-
  unfold cU.c at hc hx
  simp(disch:=omega)only[go_sem]
  refine Br.aB (fun c=>?_) (fun c=>(c (by omega)).elim)
  simp(disch:=omega)only[go_sem,hx,hc]
  refine Br.of (fun g=>?_) (fun g=>?_)<;>simp(disch:=omega)only[go_sem]
  .exact aN.of (by rw[g]; rfl) rfl
  .rw[hfd (by rw[g]; rfl)]
 .simp(disch:=omega)only[go_sem]
  rw[hn.bl]
theorem yA {α:Type} (f:α->Bool) (l:List α):decide (0<=bl (fun r=>!f r) l)=!l.all f:=by
 unfold bl
 cases h:l.findIdx? (fun r=>!f r)with
 |none=>
  have:=Up.1 h
  have h2:l.all f=true:=List.all_eq_true.2 fun x hx=>by simpa using this x hx
  simp[h2]
 |some k=>
  obtain⟨hk,h2,_⟩:=TG.1 h
  have h3:l.all f=false:=List.all_eq_false.2 ⟨_,List.getElem_mem hk,by simpa using h2⟩
  rw[h3]
  simp
theorem r512 (u v:Nat) (T:List (List PV)) (t:Int) (l:List (List PV)) (f:List PV->Bool) (hl:l.length<=2^63 - 1) (hv:∀r∈l,∃w:cU,r=w.c) (h:∀r∈l,res A ay 503 [.agg [.ai u T],.int .i64 t,.agg r,.bool true]=some [.bool (f r)]):res A ay 512 [.agg [.ai u T],.int .i64 t,.ai v l,.bool true]=some [.bool (l.all f)]:=by
 refine aq a512 rfl rfl ?_
 simp only[F512,JO]
 have h517:∀a b c,res A ay 517 [.ai v l,.func 518 [.ro a [.ai u T],.ro b [.int .i64 t],.ro c [.bool true]]]=some [.bool (!l.all f)]:=by
  intro a b c
  refine aq a517 rfl rfl ?_
  simp only[F517,JT]
  have h522:=r522 u v a b c T t l f hl hv h
  simp(disch:=omega)only[go_sem,h522,yA]
 simp(disch:=omega)only[go_sem,h517,Bool.not_not]
def EX:List PV->List PV->Int
 |[.int _ k,.bool b,.int _ i,.str s,.int _ id,.ai _ ks,.ai _ is,_],[.int _ k',.bool b',.int _ i',.str s',.int _ id',.ai _ ks',.ai _ is',_]=>kM ⟨k,b,i,s,id,ks,is,[]⟩ ⟨k',b',i',s',id',ks',is',[]⟩
 |_,_=>0
theorem nA (a b:cU):EX a.c b.c=kM a b:=rfl
def CQ (l:List (List PV)):Bool:=(l.zip l.tail).all fun q=>decide (EX q.1 q.2<0)
def jU (rec:Int->List PV->Bool) (x:aD) (v:cU):Bool:=
 if x.kind=1 then true
 else if x.kind=2 then decide (x.low<=v.int)&&decide (v.int<=x.high)
 else if x.kind=3 then decide ((v.str.size:Int)<=x.max)
 else if x.kind=4 then decide (0<=bl (sI v.id) x.syms)
 else if x.kind=5 then decide (v.items.length=x.aS.length)&&(x.aS.zip v.items).all fun q=>rec q.1.type q.2
 else if x.kind=6 then (match x.aS.find? (pW v.id),v.items with
  |some m,[r]=>rec m.type r
  |_,_=>false)
 else if x.kind=7 then decide ((v.items.length:Int)<=x.max)&&v.items.all (rec x.elem)
 else if x.kind=8 then decide ((v.keys.length:Int)<=x.max)&&(decide (v.items.length=v.keys.length)&&(v.keys.all (rec x.key)&&(v.items.all (rec x.elem)&&CQ v.keys)))
 else decide ((v.items.length:Int)<=1)&&v.items.all (rec x.elem)
noncomputable def eX (T:List aD):Nat->Int->List PV->Bool
 |0,_,_=>false
 |n+1,t,cs=>match cs with
  |[.int _ k,.bool b,.int _ i,.str s,.int _ id,.ai _ ks,.ai _ is,.ai _ rest]=>
   (match (if t<0 then none else T[t.toNat]?)with
   |none=>false
   |some x=>decide (k=x.kind)&&(nz ⟨k,b,i,s,id,ks,is,[]⟩&&(rest.isEmpty&&jU (eX T n) x ⟨k,b,i,s,id,ks,is,[]⟩)))
  |_=>false
theorem wR (T : List aD) (n : Nat) (t : Int) (v : cU) : eX T (n + 1) t v.c = (match (if t < 0 then none else T[t.toNat]?) with
   | none => false
   | some x => decide (v.kind = x.kind) && (nz { v with rest := [] } && (v.rest.isEmpty && jU (eX T n) x { v with rest := [] }))) := by
 unfold cU.c
 simp only [eX,List.isEmpty_map]
def Ms (T:List aD):Prop:=T.length<=2147483648/\(∀x∈T,x.ok)/\∀x∈T,1<=x.kind/\x.kind<=9
theorem nB {α β:Type} {l:List α} {m:List β} {k:Nat} {q:α×β} (h:(l.zip m)[k]?=some q):l[k]?=some q.1/\m[k]?=some q.2:=by
 rw[Uo]at h
 exact h
theorem nC {α β:Type} {l:List α} {m:List β} (h:l.length=m.length):(l.zip m).length=l.length:=by
 rw[List.length_zip]
 omega
theorem nD {α:Type} (l:List α):(l.zip l.tail).length=l.length - 1:=by
 rw[List.length_zip,List.length_tail]
 omega
theorem iZ.is {n:Nat} {w:cU} (h:iZ n w.c):fT w.int/\bh w.str:=by
 cases n with
 |zero=>exact h.elim
 |succ n=>
  obtain⟨v,hv,⟨_,h2,h3,_⟩,_⟩:=h
  simp only[cU.c,List.cons.injEq,PV.int.injEq,PV.str.injEq]at hv
  obtain⟨_,_,⟨_,e1⟩,e2,_⟩:=hv
  rw[e1,e2]
  exact⟨h2,h3⟩
theorem jV {α:Type} (p:α->Bool) (l:List α):(l.find? p=none/\bl p l= -1)\/∃(k:Nat) (x:α),l.find? p=some x/\l[k]?=some x/\bl p l=k:=by
 unfold bl
 cases h:l.findIdx? p with
 |none=>
  left
  have:=Up.1 h
  exact⟨List.find?_eq_none.2 fun x hx=>by simp[this x hx],rfl⟩
 |some k=>
  right
  obtain⟨hk,h1,h2⟩:=TG.1 h
  refine⟨k,l[k],?_,Th hk,rfl⟩
  rw[List.find?_eq_some_iff_getElem]
  exact⟨h1,k,hk,rfl,fun j hj=>by simpa using h2 j hj⟩
theorem Pe (a b c d e f g h:PV):lF 8 0 [[a,b,c,d,e,f,g,h]] (some 0)=some (V.pv (.ro 0 [a,b,c,d,e,f,g,h])):=by rw[dv _ _ _ (by decide)]; rfl
theorem r507 (x:aD) (v:Nat):res A ay 507 [.agg x.c,.ai v []]=some [.bool true]:=by
 refine aq a507 rfl rfl ?_
 simp only[F507,JK]
 unfold aD.c
 simp(disch:=omega)only[go_sem]
 refine W.du 0 (fun k=>⟨[(1,.pv (.ai v [])),(2,.ptr 2 0),(5,.pv (.int .i64 k))],⟨[(2,x.c.map .pv)],[],[]⟩⟩) (fun _=>True) rfl trivial fun k hk _=>?_
 simp(disch:=omega)only[go_sem]
 refine Br.aB (fun c=>absurd c (by omega)) (fun c=>?_)
 simp(disch:=omega)only[go_sem]
set_option maxHeartbeats 4000000 in
theorem r502 (u:Nat) (T:List aD) (hT:Ms T):∀(n:Nat) (t:Int) (cs:List PV),iZ n cs->fT t->res A ay 502 [.agg [.ai u (T.map aD.c)],.int .i64 t,.agg cs,.bool true]=some [.bool (eX T n t cs)]
 |0,_,_,h,_=>h.elim
 |n+1,t,cs,h,ht=>by
  obtain⟨v,rfl,⟨h1,h2,h3,h4⟩,⟨h5,h6,h7⟩,h8,h9,h10⟩:=h
  have ih:=r502 u T hT n
  rw[wR]
  obtain⟨ht1,ht2⟩:=ht
  have hTl:=hT.1
  refine aq a502 rfl rfl ?_
  simp only[F502,JG]
  unfold cU.c
  by_cases c0:t<0
  .rw[if_pos c0]
   have e0:decide (t<0)=true:=decide_eq_true c0
   simp(disch:=omega)only[go_sem,e0]
  .rw[if_neg c0]
   have e0:decide (t<0)=false:=decide_eq_false c0
   obtain⟨k,rfl⟩:=T6 (by omega:0<=t)
   rw[T0]
   by_cases c1:(T.length:Int)<=k
   .rw[TZ (by omega)]
    have e1:decide ((T.length:Int)<=k)=true:=decide_eq_true c1
    simp(disch:=omega)only[go_sem,e0,e1]
   .obtain⟨x,hx⟩:=get_some (l:=T) (k:=k) (by omega)
    have e1:decide ((T.length:Int)<=k)=false:=decide_eq_false c1
    have hxm:=Tf hx
    have hk:=hT.2.2 x hxm
    rw[hx]
    dsimp only
    by_cases ck:v.kind=x.kind
    .have e2:decide (v.kind=x.kind)=true:=decide_eq_true ck
     have h505:=r505 v (by omega) ⟨h5,h6,h7⟩
     rw[e2,TL]
     cases hz:nz v with
     |false=>
      rw[hz]at h505
      have:(nz { v with rest:=[] }&&(v.rest.isEmpty&&jU (eX T n) x { v with rest:=[] }))=false:=by
       cases hr:v.rest with
       |nil=>rw[show ({ v with rest:=[] }:cU)=v by rw[<- hr],hz]; rfl
       |cons a b=>simp
      rw[this]
      simp only[cU.c]at h505
      simp(disch:=omega)only[go_sem,e0,e1,e2,hx,Option.map_some,aD.c,h505]
     |true=>
      rw[hz]at h505
      simp only[cU.c]at h505
      cases hr:v.rest with
      |cons a b=>
       rw[hr]at h505
       simp only[List.map_cons]at h505
       simp(disch:=omega)only[go_sem,e0,e1,e2,hx,Option.map_some,aD.c,h505,hr]
       refine Br.aB (fun c=>?_) (fun c=>absurd (by omega) c)
       simp(disch:=omega)only[go_sem,e0,e1,e2,hx,Option.map_some,aD.c,h505,hr]
      |nil=>
       rw[hr]at h505
       simp only[List.map_nil]at h505
       simp(disch:=omega)only[go_sem,e0,e1,e2,hx,Option.map_some,aD.c,h505,hr,List.map_nil]
       refine Br.aB (fun c=>absurd c (by omega)) (fun c=>?_)
       have hvv:({ v with rest:=[] }:cU)=v:=by rw[<- hr]
       rw[hvv,hz]
       try simp only[List.isEmpty_nil,Bool.true_and]
       have hxo:=hT.2.1 x hxm
       obtain⟨⟨x1,x2,x3,x4,x5,x6,x7⟩,⟨x8,x9⟩,x10,x11⟩:=hxo
       have h393:=r393 x v.id x8
       have h391:=r391 x v.id x9
       have h507:=r507 x
       obtain⟨kind,name,low,high,max,syms,aS,key,elem,lL⟩:=x
       have h508:∀(e:Int) (l:List (List PV)),fT e->bT l->(∀r∈l,iZ n r)->res A ay 508 [.agg [.ai u (T.map aD.c)],.int .i64 e,.ai 0 l,.bool true]=some [.bool (l.all (eX T n e))]:=fun e l he hl hv=>r508 u 0 _ e l (eX T n e) hl (fun r hr=>(hv r hr).val) (fun r hr=>ih e r (hv r hr) he)
       dsimp only at *
       have hk5:=h508 key v.keys x6 h5 h8
       have he6:=h508 elem v.items x7 h6 h9
       unfold jU
       dsimp only
       simp only[aD.c]at h393 h391 h507
       rcases nine hk with rfl|rfl|rfl|rfl|rfl|rfl|rfl|rfl|rfl
       .simp(disch:=omega)only[go_sem,aD.c,h505,decide_true,decide_false,Int.reduceEq,if_true,if_false]
       .simp(disch:=omega)only[go_sem,aD.c,h505,decide_true,decide_false,Int.reduceEq,if_true,if_false]
        refine Br.aB (fun c=>?_) (fun c=>?_)<;>simp(disch:=omega)only[go_sem,c,decide_true,decide_false,Bool.true_and,Bool.false_and]
       .simp(disch:=omega)only[go_sem,aD.c,h505,decide_true,decide_false,Int.reduceEq,if_true,if_false]
       .simp(disch:=omega)only[go_sem,aD.c,h505,decide_true,decide_false,Int.reduceEq,if_true,if_false,h393]
        refine Br.aB (fun c=>?_) (fun c=>?_)<;>simp(disch:=omega)only[go_sem,c,decide_true,decide_false]
        cases lL<;>simp(disch:=omega)only[go_sem,c,decide_false]
       .simp(disch:=omega)only[go_sem,aD.c,h505,decide_true,decide_false,Int.reduceEq,if_true,if_false,h507]
        refine Br.aB (fun c=>?_) (fun c=>?_)<;>simp(disch:=omega)only[go_sem,c,decide_true,decide_false,Bool.true_and,Bool.false_and]
        .have h507:=h507 0
         simp(disch:=omega)only[go_sem,h507]
         have hml:aS.length=v.items.length:=by omega
         have x9':aS.length<=9223372036854775807:=x9
         rw[decide_eq_true hml.symm,TL]
         refine W.find (aS.zip v.items) (fun q=>!eX T n q.1.type q.2) (fun k=>⟨[(3,.pv (.bool true)),(4,.ptr 4 0),(6,.ptr 6 0),(9,.ptr 9 0),(12,.pv (.int .i64 k))],⟨[(4,[.pv (.ai u (T.map aD.c))]),(6,[.pv (.int .i64 v.kind),.pv (.bool v.bool),.pv (.int .i64 v.int),.pv (.str v.str),.pv (.int .i64 v.id),.pv (.ai 0 v.keys),.pv (.ai 0 v.items),.pv (.ai 0 [])]),(9,[.pv (.int .i64 5),.pv (.str name),.pv (.int .i64 low),.pv (.int .i64 high),.pv (.int .i64 max),.pv (.ai 0 (syms.map Sym.c)),.pv (.ai 0 (aS.map Mem.c)),.pv (.int .i64 key),.pv (.int .i64 elem),.pv (.bool lL)])],[],[]⟩⟩) rfl (fun k q hq hk hfd=>?_) (fun hn=>?_)
         .obtain⟨g1,g2⟩:=nB hq
          rw[nC hml]at hk
          have hm:=x11 q.1 (Tf g1)
          have hv:=h9 q.2 (Tf g2)
          have hc:=ih q.1.type q.2 hv hm.2.2.1
          have hfd:=fun g=>(hfd g).all
          rw[ja]at hfd
          generalize eX T n q.1.type q.2=e at hc hfd |-
          obtain⟨w,hw⟩:=hv.val
          rw[hw]at hc g2
          unfold cU.c at hc g2
          simp(disch:=omega)only[go_sem]
          refine Br.aB (fun c=>?_) (fun c=>(c (by omega)).elim)
          simp(disch:=omega)only[go_sem,g1,g2,Option.map_some,Mem.c,hc]
          refine Br.of (fun g=>?_) (fun g=>?_)<;>simp(disch:=omega)only[go_sem]
          .exact aN.of (by rw[g]; rfl) rfl
          .rw[hfd (by rw[g]; rfl)]
         .have hn:=hn.all
          rw[ja]at hn
          rw[nC hml,hn]
          simp(disch:=omega)only[go_sem,hml]
        .have:decide (v.items.length=aS.length)=false:=decide_eq_false (fun e=>c (by rw[e]))
         rw[this,T1]
       .simp(disch:=omega)only[go_sem,aD.c,h505,decide_true,decide_false,Int.reduceEq,if_true,if_false,h391]
        rcases jV (pW v.id) aS with⟨f1,f2⟩|⟨k,m,f1,f2,f3⟩
        .rw[f1]
         simp(disch:=omega)only[go_sem,f2]
         cases lL<;>simp(disch:=omega)only[go_sem,f2]
        .rw[f1]
         have d0:decide ((0:Int)<=(k:Int))=true:=by simp
         have d1:Max.max (k:Int) 0=(k:Int):=by omega
         simp(disch:=omega)only[go_sem,f2,f3,d0,d1]
         cases hi:v.items with
         |nil=>
          rw[hi]at h6
          have e7:decide (((0:Nat):Int)=1)=false:=rfl
          simp(disch:=omega)only[go_sem,List.length_nil,e7]
         |cons r rs=>
          cases rs with
          |cons r2 rs2=>
           have e7:decide (((rs2.length+1+1:Nat):Int)=1)=false:=decide_eq_false (by omega)
           simp(disch:=omega)only[go_sem,List.length_cons,e7]
          |nil=>
           have hv:=h9 r (by rw[hi]; exact TP)
           have hm:=x11 m (Tf f2)
           have hc:=ih m.type r hv hm.2.2.1
           obtain⟨w,hw⟩:=hv.val
           dsimp only
           generalize eX T n m.type r=e at hc |-
           rw[hw]at hc |-
           unfold cU.c at hc |-
           have e7:decide (((0+1:Nat):Int)=1)=true:=rfl
           have e8:decide (((0:Nat):Int)=0)=true:=rfl
           simp(disch:=omega)only[go_sem,f2,Option.map_some,Mem.c,hc,List.length_cons,List.length_nil,e7,e8,Pe]
       .simp(disch:=omega)only[go_sem,aD.c,h505,decide_true,decide_false,Int.reduceEq,if_true,if_false]
        refine Br.aB (fun c=>?_) (fun c=>?_)<;>simp(disch:=omega)only[go_sem,c,decide_true,decide_false,Bool.true_and,Bool.false_and,he6]
       .simp(disch:=omega)only[go_sem,aD.c,h505,decide_true,decide_false,Int.reduceEq,if_true,if_false]
        refine Br.aB (fun c=>?_) (fun c=>?_)
        .rw[show decide ((v.keys.length:Int)<=max)=false from decide_eq_false (by omega),T1]
         simp(disch:=omega)only[go_sem,c,decide_true,decide_false]
        .rw[show decide ((v.keys.length:Int)<=max)=true from decide_eq_true (by omega),TL]
         simp(disch:=omega)only[go_sem,c,decide_true,decide_false]
         refine Br.aB (fun d=>?_) (fun d=>?_)
         .rw[show decide (v.items.length=v.keys.length)=true from decide_eq_true (by omega),TL]
          generalize v.keys.all (eX T n key)=p at hk5 |-
          generalize v.items.all (eX T n elem)=q at he6 |-
          simp(disch:=omega)only[go_sem,d,decide_true,decide_false,hk5]
          cases p
          .simp(disch:=omega)only[go_sem]
          .cases q
           .simp(disch:=omega)only[go_sem,he6]
           .simp(disch:=omega)only[go_sem,he6]
            have h5':v.keys.length<=9223372036854775807:=h5
            refine W.find (v.keys.zip v.keys.tail) (fun q=>!decide (EX q.1 q.2<0)) (fun k=>⟨[(6,.ptr 6 0),(15,.pv (.int .i64 (((k+1:Nat)):Int)))],⟨[(6,[.pv (.int .i64 v.kind),.pv (.bool v.bool),.pv (.int .i64 v.int),.pv (.str v.str),.pv (.int .i64 v.id),.pv (.ai 0 v.keys),.pv (.ai 0 v.items),.pv (.ai 0 [])])],[],[]⟩⟩) rfl (fun k q hq hk hfd=>?_) (fun hn=>?_)
            .obtain⟨g1,g2⟩:=nB hq
             rw[List.getElem?_tail]at g2
             have hk2:k+1<v.keys.length:=(Tg.1 g2).1
             have e3:(((k+1:Nat):Int)) - 1=(k:Int):=by omega
             simp(disch:=omega)only[go_sem]
             refine Br.aB (fun c=>?_) (fun c=>(c (by omega)).elim)
             have hv1:=h8 q.1 (Tf g1)
             have hv2:=h8 q.2 (Tf g2)
             obtain⟨w1,hw1⟩:=hv1.val
             obtain⟨w2,hw2⟩:=hv2.val
             have i1:=(hw1 ▸ hv1:iZ n w1.c).is
             have i2:=(hw2 ▸ hv2:iZ n w2.c).is
             have h509:=r509 w1 w2 i1.1 i2.1 i1.2 i2.2
             rw[hw1]at g1 hfd
             rw[hw2]at g2 hfd
             rw[hw1,hw2]
             have hfd:=fun g=>(hfd g).all
             rw[ja,nA]at hfd
             rw[nA]
             generalize kM w1 w2=e at h509 hfd |-
             unfold cU.c at h509 g1 g2
             simp(disch:=omega)only[go_sem,e3,g1,g2,h509]
             refine Br.aB (fun g=>?_) (fun g=>?_)<;>simp(disch:=omega)only[go_sem]
             .have:=hfd (by simp; omega)
              rw[show CQ v.keys=false from this]
             .exact aN.of (by simp; omega) rfl
            .have:=hn.all
             rw[ja]at this
             rw[show CQ v.keys=true from this,nD]
             simp(disch:=omega)only[go_sem]
             refine Br.aB (fun c=>absurd c (by omega)) (fun c=>?_)
             simp(disch:=omega)only[go_sem]
         .rw[show decide (v.items.length=v.keys.length)=false from decide_eq_false (by omega),T1]
          simp(disch:=omega)only[go_sem,d,decide_true,decide_false]
       .simp(disch:=omega)only[go_sem,aD.c,h505,decide_true,decide_false,Int.reduceEq,if_true,if_false]
        refine Br.aB (fun c=>?_) (fun c=>?_)<;>simp(disch:=omega)only[go_sem,c,decide_true,decide_false,Bool.true_and,Bool.false_and,he6]
    .have e2:decide (v.kind=x.kind)=false:=decide_eq_false ck
     rw[e2]
     simp(disch:=omega)only[go_sem,e0,e1,e2,hx,Option.map_some,aD.c]
theorem jc {rec:Int->List PV->Bool} {x:aD} {v:cU} (hr:v.rest=[]) (hz:nz v=true):(nz { v with rest:=[] }&&(v.rest.isEmpty&&jU rec x { v with rest:=[] }))=jU rec x v:=by
 rw[show ({ v with rest:=[] }:cU)=v by rw[<- hr],hz,hr]
 rfl
theorem uQ {rec:Int->List PV->Bool} {x:aD} {v:cU} {a:Raw} {b:List Raw} (hr:v.rest=a::b):(nz { v with rest:=[] }&&(v.rest.isEmpty&&jU rec x { v with rest:=[] }))=false:=by
 rw[hr]
 simp
set_option maxHeartbeats 4000000 in
theorem r503 (u:Nat) (T:List aD) (hT:Ms T):∀(n:Nat) (t:Int) (cs:List PV),iZ n cs->fT t->res A ay 503 [.agg [.ai u (T.map aD.c)],.int .i64 t,.agg cs,.bool true]=some [.bool (eX T n t cs)]
 |0,_,_,h,_=>h.elim
 |n+1,t,cs,h,ht=>by
  obtain⟨v,rfl,⟨h1,h2,h3,h4⟩,⟨h5,h6,h7⟩,h8,h9,h10⟩:=h
  have ih:=r503 u T hT n
  rw[wR]
  obtain⟨ht1,ht2⟩:=ht
  have hTl:=hT.1
  refine aq a503 rfl rfl ?_
  simp only[F503,JH]
  unfold cU.c
  by_cases c0:t<0
  .rw[if_pos c0]
   have e0:decide (t<0)=true:=decide_eq_true c0
   simp(disch:=omega)only[go_sem,e0]
  .rw[if_neg c0]
   have e0:decide (t<0)=false:=decide_eq_false c0
   obtain⟨k,rfl⟩:=T6 (by omega:0<=t)
   rw[T0]
   by_cases c1:(T.length:Int)<=k
   .rw[TZ (by omega)]
    have e1:decide ((T.length:Int)<=k)=true:=decide_eq_true c1
    simp(disch:=omega)only[go_sem,e0,e1]
   .obtain⟨x,hx⟩:=get_some (l:=T) (k:=k) (by omega)
    have e1:decide ((T.length:Int)<=k)=false:=decide_eq_false c1
    have hxm:=Tf hx
    have hk:=hT.2.2 x hxm
    rw[hx]
    dsimp only
    by_cases ck:v.kind=x.kind
    .have e2:decide (v.kind=x.kind)=true:=decide_eq_true ck
     have h510:=r510 v (by omega) ⟨h5,h6,h7⟩
     rw[e2,TL]
     cases hz:nz v with
     |false=>
      rw[hz]at h510
      have:(nz { v with rest:=[] }&&(v.rest.isEmpty&&jU (eX T n) x { v with rest:=[] }))=false:=by
       cases hr:v.rest with
       |nil=>rw[show ({ v with rest:=[] }:cU)=v by rw[<- hr],hz]; rfl
       |cons a b=>simp
      rw[this]
      simp only[cU.c]at h510
      simp(disch:=omega)only[go_sem,e0,e1,e2,hx,Option.map_some,aD.c,h510]
     |true=>
      rw[hz]at h510
      simp only[cU.c]at h510
      have hrest:¬(v.kind=5\/v.kind=6)->v.rest=[]:=fun hn=>by
       unfold nz at hz
       have:=(of_decide_eq_true hz).2.2.2.2.2.2
       rcases this with h|h|h
       .exact absurd (.inl h) hn
       .exact absurd (.inr h) hn
       .exact h
      have hrc:v.rest=[]\/∃a b,v.rest=a::b:=by
       cases v.rest with
       |nil=>exact .inl rfl
       |cons a b=>exact .inr ⟨a,b,rfl⟩
      have hxo:=hT.2.1 x hxm
      obtain⟨⟨x1,x2,x3,x4,x5,x6,x7⟩,⟨x8,x9⟩,x10,x11⟩:=hxo
      have h392:=r392 x v.id x8
      have h281:=r281 x v.id x9
      obtain⟨kind,name,low,high,max,syms,aS,key,elem,lL⟩:=x
      have h512:∀(e:Int) (l:List (List PV)),fT e->bT l->(∀r∈l,iZ n r)->res A ay 512 [.agg [.ai u (T.map aD.c)],.int .i64 e,.ai 0 l,.bool true]=some [.bool (l.all (eX T n e))]:=fun e l he hl hv=>r512 u 0 _ e l (eX T n e) hl (fun r hr=>(hv r hr).val) (fun r hr=>ih e r (hv r hr) he)
      dsimp only at *
      have hk5:=h512 key v.keys x6 h5 h8
      have he6:=h512 elem v.items x7 h6 h9
      simp only[aD.c]at h392 h281
      rcases nine hk with rfl|rfl|rfl|rfl|rfl|rfl|rfl|rfl|rfl
      .have hr:=hrest (by omega)
       rw[jc hr hz]
       rw[hr]at h510
       simp only[List.map_nil]at h510
       unfold jU
       dsimp only
       simp(disch:=omega)only[go_sem,e0,e1,e2,hx,Option.map_some,aD.c,h510,decide_true,decide_false,Int.reduceEq,if_true,if_false,hr,List.map_nil]
      .have hr:=hrest (by omega)
       rw[jc hr hz]
       rw[hr]at h510
       simp only[List.map_nil]at h510
       unfold jU
       dsimp only
       simp(disch:=omega)only[go_sem,e0,e1,e2,hx,Option.map_some,aD.c,h510,decide_true,decide_false,Int.reduceEq,if_true,if_false,hr,List.map_nil]
       refine Br.aB (fun c=>?_) (fun c=>?_)<;>simp(disch:=omega)only[go_sem,c,decide_true,decide_false,Bool.true_and,Bool.false_and]
      .have hr:=hrest (by omega)
       rw[jc hr hz]
       rw[hr]at h510
       simp only[List.map_nil]at h510
       unfold jU
       dsimp only
       simp(disch:=omega)only[go_sem,e0,e1,e2,hx,Option.map_some,aD.c,h510,decide_true,decide_false,Int.reduceEq,if_true,if_false,hr,List.map_nil]
      .have hr:=hrest (by omega)
       rw[jc hr hz]
       rw[hr]at h510
       simp only[List.map_nil]at h510
       unfold jU
       dsimp only
       simp(disch:=omega)only[go_sem,e0,e1,e2,hx,Option.map_some,aD.c,h510,decide_true,decide_false,Int.reduceEq,if_true,if_false,hr,List.map_nil,h392]
       refine Br.aB (fun c=>?_) (fun c=>?_)<;>simp(disch:=omega)only[go_sem,c,decide_true,decide_false]
       cases lL<;>simp(disch:=omega)only[go_sem,c,decide_false]
      .simp(disch:=omega)only[go_sem,e0,e1,e2,hx,Option.map_some,aD.c,h510,decide_true,decide_false,Int.reduceEq,if_true,if_false]
       rcases hrc with hr|⟨a,b,hr⟩
       .rw[jc hr hz]
        unfold jU
        simp only[Int.reduceEq,if_true,if_false]
        rw[hr]
        refine Br.aB (fun c=>?_) (fun c=>?_)<;>simp(disch:=omega)only[go_sem,c,decide_true,decide_false,Bool.true_and,Bool.false_and,List.map_nil]
        .refine Br.aB (fun c=>absurd c (by decide)) (fun _=>?_)
         simp(disch:=omega)only[go_sem,List.map_nil,List.length_nil]
         refine W.du 0 (fun k=>⟨[(3,.pv (.bool true)),(4,.ptr 4 0),(6,.ptr 6 0),(9,.ptr 9 0),(111,.pv (.ai 0 [])),(112,.pv (.int .i64 0)),(113,.pv (.int .i64 k))],⟨[(4,[.pv (.ai u (T.map aD.c))]),(6,[.pv (.int .i64 v.kind),.pv (.bool v.bool),.pv (.int .i64 v.int),.pv (.str v.str),.pv (.int .i64 v.id),.pv (.ai 0 v.keys),.pv (.ai 0 v.items),.pv (.ai 0 [])]),(9,[.pv (.int .i64 5),.pv (.str name),.pv (.int .i64 low),.pv (.int .i64 high),.pv (.int .i64 max),.pv (.ai 0 (syms.map Sym.c)),.pv (.ai 0 (aS.map Mem.c)),.pv (.int .i64 key),.pv (.int .i64 elem),.pv (.bool lL)])],[],[]⟩⟩) (fun _=>True) rfl trivial fun k hk _=>?_
         simp(disch:=omega)only[go_sem]
         refine Br.aB (fun c=>absurd c (by omega)) (fun _=>?_)
         simp(disch:=omega)only[go_sem]
         have hml:aS.length=v.items.length:=by omega
         have x9':aS.length<=9223372036854775807:=x9
         rw[decide_eq_true hml.symm,TL]
         refine W.find (aS.zip v.items) (fun q=>!eX T n q.1.type q.2) (fun k=>⟨[(3,.pv (.bool true)),(4,.ptr 4 0),(6,.ptr 6 0),(150,.pv (.ai 0 (aS.map Mem.c))),(151,.pv (.int .i64 aS.length)),(152,.pv (.int .i64 k))],⟨[(4,[.pv (.ai u (T.map aD.c))]),(6,[.pv (.int .i64 v.kind),.pv (.bool v.bool),.pv (.int .i64 v.int),.pv (.str v.str),.pv (.int .i64 v.id),.pv (.ai 0 v.keys),.pv (.ai 0 v.items),.pv (.ai 0 [])])],[],[]⟩⟩) rfl (fun k q hq hk hfd=>?_) (fun hn=>?_)
         .obtain⟨g1,g2⟩:=nB hq
          rw[nC hml]at hk
          have hm:=x11 q.1 (Tf g1)
          have hv:=h9 q.2 (Tf g2)
          have hc:=ih q.1.type q.2 hv hm.2.2.1
          have hfd:=fun g=>(hfd g).all
          rw[ja]at hfd
          generalize eX T n q.1.type q.2=e at hc hfd |-
          obtain⟨w,hw⟩:=hv.val
          rw[hw]at hc g2
          unfold cU.c at hc g2
          simp(disch:=omega)only[go_sem]
          refine Br.aB (fun c=>?_) (fun c=>(c (by omega)).elim)
          simp(disch:=omega)only[go_sem,g1,g2,Option.map_some,Mem.c,hc]
          refine Br.of (fun g=>?_) (fun g=>?_)<;>simp(disch:=omega)only[go_sem]
          .exact aN.of (by rw[g]; rfl) rfl
          .rw[hfd (by rw[g]; rfl)]
         .have hn:=hn.all
          rw[ja]at hn
          rw[nC hml,hn]
          simp(disch:=omega)only[go_sem,hml]
        .have:decide (v.items.length=aS.length)=false:=decide_eq_false (fun e=>c (by rw[e]))
         rw[this,T1]
       .rw[uQ hr]
        rw[hr]
        refine Br.aB (fun c=>?_) (fun c=>?_)<;>simp(disch:=omega)only[go_sem,c,List.map_cons]
        refine Br.aB (fun c=>?_) (fun c=>absurd (by omega) c)
        simp(disch:=omega)only[go_sem]
      .simp(disch:=omega)only[go_sem,e0,e1,e2,hx,Option.map_some,aD.c,h510,decide_true,decide_false,Int.reduceEq,if_true,if_false,h281]
       rcases jV (pW v.id) aS with⟨f1,f2⟩|⟨k,m,f1,f2,f3⟩
       .simp(disch:=omega)only[go_sem,f2]
        have:jU (eX T n) ⟨6,name,low,high,max,syms,aS,key,elem,lL⟩ v=false:=by
         unfold jU
         simp only[f1,Int.reduceEq,if_true,if_false]
        rcases hrc with hr|⟨a,b,hr⟩
        .rw[jc hr hz,this]
         cases lL<;>simp(disch:=omega)only[go_sem,f2]
        .rw[uQ hr]
         cases lL<;>simp(disch:=omega)only[go_sem,f2]
       .have d0:decide ((0:Int)<=(k:Int))=true:=by simp
        have d1:Max.max (k:Int) 0=(k:Int):=by omega
        simp(disch:=omega)only[go_sem,f2,f3,d0,d1]
        rcases hrc with hr|⟨a,b,hr⟩
        .rw[jc hr hz]
         unfold jU
         simp only[Int.reduceEq,if_true,if_false]
         rw[f1,hr]
         cases hi:v.items with
         |nil=>
          rw[hi]at h6
          have e7:decide (((0:Nat):Int)=1)=false:=rfl
          simp(disch:=omega)only[go_sem,List.map_nil,List.length_nil,e7]
         |cons r rs=>
          cases rs with
          |cons r2 rs2=>
           have e7:decide (((rs2.length+1+1:Nat):Int)=1)=false:=decide_eq_false (by omega)
           simp(disch:=omega)only[go_sem,List.map_nil,List.length_cons,e7]
          |nil=>
           have hv:=h9 r (by rw[hi]; exact TP)
           have hm:=x11 m (Tf f2)
           have hc:=ih m.type r hv hm.2.2.1
           obtain⟨w,hw⟩:=hv.val
           dsimp only
           generalize eX T n m.type r=e at hc |-
           rw[hw]at hc |-
           unfold cU.c at hc |-
           have e7:decide (((0+1:Nat):Int)=1)=true:=rfl
           have e8:decide (((0:Nat):Int)=0)=true:=rfl
           simp(disch:=omega)only[go_sem,f2,Option.map_some,Mem.c,hc,List.map_nil,List.length_cons,List.length_nil,e7,e8,Pe]
        .rw[uQ hr]
         have e8:decide (((b.length+1:Nat):Int)=0)=false:=decide_eq_false (by omega)
         rw[hr]
         refine Br.aB (fun c=>?_) (fun c=>?_)<;>simp(disch:=omega)only[go_sem,c,List.map_cons,List.length_cons,List.length_map,e8]
      .have hr:=hrest (by omega)
       rw[jc hr hz]
       rw[hr]at h510
       simp only[List.map_nil]at h510
       unfold jU
       dsimp only
       simp(disch:=omega)only[go_sem,e0,e1,e2,hx,Option.map_some,aD.c,h510,decide_true,decide_false,Int.reduceEq,if_true,if_false,hr,List.map_nil]
       refine Br.aB (fun c=>?_) (fun c=>?_)<;>simp(disch:=omega)only[go_sem,c,decide_true,decide_false,Bool.true_and,Bool.false_and,he6]
      .have hr:=hrest (by omega)
       rw[jc hr hz]
       rw[hr]at h510
       simp only[List.map_nil]at h510
       unfold jU
       dsimp only
       simp(disch:=omega)only[go_sem,e0,e1,e2,hx,Option.map_some,aD.c,h510,decide_true,decide_false,Int.reduceEq,if_true,if_false,hr,List.map_nil]
       refine Br.aB (fun c=>?_) (fun c=>?_)
       .rw[show decide ((v.keys.length:Int)<=max)=false from decide_eq_false (by omega),T1]
        simp(disch:=omega)only[go_sem,c,decide_true,decide_false]
       .rw[show decide ((v.keys.length:Int)<=max)=true from decide_eq_true (by omega),TL]
        simp(disch:=omega)only[go_sem,c,decide_true,decide_false]
        refine Br.aB (fun d=>?_) (fun d=>?_)
        .rw[show decide (v.items.length=v.keys.length)=true from decide_eq_true (by omega),TL]
         generalize v.keys.all (eX T n key)=p at hk5 |-
         generalize v.items.all (eX T n elem)=q at he6 |-
         simp(disch:=omega)only[go_sem,d,decide_true,decide_false,hk5]
         cases p
         .simp(disch:=omega)only[go_sem]
         .simp(disch:=omega)only[go_sem]
          have h5':v.keys.length<=9223372036854775807:=h5
          rw[TL]
          refine W.find (v.keys.zip v.keys.tail) (fun q=>!decide (EX q.1 q.2<0)) (fun k=>⟨[(3,.pv (.bool true)),(4,.ptr 4 0),(6,.ptr 6 0),(9,.ptr 9 0),(20,.pv (.int .i64 (((k+1:Nat)):Int)))],⟨[(4,[.pv (.ai u (T.map aD.c))]),(6,[.pv (.int .i64 v.kind),.pv (.bool v.bool),.pv (.int .i64 v.int),.pv (.str v.str),.pv (.int .i64 v.id),.pv (.ai 0 v.keys),.pv (.ai 0 v.items),.pv (.ai 0 [])]),(9,[.pv (.int .i64 8),.pv (.str name),.pv (.int .i64 low),.pv (.int .i64 high),.pv (.int .i64 max),.pv (.ai 0 (syms.map Sym.c)),.pv (.ai 0 (aS.map Mem.c)),.pv (.int .i64 key),.pv (.int .i64 elem),.pv (.bool lL)])],[],[]⟩⟩) rfl (fun k q hq hk hfd=>?_) (fun hn=>?_)
          .obtain⟨g1,g2⟩:=nB hq
           rw[List.getElem?_tail]at g2
           have hk2:k+1<v.keys.length:=(Tg.1 g2).1
           have e3:(((k+1:Nat):Int)) - 1=(k:Int):=by omega
           simp(disch:=omega)only[go_sem]
           refine Br.aB (fun c=>?_) (fun c=>(c (by omega)).elim)
           have hv1:=h8 q.1 (Tf g1)
           have hv2:=h8 q.2 (Tf g2)
           obtain⟨w1,hw1⟩:=hv1.val
           obtain⟨w2,hw2⟩:=hv2.val
           have i1:=(hw1 ▸ hv1:iZ n w1.c).is
           have i2:=(hw2 ▸ hv2:iZ n w2.c).is
           have h513:=r513 w1 w2 i1.1 i2.1 i1.2 i2.2
           rw[hw1]at g1 hfd
           rw[hw2]at g2 hfd
           rw[hw1,hw2]
           have hfd:=fun g=>(hfd g).all
           rw[ja,nA]at hfd
           rw[nA]
           generalize kM w1 w2=e at h513 hfd |-
           unfold cU.c at h513 g1 g2
           simp(disch:=omega)only[go_sem,e3,g1,g2,h513]
           refine Br.aB (fun g=>?_) (fun g=>?_)<;>simp(disch:=omega)only[go_sem]
           .have:=hfd (by simp; omega)
            rw[show CQ v.keys=false from this,Um]
           .exact aN.of (by simp; omega) rfl
          .have:=hn.all
           rw[ja]at this
           rw[show CQ v.keys=true from this,nD,Bool.and_true]
           simp(disch:=omega)only[go_sem]
           refine Br.aB (fun c=>absurd c (by omega)) (fun c=>?_)
           simp(disch:=omega)only[go_sem,he6]
        .rw[show decide (v.items.length=v.keys.length)=false from decide_eq_false (by omega),T1]
         simp(disch:=omega)only[go_sem,d,decide_true,decide_false]
      .have hr:=hrest (by omega)
       rw[jc hr hz]
       rw[hr]at h510
       simp only[List.map_nil]at h510
       unfold jU
       dsimp only
       simp(disch:=omega)only[go_sem,e0,e1,e2,hx,Option.map_some,aD.c,h510,decide_true,decide_false,Int.reduceEq,if_true,if_false,hr,List.map_nil]
       refine Br.aB (fun c=>?_) (fun c=>?_)<;>simp(disch:=omega)only[go_sem,c,decide_true,decide_false,Bool.true_and,Bool.false_and,he6]
    .have e2:decide (v.kind=x.kind)=false:=decide_eq_false ck
     rw[e2]
     simp(disch:=omega)only[go_sem,e0,e1,e2,hx,Option.map_some,aD.c]
end Go.Pv
