/-
 What the functions of the law give.
-/
import Derived.Test.YtpchfogcccagjaaGreatC3
set_option linter.unusedSimpArgs false
set_option linter.unusedVariables false
open List renaming getElem?_eq_some_iff → Pg, mem_of_getElem? → Ph, getElem?_eq_getElem → Pj, getElem?_append_left → Pl, length_map → Pm, getElem?_map → Pn, length_append → Pp, take_of_length_le → Py, getElem?_append_right → PA, mem_map → PB, eq_nil_of_length_eq_zero → PC, getElem?_set_ne → PD, take_add_one → PF, append_assoc → PG, pairwise_cons → PH, getElem?_set_self → PJ, getElem?_drop → PM, mem_cons → PO, take_length → PU, ext_getElem? → PW, length_set → Qa, length_replicate → Qc, take_append_drop → Qj, foldl_cons → Qw
open Nat renaming lt_or_ge → Po, le_refl → Pu, eq_zero_or_pos → Qd, zero_le → Qn, zero_add → QF
open Int renaming toNat_natCast → P9, eq_ofNat_of_zero_le → Qp
namespace Go.Pv
@[go_sem] theorem r44 (a b:Edge):res A az 44 [.agg [.int .i64 a.fr,.bool a.send,.int .i64 a.label,.int .i64 a.to],.agg [.int .i64 b.fr,.bool b.send,.int .i64 b.label,.int .i64 b.to]]=some [.bool (Edge.lt a b)]:=by
 refine aq a44 rfl rfl ?_
 simp only[F44]; try delta sS tT zZ nN gG bB pZ
 simp(disch:=omega)only[go_sem]
 unfold Edge.lt
 by_cases h:a.fr=b.fr<;>by_cases h2:a.send=b.send<;>simp(disch:=omega)only[go_sem,h,h2,ne_eq,not_true_eq_false,not_false_eq_true]
theorem bF.CG {a:bF} (h1:a.aw≤12) (h2:a.aA.length≤100) (h3:0≤a.start∧a.start<a.aw):a.err=if rk a.aw none a.aA=true then 0 else 1:=by
 unfold bF.err
 rw[if_neg (by omega),if_pos h3]
theorem bF.lA {a:bF} (h1:a.aw≤12) (h2:a.aA.length≤100) (h3:¬(0≤a.start∧a.start<a.aw)):a.err=1:=by
 unfold bF.err
 rw[if_neg (by omega),if_neg h3]
theorem bF.lB {a:bF} (h:12<a.aw∨100<a.aA.length):a.err=3:=by
 unfold bF.err
 rw[if_pos h]
theorem CH {n:Int} {p:Option Edge} {e:Edge} {r:List Edge} (h:e.fits n=false):rk n p (e::r)=false:=by simp[rk,h]
set_option maxHeartbeats 1000000 in
@[go_sem] theorem r26 (t:Nat) (a:bF) (hl:a.aA.length≤2^63 - 1):res A az 26 [.agg [.int .i64 a.aw,.int .i64 a.start,.ae t (a.aA.map Edge.c)]]=some [.int .i64 a.err]:=by
 refine aq a26 rfl rfl ?_
 simp only[F26]; try delta sS tT zZ nN gG bB pZ
 simp(disch:=omega)only[go_sem]
 refine Br.aG (fun h1=>?_) (fun h1=>?_)<;>simp(disch:=omega)only[go_sem,h1]
 ·rw[bF.lB (.inl h1)]
 refine Br.aG (fun h2=>?_) (fun h2=>?_)<;>simp(disch:=omega)only[go_sem,h2]
 ·rw[bF.lB (.inr (by omega))]
 refine Br.aG (fun h3=>?_) (fun h3=>?_)<;>simp(disch:=omega)only[go_sem,h3]
 ·rw[bF.lA (by omega) (by omega) (by omega)]
 refine Br.aG (fun h4=>?_) (fun h4=>?_)<;>simp(disch:=omega)only[go_sem,h4]
 ·rw[bF.lA (by omega) (by omega) (by omega)]
 refine Br.aG (fun h5=>?_) (fun h5=>?_)<;>simp(disch:=omega)only[go_sem,h5]
 ·rw[bF.lA (by omega) (by omega) (by omega)]
 rw[bF.CG (by omega) (by omega) (by omega)]
 refine W.dD a.aA.length (fun k=>⟨[(1,.ptr 1 0),(3,.pv (.int .i64 k))],⟨[(1,[.pv (.int .i64 a.aw),.pv (.int .i64 a.start),.pv (.ae t (a.aA.map Edge.c))])],[],[]⟩⟩) (fun k=>rk a.aw none a.aA=rk a.aw (oI a.aA k) (a.aA.drop k)) rfl rfl fun k hk hi=>?_
 simp(disch:=omega)only[go_sem]
 refine Br.aG (fun h=>?_) (fun h=>?_)
 ·obtain⟨e,he⟩:=get_at (l:=a.aA) (k:=k) (by omega)
  rw[qd he]at hi
  have bad:e.fits a.aw=false→rk a.aw none a.aA=false:=fun hb=>hi.trans (CH hb)
  simp(disch:=omega)only[go_sem,he]
  refine Br.aG (fun g1=>?_) (fun g1=>?_)<;>simp(disch:=omega)only[go_sem,g1]
  ·rw[bad (by simp[Edge.fits]; omega)]; rfl
  refine Br.aG (fun g2=>?_) (fun g2=>?_)<;>simp(disch:=omega)only[go_sem,g2]
  ·rw[bad (by simp[Edge.fits]; omega)]; rfl
  refine Br.aG (fun g3=>?_) (fun g3=>?_)<;>simp(disch:=omega)only[go_sem,g3]
  ·rw[bad (by simp[Edge.fits]; omega)]; rfl
  refine Br.aG (fun g4=>?_) (fun g4=>?_)<;>simp(disch:=omega)only[go_sem,g4]
  ·rw[bad (by simp[Edge.fits]; omega)]; rfl
  refine Br.aG (fun g5=>?_) (fun g5=>?_)<;>simp(disch:=omega)only[go_sem,g5]
  ·rw[bad (by simp[Edge.fits]; omega)]; rfl
  refine Br.aG (fun g6=>?_) (fun g6=>?_)<;>simp(disch:=omega)only[go_sem,g6]
  ·rw[bad (by simp[Edge.fits]; omega)]; rfl
  have fit:e.fits a.aw=true:=by simp[Edge.fits]; omega
  refine Br.aG (fun g7=>?_) (fun g7=>?_)<;>simp(disch:=omega)only[go_sem,g7]
  ·obtain⟨j,rfl⟩:∃j,k=j+1:=⟨k - 1,by omega⟩
   obtain⟨d,hd⟩:=get_at (l:=a.aA) (k:=j) (by omega)
   have hj:((j+1:Nat):Int) - 1=(j:Int):=by omega
   rw[fe,hd]at hi
   simp(disch:=omega)only[go_sem,hj,hd]
   refine Br.of (fun g8=>?_) (fun g8=>?_)<;>simp(disch:=omega)only[go_sem]
   ·exact .of (by omega) rfl (by rw[hi,fe,he]; simp[rk,fit,g8])
   ·rw[hi]; simp[rk,g8]
  ·obtain rfl:k=0:=by omega
   exact .of (by omega) rfl (by rw[hi,fe,he]; simp[rk,fit,oI])
 ·simp(disch:=omega)only[go_sem]
  rw[hi,nC h]
  rfl
@[go_sem] theorem r47a (a b:Edge):res A az 47 [.agg [.int .i64 a.fr,.bool a.send,.int .i64 a.label,.int .i64 a.to],.agg [.int .i64 b.fr,.bool b.send,.int .i64 b.label,.int .i64 b.to]]=some [.int .i64 (Edge.cmp a b)]:=
 r47 (by kernel_rfl) (by kernel_rfl) (by kernel_rfl) (by kernel_rfl) a b
@[go_sem] theorem r46 (n s:Int) (t:Nat) (cs:List PV):res A az 46 [.int .i64 n,.ro t (.int .i64 s::cs)]=some [.bool (decide (0≤n)&&decide (n<s))]:=by
 refine aq a46 rfl rfl ?_
 simp only[F46]; try delta sS tT zZ nN gG bB pZ
 simp(disch:=omega)only[go_sem]
 refine Br.aG (fun h1=>?_) (fun h1=>?_)<;>simp(disch:=omega)only[go_sem,h1]
theorem zA {e:Edge} {n:Int}:e.fits n=(((decide (0≤e.fr)&&decide (e.fr<n))&&(decide (0≤e.to)&&decide (e.to<n)))&&(decide (1≤e.label)&&decide (e.label≤1000))):=by
 simp[Edge.fits,Bool.and_assoc]
set_option maxHeartbeats 2000000 in
@[go_sem] theorem r29 (t:Nat) (a:bF) (hl:a.aA.length≤2^63 - 1):res A az 29 [.agg [.int .i64 a.aw,.int .i64 a.start,.ae t (a.aA.map Edge.c)]]=some [.int .i64 a.err]:=by
 refine aq a29 rfl rfl ?_
 simp only[F29]; try delta sS tT zZ nN gG bB pZ
 simp(disch:=omega)only[go_sem]
 refine Br.aG (fun h1=>?_) (fun h1=>?_)<;>simp(disch:=omega)only[go_sem,h1]
 ·rw[bF.lB (.inl h1)]
 refine Br.aG (fun h2=>?_) (fun h2=>?_)<;>simp(disch:=omega)only[go_sem,h2]
 ·rw[bF.lB (.inr (by omega))]
 refine Br.of (fun h3=>?_) (fun h3=>?_)<;>simp at h3<;>simp(disch:=omega)only[go_sem]
 case refine_2=>rw[bF.lA (by omega) (by omega) (by omega)]
 rw[bF.CG (by omega) (by omega) (by omega)]
 refine W.dD a.aA.length (fun k=>⟨[(1,.ptr 1 0),(3,.func 46 [.ptr 1 0]),(22,.pv (.ae t (a.aA.map Edge.c))),(23,.pv (.int .i64 a.aA.length)),(24,.pv (.int .i64 k))],⟨[(1,[.pv (.int .i64 a.aw),.pv (.int .i64 a.start),.pv (.ae t (a.aA.map Edge.c))])],[],[]⟩⟩) (fun k=>rk a.aw none a.aA=rk a.aw (oI a.aA k) (a.aA.drop k)) rfl rfl fun k hk hi=>?_
 simp(disch:=omega)only[go_sem]
 refine Br.aG (fun h=>?_) (fun h=>?_)
 ·obtain⟨e,he⟩:=get_at (l:=a.aA) (k:=k) (by omega)
  rw[qd he]at hi
  have bad:e.fits a.aw=false→rk a.aw none a.aA=false:=fun hb=>hi.trans (CH hb)
  rw[zA]at bad
  simp(disch:=omega)only[go_sem,he]
  refine Br.of (fun g1=>?_) (fun g1=>?_)<;>simp(disch:=omega)only[go_sem,g1]
  case refine_2=>rw[bad (by rw[g1]; rfl)]; rfl
  refine Br.of (fun g2=>?_) (fun g2=>?_)<;>simp(disch:=omega)only[go_sem,g2]
  case refine_2=>rw[bad (by rw[g1,g2]; rfl)]; rfl
  refine Br.aG (fun g3=>?_) (fun g3=>?_)<;>simp(disch:=omega)only[go_sem,g3]
  ·rw[bad (by simp; omega)]; rfl
  refine Br.aG (fun g4=>?_) (fun g4=>?_)<;>simp(disch:=omega)only[go_sem,g4]
  ·rw[bad (by simp; omega)]; rfl
  have fit:e.fits a.aw=true:=by rw[zA,g1,g2]; simp; omega
  refine Br.aG (fun g7=>?_) (fun g7=>?_)<;>simp(disch:=omega)only[go_sem,g7]
  ·obtain⟨j,rfl⟩:∃j,k=j+1:=⟨k - 1,by omega⟩
   obtain⟨d,hd⟩:=get_at (l:=a.aA) (k:=j) (by omega)
   have hj:((j+1:Nat):Int) - 1=(j:Int):=by omega
   rw[fe,hd]at hi
   simp(disch:=omega)only[go_sem,hj,hd,Edge.GO]
   refine Br.of (fun g8=>?_) (fun g8=>?_)<;>simp(disch:=omega)only[go_sem]
   ·exact .of (by omega) rfl (by rw[hi,fe,he]; simp[rk,fit,g8])
   ·rw[hi]; simp[rk,g8]
  ·obtain rfl:k=0:=by omega
   exact .of (by omega) rfl (by rw[hi,fe,he]; simp[rk,fit,oI])
 ·simp(disch:=omega)only[go_sem]
  rw[hi,nC h]
  rfl
end Go.Pv
namespace Go.Pv
def Fk (s:Int) (d:Bool) (x:Int):List Edge→Option Int
 |[]=>none
 |e::r=>if e.fr=s∧e.send=d∧e.label=x then some e.to else Fk s d x r
end Go.Pv
namespace Go.Pv
def CI (s:Int):List Edge→Bool
 |[]=>true
 |e::r=>if e.fr=s then false else CI s r
def yq (es:List Edge):Nat→List Int
 |0=>[]
 |k+1=>if CI k es then yq es k++[(k:Int)] else yq es k
def bF.ends (a:bF):List Int:=if a.aw≤12 then yq a.aA a.aw.toNat else []
end Go.Pv
namespace Go.Pv
def eD (x:Int):Nat→List Int→Int
 |_,[]=> -1
 |k,y::r=>if y=x then k else eD x (k+1) r
def rI (x:Int) (l:List Int):Int:=eD x 0 l
@[go_sem] theorem r53 (t:Nat) (l:List Int) (x:Int) (hl:l.length≤2^63 - 1):res A az 53 [.ae t (ints l),.int .i64 x]=some [.int .i64 (rI x l)]:=by
 refine aq a53 rfl rfl ?_
 simp only[F53]; try delta sS tT zZ nN gG bB pZ
 simp(disch:=omega)only[go_sem]
 refine W.dD l.length (fun k=>⟨[(0,.pv (.ae t (ints l))),(1,.pv (.int .i64 x)),(5,.pv (.int .i64 k))],⟨[],[],[]⟩⟩) (fun k=>rI x l=eD x k (l.drop k)) rfl rfl fun k hk hi=>?_
 simp(disch:=omega)only[go_sem]
 refine Br.aG (fun h=>?_) (fun h=>?_)
 ·obtain⟨y,hy⟩:=get_at (l:=l) (k:=k) (by omega)
  rw[qd hy]at hi
  simp(disch:=omega)only[go_sem,hy]
  refine Br.aG (fun g1=>?_) (fun g1=>?_)<;>simp(disch:=omega)only[go_sem,g1]
  ·rw[hi]
   simp only[eD,if_pos g1]
  ·exact .of (by omega) rfl (hi.trans (by simp only[eD,if_neg g1]))
 ·simp(disch:=omega)only[go_sem]
  rw[hi,nC h]
  rfl
end Go.Pv
namespace Go.Pv
end Go.Pv
namespace Go.Pv
def cX:List Int→List Int
 |[]=>[]
 |[x]=>[x]
 |x::y::r=>if x=y then cX (y::r) else x::cX (y::r)
@[go_sem] theorem G5 (a b c d:Nat):distinct (dR [.own a b c d])=true:=rfl
@[go_sem] theorem G6 (bx:List (Nat×List V)) (mp:List (List (PV×PV))) (ar:List aK) (v n:Nat) (l:List Int):bW ⟨bx,⟨v,1,.inl (ints l)⟩::ar,mp⟩ true (.own 0 v 0 n)=some (.fr 1 (ints (l.take n))):=by
 simp[bW,eK,aB,ints]
@[go_sem] theorem LB (bx:List (Nat×List V)) (mp:List (List (PV×PV))) (ar:List aK) (v off len:Nat) (l:List Int) (h:off+len≤l.length):Gi ⟨bx,⟨v,1,.inl (ints l)⟩::ar,mp⟩ 1 [.pv (.int .i64 0)] (.own 0 v off len)=
  some (.dv [],{ ar:=some (0,⟨v,1,.inl (ints (l.take off++List.replicate len 0++l.drop (off+len)))⟩) }):=by
 simp[Gi,aB,ax,V.bG,PV.perm,ints,h]
theorem r104_small (l:List Int) (h1:l.length<2):res A az 104 [.fr 1 (ints l)]=some [.fr 1 (ints l)]:=by
 refine aq a104 rfl rfl ?_
 simp only[F104]; try delta sS tT zZ nN gG bB pZ
 have h2:((l.length:Nat):Int)<2:=by omega
 simp(disch:=omega)only[go_sem,h2,List.take_length]
theorem rJ (l:List Int) (x y:Int) (k:Nat) (hx:l[k]?=some x) (hy:l[k+1]?=some y):cX (l.take (k+2))=if x=y then cX (l.take (k+1)) else cX (l.take (k+1))++[y]:=by
 induction l generalizing k with
 |nil=>simp at hx
 |cons z l ih=>
  cases k with
  |zero=>
   simp at hx hy
   subst hx
   match l,hy with
   |w::r,hy=>
    simp at hy
    subst hy
    simp only[Nat.zero_add,List.take_succ_cons,List.take_zero,cX]
    split
    ·rename_i hzw
     rw[hzw]
    ·rfl
  |succ k=>
   simp at hx hy
   have:=ih k hx hy
   match l,hx with
   |w::r,hx=>
    simp only[List.take_succ_cons,cX]at this ⊢
    split
    ·exact this
    ·rw[this]
     split<;>simp
theorem Es (c l:List Int) (v:Int) (h:c.length<l.length):(c++l.drop c.length).set c.length v=(c++[v])++l.drop (c++[v]).length:=by
 rw[List.set_append_right _ _ (Pu _),Nat.sub_self,PG]
 have:(c++[v]).length=c.length+1:=by simp
 rw[this,List.drop_eq_getElem_cons h]
 rfl
theorem r104_big (l:List Int) (h1:2≤l.length) (h0:l.length≤2000000000):res A az 104 [.fr 1 (ints l)]=some [.fr 1 (ints (cX l))]:=by
 refine aq a104 rfl rfl ?_
 simp only[F104]; try delta sS tT zZ nN gG bB pZ
 have h2:¬((l.length:Nat):Int)<2:=by omega
 simp(disch:=omega)only[go_sem,h2]
 refine W.dD (l.length - 1) (fun j=>⟨[(0,.own 0 0 0 l.length),(3,.pv (.int .i64 (j+1:Nat)))],⟨[],[⟨0,1,.inl (ints l)⟩],[]⟩⟩) (fun j=>cX (l.take (j+1))=l.take (j+1)) rfl ?_ fun j hj hi=>?_
 ·match l,h1 with
  |x::r,_=>rfl
 have e1:((j+1:Nat):Int) - 1=(j:Int):=by omega
 simp(disch:=omega)only[go_sem]
 refine Br.aG (fun h=>?_) (fun h=>?_)
 ·obtain⟨x,hx⟩:=get_at (l:=l) (k:=j) (by omega)
  obtain⟨y,hy⟩:=get_at (l:=l) (k:=j+1) (by omega)
  have hs:=rJ l x y j hx hy
  simp(disch:=omega)only[go_sem,e1,hx,hy]
  refine Br.aG (fun g=>?_) (fun g=>?_)
  case refine_2=>
   simp(disch:=omega)only[go_sem,g]
   refine .of (by omega) rfl ?_
   rw[hs,if_neg (fun hc=>g hc.symm),hi,PF (i:=j+1),hy]
   rfl
  simp(disch:=omega)only[go_sem,g]
  have hc0:cX (l.take (j+2))=l.take (j+1):=by rw[hs,if_pos g.symm,hi]
  refine W.dD (l.length - (j+2)) (fun i=>⟨[(0,.own 0 0 0 l.length),(3,.pv (.int .i64 (cX (l.take (j+2+i))).length)),(4,.own 0 0 (j+1) (l.length - (j+1))),(5,.pv (.int .i64 (i+1:Nat)))],⟨[],[⟨0,1,.inl (ints (cX (l.take (j+2+i))++l.drop (cX (l.take (j+2+i))).length))⟩],[]⟩⟩)
   (fun i=>(cX (l.take (j+2+i))).length≤j+1+i) ?_ ?_ fun i hj2 hw=>?_
  ·simp only[Nat.add_zero,hc0,List.length_take]
   rw[Nat.min_eq_left (by omega),Qj]
   rfl
  ·simp only[Nat.add_zero,hc0,List.length_take]
   omega
  have hkeep:∀q,(cX (l.take (j+2+i))).length≤q→(cX (l.take (j+2+i))++l.drop (cX (l.take (j+2+i))).length)[q]?=l[q]?:=fun q hq=>by
   rw[PA hq,PM]
   congr 1
   omega
  simp(disch:=omega)only[go_sem]
  refine Br.aG (fun f=>?_) (fun f=>?_)
  ·obtain⟨u,hu⟩:=get_at (l:=l) (k:=j+1+i) (by omega)
   obtain⟨v,hv⟩:=get_at (l:=l) (k:=j+1+i+1) (by omega)
   have hst:=rJ l u v (j+1+i) hu hv
   have k1:=(hkeep (j+1+i) hw).trans hu
   have k2:=(hkeep (j+1+i+1) (by omega)).trans hv
   have e3:((i+1:Nat):Int) - 1=(i:Int):=by omega
   have e4:j+1+(i+1)=j+1+i+1:=by omega
   have e5:j+1+i+2=j+2+(i+1):=by omega
   have e6:j+1+i+1=j+2+i:=by omega
   rw[e5,e6]at hst
   simp(disch:=omega)only[go_sem,e3,e4,k1,k2]
   refine Br.aG (fun g3=>?_) (fun g3=>?_)
   ·simp(disch:=omega)only[go_sem,g3]
    rw[if_pos g3.symm]at hst
    refine .of (by omega) ?_ ?_
    ·show _=St.mk _ _
     rw[hst]
     rfl
    ·show (cX _).length≤_
     rw[hst]
     omega
   ·have hln:(cX (l.take (j+2+i))++l.drop (cX (l.take (j+2+i))).length).length=l.length:=by simp; omega
    rw[if_neg (fun hc=>g3 hc.symm)]at hst
    simp(disch:=omega)only[go_sem,g3,e4,k2]
    refine .of (by omega) ?_ ?_
    ·show _=St.mk _ _
     rw[hst,Es _ _ _ (by omega),Pp]
     rfl
    ·show (cX _).length≤_
     rw[hst,Pp]
     simp
     omega
  ·have hln:(cX (l.take (j+2+i))++l.drop (cX (l.take (j+2+i))).length).length=l.length:=by simp; omega
   have hall:cX (l.take (j+2+i))=cX l:=by rw[Py (by omega)]
   rw[hall]at hln hw ⊢
   simp(disch:=omega)only[go_sem]
   rw[List.append_assoc,List.take_append_of_le_length (by simp),List.take_take,Nat.min_self,List.take_append_of_le_length (Nat.le_refl _),List.take_length]
 ·simp(disch:=omega)only[go_sem]
  rw[Py (by omega)]at hi
  rw[PU,hi]
end Go.Pv
namespace Go.Pv
inductive Aw where
 |e
 |a (x:Int) (l:List Int)
 |b (x:Int) (l:List Int)
 |ab (x:Int) (l:List Int) (y:Int) (r:List Int)
 |ba (x:Int) (l:List Int) (y:Int) (r:List Int)
def ow (i:Nat) (l:List Int):V:=.own i l.length 0 (l.length+1)
def ao (x:Int) (l:List Int):aK:=⟨l.length,1,.inl (ints (x::l))⟩
def Aw.v0:Aw→V
 |.e|.b _ _=>.tl []
 |.a _ l|.ab _ l _ _=>ow 0 l
 |.ba _ l _ _=>ow 1 l
def Aw.ar:Aw→List aK
 |.e=>[]
 |.a x l|.b x l=>[ao x l]
 |.ab x l y r=>[ao x l,ao y r]
 |.ba x l y r=>[ao y r,ao x l]
def Aw.l0:Aw→List Int
 |.e|.b _ _=>[]
 |.a x l|.ab x l _ _|.ba x l _ _=>x::l
def Aw.l1:Aw→List Int
 |.e|.a _ _=>[]
 |.b x l|.ab _ _ x l|.ba _ _ x l=>x::l
def Aw.put (s:Bool) (z:Int):Aw→Aw
 |.e=>if s then .b z [] else .a z []
 |.a x l=>if s then .ab x l z [] else .a x (l++[z])
 |.b x l=>if s then .b x (l++[z]) else .ba z [] x l
 |.ab x l y r=>if s then .ab x l y (r++[z]) else .ab x (l++[z]) y r
 |.ba x l y r=>if s then .ba x l y (r++[z]) else .ba x (l++[z]) y r
def Aw.len (t:Aw):Nat:=t.l0.length+t.l1.length
def yr (id aj off len : Nat) (a : aK) : Option (V × Tn) :=
 if len = 0 then some (.dv [],{ ra := some id }) else (match a.body with
    | .inl rows => if a.k = 1 ∧ off + len ≤ rows.length ∧ len ≤ aQ then (match ax fS ((rows.drop off).take len) with
     | some l => some (.dv [],{ ar := some (id,⟨aj,1,.inl (rows.take off ++ (cI oH l).map (fun x => [.int .i64 x]) ++ rows.drop (off + len))⟩) })
     | none => none) else none
    | .inr _ => none)
@[go_sem] theorem Jm (h:af):eB [.tl []] h=some (.dv [],{}):=rfl
@[go_sem] theorem G7 (h:af) (id aj off len:Nat):eB [.own id aj off len] h=(aB h id aj).bind (yr id aj off len):=by
 simp only[eB]
 cases aB h id aj<;>rfl
theorem rK (l:List Int):ax fS (ints l)=some l:=by
 induction l with
 |nil=>rfl
 |cons x l ih=>
  show ax fS ([.int .i64 x]::ints l)=_
  simp only[ax,fS,ih]
@[go_sem] theorem Fl {id aj n:Nat} {l:List Int} (hn:n=l.length) (h0:n≠0) (hm:n≤2147483648):yr id aj 0 n ⟨aj,1,.inl (ints l)⟩=some (.dv [],{ ar:=some (id,⟨aj,1,.inl (ints (cI oH l))⟩) }):=by
 subst hn
 have e1:(ints l).length=l.length:=aJ l
 simp[yr,h0,e1,aQ,hm,rK,List.take_of_length_le (Nat.le_of_eq e1),List.drop_eq_nil_of_le (Nat.le_of_eq e1)]
 rfl
@[go_sem] theorem yu (h:af):cr h true [.tl []]=some ([.ae 0 []],none):=rfl
def zB (id aj len:Nat) (a:aK):Option (List PV×Option (Nat×aK)):=
 if a.size=len∧a.k≠0 then (match a.body with
   |.inl rows=>some ([.fr a.k rows],some (id,⟨aj+1,0,.inl []⟩))
   |.inr _=>none) else none
@[go_sem] theorem Fm (h:af) (id aj len:Nat):cr h true [.own id aj 0 len]=(aB h id aj).bind (zB id aj len):=by
 simp only[cr,cm]
 cases aB h id aj with
 |none=>rfl
 |some a=>
  simp only[Option.bind_some,if_true,zB]
  by_cases hc:a.size=len∧a.k≠0
  ·cases hb:a.body<;>simp[hc,ax]
  ·simp[hc]
@[go_sem] theorem G8 {id aj v len:Nat} {l:List Int} (hn:len=l.length):zB id aj len ⟨v,1,.inl (ints l)⟩=some ([.fr 1 (ints l)],some (id,⟨aj+1,0,.inl []⟩)):=by
 subst hn
 simp[zB,aK.size,aJ]
theorem wL:∀{l:List Int},l.length<2→cX l=l
 |[],_=>rfl
 |[_],_=>rfl
 |_::_::_,h=>by simp at h; omega
@[go_sem] theorem r104 (l:List Int) (h0:l.length≤2000000000):res A az 104 [.fr 1 (ints l)]=some [.fr 1 (ints (cX l))]:=by
 rcases Po l.length 2 with h|h
 ·rw[r104_small l h,wL h]
 ·exact r104_big l h h0
@[go_sem] theorem r104_nil:res A az 104 [.ae 0 []]=some [.ae 0 []]:=by
 refine aq a104 rfl rfl ?_
 simp only[F104]; try delta sS tT zZ nN gG bB pZ
 have h2:(((0:Nat):Nat):Int)<2:=by omega
 simp(disch:=omega)only[go_sem,h2]
 rfl
@[go_sem] theorem oU (l:List Int):(cI oH l).length=l.length:=(ch oH l).length_eq
end Go.Pv
namespace Go.Pv
theorem tD:∀{l:List Int} {x:Int},x∈cX l↔x∈l
 |[],_=>by simp[cX]
 |[y],_=>by simp[cX]
 |y::z::r,x=>by
  have ih:=tD (l:=z::r) (x:=x)
  unfold cX
  split
  ·rename_i h
   subst h
   rw[ih]
   simp
  ·simp only[List.mem_cons]at ih ⊢
   rw[ih]
theorem tE:∀l:List Int,(cX l).length≤l.length
 |[]=>Pu _
 |[_]=>Pu _
 |x::y::r=>by
  have:=tE (y::r)
  unfold cX
  split<;>simp at *<;>omega
def tF (l:List Int):List Int:=cX (cI oH l)
theorem Ax (l:List Int):(tF l).length≤l.length:=by
 have:=tE (cI oH l)
 rw[oU]at this
 exact this
theorem tG {l:List Int} {x:Int}:x∈tF l↔x∈l:=by
 unfold tF
 rw[tD,(ch oH l).mem_iff]
theorem rL {x:Int}:∀{l:List Int} {k:Nat},eD x k l<0↔x∉l
 |[],k=>by simp[eD]
 |y::r,k=>by
  unfold eD
  split
  ·rename_i h
   subst h
   simp
  ·rename_i h
   rw[rL]
   simp only[List.mem_cons,not_or]
   exact⟨fun h2=>⟨fun e=>h e.symm,h2⟩,fun h2=>h2.2⟩
theorem nO {x:Int} {l:List Int}:rI x l<0↔x∉l:=rL
theorem qf {x:Int} {l:List Int}:0≤rI x l↔x∈l:=by
 rw[← Int.not_lt,nO]
 simp
end Go.Pv
namespace Go.Pv
structure bF.Good (a:bF):Prop where
 st:0≤a.start∧a.start<a.aw
 mx:a.aw≤12
 len:a.aA.length≤100
 fit:∀e∈a.aA,e.fits a.aw=true
 ON:a.aA.Pairwise (fun x y=>Edge.lt x y=true)
theorem Edge.Fo (x y z:Edge) (h1:Edge.lt x y=true) (h2:Edge.lt y z=true):Edge.lt x z=true:=by
 unfold Edge.lt at *
 by_cases a1:x.fr=y.fr<;>by_cases a2:y.fr=z.fr<;>by_cases b1:x.send=y.send<;>by_cases b2:y.send=z.send<;>simp_all<;>(try omega)
 all_goals (try (have:¬x.fr=z.fr:=by omega); simp_all; omega)
theorem Edge.Et {x y:Edge}:CC Edge.lt x y↔¬(x.fr=y.fr∧x.send=y.send∧x.label=y.label):=by
 unfold CC Edge.lt
 by_cases a1:x.fr=y.fr
 ·cases h1:x.send<;>cases h2:y.send<;>simp[a1]<;>omega
 ·have:¬y.fr=x.fr:=fun h=>a1 h.symm
  simp[a1,this]
  omega
theorem zC {n:Int}:∀{p:Option Edge} {l:List Edge},rk n p l=true→l.Pairwise (fun x y=>Edge.lt x y=true)∧∀q,p=some q→∀e∈l,Edge.lt q e=true
 |_,[],_=>⟨List.Pairwise.nil,fun _ _ e he=>absurd he (by simp)⟩
 |p,x::r,h=>by
  simp only[rk,Bool.and_eq_true]at h
  obtain⟨h1,h2⟩:=zC h.2
  refine⟨PH.2 ⟨h2 x rfl,h1⟩,fun q hq e he=>?_⟩
  subst hq
  have hx:Edge.lt q x=true:=h.1.2
  rcases PO.1 he with rfl|he
  ·exact hx
  ·exact Edge.Fo _ _ _ hx (h2 x rfl e he)
theorem CJ {n:Int}:∀{p:Option Edge} {l:List Edge},l.Pairwise (fun x y=>Edge.lt x y=true)→(∀e∈l,e.fits n=true)→(∀q,p=some q→∀e∈l,Edge.lt q e=true)→rk n p l=true
 |_,[],_,_,_=>rfl
 |p,x::r,h1,h2,h3=>by
  obtain⟨g1,g2⟩:=PH.1 h1
  simp only[rk,Bool.and_eq_true]
  refine⟨⟨h2 x (by simp),?_⟩,CJ g2 (fun e he=>h2 e (by simp[he])) fun q hq e he=>?_⟩
  ·cases p with
   |none=>rfl
   |some q=>exact h3 q rfl x (by simp)
  ·cases hq
   exact g1 e he
theorem bF.rM {a:bF}:a.err=0↔a.Good:=by
 unfold bF.err
 constructor
 ·intro h
  split at h
  ·cases h
  ·split at h
   ·split at h
    ·rename_i h1 h2 h3
     exact⟨h2,by omega,by omega,wi h3,(zC h3).1⟩
    ·cases h
   ·cases h
 ·intro h
  have:=h.mx; have:=h.len
  rw[if_neg (by omega),if_pos h.st,if_pos (CJ h.ON h.fit (fun q hq=>by cases hq))]
theorem bF.Good.CC {a:bF} (h:a.Good):a.aA.Pairwise (CC Edge.lt):=h.ON.imp .inl
def outs (es:List Edge) (v:Int):List Int:=(es.filter fun e=>e.fr==v).map (·.to)
theorem CK {es:List Edge} {v x:Int}:x∈outs es v↔∃e∈es,e.fr=v∧e.to=x:=by simp[outs,and_assoc]
def bF.from (a:bF) (s:Int):List Int:=si (outs a.aA) a.aw.toNat 0 [s]
def bF.order (a:bF):List Int:=a.from a.start
def bF.inr (a:bF) (v:Int):Prop:=0≤v∧v<a.aw
theorem bF.Good.Eu {a:bF} (h:a.Good):∀v,a.inr v→∀x∈outs a.aA v,a.inr x:=by
 intro v _ x hx
 obtain⟨e,he,_,rfl⟩:=CK.1 hx
 have:=nz.1 (h.fit e he)
 exact⟨this.2.2.1,this.2.2.2.1⟩
theorem bF.bound {a:bF}:∀o:List Int,o.Nodup→(∀v∈o,a.inr v)→o.length≤a.aw.toNat:=fun o hd ho=>pG hd fun x hx=>by
 have:=ho x hx
 unfold bF.inr at this
 omega
theorem bF.yw (a:bF) (s:Int):(a.from s).Nodup:=oO _ _ (by simp)
theorem bF.Good.Ev {a:bF} (h:a.Good) {s:Int} (hs:a.inr s):∀v∈a.from s,a.inr v:=qe h.Eu _ _ (by simpa using hs)
theorem bF.Good.rN {a:bF} (h:a.Good) {s:Int} (hs:a.inr s):(a.from s).length≤a.aw.toNat:=a.bound _ (a.yw s) (h.Ev hs)
theorem rO {x:Int}:∀{l:List Int} {k:Nat},x∈l→∃j,eD x k l=((k+j:Nat):Int)∧l[j]?=some x
 |[],_,h=>absurd h (by simp)
 |y::r,k,h=>by
  unfold eD
  split
  ·rename_i hy
   exact⟨0,rfl,by simp[hy]⟩
  ·rename_i hy
   rcases PO.1 h with rfl|h
   ·exact(hy rfl).elim
   ·obtain⟨j,h1,h2⟩:=rO (k:=k+1) h
    exact⟨j+1,by rw[h1]; omega,by simpa using h2⟩
theorem zD {x:Int} {l:List Int} (h:x∈l):∃j:Nat,rI x l=(j:Int)∧l[j]?=some x:=by
 obtain⟨j,h1,h2⟩:=rO (k:=0) h
 exact⟨j,by unfold rI; rw[h1,QF],h2⟩
theorem Ew {x y:Int} {l:List Int} (hx:x∈l) (hy:y∈l) (h:rI x l=rI y l):x=y:=by
 obtain⟨i,h1,h2⟩:=zD hx
 obtain⟨j,g1,g2⟩:=zD hy
 rw[h1,g1]at h
 have:i=j:=by omega
 subst this
 rw[h2]at g2
 exact Option.some.inj g2
def Edge.LC (o:List Int) (e:Edge):Edge:=⟨rI e.fr o,e.send,e.label,rI e.to o⟩
def kept (o:List Int) (es:List Edge):List Edge:=(es.filter fun e=>decide (e.fr∈o)).map (Edge.LC o)
def bF.trim (a:bF):bF:=⟨a.order.length,0,cI Edge.lt (kept a.order a.aA)⟩
theorem CL {o:List Int} {es:List Edge} (h:es.Pairwise (CC Edge.lt)):(kept o es).Pairwise (CC Edge.lt):=by
 unfold kept
 rw[List.pairwise_map]
 have h2:=h.filter (fun e=>decide (e.fr∈o))
 refine List.Pairwise.imp_of_mem (fun {x y} hx hy hxy=>?_) h2
 have hx':=(List.mem_filter.1 hx).2
 have hy':=(List.mem_filter.1 hy).2
 simp only[decide_eq_true_eq]at hx' hy'
 rw[Edge.Et]at hxy ⊢
 exact fun⟨e1,e2,e3⟩=>hxy ⟨Ew hx' hy' e1,e2,e3⟩
def bF.proper (a:bF):Bool:=a.order.all fun v=>(a.from v).any fun w=>CI w a.aA
end Go.Pv
namespace Go.Pv
end Go.Pv
namespace Go.Pv
end Go.Pv
namespace Go.Pv
theorem Ay {α:Type} {a b:List α} {k:Nat} {x y:α} (hx:a[k]?=some x) (hy:b[k]?=some y) (h:a.take k=b.take k) (e:x=y):a.take (k+1)=b.take (k+1):=by
 rw[PF,PF,hx,hy,h,e]
theorem Az {α:Type} {a b:List α} {k:Nat} (ha:a.length≤k) (hb:b.length≤k) (h:a.take k=b.take k):a=b:=by
 rwa [Py ha,Py hb]at h
end Go.Pv
namespace Go.Pv
@[go_sem] theorem G9 (l:List Edge) (f:Int) (d:Bool) (x t:Int):cM l++[[.int .i64 f,.bool d,.int .i64 x,.int .i64 t]]=cM (l++[⟨f,d,x,t⟩]):=by simp[cM,Edge.c]
theorem CM (e:Edge):(⟨e.fr,e.send,e.label,e.to⟩:Edge)=e:=rfl
@[go_sem] theorem Ha {id row aj:Nat} {f x t:Int} {d:Bool} {l:List Edge} (h1:row<l.length):dq id row 0 [.pv (.int .i64 f),.pv (.bool d),.pv (.int .i64 x),.pv (.int .i64 t)] ⟨aj,4,.inl (cM l)⟩=some { ar:=some (id,⟨aj,4,.inl (cM (l.set row ⟨f,d,x,t⟩))⟩) }:=by
 rw[gK (l:=[.int .i64 f,.bool d,.int .i64 x,.int .i64 t]) (by rw[bM]; exact h1) rfl (by simp) rfl]
 have:uk row 0 [.int .i64 f,.bool d,.int .i64 x,.int .i64 t] (cM l)=cM (l.set row ⟨f,d,x,t⟩):=by
  unfold uk cM
  rw[List.map_set]
  congr 1
  obtain⟨e,he⟩:∃e,l[row]?=some e:=⟨l[row],by simp[h1]⟩
  simp[he,Edge.c]
 rw[this]
set_option maxHeartbeats 2000000 in
@[go_sem] theorem r43 (t:Nat) (a:bF) (hl:a.aA.length≤2000000000):
  res A az 43 [.agg [.int .i64 a.aw,.int .i64 a.start,.ae t (a.aA.map Edge.c)]]=some [.agg [.int .i64 a.aw,.int .i64 a.start,.ae 0 (cM (wJ Edge.lt a.aA))]]:=by
 refine aq a43 rfl rfl ?_
 simp only[F43]; try delta sS tT zZ nN gG bB pZ
 simp(disch:=omega)only[go_sem]
 refine W.fold a.aA (fun o x=>CD Edge.lt x o) [] (fun k o=>⟨[(1,.ptr 1 0),(2,.ptr 2 0),(3,.ptr 3 0),(4,.pv (.int .i64 k))],⟨[(1,[.pv (.int .i64 a.aw),.pv (.int .i64 a.start),.pv (.ae t (a.aA.map Edge.c))]),(2,[.pv (.int .i64 0),.pv (.int .i64 0),.tl []]),(3,[.pv (.int .i64 a.aw),.pv (.int .i64 a.start),eu 0 (cM o)])],dY 4 (cM o),[]⟩⟩) (fun k o=>o.length=k) rfl rfl (fun k e o he hk _ hi=>?_) (fun o ho hi=>?_)
 ·simp(disch:=omega)only[go_sem]
  refine Br.aG (fun h=>?_) (fun h=>(h (by omega)).elim)
  simp(disch:=omega)only[go_sem,he]
  have hlen:(cM (o++[e])).length=o.length+1:=by simp[cM]
  refine W.dD o.length (fun j=>⟨[(1,.ptr 1 0),(2,.ptr 2 0),(3,.ptr 3 0),(4,.pv (.int .i64 k)),(5,.pv (.int .i64 (o.length - j:Nat)))],⟨[(1,[.pv (.int .i64 a.aw),.pv (.int .i64 a.start),.pv (.ae t (a.aA.map Edge.c))]),(2,[.pv (.int .i64 0),.pv (.int .i64 0),.tl []]),(3,[.pv (.int .i64 a.aw),.pv (.int .i64 a.start),.own 0 o.length 0 (o.length+1)])],[⟨o.length,4,.inl (cM (mu e o (o.length - j)))⟩],[]⟩⟩)
   (fun j=>Er Edge.lt e o o.length=Er Edge.lt e o (o.length - j)) ?_ rfl fun j hj hq=>?_
  ·rw[nB hlen,jW hlen,show (((o.length+1:Nat):Int) - 1)=((o.length - 0:Nat):Int) by omega]
   simp[mu]
  have hpl:=rH e o (o.length - j) (by omega)
  have hp0:=zy e o (o.length - j) (by omega)
  simp(disch:=omega)only[go_sem]
  have fin:Er Edge.lt e o o.length=o.length - j→CD Edge.lt e o=mu e o (o.length - j):=fun hb=>by unfold CD; rw[hb]
  refine Br.aG (fun f1=>?_) (fun f1=>?_)
  ·obtain⟨p,hp⟩:∃p,o.length - j=p+1:=⟨o.length - j - 1,by omega⟩
   have hpb:=yp e o p (by omega)
   have hpd:=Av e o p (by omega)
   have e1:((p+1:Nat):Int) - 1=(p:Int):=by omega
   have e2:o.length - (j+1)=p:=by omega
   rw[hp]at hq hpl hp0 fin
   have f2:(0:Int)<((p+1:Nat):Int):=by omega
   have hpl2:((mu e o (p+1)).set (p+1) (o.getD p default)).length=o.length+1:=by rw[Qa]; exact hpl
   simp(disch:=omega)only[go_sem,hp,hp0,f2,e1,hpb]
   refine Br.of (fun f3=>?_) (fun f3=>?_)<;>simp(disch:=omega)only[go_sem,f3,hp0,e1,hpb,hpd,CM]
   ·refine .of (by omega) ?_ ?_
    ·show _=St.mk _ _
     rw[e2]
    ·rw[hq,e2]
     simp only[Er,f3,if_true]
   ·refine cD.of ?_ ?_
    ·show _=St.mk _ _
     rw[fin (by rw[hq]; simp only[Er,f3,Bool.false_eq_true,if_false]),nB (by rw[bM]; exact hpl),jW (by rw[bM]; exact hpl)]
     rfl
    ·rw[wI]
     omega
  ·have h0:o.length - j=0:=by omega
   simp(disch:=omega)only[go_sem,f1]
   rw[h0]at hq hpl hp0 fin ⊢
   refine cD.of ?_ ?_
   ·show _=St.mk _ _
    rw[fin hq,nB (by rw[bM]; exact hpl),jW (by rw[bM]; exact hpl)]
    rfl
   ·rw[wI]
    omega
 ·simp(disch:=omega)only[go_sem]
  rw[ho]
  rfl
end Go.Pv
namespace Go.Pv
theorem fold_filter {α β:Type} (p:α→Bool) (f:α→β):∀(l:List α) (o:List β),l.foldl (fun o x=>if p x=true then o++[f x] else o) o=o++(l.filter p).map f
 |[],o=>by simp
 |x::l,o=>by
  rw[Qw,fold_filter p f l]
  by_cases h:p x=true<;>simp[h]
@[go_sem] theorem r43e (t:Nat) (n s:Int) (l:List Edge) (hl:l.length≤2000000000):res A az 43 [.agg [.int .i64 n,.int .i64 s,.ae t (cM l)]]=some [.agg [.int .i64 n,.int .i64 s,.ae 0 (cM (wJ Edge.lt l))]]:=r43 t ⟨n,s,l⟩ hl
theorem CO (l:List Edge):ax Edge.dec (cM l)=some l:=by
 induction l with
 |nil=>rfl
 |cons x l ih=>
  show ax Edge.dec (x.c::cM l)=_
  have:Edge.dec x.c=some x:=rfl
  simp only[ax,this,ih]
theorem yx {h:af} {id aj n:Nat} {l:List Edge} (hn:n=l.length) (ho:aB h id aj=some ⟨aj,4,.inl (cM l)⟩) (h0:l.length≠0) (hm:l.length≤2147483648) (hap:l.Pairwise (CC Edge.lt)):
  jn 4 (gm Edge.c Edge.dec Edge.lt) 47 [.own id aj 0 n,.func 47 []] h=some (.dv [],{ ar:=some (id,⟨aj,4,.inl (cM (cI Edge.lt l))⟩) }):=by
 subst hn
 have e1:(cM l).length=l.length:=bM l
 have hr:=tC (wK Edge.Fo hap)
 simp[jn,ho,h0,e1,aQ,hm,gm,CO,hr,List.take_of_length_le (Nat.le_of_eq e1),List.drop_eq_nil_of_le (Nat.le_of_eq e1)]
 rfl
end Go.Pv
namespace Go.Pv
theorem CP {a b:Edge} (h1:a.fr=b.fr) (h2:a.send=b.send) (h3:a.label=b.label) (h4:a.to=b.to):a=b:=by
 cases a; cases b; simp_all
theorem CQ (a b:Edge):(decide (a.fr=b.fr)&&(decide (a.send=b.send)&&(decide (a.label=b.label)&&decide (a.to=b.to))))=decide (a=b):=by
 by_cases h:a=b
 ·subst h; simp
 ·have:¬(a.fr=b.fr∧a.send=b.send∧a.label=b.label∧a.to=b.to):=fun⟨h1,h2,h3,h4⟩=>h (CP h1 h2 h3 h4)
  simp only[h,decide_false,Bool.and_eq_false_iff,decide_eq_false_iff_not]
  by_cases h1:a.fr=b.fr<;>by_cases h2:a.send=b.send<;>by_cases h3:a.label=b.label<;>by_cases h4:a.to=b.to<;>simp_all
set_option maxHeartbeats 1000000 in
@[go_sem] theorem r15 (t u:Nat) (a b:bF) (ha:a.aA.length≤2^63 - 1) (hb:b.aA.length≤2^63 - 1):res A az 15 [.agg [.int .i64 a.aw,.int .i64 a.start,.ae t (a.aA.map Edge.c)],.agg [.int .i64 b.aw,.int .i64 b.start,.ae u (b.aA.map Edge.c)]]=some [.bool (decide (a=b))]:=by
 refine aq a15 rfl rfl ?_
 simp only[F15]; try delta sS tT zZ nN gG bB pZ
 simp(disch:=omega)only[go_sem]
 refine Br.aG (fun h1=>?_) (fun h1=>?_)<;>simp(disch:=omega)only[go_sem,h1]
 case refine_2=>
  have:¬a=b:=fun e=>h1 (by rw[e])
  simp[this]
 refine Br.aG (fun h2=>?_) (fun h2=>?_)<;>simp(disch:=omega)only[go_sem,h2]
 case refine_2=>
  have:¬a=b:=fun e=>h2 (by rw[e])
  simp[this]
 refine Br.aG (fun h3=>?_) (fun h3=>?_)<;>simp(disch:=omega)only[go_sem,h3]
 case refine_2=>
  have:¬a=b:=fun e=>h3 (by rw[e])
  simp[this]
 refine W.dD a.aA.length (fun k=>⟨[(2,.ptr 2 0),(3,.ptr 3 0),(5,.pv (.int .i64 k))],⟨[(2,[.pv (.int .i64 b.aw),.pv (.int .i64 b.start),.pv (.ae t (a.aA.map Edge.c))]),(3,[.pv (.int .i64 b.aw),.pv (.int .i64 b.start),.pv (.ae u (b.aA.map Edge.c))])],[],[]⟩⟩) (fun k=>a.aA.take k=b.aA.take k) rfl rfl fun k hk hi=>?_
 simp(disch:=omega)only[go_sem]
 refine Br.aG (fun g=>?_) (fun g=>?_)
 ·obtain⟨x,hx⟩:=get_at (l:=a.aA) (k:=k) (by omega)
  obtain⟨y,hy⟩:=get_at (l:=b.aA) (k:=k) (by omega)
  simp(disch:=omega)only[go_sem,hx,hy,CQ]
  refine Br.aG (fun f=>?_) (fun f=>?_)<;>simp(disch:=omega)only[go_sem,f]
  ·exact .of (by omega) rfl (Ay hx hy hi f)
  ·have:¬a=b:=fun e=>f (by rw[e,hy]at hx; exact(Option.some.inj hx).symm)
   simp[this]
 ·simp(disch:=omega)only[go_sem]
  have h4:=Az (k:=k) (by omega) (by omega) hi
  have:a=b:=by cases a; cases b; simp_all
  simp[this]
end Go.Pv
namespace Go.Pv
structure Hb where
 fr:Int
 act:Int
 to:Int
 deriving DecidableEq,Inhabited
structure pI where
 n:Int
 Hx:List Hb
 deriving DecidableEq,Inhabited
def Hb.c (x:Hb):List PV:=[.int .u8 x.fr,.int .u8 x.act,.int .u8 x.to]
def Hb.ok (x:Hb):Prop:=(0≤x.fr∧x.fr≤255)∧(0≤x.act∧x.act≤255)∧(0≤x.to∧x.to≤255)
def pI.ok (d:pI):Prop:=(0≤d.n∧d.n≤255)∧d.Hx.length≤2^63 - 1∧∀x∈d.Hx,x.ok
def Hb.NU (st:Int) (x:Hb):Edge:=⟨x.fr%st,decide (x.act%2=1),1+x.act/2%3,x.to%st⟩
def NV (es:List Edge) (e:Edge):List Edge:=if (Fk e.fr e.send e.label es).isSome=true then es else es++[e]
def pI.raw (d:pI):List Edge:=(d.Hx.take 12).foldl (fun es x=>NV es (x.NU (1+d.n%4))) []
def pI.auto (d:pI):bF:=⟨1+d.n%4,0,wJ Edge.lt d.raw⟩
end Go.Pv
namespace Go.Pv
attribute [go_sem] wrap_u8
end Go.Pv
namespace Go.Pv
theorem tH (es:List Edge) (v:Int):∀o:List Int,es.foldl (fun o e=>if e.fr=v then ep o e.to else o) o=uN o (outs es v):=by
 induction es with
 |nil=>intro o; rfl
 |cons e es ih=>
  intro o
  rw[Qw,ih]
  by_cases h:e.fr=v
  ·rw[if_pos h]
   simp[outs,h,lu]
  ·rw[if_neg h]
   simp[outs,h]
theorem nP {n b:Nat} {o:List Int} {x:Int} (h:b≤o.length):ml n b (ints (o++[x]))=.own n (o.length - b) 0 (o.length+1):=by
 rw[← hV,wt (by rw[aJ]; exact h),aJ]
theorem nQ {b:Nat} {o:List Int} {x:Int} (h:b≤o.length):tw 1 b (ints (o++[x]))=[⟨o.length - b,1,.inl (ints (o++[x]))⟩]:=by
 rw[← hV,wu (by rw[aJ]; exact h),aJ]
theorem cq (l:List Int):(ints l).length=l.length:=aJ l
set_option maxHeartbeats 4000000 in
@[go_sem] theorem r52 (t:Nat) (a:bF) (hg:a.Good):
  res A az 52 [.agg [.int .i64 a.aw,.int .i64 a.start,.ae t (a.aA.map Edge.c)]]=some [.ae 0 (ints a.order)]:=by
 refine aq a52 rfl rfl ?_
 simp only[F52]; try delta sS tT zZ nN gG bB pZ
 obtain⟨g1,g2,g3,g4,g5⟩:=hg
 have hg:a.Good:=⟨g1,g2,g3,g4,g5⟩
 simp(disch:=omega)only[go_sem]
 refine W.loop (α:=Nat×List Int) (fun x=>⟨[(1,.ptr 1 0),(3,ml 0 1 (ints x.2)),(4,.pv (.int .i64 x.1))],⟨[(1,[.pv (.int .i64 a.aw),.pv (.int .i64 a.start),.pv (.ae t (a.aA.map Edge.c))])],tw 1 1 (ints x.2),[]⟩⟩)
  (fun x=>x.2.Nodup∧(∀v∈x.2,a.inr v)∧1≤x.2.length∧x.1≤x.2.length∧si (outs a.aA) (a.aw.toNat - x.1) x.1 x.2=a.order) (fun x=>a.aw.toNat - x.1) (0,[a.start]) rfl ⟨by simp,fun w hw=>(List.mem_singleton.1 hw) ▸ hg.st,by simp,by simp,rfl⟩ fun x hx=>?_
 obtain⟨i,o⟩:=x
 obtain⟨hd,hin,h1,h2,hb⟩:=hx
 dsimp only at hd hin h1 h2 hb
 have hlen:=a.bound o hd hin
 simp(disch:=omega)only[go_sem]
 refine Br.aG (fun h=>?_) (fun h=>?_)
 ·obtain⟨v,hv⟩:=get_at (l:=o) (k:=i) (by omega)
  simp(disch:=omega)only[go_sem]
  refine W.fold a.aA (fun o e=>if e.fr=v then ep o e.to else o) o (fun k o=>⟨[(1,.ptr 1 0),(3,ml 0 1 (ints o)),(4,.pv (.int .i64 i)),(5,.pv (.int .i64 k))],⟨[(1,[.pv (.int .i64 a.aw),.pv (.int .i64 a.start),.pv (.ae t (a.aA.map Edge.c))])],tw 1 1 (ints o),[]⟩⟩)
   (fun _ o=>o.Nodup∧(∀v∈o,a.inr v)∧1≤o.length∧o[i]?=some v) rfl ⟨hd,hin,h1,hv⟩ (fun k e o he hk _ hi=>?_) (fun o ho hi=>?_)
  ·obtain⟨hd,hin,h1,hv⟩:=hi
   have hlen:=a.bound o hd hin
   have hef:=nz.1 (g4 e (Ph he))
   have hto:a.inr e.to:=⟨hef.2.2.1,hef.2.2.2.1⟩
   have hI:(if e.fr=v then ep o e.to else o).Nodup∧(∀w∈(if e.fr=v then ep o e.to else o),a.inr w)∧1≤(if e.fr=v then ep o e.to else o).length∧(if e.fr=v then ep o e.to else o)[i]?=some v:=by
    split
    ·obtain⟨r,hr⟩:=nK o e.to
     have hil:=(Pg.1 hv).1
     refine⟨j4 hd,fun x hx=>(nJ.1 hx).elim (hin x) (fun q=>q ▸ hto),by rw[← hr,Pp]; omega,by rw[← hr,Pl hil]; exact hv⟩
    ·exact⟨hd,hin,h1,hv⟩
   have hstay:e.fr=v→¬rI e.to o<0→(if e.fr=v then ep o e.to else o)=o:=fun h1 h2=>by rw[if_pos h1,ep,if_pos (qf.1 (by omega))]
   have hmore:e.fr=v→rI e.to o<0→(if e.fr=v then ep o e.to else o)=o++[e.to]:=fun h1 h2=>by rw[if_pos h1,ep,if_neg (nO.1 h2)]
   rcases kS (b:=1) (rows:=ints o)with hc|⟨m,hc⟩
   ·rw[gQ hc,gR hc]
    rw[cq]at hc
    simp(disch:=omega)only[go_sem]
    refine Br.aG (fun h=>?_) (fun h=>(h (by omega)).elim)
    simp(disch:=omega)only[go_sem,he,hv]
    refine Br.aG (fun f1=>?_) (fun f1=>?_)<;>simp(disch:=omega)only[go_sem,f1]
    ·refine Br.aG (fun f2=>?_) (fun f2=>?_)<;>simp(disch:=omega)only[go_sem,f2]
     ·refine cD.of ?_ hI
      show _=St.mk _ _
      rw[hmore f1 f2,nP h1,nQ h1,show o.length - 1=0 by omega]
      rfl
     ·refine cD.of ?_ hI
      show _=St.mk _ _
      rw[hstay f1 f2,gQ (by rw[cq]; exact hc),gR (by rw[cq]; exact hc)]
      rfl
    ·refine cD.of ?_ hI
     show _=St.mk _ _
     rw[if_neg f1,gQ (by rw[cq]; exact hc),gR (by rw[cq]; exact hc)]
     rfl
   ·rw[ga hc,gb hc]
    rw[cq]at hc
    have hil:=(Pg.1 hv).1
    have ht:o.take (1+m+1)=o:=Py (by omega)
    have hi0:(0:Int)≤(i:Int):=by omega
    simp(disch:=omega)only[go_sem]
    refine Br.aG (fun h=>?_) (fun h=>(h (by omega)).elim)
    simp(disch:=omega)only[go_sem,he,hv]
    refine Br.aG (fun f1=>?_) (fun f1=>?_)<;>simp(disch:=omega)only[go_sem,f1,ht]
    ·refine Br.aG (fun f2=>?_) (fun f2=>?_)<;>simp(disch:=omega)only[go_sem,f2]
     ·refine cD.of ?_ hI
      show _=St.mk _ _
      rw[hmore f1 f2,nP h1,nQ h1,show o.length - 1=m+1 by omega,hc]
      rfl
     ·refine cD.of ?_ hI
      show _=St.mk _ _
      rw[hstay f1 f2,ga (by rw[cq]; exact hc),gb (by rw[cq]; exact hc)]
      rfl
    ·refine cD.of ?_ hI
     show _=St.mk _ _
     rw[if_neg f1,ga (by rw[cq]; exact hc),gb (by rw[cq]; exact hc)]
     rfl
  ·rw[tH]at ho
   simp(disch:=omega)only[go_sem]
   obtain⟨hd',hin',h1',hv'⟩:=hi
   have hl':=a.bound o hd' hin'
   have hil:=(Pg.1 hv').1
   refine⟨(i+1,o),⟨hd',hin',h1',hil,?_⟩,by dsimp only; omega,rfl⟩
   dsimp only
   rw[← hb,ho]
   obtain⟨q,hq⟩:∃q,a.aw.toNat - i=q+1:=⟨a.aw.toNat - i - 1,by omega⟩
   rw[hq,rz hv]
   congr 1
   omega
 ·simp(disch:=omega)only[go_sem]
  rw[uO (by omega)]at hb
  rw[hb]
end Go.Pv
namespace Go.Pv
def ja (x y:Int) (n k:Nat):List Int:=List.replicate k x++List.replicate (n - k) y
theorem yy {x y:Int} {n k:Nat} (h:k≤n):(ja x y n k).length=n:=by simp[ja]; omega
theorem wM (x y:Int) (n:Nat):ja x y n 0=List.replicate n y:=by simp[ja]
theorem yz (x y:Int) (n:Nat):ja x y n n=List.replicate n x:=by simp[ja]
theorem wN {x y:Int} {n k:Nat} (h:k<n):(ja x y n k).set k x=ja x y n (k+1):=by
 unfold ja
 rw[List.set_append_right _ _ (by simp)]
 obtain⟨m,hm⟩:∃m,n - k=m+1:=⟨n - k - 1,by omega⟩
 have:n - (k+1)=m:=by omega
 rw[hm,this,List.replicate_succ' (n:=k),PG]
 simp[List.replicate_succ]
def gz (n:Nat) (o:List Int):List Int:=(List.range n).map fun(v:Nat)=>rI (v:Int) o
theorem eS (n:Nat) (o:List Int):(gz n o).length=n:=by simp[gz]
theorem fV {n:Nat} {o:List Int} {v:Int} (h:0≤v∧v<n):(gz n o)[v.toNat]?=some (rI v o):=by
 unfold gz
 rw[Pn,List.getElem?_range (by omega)]
 simp only[Option.map_some]
 rw[show ((v.toNat:Nat):Int)=v by omega]
theorem pJ {x y:Int}:∀{l:List Int} {k:Nat},x∉l→eD y k (l++[x])=if y∈l then eD y k l else if y=x then ((k+l.length:Nat):Int) else -1
 |[],k,_=>by
  simp only[List.nil_append,eD,List.not_mem_nil,if_false,List.length_nil,Nat.add_zero]
  by_cases h:x=y
  ·simp[h]
  ·have:¬y=x:=fun e=>h e.symm
   simp[h,this]
 |z::l,k,hx=>by
  simp only[List.mem_cons,not_or]at hx
  simp only[List.cons_append,eD]
  by_cases h:z=y
  ·simp[h]
  ·have hz:¬y=z:=fun e=>h e.symm
   rw[if_neg h,pJ hx.2]
   simp only[List.mem_cons,hz,false_or,List.length_cons]
   split
   ·rfl
   ·split
    ·congr 1
     omega
    ·rfl
theorem CS {x y:Int} {l:List Int} (hx:x∉l):rI y (l++[x])=if y∈l then rI y l else if y=x then (l.length:Int) else -1:=by
 unfold rI
 rw[pJ hx]
 simp
theorem CT {x:Int} {l:List Int} (h:x∉l):rI x l= -1:=by
 have:∀{l:List Int} {k:Nat},x∉l→eD x k l= -1:=by
  intro l
  induction l with
  |nil=>intro k _; rfl
  |cons y l ih=>
   intro k h
   simp only[List.mem_cons,not_or]at h
   unfold eD
   rw[if_neg (fun e=>h.1 e.symm),ih h.2]
 exact this h
theorem kX {n:Nat} {o:List Int} {x:Int} (hx:x∉o) (h:0≤x∧x<n):(gz n o).set x.toNat (o.length:Int)=gz n (o++[x]):=by
 apply PW
 intro i
 rcases Po i n with hi|hi
 ·have e1:=fV (n:=n) (o:=o++[x]) (v:=(i:Int)) (by omega)
  rw[P9]at e1
  rw[e1,CS hx]
  by_cases hix:x.toNat=i
  ·have:(i:Int)=x:=by omega
   rw[hix,PJ (by rw[eS]; exact hi),if_neg (by rw[this]; exact hx),if_pos this]
  ·have hne:¬(i:Int)=x:=by omega
   have e2:=fV (n:=n) (o:=o) (v:=(i:Int)) (by omega)
   rw[P9]at e2
   rw[PD hix,e2]
   split
   ·rfl
   ·rename_i hno
    first
     |rw[CT hno]
     |rw[if_neg hne,CT hno]
 ·rw[List.getElem?_eq_none (by simp[eS,hi]),List.getElem?_eq_none (by simp[eS,hi])]
theorem yA (n:Nat):gz n []=List.replicate n (-1):=by
 apply PW
 intro i
 rcases Po i n with hi|hi
 ·have e1:=fV (n:=n) (o:=[]) (v:=(i:Int)) (by omega)
  rw[P9]at e1
  rw[e1]
  simp[hi]
  rfl
 ·rw[List.getElem?_eq_none (by simp[eS,hi]),List.getElem?_eq_none (by simp[hi])]
set_option maxHeartbeats 4000000 in
@[go_sem] theorem r50 (t:Nat) (a:bF) (hg:a.Good):
  res A az 50 [.agg [.int .i64 a.aw,.int .i64 a.start,.ae t (a.aA.map Edge.c)]]=some [.ae 0 (ints a.order),.ae 0 (ints (gz a.aw.toNat a.order))]:=by
 refine aq a50 rfl rfl ?_
 simp only[F50]; try delta sS tT zZ nN gG bB pZ
 obtain⟨g1,g2,g3,g4,g5⟩:=hg
 have hg:a.Good:=⟨g1,g2,g3,g4,g5⟩
 simp(disch:=omega)only[go_sem]
 refine W.dD a.aw.toNat (fun k=>⟨[(1,.ptr 1 0),(4,.own 0 0 0 a.aw.toNat),(14,.pv (.int .i64 a.aw.toNat)),(15,.pv (.int .i64 k))],⟨[(1,[.pv (.int .i64 a.aw),.pv (.int .i64 a.start),.pv (.ae t (a.aA.map Edge.c))])],[⟨0,1,.inl (ints (ja (-1) 0 a.aw.toNat k))⟩],[]⟩⟩) (fun _=>True) (by rw[wM]; rfl) trivial fun k hk _=>?_
 simp(disch:=omega)only[go_sem]
 refine Br.aG (fun h=>?_) (fun h=>?_)
 ·have ho:=yy (x:= -1) (y:=0) (n:=a.aw.toNat) (k:=k) (by omega)
  simp(disch:=omega)only[go_sem,wN (show k<a.aw.toNat by omega)]
  exact .of (by omega) rfl trivial
 obtain rfl:k=a.aw.toNat:=by omega
 clear h hk
 have hn:(List.replicate a.aw.toNat (-1:Int)).length=a.aw.toNat:=Qc
 have hp0:=kX (n:=a.aw.toNat) (o:=[]) (x:=a.start) (by simp) (by omega)
 rw[yA]at hp0
 simp only[List.length_nil,List.nil_append]at hp0
 have hp0':(List.replicate a.aw.toNat (-1:Int)).set a.start.toNat 0=gz a.aw.toNat [a.start]:=hp0
 simp(disch:=omega)only[go_sem,yz,hp0']
 refine W.loop (α:=Nat×List Int) (fun x=>⟨[(1,.ptr 1 0),(4,.own 0 0 0 a.aw.toNat),(6,ml 1 1 (ints x.2)),(7,.pv (.int .i64 x.1))],⟨[(1,[.pv (.int .i64 a.aw),.pv (.int .i64 a.start),.pv (.ae t (a.aA.map Edge.c))])],⟨0,1,.inl (ints (gz a.aw.toNat x.2))⟩::tw 1 1 (ints x.2),[]⟩⟩)
  (fun x=>x.2.Nodup∧(∀v∈x.2,a.inr v)∧1≤x.2.length∧x.1≤x.2.length∧si (outs a.aA) (a.aw.toNat - x.1) x.1 x.2=a.order) (fun x=>a.aw.toNat - x.1) (0,[a.start]) rfl ⟨by simp,fun w hw=>(List.mem_singleton.1 hw) ▸ hg.st,by simp,by simp,rfl⟩ fun x hx=>?_
 obtain⟨i,o⟩:=x
 obtain⟨hd,hin,h1,h2,hb⟩:=hx
 dsimp only at hd hin h1 h2 hb
 have hlen:=a.bound o hd hin
 simp(disch:=omega)only[go_sem]
 refine Br.aG (fun h=>?_) (fun h=>?_)
 ·obtain⟨v,hv⟩:=get_at (l:=o) (k:=i) (by omega)
  simp(disch:=omega)only[go_sem]
  refine W.fold a.aA (fun o e=>if e.fr=v then ep o e.to else o) o (fun k o=>⟨[(1,.ptr 1 0),(4,.own 0 0 0 a.aw.toNat),(6,ml 1 1 (ints o)),(7,.pv (.int .i64 i)),(36,.pv (.ae t (a.aA.map Edge.c))),(37,.pv (.int .i64 a.aA.length)),(38,.pv (.int .i64 k))],⟨[(1,[.pv (.int .i64 a.aw),.pv (.int .i64 a.start),.pv (.ae t (a.aA.map Edge.c))])],⟨0,1,.inl (ints (gz a.aw.toNat o))⟩::tw 1 1 (ints o),[]⟩⟩)
   (fun _ o=>o.Nodup∧(∀v∈o,a.inr v)∧1≤o.length∧o[i]?=some v) rfl ⟨hd,hin,h1,hv⟩ (fun k e o he hk _ hi=>?_) (fun o ho hi=>?_)
  ·obtain⟨hd,hin,h1,hv⟩:=hi
   have hlen:=a.bound o hd hin
   have hef:=nz.1 (g4 e (Ph he))
   have hto:a.inr e.to:=⟨hef.2.2.1,hef.2.2.2.1⟩
   have hI:(if e.fr=v then ep o e.to else o).Nodup∧(∀w∈(if e.fr=v then ep o e.to else o),a.inr w)∧1≤(if e.fr=v then ep o e.to else o).length∧(if e.fr=v then ep o e.to else o)[i]?=some v:=by
    split
    ·obtain⟨r,hr⟩:=nK o e.to
     have hil:=(Pg.1 hv).1
     refine⟨j4 hd,fun x hx=>(nJ.1 hx).elim (hin x) (fun q=>q ▸ hto),by rw[← hr,Pp]; omega,by rw[← hr,Pl hil]; exact hv⟩
    ·exact⟨hd,hin,h1,hv⟩
   have hstay:e.fr=v→¬rI e.to o<0→(if e.fr=v then ep o e.to else o)=o:=fun h1 h2=>by rw[if_pos h1,ep,if_pos (qf.1 (by omega))]
   have hmore:e.fr=v→rI e.to o<0→(if e.fr=v then ep o e.to else o)=o++[e.to]:=fun h1 h2=>by rw[if_pos h1,ep,if_neg (nO.1 h2)]
   have hpl:=eS a.aw.toNat o
   have hpg:=fV (n:=a.aw.toNat) (o:=o) (v:=e.to) (by omega)
   rcases kS (b:=1) (rows:=ints o)with hc|⟨m,hc⟩
   ·rw[gQ hc,gR hc]
    rw[cq]at hc
    simp(disch:=omega)only[go_sem]
    refine Br.aG (fun h=>?_) (fun h=>(h (by omega)).elim)
    simp(disch:=omega)only[go_sem,he,hv]
    refine Br.aG (fun f1=>?_) (fun f1=>?_)<;>simp(disch:=omega)only[go_sem,f1,hpg]
    ·refine Br.aG (fun f2=>?_) (fun f2=>?_)<;>simp(disch:=omega)only[go_sem,f2]
     ·refine cD.of ?_ hI
      show _=St.mk _ _
      rw[hmore f1 f2,nP h1,nQ h1,show o.length - 1=0 by omega,← kX (nO.1 f2) (by omega)]
      rfl
     ·refine cD.of ?_ hI
      show _=St.mk _ _
      rw[hstay f1 f2,gQ (by rw[cq]; exact hc),gR (by rw[cq]; exact hc)]
      rfl
    ·refine cD.of ?_ hI
     show _=St.mk _ _
     rw[if_neg f1,gQ (by rw[cq]; exact hc),gR (by rw[cq]; exact hc)]
     rfl
   ·rw[ga hc,gb hc]
    rw[cq]at hc
    have hil:=(Pg.1 hv).1
    have ht:o.take (1+m+1)=o:=Py (by omega)
    have hi0:(0:Int)≤(i:Int):=by omega
    simp(disch:=omega)only[go_sem]
    refine Br.aG (fun h=>?_) (fun h=>(h (by omega)).elim)
    simp(disch:=omega)only[go_sem,he,hv]
    refine Br.aG (fun f1=>?_) (fun f1=>?_)<;>simp(disch:=omega)only[go_sem,f1,hpg]
    ·refine Br.aG (fun f2=>?_) (fun f2=>?_)<;>simp(disch:=omega)only[go_sem,f2]
     ·refine cD.of ?_ hI
      show _=St.mk _ _
      rw[hmore f1 f2,nP h1,nQ h1,← kX (nO.1 f2) (by omega),show o.length - 1=m+1 by omega,hc]
      rfl
     ·refine cD.of ?_ hI
      show _=St.mk _ _
      rw[hstay f1 f2,ga (by rw[cq]; exact hc),gb (by rw[cq]; exact hc)]
      rfl
    ·refine cD.of ?_ hI
     show _=St.mk _ _
     rw[if_neg f1,ga (by rw[cq]; exact hc),gb (by rw[cq]; exact hc)]
     rfl
  ·rw[tH]at ho
   simp(disch:=omega)only[go_sem]
   obtain⟨hd',hin',h1',hv'⟩:=hi
   have hl':=a.bound o hd' hin'
   have hil:=(Pg.1 hv').1
   refine⟨(i+1,o),⟨hd',hin',h1',hil,?_⟩,by dsimp only; omega,rfl⟩
   dsimp only
   rw[← hb,ho]
   obtain⟨q,hq⟩:∃q,a.aw.toNat - i=q+1:=⟨a.aw.toNat - i - 1,by omega⟩
   rw[hq,rz hv]
   congr 1
   omega
 ·simp(disch:=omega)only[go_sem]
  rw[uO (by omega)]at hb
  rw[hb,Py (by rw[eS]; exact Pu _)]
end Go.Pv
namespace Go.Pv
theorem tI (o:List Int) (es:List Edge):es.foldl (fun r e=>if 0≤rI e.fr o then r++[e.LC o] else r) []=kept o es:=by
 have h:=fold_filter (fun e:Edge=>decide (e.fr∈o)) (Edge.LC o) es []
 rw[List.nil_append]at h
 rw[← show _=kept o es from h]
 congr 1
 funext r e
 by_cases hc:e.fr∈o
 ·simp[hc,qf]
 ·simp[hc,qf]
theorem wO (o:List Int) (es:List Edge):(kept o es).length≤es.length:=by
 unfold kept
 rw[Pm]
 exact List.length_filter_le _ _
set_option maxHeartbeats 2000000 in
@[go_sem] theorem r33 (t:Nat) (a:bF) (hl:a.aA.length≤2000000000):
  res A az 33 [.agg [.int .i64 a.aw,.int .i64 a.start,.ae t (a.aA.map Edge.c)]]=some (if a.err=0 then [.agg [.int .i64 a.order.length,.int .i64 0,.ae 0 (cM (wJ Edge.lt (kept a.order a.aA)))],.int .i64 0] else [.agg [.int .i64 0,.int .i64 0,.ae 0 []],.int .i64 a.err]):=by
 refine aq a33 rfl rfl ?_
 simp only[F33]; try delta sS tT zZ nN gG bB pZ
 simp(disch:=omega)only[go_sem]
 refine Br.aG (fun h1=>?_) (fun h1=>?_)<;>simp(disch:=omega)only[go_sem,h1]
 have hg:=bF.rM.1 h1
 have hol:=hg.rN hg.st
 have hmx:=hg.mx
 have hol':a.order.length≤12:=by unfold bF.order; omega
 have hkl:=wO a.order a.aA
 simp(disch:=omega)only[go_sem,r52 t a hg]
 refine W.fold a.aA (fun r e=>if 0≤rI e.fr a.order then r++[e.LC a.order] else r) [] (fun k r=>⟨[(1,.ptr 1 0),(2,.ptr 2 0),(5,.pv (.ae 0 (ints a.order))),(6,.ptr 6 0),(7,.pv (.int .i64 k))],⟨[(1,[.pv (.int .i64 a.aw),.pv (.int .i64 a.start),.pv (.ae t (a.aA.map Edge.c))]),(2,[.pv (.int .i64 0),.pv (.int .i64 0),.tl []]),(6,[.pv (.int .i64 a.order.length),.pv (.int .i64 0),eu 0 (cM r)])],dY 4 (cM r),[]⟩⟩) (fun k r=>r.length≤k) rfl (Pu _) (fun k e r he hk _ hi=>?_) (fun r hr hi=>?_)
 ·simp(disch:=omega)only[go_sem]
  refine Br.aG (fun h=>?_) (fun h=>(h (by omega)).elim)
  simp(disch:=omega)only[go_sem,he]
  refine Br.aG (fun f=>?_) (fun f=>?_)<;>simp(disch:=omega)only[go_sem,f]
  ·refine cD.of ?_ (by rw[if_pos f]; simp; omega)
   show _=St.mk _ _
   rw[if_pos f]
   rfl
  ·refine cD.of ?_ (by rw[if_neg f]; omega)
   show _=St.mk _ _
   rw[if_neg f]
   rfl
 ·rw[tI]at hr
  subst hr
  simp(disch:=omega)only[go_sem]
  rw[if_pos h1]
def AA (l:List Edge):Tn:=if l.length=0 then {} else { ar:=some (0,⟨l.length - 1,4,.inl (cM (cI Edge.lt l))⟩) }
theorem CU {bx:List (Nat×List V)} {mp:List (List (PV×PV))} {l:List Edge} (hm:l.length≤2147483648) (hap:l.Pairwise (CC Edge.lt)):
  jn 4 (gm Edge.c Edge.dec Edge.lt) 47 [eu 0 (cM l),.func 47 []] ⟨bx,dY 4 (cM l),mp⟩=some (.dv [],AA l):=by
 rcases Qd l.length with h|h
 ·have:l=[]:=PC h
  subst this
  simp[AA,cM,eu,jn]
 ·obtain⟨m,hm'⟩:∃m,(cM l).length=m+1:=⟨l.length - 1,by rw[bM]; omega⟩
  rw[nB hm',jW hm']
  rw[bM]at hm'
  rw[yx (l:=l) hm'.symm (by simp[aB]) (by omega) hm hap,AA,if_neg (by omega),hm']
  rfl
@[go_sem] theorem Hc (bx:List (Nat×List V)) (mp:List (List (PV×PV))) (l:List Edge):(AA l).apply ⟨bx,dY 4 (cM l),mp⟩=⟨bx,dY 4 (cM (cI Edge.lt l)),mp⟩:=by
 have hp:=(ch Edge.lt l).length_eq
 rcases Qd l.length with h|h
 ·have:l=[]:=PC h
  subst this
  simp[AA,cM,cI,Tn.apply,dY]
 ·obtain⟨m,hm'⟩:∃m,(cM l).length=m+1:=⟨l.length - 1,by rw[bM]; omega⟩
  have hm2:(cM (cI Edge.lt l)).length=m+1:=by rw[bM,hp,← bM]; exact hm'
  rw[jW hm',jW hm2]
  rw[bM]at hm'
  simp[AA,Tn.apply,hm']
theorem Ey {n:Nat} {a b:List (List PV)} (h:a.length=b.length):eu n a=eu n b:=by
 cases a<;>cases b<;>simp_all [eu]
set_option maxHeartbeats 2000000 in
@[go_sem] theorem r32 (t:Nat) (a:bF) (hl:a.aA.length≤2000000000):
  res A az 32 [.agg [.int .i64 a.aw,.int .i64 a.start,.ae t (a.aA.map Edge.c)]]=some (if a.err=0 then [.agg [.int .i64 a.trim.aw,.int .i64 0,.ae 0 (cM a.trim.aA)],.int .i64 0] else [.agg [.int .i64 0,.int .i64 0,.ae 0 []],.int .i64 a.err]):=by
 refine aq a32 rfl rfl ?_
 simp only[F32]; try delta sS tT zZ nN gG bB pZ
 simp(disch:=omega)only[go_sem]
 refine Br.aG (fun h1=>?_) (fun h1=>?_)<;>simp(disch:=omega)only[go_sem,h1]
 have hg:=bF.rM.1 h1
 have hol:=hg.rN hg.st
 have hmx:=hg.mx
 have hol':a.order.length≤12:=by unfold bF.order; omega
 have hkl:=wO a.order a.aA
 have hpl:=eS a.aw.toNat a.order
 simp(disch:=omega)only[go_sem,r50 t a hg]
 refine W.fold a.aA (fun r e=>if 0≤rI e.fr a.order then r++[e.LC a.order] else r) [] (fun k r=>⟨[(2,.ptr 2 0),(6,.pv (.ae 0 (ints (gz a.aw.toNat a.order)))),(7,.ptr 7 0),(25,.pv (.ae t (a.aA.map Edge.c))),(26,.pv (.int .i64 a.aA.length)),(27,.pv (.int .i64 k))],⟨[(2,[.pv (.int .i64 0),.pv (.int .i64 0),.tl []]),(7,[.pv (.int .i64 a.order.length),.pv (.int .i64 0),eu 0 (cM r)])],dY 4 (cM r),[]⟩⟩) (fun k r=>r.length≤k) rfl (Pu _) (fun k e r he hk _ hi=>?_) (fun r hr hi=>?_)
 ·have hef:=nz.1 (hg.fit e (Ph he))
  have q1:=fV (n:=a.aw.toNat) (o:=a.order) (v:=e.fr) (by omega)
  have q2:=fV (n:=a.aw.toNat) (o:=a.order) (v:=e.to) (by omega)
  obtain⟨j1,hj1⟩:=Qp hef.1
  obtain⟨j2,hj2⟩:=Qp hef.2.2.1
  simp(disch:=omega)only[go_sem]
  refine Br.aG (fun h=>?_) (fun h=>(h (by omega)).elim)
  simp(disch:=omega)only[go_sem,he,gl,q1]
  refine Br.aG (fun f=>?_) (fun f=>?_)<;>simp(disch:=omega)only[go_sem,f,gl,q1,q2]
  ·refine cD.of ?_ (by rw[if_pos f]; simp; omega)
   show _=St.mk _ _
   rw[if_pos f]
   rfl
  ·refine cD.of ?_ (by rw[if_neg f]; omega)
   show _=St.mk _ _
   rw[if_neg f]
   rfl
 ·rw[tI]at hr
  subst hr
  simp(disch:=omega)only[go_sem]
  rw[CU (by omega) (CL hg.CC)]
  have hp:=(ch Edge.lt (kept a.order a.aA)).length_eq
  simp(disch:=omega)only[go_sem]
  rw[Ey (show (cM (kept a.order a.aA)).length=(cM (cI Edge.lt (kept a.order a.aA))).length by rw[bM,bM,hp])]
  simp(disch:=omega)only[go_sem]
  rw[if_pos h1]
  rfl
end Go.Pv
namespace Go.Pv
def NW (x:Bool×Int):List PV:=[.bool x.1,.int .i64 x.2]
@[go_sem] theorem MY (x:Bool×Int):NW x=[.bool x.1,.int .i64 x.2]:=rfl
end Go.Pv
namespace Go.Pv
def OQ (l:List (Int×Int)):List (List PV):=l.map fun x=>[.int .i64 x.1,.int .i64 x.2]
@[go_sem] theorem MZ:OQ []=[]:=rfl
end Go.Pv
namespace Go.Pv
end Go.Pv
namespace Go.Pv
def NX (ars:List aK) (x:V) (l:List Int):Prop:=
 ((x=.tl []∨x=.pv (.ae 0 []))∧l=[])∨∃id aj,x=.own (id+1) aj 0 l.length∧l≠[]∧ars[id]?=some ⟨aj,1,.inl (ints l)⟩
structure OL (n:Nat) (s:List (List Int)) (xs:List V) (ars:List aK):Prop where
 xl:xs.length=n
 sl:s.length=n
 own:∀(v:Nat) (x:V) (l:List Int),xs[v]?=some x→s[v]?=some l→NX ars x l
 Pd:∀(v w:Nat) (x y:V) (i:Nat),xs[v]?=some x→xs[w]?=some y→fG x=some i→fG y=some i→v=w
def wP (xs:List V):List (List V):=xs.map fun x=>[x]
theorem yB (n:Nat):bY n [.tl []]=.inr (wP (List.replicate n (.tl []))):=by
 simp[bY,ax,V.bG,wP]
attribute [go_sem] yB
end Go.Pv
namespace Go.Pv
variable {A:Nat→Option aa} {Pr:bf}
def Hd {α:Type} (kt kb:List Nat) (S:α→St) (P:α→Prop) (m:α→Nat) (x:α) (Q:Ex→St→Prop) (_t:nj (kt,kb,S,P,m,x,Q):=.mk):Ex→St→Prop
 |.normal,s=>∃y,P y∧m y<m x∧s.mask kt kb=S y
 |.exit i,s=>Q (.exit i) s
 |.ret,s=>Q .ret s
@[go_sem] theorem Jn {α:Type} (kt kb:List Nat) (S:α→St) (P:α→Prop) (m:α→Nat) (x:α) (Q:Ex→St→Prop) (i:Nat) (s:St):Hd kt kb S P m x Q .mk (.exit i) s=Q (.exit i) s:=rfl
@[go_sem] theorem LD {α:Type} (kt kb:List Nat) (S:α→St) (P:α→Prop) (m:α→Nat) (x:α) (Q:Ex→St→Prop) (s:St):Hd kt kb S P m x Q .mk .ret s=Q .ret s:=rfl
theorem W.LF {α:Type} {a:AC} {kt kb:List Nat} {s:St} {Q:Ex→St→Prop} (S:α→St) (P:α→Prop) (m:α→Nat) (x0:α) (hs:s.mask kt kb=S x0) (h0:P x0) (hr:∀x,P x→W A Pr a (S x) (Hd kt kb S P m x Q)):W A Pr (.loop (.mask kt kb a)) s Q:=by
 have key:∀n x s,m x≤n→s.mask kt kb=S x→P x→W A Pr (.loop (.mask kt kb a)) s Q:=by
  intro n
  induction n with
  |zero=>
   intro x s hm hs hp
   obtain⟨ex,s',h1,h2⟩:=hr x hp
   rw[← hs]at h1
   have h1:=cb.mask h1
   cases ex with
   |normal=>obtain⟨y,_,h3,_⟩:=h2; omega
   |exit i=>exact⟨_,_,cb.gj h1 (by simp),h2⟩
   |ret=>exact⟨_,_,cb.gj h1 (by simp),h2⟩
  |succ n ih=>
   intro x s hm hs hp
   obtain⟨ex,s',h1,h2⟩:=hr x hp
   rw[← hs]at h1
   have h1:=cb.mask h1
   cases ex with
   |normal=>
    obtain⟨y,hy,h3,h6⟩:=h2
    obtain⟨e2,s2,h4,h5⟩:=ih y s' (by omega) h6 hy
    exact⟨e2,s2,cb.td h1 h4,h5⟩
   |exit i=>exact⟨_,_,cb.gj h1 (by simp),h2⟩
   |ret=>exact⟨_,_,cb.gj h1 (by simp),h2⟩
 exact key _ x0 s (Pu _) hs h0
end Go.Pv
namespace Go.Pv
theorem tJ {T:List aF} (h:Eo T) {x:aF} (hx:x∈T) {n:List Int} (hn:n.length=T.length):∀u∈bV x,0≤u∧u<n.length:=fun u hu=>by
 rw[hn]
 exact h.EM x hx u hu
theorem nR {b:Bool} {T:List aF} {n:List Int} {k:Nat} {x:aF} (h:T[k]?=some x):swp b T n (k+1)=(swp b T n k).set k (lx b x (swp b T n k)):=by
 show (match T[k]? with
  |some x=>(swp b T n k).set k (lx b x (swp b T n k))
  |none=>swp b T n k)=_
 rw[h]
set_option maxHeartbeats 2000000 in
theorem r471 (u:Nat) (T:List aF) (ho:∀t∈T,t.ok) (hs:∀t∈T,t.short) (hv:bN T=0):res A az 471 [.agg [.ae u (T.map aF.c)]]=some [.ae 0 (ints (gy false T (2*T.length+1)))]:=by
 have hS:=bU hv
 have hT:=rA ho hv
 have h32:=hS.len
 refine aq a471 rfl rfl ?_
 simp only[F471]; try delta sS tT zZ nN gG bB pZ
 simp(disch:=omega)only[go_sem]
 refine W.dD (2*T.length+1) (fun r=>⟨[(1,.ptr 1 0),(3,.own 0 0 0 T.length),(4,.pv (.int .i64 r))],⟨[(1,[.pv (.ae u (T.map aF.c))])],[⟨0,1,.inl (ints (gy false T r))⟩],[]⟩⟩) (fun _=>True) rfl trivial fun r hr _=>?_
 have hl:=fz false T r
 have hll:=hl.1
 simp(disch:=omega)only[go_sem]
 refine Br.aG (fun c=>?_) (fun c=>?_)
 ·have hnx:gy false T (r+1)=swp false T (gy false T r) T.length:=rfl
  generalize gy false T r=n at hl hll hnx
  simp(disch:=omega)only[go_sem]
  refine W.dD T.length (fun k=>⟨[(1,.ptr 1 0),(3,.own 0 0 0 T.length),(4,.pv (.int .i64 r)),(5,.pv (.int .i64 k))],⟨[(1,[.pv (.ae u (T.map aF.c))])],[⟨0,1,.inl (ints (swp false T n k))⟩],[]⟩⟩) (fun _=>True) rfl trivial fun k hk _=>?_
  have hw:=(hl.swp k).1
  have hwl:=hw.1
  simp(disch:=omega)only[go_sem]
  refine Br.aG (fun c=>?_) (fun c=>?_)
  ·obtain⟨x,hx⟩:=get_some (l:=T) (k:=k) (by omega)
   have hxm:=Ph hx
   have hsx:=nR (b:=false) (n:=n) hx
   have h481:=fun t=>r481 x (swp false T n k) t (hT.2.2 x hxm) (hs x hxm) hw.2.1 (tJ hS hxm hwl)
   generalize swp false T n k=m at *
   generalize lx false x m=q at *
   have hmt:m.take T.length=m:=Py (by omega)
   simp only[aF.c]at h481
   simp(disch:=omega)only[go_sem,hx,Option.map_some,aF.c,h481,hmt]
   refine .of (by omega) ?_ trivial
   rw[hsx]
   rfl
  ·obtain rfl:k=T.length:=by omega
   simp(disch:=omega)only[go_sem]
   refine .of (by omega) ?_ trivial
   rw[hnx]
   rfl
 ·obtain rfl:r=2*T.length+1:=by omega
  have hmt:(gy false T (2*T.length+1)).take T.length=gy false T (2*T.length+1):=Py (by omega)
  simp(disch:=omega)only[go_sem,hmt]
end Go.Pv
namespace Go.Pv
def yC (id aj off len : Nat) (a : aK) : Option (V × Tn) :=
 if len = 0 then some (.dv [],{ ra := some id }) else (match a.body with
    | .inl rows => if a.k = 1 ∧ off + len ≤ rows.length ∧ len ≤ aQ then (match ax fS ((rows.drop off).take len) with
     | some l => some (.dv [],{ ar := some (id,⟨aj,1,.inl (rows.take off ++ (cI oH l).map (fun x => [.int .i64 x]) ++ rows.drop (off + len))⟩) })
     | none => none) else none
    | .inr _ => none)
@[go_sem] theorem Jo (h:af):eB [.tl []] h=some (.dv [],{}):=rfl
@[go_sem] theorem He (h:af) (id aj off len:Nat):eB [.own id aj off len] h=(aB h id aj).bind (yC id aj off len):=by
 simp only[eB]
 cases aB h id aj<;>rfl
@[go_sem] theorem Fp {id aj n:Nat} {l:List Int} (hn:n=l.length) (h0:n≠0) (hm:n≤2147483648):yC id aj 0 n ⟨aj,1,.inl (ints l)⟩=some (.dv [],{ ar:=some (id,⟨aj,1,.inl (ints (cI oH l))⟩) }):=by
 subst hn
 have e1:(ints l).length=l.length:=aJ l
 simp[yC,h0,e1,aQ,hm,rK,List.take_of_length_le (Nat.le_of_eq e1),List.drop_eq_nil_of_le (Nat.le_of_eq e1)]
 rfl
@[go_sem] theorem Hf (h:af) (x:Int):eB [.tl [[.int .i64 x]]] h=some (.dv [],{}):=rfl
theorem tK {n b:Nat} {o:List Int} {x:Int} (h:b≤o.length):ml n b (ints (o++[x]))=.own n (o.length - b) 0 (o.length+1):=by
 rw[← hV,wt (by rw[aJ]; exact h),aJ]
theorem tL {b:Nat} {o:List Int} {x:Int} (h:b≤o.length):tw 1 b (ints (o++[x]))=[⟨o.length - b,1,.inl (ints (o++[x]))⟩]:=by
 rw[← hV,wu (by rw[aJ]; exact h),aJ]
theorem rP (l:List Int):(cI oH l).length=l.length:=(ch oH l).length_eq
end Go.Pv
namespace Go.Pv
def M0 (l:List aF) (u:Int):List Int:=bV (cW l u)
def AB (l:List aF) (u:Int):Prop:=0≤u∧u<l.length
def mw (l:List aF) (i:Int):List Int:=si (M0 l) l.length 0 [i]
noncomputable def dc (l:List aF) (i:Int):List Int×Int:=if iF l i≠0 then ([],iF l i) else (cI oH (mw l i),0)
theorem Eo.next {l:List aF} (h:Eo l):∀v,AB l v→∀x∈M0 l v,AB l x:=fun _v hv x hx=>
 h.EM _ (Ph (ju hv.1 hv.2)) x hx
theorem jv {l:List aF} (o:List Int) (hd:o.Nodup) (h:∀v∈o,AB l v):o.length≤l.length:=pG hd h
set_option maxHeartbeats 4000000 in
theorem r273 (v:Nat) (l:List aF) (i:Int) (hl:l.length≤2147483648) (ho:∀t∈l,t.ok) (hs:∀t∈l,t.short):res A az 273 [.agg [.ae v (l.map aF.c)],.int .i64 i]=some [.ae 0 (ints (dc l i).1),.int .i64 (dc l i).2]:=by
 refine aq a273 rfl rfl ?_
 simp only[F273]; try delta sS tT zZ nN gG bB pZ
 have h291:=fun v=>r291 v l i hl ho hs
 unfold dc
 simp(disch:=omega)only[go_sem,h291]
 refine Br.aG (fun c=>?_) (fun c=>?_)<;>simp(disch:=omega)only[go_sem,c]
 rotate_left
 ·simp[c,ints]
 obtain⟨hv,hi0,hin⟩:=mo c
 rw[if_neg (by simp[c])]
 have hsane:=bU hv
 have h32:=hsane.len
 refine W.loop (α:=Nat×List Int) (fun x=>⟨[(2,.ptr 2 0),(7,ml 0 1 (ints x.2)),(8,.pv (.int .i64 x.1))],⟨[(2,[.pv (.ae v (l.map aF.c))])],tw 1 1 (ints x.2),[]⟩⟩)
  (fun x=>x.2.Nodup∧(∀v∈x.2,AB l v)∧1≤x.2.length∧x.1≤x.2.length∧si (M0 l) (l.length - x.1) x.1 x.2=mw l i) (fun x=>l.length - x.1) (0,[i]) rfl ⟨by simp,fun w hw=>(List.mem_singleton.1 hw) ▸ ⟨hi0,hin⟩,by simp,by simp,rfl⟩ fun x hx=>?_
 obtain⟨j,o⟩:=x
 obtain⟨hd,hin',h1,h2,hb⟩:=hx
 dsimp only at hd hin' h1 h2 hb
 have hlen:=jv o hd hin'
 simp(disch:=omega)only[go_sem]
 refine Br.aG (fun h=>?_) (fun h=>?_)
 ·have hw:=Pj (l:=o) (i:=j) (by omega)
  generalize o[j]'(by omega)=w at hw
  obtain⟨hw0,hw1⟩:=hin' w (Ph hw)
  have hget:=ju hw0 hw1
  have hidx:=Ep (v:=v) hw0 hw1
  have h284:=r284 (cW l w) (hs _ (Ph hget))
  have hul:=Cw (hs _ (Ph hget))
  have hnx:M0 l w=bV (cW l w):=rfl
  have huses:=hsane.EM _ (Ph hget)
  generalize cW l w=p at *
  unfold aF.c at h284 hidx
  unfold aF.c at *
  have inner:∀(k:Nat) (o:List Int),(o.Nodup∧(∀v∈o,AB l v)∧1≤o.length∧j<o.length)→∀u∈bV p,(ep o u).Nodup∧(∀v∈ep o u,AB l v)∧1≤(ep o u).length∧j<(ep o u).length:=by
   rintro k o ⟨g1,g2,g3,g4⟩ u hu
   obtain⟨r,hr⟩:=nK o u
   refine⟨j4 g1,fun x hx=>(nJ.1 hx).elim (g2 x) (fun q=>q ▸ huses u hu),by rw[← hr,Pp]; omega,by rw[← hr,Pp]; omega⟩
  have hgl:=kS (b:=1) (rows:=ints o)
  have hVA:∃V0 A0,ml 0 1 (ints o)=V0∧tw 1 1 (ints o)=A0∧((V0=.tl (ints o)∧A0=[])∨∃m,(ints o).length=1+m+1∧V0=.own 0 m 0 (1+m+1)∧A0=[⟨m,1,.inl (ints o)⟩]):=by
   rcases hgl with hc|⟨m,hc⟩
   ·exact⟨_,_,gQ hc,gR hc,.inl ⟨rfl,rfl⟩⟩
   ·exact⟨_,_,ga hc,gb hc,.inr ⟨m,hc,rfl,rfl⟩⟩
  obtain⟨V0,A0,hV0,hA0,hcase⟩:=hVA
  rw[hV0,hA0]
  rcases hcase with⟨e1,e2⟩|⟨m,hc,e1,e2⟩
  all_goals rw[e1]at hV0 ⊢
  all_goals rw[e2]at hA0 ⊢
  all_goals try rw[aJ]at hc
  all_goals simp(disch:=omega)only[go_sem,hw,hidx,h284]
  all_goals
   refine W.fold (bV p) ep o (fun k o=>⟨[(2,.ptr 2 0),(7,ml 0 1 (ints o)),(8,.pv (.int .i64 j)),(33,.pv (.ae 0 (ints (bV p)))),(34,.pv (.int .i64 (bV p).length)),(35,.pv (.int .i64 k))],⟨[(2,[.pv (.ae v (l.map aF.c))])],tw 1 1 (ints o),[]⟩⟩)
    (fun _ o=>o.Nodup∧(∀v∈o,AB l v)∧1≤o.length∧j<o.length) ?_ ⟨hd,hin',h1,by omega⟩ (fun k u o hu hk _ hI=>?_) (fun o hacc hI=>?_)
   ·show _=St.mk _ _
    rw[hV0,hA0]
    rfl
   ·have hI2:=inner k o hI u (Ph hu)
    obtain⟨g1,g2,g3,g4⟩:=hI
    have hlen:=jv o g1 g2
    have h110:=fun t=>NT t o u (by omega)
    simp(disch:=omega)only[go_sem]
    refine Br.aG (fun c=>?_) (fun c=>(c (by omega)).elim)
    simp(disch:=omega)only[go_sem,hu,h110]
    refine Br.aG (fun c2=>?_) (fun c2=>?_)<;>simp(disch:=omega)only[go_sem,c2]
    ·refine cD.of ?_ hI2
     show _=St.mk _ _
     rw[ep,if_pos c2]
     rfl
    ·rcases kS (b:=1) (rows:=ints o)with hc|⟨m,hc⟩
     ·rw[gQ hc,gR hc]
      rw[aJ]at hc
      simp(disch:=omega)only[go_sem]
      refine cD.of ?_ hI2
      show _=St.mk _ _
      rw[ep,if_neg c2,tK g3,tL g3,show o.length - 1=0 by omega]
      rfl
     ·rw[ga hc,gb hc]
      rw[aJ]at hc
      simp(disch:=omega)only[go_sem]
      refine cD.of ?_ hI2
      show _=St.mk _ _
      rw[ep,if_neg c2,tK g3,tL g3,show o.length - 1=m+1 by omega,hc]
      rfl
   ·obtain⟨g1,g2,g3,g4⟩:=hI
    simp(disch:=omega)only[go_sem]
    refine⟨(j+1,o),⟨g1,g2,g3,g4,?_⟩,by dsimp only; omega,rfl⟩
    dsimp only
    rw[← hb,hacc]
    obtain⟨q,hq⟩:∃q,l.length - j=q+1:=⟨l.length - j - 1,by omega⟩
    rw[hq,rz hw,hnx]
    congr 1
    omega
 ·rw[uO (by omega)]at hb
  rw[← hb]
  rcases kS (b:=1) (rows:=ints o)with hc|⟨m,hc⟩
  ·have hc1:o.length=1:=by rw[aJ]at hc; omega
   rw[gQ hc,gR hc]
   obtain⟨y,rfl⟩:=List.length_eq_one_iff.1 hc1
   simp(disch:=omega)only[go_sem,ints,List.map_cons,List.map_nil]
   rfl
  ·rw[ga hc,gb hc]
   rw[aJ]at hc
   simp(disch:=omega)only[go_sem]
   rw[Py (by rw[rP]; omega)]
end Go.Pv
namespace Go.Pv
theorem tM {l:List aF} {i:Int} (h:iF l i=0):(mw l i).Nodup∧∀v∈mw l i,AB l v:=by
 obtain⟨hv,h0,h1⟩:=mo h
 exact⟨oO _ _ (by simp),qe (bU hv).next _ _ (fun v hv=>(List.mem_singleton.1 hv) ▸ ⟨h0,h1⟩)⟩
theorem yD {l:List aF} {i:Int}:(dc l i).1.length≤l.length:=by
 unfold dc
 split
 ·exact Qn _
 ·rename_i h
  obtain⟨h1,h2⟩:=tM (l:=l) (i:=i) (by simpa using h)
  show (cI oH (mw l i)).length≤_
  rw[rP]
  exact jv _ h1 h2
end Go.Pv
namespace Go.Pv
variable {P:Program}
theorem jq.up:∀{n:Nat} {cs:List PV},jq n cs→jq (n+1) cs
 |0,_,h=>h.elim
 |n+1,_,h=>by
  obtain⟨v,h1,h2,h3,h4,h5,h6⟩:=h
  exact⟨v,h1,h2,h3,fun r hr=>jq.up (h4 r hr),fun r hr=>jq.up (h5 r hr),h6⟩
theorem dr {n:Nat} {t:TypeId} {cs:List PV} (hu:P.underlying t=some (.int .i64)) (h:typed P n t cs):∃x,cs=[.int .i64 x]∧fZ x:=by
 cases n with
 |zero=>exact h.elim
 |succ n=>
  obtain⟨x,rfl,h1,h2⟩:=Ao hu h
  exact⟨x,rfl,h1,h2⟩
theorem nS {n:Nat} {t:TypeId} {cs:List PV} (hu:P.underlying t=some .bool) (h:typed P n t cs):∃x,cs=[.bool x]:=by
 cases n with
 |zero=>exact h.elim
 |succ n=>exact yc hu h
theorem jc {n:Nat} {t:TypeId} {cs:List PV} (hu:P.underlying t=some .string) (h:typed P n t cs):∃s,cs=[.str s]∧bh s:=by
 cases n with
 |zero=>exact h.elim
 |succ n=>
  simp only[typed,hu]at h
  exact h
theorem fA {α:Type} {c:α→List PV} {ok:α→Prop} {n:Nat} {t el:TypeId} {cs:List PV} (hu:P.underlying t=some (.slice el)) (he:∀m cs,m+1=n→typed P m el cs→∃x,cs=c x∧ok x) (h:typed P n t cs):∃l:List α,cs=[.ae 0 (l.map c)]∧cu l∧∀x∈l,ok x:=by
 cases n with
 |zero=>exact h.elim
 |succ n=>
  obtain⟨rows,rfl,hl,hr⟩:=kR hu h
  obtain⟨l,rfl⟩:=wj (c:=fun x:{x:α//ok x}=>c x.1) (rows:=rows) (fun r hr'=>by
   obtain⟨x,rfl,hx⟩:=he n r rfl (hr r hr')
   exact⟨⟨x,hx⟩,rfl⟩)
  refine⟨l.map (·.1),by simp,by simpa [cu,maxLen]using hl,fun x hx=>?_⟩
  obtain⟨y,_,rfl⟩:=PB.1 hx
  exact y.2
structure wQ (P:Program) (sch typ sym mem val raw ls lsym lmem lval lraw tx ti t64 tb:TypeId):Prop where
 i:P.underlying ti=some (.int .i64)
 i64:P.underlying t64=some (.int .i64)
 b:P.underlying tb=some .bool
 x:P.underlying tx=some .string
 l:P.underlying ls=some (.slice typ)
 ly:P.underlying lsym=some (.slice sym)
 lm:P.underlying lmem=some (.slice mem)
 lv:P.underlying lval=some (.slice val)
 lr:P.underlying lraw=some (.slice raw)
 s:∃fs,P.underlying sch=some (.struct fs)∧fs.toList.map (·.type)=[ls]
 t:∃fs,P.underlying typ=some (.struct fs)∧fs.toList.map (·.type)=[ti,tx,t64,t64,ti,lsym,lmem,ti,ti,tb]
 y:∃fs,P.underlying sym=some (.struct fs)∧fs.toList.map (·.type)=[ti,tx]
 m:∃fs,P.underlying mem=some (.struct fs)∧fs.toList.map (·.type)=[ti,tx,ti,tb,tb,val]
 v:∃fs,P.underlying val=some (.struct fs)∧fs.toList.map (·.type)=[ti,tb,t64,tx,ti,lval,lval,lraw]
 r:∃fs,P.underlying raw=some (.struct fs)∧fs.toList.map (·.type)=[ti,tx]
section
variable {sch typ sym mem val raw ls lsym lmem lval lraw tx ti t64 tb:TypeId}
theorem AD (T:wQ P sch typ sym mem val raw ls lsym lmem lval lraw tx ti t64 tb) {n:Nat} {cs:List PV} (h:typed P n raw cs):∃r:Raw,cs=r.c∧r.ok:=by
 cases n with
 |zero=>exact h.elim
 |succ n=>
  obtain⟨fs,hu,hts⟩:=T.r
  obtain⟨r0,q0,rfl,h0,r1,q1,rfl,h1,rfl⟩:=bJ hu hts h
  obtain⟨x,rfl,hx⟩:=dr T.i h0
  obtain⟨s,rfl,hs⟩:=jc T.x h1
  exact⟨⟨x,s⟩,rfl,hx,hs⟩
theorem AE (T:wQ P sch typ sym mem val raw ls lsym lmem lval lraw tx ti t64 tb) {n:Nat} {cs:List PV} (h:typed P n sym cs):∃r:Sym,cs=r.c∧r.ok:=by
 cases n with
 |zero=>exact h.elim
 |succ n=>
  obtain⟨fs,hu,hts⟩:=T.y
  obtain⟨r0,q0,rfl,h0,r1,q1,rfl,h1,rfl⟩:=bJ hu hts h
  obtain⟨x,rfl,hx⟩:=dr T.i h0
  obtain⟨s,rfl,hs⟩:=jc T.x h1
  exact⟨⟨x,s⟩,rfl,hx,hs⟩
theorem oV (T:wQ P sch typ sym mem val raw ls lsym lmem lval lraw tx ti t64 tb):∀(n:Nat) {cs:List PV},typed P n val cs→jq n cs
 |0,_,h=>h.elim
 |1,cs,h=>by
  obtain⟨fs,hu,hts⟩:=T.v
  obtain⟨r0,q0,rfl,h0,_⟩:=bJ hu hts h
  exact h0.elim
 |n+2,cs,h=>by
  obtain⟨fs,hu,hts⟩:=T.v
  obtain⟨r0,q0,rfl,h0,r1,q1,rfl,h1,r2,q2,rfl,h2,r3,q3,rfl,h3,r4,q4,rfl,h4,r5,q5,rfl,h5,r6,q6,rfl,h6,r7,q7,rfl,h7,rfl⟩:=bJ hu hts h
  obtain⟨kind,rfl,k1⟩:=dr T.i h0
  obtain⟨b,rfl⟩:=nS T.b h1
  obtain⟨i,rfl,k2⟩:=dr T.i64 h2
  obtain⟨s,rfl,k3⟩:=jc T.x h3
  obtain⟨id,rfl,k4⟩:=dr T.i h4
  obtain⟨keys,rfl,l1,g1⟩:=kR T.lv h5
  obtain⟨items,rfl,l2,g2⟩:=kR T.lv h6
  obtain⟨rest,rfl,l3,g3⟩:=fA T.lr (fun m cs _ hh=>AD T hh) h7
  exact⟨⟨kind,b,i,s,id,keys,items,rest⟩,rfl,⟨k1,k2,k3,k4⟩,⟨by simpa [cu,maxLen]using l1,by simpa [cu,maxLen]using l2,l3⟩,fun r hr=>(oV T n (g1 r hr)).up,fun r hr=>(oV T n (g2 r hr)).up,g3⟩
theorem AF (T:wQ P sch typ sym mem val raw ls lsym lmem lval lraw tx ti t64 tb) {n:Nat} {cs:List PV} (h:typed P n mem cs):∃r:Mem,cs=r.c∧r.ok:=by
 cases n with
 |zero=>exact h.elim
 |succ n=>
  obtain⟨fs,hu,hts⟩:=T.m
  obtain⟨r0,q0,rfl,h0,r1,q1,rfl,h1,r2,q2,rfl,h2,r3,q3,rfl,h3,r4,q4,rfl,h4,r5,q5,rfl,h5,rfl⟩:=bJ hu hts h
  obtain⟨id,rfl,k1⟩:=dr T.i h0
  obtain⟨s,rfl,k2⟩:=jc T.x h1
  obtain⟨t,rfl,k3⟩:=dr T.i h2
  obtain⟨c,rfl⟩:=nS T.b h3
  obtain⟨hd,rfl⟩:=nS T.b h4
  have hv:=oV T n h5
  cases n with
  |zero=>exact hv.elim
  |succ n=>
   have hv':=hv
   obtain⟨v,rfl,_⟩:=hv'
   exact⟨⟨id,s,t,c,hd,v⟩,by simp[Mem.c,dC.c],k1,k2,k3,_,hv⟩
theorem AG (T:wQ P sch typ sym mem val raw ls lsym lmem lval lraw tx ti t64 tb) {n:Nat} {cs:List PV} (h:typed P n typ cs):∃r:aF,cs=r.c∧r.ok:=by
 cases n with
 |zero=>exact h.elim
 |succ n=>
  obtain⟨fs,hu,hts⟩:=T.t
  obtain⟨r0,q0,rfl,h0,r1,q1,rfl,h1,r2,q2,rfl,h2,r3,q3,rfl,h3,r4,q4,rfl,h4,r5,q5,rfl,h5,r6,q6,rfl,h6,r7,q7,rfl,h7,r8,q8,rfl,h8,r9,q9,rfl,h9,rfl⟩:=bJ hu hts h
  obtain⟨kind,rfl,k0⟩:=dr T.i h0
  obtain⟨s,rfl,k1⟩:=jc T.x h1
  obtain⟨lo,rfl,k2⟩:=dr T.i64 h2
  obtain⟨hi,rfl,k3⟩:=dr T.i64 h3
  obtain⟨mx,rfl,k4⟩:=dr T.i h4
  obtain⟨syms,rfl,k5,g5⟩:=fA T.ly (fun m cs _ hh=>AE T hh) h5
  obtain⟨aM,rfl,k6,g6⟩:=fA T.lm (fun m cs _ hh=>AF T hh) h6
  obtain⟨key,rfl,k7⟩:=dr T.i h7
  obtain⟨el,rfl,k8⟩:=dr T.i h8
  obtain⟨op,rfl⟩:=nS T.b h9
  exact⟨⟨kind,s,lo,hi,mx,syms,aM,key,el,op⟩,rfl,⟨k0,k1,k2,k3,k4,k7,k8⟩,⟨k5,k6⟩,g5,g6⟩
theorem AH (T:wQ P sch typ sym mem val raw ls lsym lmem lval lraw tx ti t64 tb) {n:Nat} {cs:List PV} (h:typed P n sch cs):∃l:List aF,cs=[.ae 0 (l.map aF.c)]∧cu l∧∀t∈l,t.ok:=by
 cases n with
 |zero=>exact h.elim
 |succ n=>
  obtain⟨fs,hu,hts⟩:=T.s
  obtain⟨r0,q0,rfl,h0,rfl⟩:=bJ hu hts h
  obtain⟨l,rfl,k,g⟩:=fA T.l (fun m cs _ hh=>AG T hh) h0
  exact⟨l,by simp,k,g⟩
end
end Go.Pv
namespace Go.Pv
theorem oW {M t:Nat} {rows:List (List PV)} (h:Small M (.ae t rows)):rows.length≤M∧∀r∈rows,∀c∈r,Small M c:=by
 cases h with
 |ae _ _ h1 h2=>exact⟨h1,h2⟩
theorem AI {t:aF} (h:∀c∈t.c,Small 1048576 c):t.short:=by
 have h1:=(oW (h (.ae 0 (t.syms.map Sym.c)) (by simp[aF.c]))).1
 have h2:=(oW (h (.ae 0 (t.aM.map Mem.c)) (by simp[aF.c]))).1
 rw[Pm]at h1 h2
 exact⟨h1,h2⟩
theorem AJ {l:List aF} (h:∀c∈[PV.ae 0 (l.map aF.c)],Small 1048576 c):l.length≤1048576∧∀t∈l,t.short:=by
 obtain⟨h1,h2⟩:=oW (h _ (List.mem_singleton.2 rfl))
 rw[Pm]at h1
 exact⟨h1,fun t ht=>AI (h2 _ (List.mem_map_of_mem ht))⟩
end Go.Pv
namespace Go.Pv
theorem wR {k:Nat} {rows:List (List PV)} (h:∀r∈rows,r.length=k):aW k (.inl rows)=true:=by
 simp only[aW,List.all_eq_true,beq_iff_eq]
 exact h
end Go.Pv
namespace Go.Pv
end Go.Pv
