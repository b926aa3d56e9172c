/-
 What the functions of the law give.
-/
import Derived.Test.YtpchfogcccagjaaGreatC3
set_option linter.unusedSimpArgs false
set_option linter.unusedVariables false
open List renaming getElem?_eq_some_iff → Vy, mem_of_getElem? → Vz, getElem?_eq_getElem → VA, length_map → VB, length_append → VE, getElem?_map → VF, length_take → VH, getD_eq_getElem?_getD → VK, getElem?_append_right → VM, append_assoc → VO, mem_map → VP, pairwise_cons → VQ, take_of_length_le → VS, take_add_one → VT, take_length → VW, getElem?_set_ne → VX, getElem?_set_self → VY, mem_cons → V6, length_range → V7, findIdx?_eq_some_iff_getElem → Wd, mem_cons_self → We, getElem?_drop → Wg, ext_getElem? → Wi, mem_cons_of_mem → Wl, take_append_drop → Wo, foldl_cons → Wy, getElem_of_mem → WC, length_set → WG, length_replicate → WI, getElem?_replicate → WM, pairwise_singleton → WQ, range_succ → WR, findIdx?_eq_none_iff → WX, length_filter_le → Xk, length_cons → Xn
open Nat renaming lt_or_ge → VG, le_refl → VI, not_lt_zero → WZ, min_eq_left → Xe
open Int renaming toNat_natCast → Ws, toNat_of_nonneg → Xq
open Option renaming map_some → Xb
namespace Go.Pv
section
variable {α:Type} [Inhabited α]
def qZ (lt:α->α->Bool) (x y:α):Prop:=lt x y=true\/lt y x=true
omit [Inhabited α] in
theorem qZ.symm {lt:α->α->Bool} {x y:α} (h:qZ lt x y):qZ lt y x:=h.elim .inr .inl
def vD (lt:α->α->Bool) (x:α) (l:List α):Nat->Nat
 |0=>0
 |p+1=>if lt x (l.getD p default)=true then vD lt x l p else p+1
def lB (x:α) (l:List α) (p:Nat):List α:=l.take p++x::l.drop p
def uJ (lt:α->α->Bool) (x:α) (l:List α):List α:=lB x l (vD lt x l l.length)
theorem AR (lt:α->α->Bool) (x:α) (l:List α):∀q,vD lt x l q<=q
 |0=>VI _
 |q+1=>by
  have:=AR lt x l q
  unfold vD
  split<;>omega
omit [Inhabited α] in
theorem tG (x:α) (l:List α) (p:Nat) (h:p<=l.length):(lB x l p).length=l.length+1:=by simp[lB]; omega
theorem y5 (lt:α->α->Bool) (x:α) (l:List α):(uJ lt x l).length=l.length+1:=tG x l _ (AR lt x l _)
omit [Inhabited α] in
theorem BS (x:α) (l:List α) (p:Nat) (h:p<=l.length):(lB x l p)[p]?=some x:=by
 unfold lB
 rw[List.getElem?_append_right (by simp; omega)]
 simp[Nat.min_eq_left h]
theorem AS (x:α) (l:List α) (p:Nat) (h:p<l.length):(lB x l (p+1))[p]?=some (l.getD p default):=by
 unfold lB
 rw[List.getElem?_append_left (by simp; omega),List.getElem?_take,if_pos (by omega)]
 simp[h]
theorem CV (x:α) (l:List α) (p:Nat) (h:p<l.length):((lB x l (p+1)).set (p+1) (l.getD p default)).set p x=lB x l p:=by
 apply Wi
 intro i
 have h1:=tG x l (p+1) (by omega)
 by_cases ip:i=p
 .subst ip
  rw[BS x l i (by omega),List.getElem?_set_self (by simp[h1]; omega)]
 .rw[VX (Ne.symm ip)]
  by_cases iq:i=p+1
  .subst iq
   rw[VY (by rw[h1]; omega)]
   unfold lB
   rw[List.getElem?_append_right (by simp; omega)]
   simp[Nat.min_eq_left (Nat.le_of_lt h),h]
  .rw[VX (Ne.symm iq)]
   unfold lB
   rcases VG i p with hi|hi
   .rw[List.getElem?_append_left (by simp; omega),List.getElem?_append_left (by simp; omega),List.getElem?_take,List.getElem?_take,if_pos (by omega),if_pos hi]
   .rw[List.getElem?_append_right (by simp; omega),List.getElem?_append_right (by simp; omega)]
    obtain⟨q,rfl⟩:∃q,i=p+2+q:=⟨i - (p+2),by omega⟩
    simp only[List.length_take,Nat.min_eq_left (Nat.le_of_lt h),Nat.min_eq_left (Nat.succ_le_of_lt h)]
    rw[show p+2+q - (p+1)=q+1 by omega,show p+2+q - p=q+2 by omega]
    simp only[List.getElem?_cons_succ,List.getElem?_drop]
    congr 1
    omega
omit [Inhabited α] in
theorem CX (x:α) (l:List α) (p:Nat):(lB x l p).Perm (x::l):=by
 unfold lB
 refine(List.perm_middle).trans ?_
 rw[Wo]
theorem vE (lt:α->α->Bool) (x:α) (l:List α):(uJ lt x l).Perm (x::l):=CX x l _
theorem vF (lt:α->α->Bool) (x:α) (l:List α):∀q j,vD lt x l q<=j->j<q->lt x (l.getD j default)=true
 |0,j,_,h=>absurd h (WZ _)
 |q+1,j,h1,h2=>by
  unfold vD at h1
  split at h1
  .rename_i h
   rcases VG j q with h3|h3
   .exact vF lt x l q j h1 h3
   .obtain rfl:j=q:=by omega
    exact h
  .omega
theorem y6 (lt:α->α->Bool) (x:α) (l:List α):∀q p,vD lt x l q=p+1->lt x (l.getD p default)=false
 |0,p,h=>by simp[vD]at h
 |q+1,p,h=>by
  unfold vD at h
  split at h
  .exact y6 lt x l q p h
  .rename_i hn
   obtain rfl:p=q:=by omega
   simpa using hn
theorem y7 {lt:α->α->Bool} (tr:∀x y z,lt x y=true->lt y z=true->lt x z=true) {x:α} {l:List α} (hl:l.Pairwise (fun a b=>lt a b=true)) (hx:∀y∈l,qZ lt x y):(uJ lt x l).Pairwise (fun a b=>lt a b=true):=by
 have hle:=AR lt x l l.length
 have hup:∀y∈l.drop (vD lt x l l.length),lt x y=true:=fun y hy=>by
  obtain⟨j,hj,rfl⟩:=WC hy
  rw[List.length_drop]at hj
  have:=vF lt x l l.length (vD lt x l l.length+j) (by omega) (by omega)
  rw[List.getElem_drop]
  simpa [show vD lt x l l.length+j<l.length by omega]using this
 have hlo:∀y∈l.take (vD lt x l l.length),lt y x=true:=fun y hy=>by
  obtain⟨j,hj,rfl⟩:=WC hy
  rw[VH]at hj
  obtain⟨p,hp⟩:∃p,vD lt x l l.length=p+1:=⟨vD lt x l l.length - 1,by omega⟩
  have hst:=y6 lt x l _ _ hp
  have hpl:p<l.length:=by omega
  have e1:l.getD p default=l[p]:=by simp[hpl]
  rw[e1]at hst
  have h1:lt l[p] x=true:=(hx l[p] (List.getElem_mem _)).resolve_left (by simp[hst])
  rw[List.getElem_take]
  rcases VG j p with h|h
  .exact tr _ _ _ (List.pairwise_iff_getElem.1 hl j p (by omega) hpl h) h1
  .obtain rfl:j=p:=by omega
   exact h1
 unfold uJ lB
 rw[List.pairwise_append,VQ]
 refine⟨hl.sublist (List.take_sublist _ _),⟨hup,hl.sublist (List.drop_sublist _ _)⟩,fun a ha b hb=>?_⟩
 rcases V6.1 hb with rfl|hb
 .exact hlo a ha
 .exact tr _ _ _ (hlo a ha) (hup b hb)
def mn (lt:α->α->Bool) (l:List α):List α:=l.foldl (fun o x=>uJ lt x o) []
theorem tH (lt:α->α->Bool):∀(l o:List α),(l.foldl (fun o x=>uJ lt x o) o).Perm (o++l)
 |[],o=>by simp
 |x::l,o=>by
  rw[Wy]
  refine(tH lt l _).trans ?_
  refine((vE lt x o).append_right l).trans ?_
  exact(List.perm_middle (a:=x) (l₁:=o) (l₂:=l)).symm
theorem n9 (lt:α->α->Bool) (l:List α):(mn lt l).Perm l:=tH lt l []
theorem po {lt:α->α->Bool} (tr:∀x y z,lt x y=true->lt y z=true->lt x z=true):∀{l o:List α},o.Pairwise (fun a b=>lt a b=true)->l.Pairwise (qZ lt)->(∀x∈l,∀y∈o,qZ lt x y)->(l.foldl (fun o x=>uJ lt x o) o).Pairwise (fun a b=>lt a b=true)
 |[],_,h,_,_=>h
 |x::l,o,h,hl,hx=>by
  rw[VQ]at hl
  rw[Wy]
  refine po tr (y7 tr h (hx x (by simp))) hl.2 fun z hz y hy=>?_
  rcases V6.1 ((vE lt x o).subset hy)with rfl|hy
  .exact(hl.1 z hz).symm
  .exact hx z (by simp[hz]) y hy
theorem pq {lt:α->α->Bool} (tr:∀x y z,lt x y=true->lt y z=true->lt x z=true) {l:List α} (hl:l.Pairwise (qZ lt)):(mn lt l).Pairwise (fun a b=>lt a b=true):=po tr List.Pairwise.nil hl (fun _ _ _ h=>absurd h (by simp))
omit [Inhabited α] in
theorem EK {lt:α->α->Bool} (tr:∀x y z,lt x y=true->lt y z=true->lt x z=true) {x:α}:∀{l:List α},l.Pairwise (fun a b=>lt a b=true)->(∀y∈l,qZ lt x y)->(ins lt x l).Pairwise (fun a b=>lt a b=true)
 |[],_,_=>WQ _ _
 |y::r,h,hx=>by
  obtain⟨h1,h2⟩:=VQ.1 h
  unfold ins
  split
  .rename_i hc
   refine List.pairwise_cons.2 ⟨fun z hz=>?_,EK tr h2 (fun z hz=>hx z (by simp[hz]))⟩
   rcases V6.1 ((pc lt x r).subset hz)with rfl|hz
   .exact hc
   .exact h1 z hz
  .rename_i hc
   have hxy:lt x y=true:=(hx y (by simp)).resolve_right (by simpa using hc)
   refine VQ.2 ⟨fun z hz=>?_,h⟩
   rcases V6.1 hz with rfl|hz
   .exact hxy
   .exact tr _ _ _ hxy (h1 z hz)
omit [Inhabited α] in
theorem pw {lt:α->α->Bool} (tr:∀x y z,lt x y=true->lt y z=true->lt x z=true):∀{l:List α},l.Pairwise (qZ lt)->(ct lt l).Pairwise (fun a b=>lt a b=true)
 |[],_=>List.Pairwise.nil
 |x::l,h=>by
  obtain⟨h1,h2⟩:=VQ.1 h
  exact EK tr (pw tr h2) fun y hy=>h1 y ((bJ lt l).subset hy)
omit [Inhabited α] in
theorem vG {lt:α->α->Bool}:∀{l:List α},l.Pairwise (fun a b=>lt a b=true)->rising lt l=true
 |[],_=>rfl
 |[_],_=>rfl
 |x::y::r,h=>by
  obtain⟨h1,h2⟩:=VQ.1 h
  simp only[rising,Bool.and_eq_true]
  exact⟨h1 y (by simp),vG h2⟩
omit [Inhabited α] in
theorem GR {lt:α->α->Bool} (irr:∀x,lt x x=false) (tr:∀x y z,lt x y=true->lt y z=true->lt x z=true) {l m:List α} (hl:l.Pairwise (fun a b=>lt a b=true)) (hm:m.Pairwise (fun a b=>lt a b=true)) (h:∀x,x∈l↔x∈m):l=m:=
 AM (r:=fun a b=>lt a b=true) (fun x=>by simp[irr x]) tr hl hm h
theorem y8 {lt:α->α->Bool} (irr:∀x,lt x x=false) (tr:∀x y z,lt x y=true->lt y z=true->lt x z=true) {l:List α} (hl:l.Pairwise (qZ lt)):mn lt l=ct lt l:=
 GR irr tr (pq tr hl) (pw tr hl) fun _=>((n9 lt l).trans (bJ lt l).symm).mem_iff
end
end Go.Pv
namespace Go.Pv
theorem r66 {Pr:br} (x:Int):res A Pr 66 [.int .i64 x]=some [.bool false]:=by
 refine ai a66 rfl rfl ?_
 simp only[F66,TB]
 simp(disch:=omega)only[go_sem]
theorem r60 {Pr:br} (hp:Pr 66=none) (x y:Int):res A Pr 60 [.int .i64 x,.int .i64 y]=some [.int .i64 (iG x y)]:=by
 refine ai a60 rfl rfl ?_
 simp only[F60,TA]
 simp(disch:=omega)only[go_sem,yE (by kernel_rfl) hp TG,r66]
 unfold iG
 refine Br.aD (fun h=>?_) (fun h=>?_)<;>simp(disch:=omega)only[go_sem,h]
 refine Br.aD (fun h2=>?_) (fun h2=>?_)<;>simp(disch:=omega)only[go_sem,h,h2]
theorem r58 {Pr:br} (a:Edge):res A Pr 58 [.agg a.c]=some [.int .i64 a.side]:=by
 refine ai a58 rfl rfl ?_
 simp only[F58,Tx]
 simp(disch:=omega)only[go_sem]
 unfold Edge.side
 refine Br.of (fun h=>?_) (fun h=>?_)<;>simp(disch:=omega)only[go_sem,h]
def EL:List Int->Int
 |[]=>0
 |x::r=>if x≠0 then x else EL r
theorem mO {α:Type} {l:List α} {k:Nat} {x:α} (h:l[k]?=some x):l.drop k=x::l.drop (k+1):=by
 obtain⟨h1,h2⟩:=Vy.1 h
 rw[List.drop_eq_getElem_cons h1,h2]
theorem get_at {α:Type} {l:List α} {k:Nat} (h:k<l.length):∃x,l[k]?=some x:=⟨_,VA h⟩
theorem kf {α:Type} {l:List α} {k:Nat} (h:¬(k:Int)<l.length):l.drop k=[]:=List.drop_eq_nil_of_le (by omega)
theorem r59 {Pr:br} (t:Nat) (l:List Int) (hl:l.length<1000):res A Pr 59 [.aa t (ints l)]=some [.int .i64 (EL l)]:=by
 refine ai a59 rfl rfl ?_
 simp only[F59,Tz]
 simp(disch:=omega)only[go_sem]
 refine W.cD l.length (fun k=>⟨[(3,.pv (.int .i64 0)),(6,.pv (.aa t (ints l))),(7,.pv (.int .i64 l.length)),(8,.pv (.int .i64 k))],⟨[],[],[]⟩⟩) (fun k=>EL l=EL (l.drop k)) rfl rfl fun k hk hi=>?_
 simp(disch:=omega)only[go_sem]
 refine Br.aD (fun h=>?_) (fun h=>?_)
 .obtain⟨x,hx⟩:=get_at (l:=l) (k:=k) (by omega)
  rw[mO hx,EL]at hi
  simp(disch:=omega)only[go_sem,hx]
  refine Br.aD (fun h1=>?_) (fun h1=>?_)<;>simp(disch:=omega)only[go_sem]
  .exact .of (by omega) rfl (by simpa [h1]using hi)
  .simp[hi,h1]
 .simp(disch:=omega)only[go_sem]
  simp[hi,kf h,EL]
theorem r47 {Pr:br} (h66:Pr 66=none) (h60:Pr 60=none) (h59:Pr 59=none) (h58:Pr 58=none) (a b:Edge):res A Pr 47 [.agg a.c,.agg b.c]=some [.int .i64 (Edge.cmp a b)]:=by
 refine ai a47 rfl rfl ?_
 simp only[F47,Tt]
 have e59:=fun x y z=>r59 (Pr:=Pr) 0 [x,y,z] (by simp)
 simp only[ints,List.map_cons,List.map_nil]at e59
 have e58:=fun x=>r58 (Pr:=Pr) x
 simp only[Edge.c]at e58
 simp(disch:=omega)only[go_sem,yE (by kernel_rfl) h60 TF,yE (by kernel_rfl) h59 TE,yE (by kernel_rfl) h58 TD,r60 h66,e58 a,e58 b,e59]
 by_cases h:iG a.label b.label=0<;>simp[EL,Edge.cmp,h]
@[go_sem] theorem r44 (a b:Edge):res A az 44 [.agg [.int .i64 a.fr,.bool a.send,.int .i64 a.label,.int .i64 a.to],.agg [.int .i64 b.fr,.bool b.send,.int .i64 b.label,.int .i64 b.to]]=some [.bool (Edge.lt a b)]:=by
 refine ai a44 rfl rfl ?_
 simp only[F44,Tp]
 simp(disch:=omega)only[go_sem]
 unfold Edge.lt
 by_cases h:a.fr=b.fr<;>by_cases h2:a.send=b.send<;>simp(disch:=omega)only[go_sem,h,h2,ne_eq,not_true_eq_false,not_false_eq_true]
theorem bj.EM {a:bj} (h1:a.ay<=12) (h2:a.aw.length<=100) (h3:0<=a.start/\a.start<a.ay):a.err=if ta a.ay none a.aw=true then 0 else 1:=by
 unfold bj.err
 rw[if_neg (by omega),if_pos h3]
theorem bj.mP {a:bj} (h1:a.ay<=12) (h2:a.aw.length<=100) (h3:¬(0<=a.start/\a.start<a.ay)):a.err=1:=by
 unfold bj.err
 rw[if_neg (by omega),if_neg h3]
theorem bj.mQ {a:bj} (h:12<a.ay\/100<a.aw.length):a.err=3:=by
 unfold bj.err
 rw[if_pos h]
theorem EN {n:Int} {p:Option Edge} {e:Edge} {r:List Edge} (h:e.fits n=false):ta n p (e::r)=false:=by simp[ta,h]
set_option maxHeartbeats 1000000 in
@[go_sem] theorem r26 (t:Nat) (a:bj) (hl:a.aw.length<=2^63 - 1):res A az 26 [.agg [.int .i64 a.ay,.int .i64 a.start,.aa t (a.aw.map Edge.c)]]=some [.int .i64 a.err]:=by
 refine ai a26 rfl rfl ?_
 simp only[F26,Th]
 simp(disch:=omega)only[go_sem]
 refine Br.aD (fun h1=>?_) (fun h1=>?_)<;>simp(disch:=omega)only[go_sem,h1]
 .rw[bj.mQ (.inl h1)]
 refine Br.aD (fun h2=>?_) (fun h2=>?_)<;>simp(disch:=omega)only[go_sem,h2]
 .rw[bj.mQ (.inr (by omega))]
 refine Br.aD (fun h3=>?_) (fun h3=>?_)<;>simp(disch:=omega)only[go_sem,h3]
 .rw[bj.mP (by omega) (by omega) (by omega)]
 refine Br.aD (fun h4=>?_) (fun h4=>?_)<;>simp(disch:=omega)only[go_sem,h4]
 .rw[bj.mP (by omega) (by omega) (by omega)]
 refine Br.aD (fun h5=>?_) (fun h5=>?_)<;>simp(disch:=omega)only[go_sem,h5]
 .rw[bj.mP (by omega) (by omega) (by omega)]
 rw[bj.EM (by omega) (by omega) (by omega)]
 refine W.cD a.aw.length (fun k=>⟨[(1,.ptr 1 0),(3,.pv (.int .i64 k))],⟨[(1,[.pv (.int .i64 a.ay),.pv (.int .i64 a.start),.pv (.aa t (a.aw.map Edge.c))])],[],[]⟩⟩) (fun k=>ta a.ay none a.aw=ta a.ay (qj a.aw k) (a.aw.drop k)) rfl rfl fun k hk hi=>?_
 simp(disch:=omega)only[go_sem]
 refine Br.aD (fun h=>?_) (fun h=>?_)
 .obtain⟨e,he⟩:=get_at (l:=a.aw) (k:=k) (by omega)
  rw[mO he]at hi
  have bad:e.fits a.ay=false->ta a.ay none a.aw=false:=fun hb=>hi.trans (EN hb)
  simp(disch:=omega)only[go_sem,he]
  refine Br.aD (fun g1=>?_) (fun g1=>?_)<;>simp(disch:=omega)only[go_sem,g1]
  .rw[bad (by simp[Edge.fits]; omega)]; rfl
  refine Br.aD (fun g2=>?_) (fun g2=>?_)<;>simp(disch:=omega)only[go_sem,g2]
  .rw[bad (by simp[Edge.fits]; omega)]; rfl
  refine Br.aD (fun g3=>?_) (fun g3=>?_)<;>simp(disch:=omega)only[go_sem,g3]
  .rw[bad (by simp[Edge.fits]; omega)]; rfl
  refine Br.aD (fun g4=>?_) (fun g4=>?_)<;>simp(disch:=omega)only[go_sem,g4]
  .rw[bad (by simp[Edge.fits]; omega)]; rfl
  refine Br.aD (fun g5=>?_) (fun g5=>?_)<;>simp(disch:=omega)only[go_sem,g5]
  .rw[bad (by simp[Edge.fits]; omega)]; rfl
  refine Br.aD (fun g6=>?_) (fun g6=>?_)<;>simp(disch:=omega)only[go_sem,g6]
  .rw[bad (by simp[Edge.fits]; omega)]; rfl
  have fit:e.fits a.ay=true:=by simp[Edge.fits]; omega
  refine Br.aD (fun g7=>?_) (fun g7=>?_)<;>simp(disch:=omega)only[go_sem,g7]
  .obtain⟨j,rfl⟩:∃j,k=j+1:=⟨k - 1,by omega⟩
   obtain⟨d,hd⟩:=get_at (l:=a.aw) (k:=j) (by omega)
   have hj:((j+1:Nat):Int) - 1=(j:Int):=by omega
   rw[fD,hd]at hi
   simp(disch:=omega)only[go_sem,hj,hd]
   refine Br.of (fun g8=>?_) (fun g8=>?_)<;>simp(disch:=omega)only[go_sem]
   .exact .of (by omega) rfl (by rw[hi,fD,he]; simp[ta,fit,g8])
   .rw[hi]; simp[ta,g8]
  .obtain rfl:k=0:=by omega
   exact .of (by omega) rfl (by rw[hi,fD,he]; simp[ta,fit,qj])
 .simp(disch:=omega)only[go_sem]
  rw[hi,kf h]
  rfl
@[go_sem] theorem r47a (a b:Edge):res A az 47 [.agg [.int .i64 a.fr,.bool a.send,.int .i64 a.label,.int .i64 a.to],.agg [.int .i64 b.fr,.bool b.send,.int .i64 b.label,.int .i64 b.to]]=some [.int .i64 (Edge.cmp a b)]:=
 r47 (by kernel_rfl) (by kernel_rfl) (by kernel_rfl) (by kernel_rfl) a b
@[go_sem] theorem r46 (n s:Int) (t:Nat) (cs:List PV):res A az 46 [.int .i64 n,.ro t (.int .i64 s::cs)]=some [.bool (decide (0<=n)&&decide (n<s))]:=by
 refine ai a46 rfl rfl ?_
 simp only[F46,Ts]
 simp(disch:=omega)only[go_sem]
 refine Br.aD (fun h1=>?_) (fun h1=>?_)<;>simp(disch:=omega)only[go_sem,h1]
theorem BT {e:Edge} {n:Int}:e.fits n=(((decide (0<=e.fr)&&decide (e.fr<n))&&(decide (0<=e.to)&&decide (e.to<n)))&&(decide (1<=e.label)&&decide (e.label<=1000))):=by
 simp[Edge.fits,Bool.and_assoc]
set_option maxHeartbeats 2000000 in
@[go_sem] theorem r29 (t:Nat) (a:bj) (hl:a.aw.length<=2^63 - 1):res A az 29 [.agg [.int .i64 a.ay,.int .i64 a.start,.aa t (a.aw.map Edge.c)]]=some [.int .i64 a.err]:=by
 refine ai a29 rfl rfl ?_
 simp only[F29,Ti]
 simp(disch:=omega)only[go_sem]
 refine Br.aD (fun h1=>?_) (fun h1=>?_)<;>simp(disch:=omega)only[go_sem,h1]
 .rw[bj.mQ (.inl h1)]
 refine Br.aD (fun h2=>?_) (fun h2=>?_)<;>simp(disch:=omega)only[go_sem,h2]
 .rw[bj.mQ (.inr (by omega))]
 refine Br.of (fun h3=>?_) (fun h3=>?_)<;>simp at h3<;>simp(disch:=omega)only[go_sem]
 case refine_2=>rw[bj.mP (by omega) (by omega) (by omega)]
 rw[bj.EM (by omega) (by omega) (by omega)]
 refine W.cD a.aw.length (fun k=>⟨[(1,.ptr 1 0),(3,.func 46 [.ptr 1 0]),(22,.pv (.aa t (a.aw.map Edge.c))),(23,.pv (.int .i64 a.aw.length)),(24,.pv (.int .i64 k))],⟨[(1,[.pv (.int .i64 a.ay),.pv (.int .i64 a.start),.pv (.aa t (a.aw.map Edge.c))])],[],[]⟩⟩) (fun k=>ta a.ay none a.aw=ta a.ay (qj a.aw k) (a.aw.drop k)) rfl rfl fun k hk hi=>?_
 simp(disch:=omega)only[go_sem]
 refine Br.aD (fun h=>?_) (fun h=>?_)
 .obtain⟨e,he⟩:=get_at (l:=a.aw) (k:=k) (by omega)
  rw[mO he]at hi
  have bad:e.fits a.ay=false->ta a.ay none a.aw=false:=fun hb=>hi.trans (EN hb)
  rw[BT]at bad
  simp(disch:=omega)only[go_sem,he]
  refine Br.of (fun g1=>?_) (fun g1=>?_)<;>simp(disch:=omega)only[go_sem,g1]
  case refine_2=>rw[bad (by rw[g1]; rfl)]; rfl
  refine Br.of (fun g2=>?_) (fun g2=>?_)<;>simp(disch:=omega)only[go_sem,g2]
  case refine_2=>rw[bad (by rw[g1,g2]; rfl)]; rfl
  refine Br.aD (fun g3=>?_) (fun g3=>?_)<;>simp(disch:=omega)only[go_sem,g3]
  .rw[bad (by simp; omega)]; rfl
  refine Br.aD (fun g4=>?_) (fun g4=>?_)<;>simp(disch:=omega)only[go_sem,g4]
  .rw[bad (by simp; omega)]; rfl
  have fit:e.fits a.ay=true:=by rw[BT,g1,g2]; simp; omega
  refine Br.aD (fun g7=>?_) (fun g7=>?_)<;>simp(disch:=omega)only[go_sem,g7]
  .obtain⟨j,rfl⟩:∃j,k=j+1:=⟨k - 1,by omega⟩
   obtain⟨d,hd⟩:=get_at (l:=a.aw) (k:=j) (by omega)
   have hj:((j+1:Nat):Int) - 1=(j:Int):=by omega
   rw[fD,hd]at hi
   simp(disch:=omega)only[go_sem,hj,hd,Edge.Jp]
   refine Br.of (fun g8=>?_) (fun g8=>?_)<;>simp(disch:=omega)only[go_sem]
   .exact .of (by omega) rfl (by rw[hi,fD,he]; simp[ta,fit,g8])
   .rw[hi]; simp[ta,g8]
  .obtain rfl:k=0:=by omega
   exact .of (by omega) rfl (by rw[hi,fD,he]; simp[ta,fit,qj])
 .simp(disch:=omega)only[go_sem]
  rw[hi,kf h]
  rfl
def dU (s:Int) (d:Bool) (x:Int):List Edge->Option Int
 |[]=>none
 |e::r=>if e.fr=s/\e.send=d/\e.label=x then some e.to else dU s d x r
@[go_sem] theorem r45 (t:Nat) (a:bj) (s:Int) (d:Bool) (x:Int) (hl:a.aw.length<=2^63 - 1):
  res A az 45 [.agg [.int .i64 a.ay,.int .i64 a.start,.aa t (a.aw.map Edge.c)],.int .i64 s,.bool d,.int .i64 x]=some [.int .i64 ((dU s d x a.aw).getD 0),.bool (dU s d x a.aw).isSome]:=by
 refine ai a45 rfl rfl ?_
 simp only[F45,Tq]
 simp(disch:=omega)only[go_sem]
 refine W.cD a.aw.length (fun k=>⟨[(1,.pv (.int .i64 s)),(2,.pv (.bool d)),(3,.pv (.int .i64 x)),(13,.pv (.aa t (a.aw.map Edge.c))),(14,.pv (.int .i64 a.aw.length)),(15,.pv (.int .i64 k))],⟨[],[],[]⟩⟩) (fun k=>dU s d x a.aw=dU s d x (a.aw.drop k)) rfl rfl fun k hk hi=>?_
 simp(disch:=omega)only[go_sem]
 refine Br.aD (fun h=>?_) (fun h=>?_)
 .obtain⟨e,he⟩:=get_at (l:=a.aw) (k:=k) (by omega)
  rw[mO he]at hi
  have no:¬(e.fr=s/\e.send=d/\e.label=x)->dU s d x a.aw=dU s d x (a.aw.drop (k+1)):=fun hn=>hi.trans (by simp only[dU,if_neg hn])
  have yes:(e.fr=s/\e.send=d/\e.label=x)->dU s d x a.aw=some e.to:=fun hn=>hi.trans (by simp only[dU,if_pos hn])
  simp(disch:=omega)only[go_sem,he]
  refine Br.aD (fun g1=>?_) (fun g1=>?_)<;>simp(disch:=omega)only[go_sem,g1]
  .refine Br.aD (fun g2=>?_) (fun g2=>?_)<;>simp(disch:=omega)only[go_sem,g2]
   .refine Br.aD (fun g3=>?_) (fun g3=>?_)<;>simp(disch:=omega)only[go_sem,g3]
    .rw[yes ⟨g1,g2,g3⟩]
     rfl
    .exact .of (by omega) rfl (no (fun hn=>g3 hn.2.2))
   .exact .of (by omega) rfl (no (fun hn=>g2 hn.2.1))
  .exact .of (by omega) rfl (no (fun hn=>g1 hn.1))
 .simp(disch:=omega)only[go_sem]
  rw[hi,kf h]
  rfl
@[go_sem] theorem r39 (t:Nat) (a:bj) (s:Int) (d:Bool) (x:Int) (hl:a.aw.length<=2^63 - 1):
  res A az 39 [.agg [.int .i64 a.ay,.int .i64 a.start,.aa t (a.aw.map Edge.c)],.int .i64 s,.bool d,.int .i64 x]=some [.int .i64 ((dU s d x a.aw).getD 0),.bool (dU s d x a.aw).isSome]:=by
 refine ai a39 rfl rfl ?_
 simp only[F39,Tm]
 simp(disch:=omega)only[go_sem]
 refine W.cD a.aw.length (fun k=>⟨[(1,.pv (.int .i64 s)),(2,.pv (.bool d)),(3,.pv (.int .i64 x)),(4,.ptr 4 0),(10,.pv (.int .i64 k))],⟨[(4,[.pv (.int .i64 a.ay),.pv (.int .i64 a.start),.pv (.aa t (a.aw.map Edge.c))])],[],[]⟩⟩) (fun k=>dU s d x a.aw=dU s d x (a.aw.drop k)) rfl rfl fun k hk hi=>?_
 simp(disch:=omega)only[go_sem]
 refine Br.aD (fun h=>?_) (fun h=>?_)
 .obtain⟨e,he⟩:=get_at (l:=a.aw) (k:=k) (by omega)
  rw[mO he]at hi
  have no:¬(e.fr=s/\e.send=d/\e.label=x)->dU s d x a.aw=dU s d x (a.aw.drop (k+1)):=fun hn=>hi.trans (by simp only[dU,if_neg hn])
  have yes:(e.fr=s/\e.send=d/\e.label=x)->dU s d x a.aw=some e.to:=fun hn=>hi.trans (by simp only[dU,if_pos hn])
  simp(disch:=omega)only[go_sem,he]
  refine Br.aD (fun g1=>?_) (fun g1=>?_)<;>simp(disch:=omega)only[go_sem,g1]
  .refine Br.aD (fun g2=>?_) (fun g2=>?_)<;>simp(disch:=omega)only[go_sem,g2]
   .refine Br.aD (fun g3=>?_) (fun g3=>?_)<;>simp(disch:=omega)only[go_sem,g3]
    .rw[yes ⟨g1,g2,g3⟩]
     rfl
    .exact .of (by omega) rfl (no (fun hn=>g3 hn.2.2))
   .exact .of (by omega) rfl (no (fun hn=>g2 hn.2.1))
  .exact .of (by omega) rfl (no (fun hn=>g1 hn.1))
 .simp(disch:=omega)only[go_sem]
  rw[hi,kf h]
  rfl
def EO (s:Int):List Edge->Bool
 |[]=>true
 |e::r=>if e.fr=s then false else EO s r
def AT (es:List Edge):Nat->List Int
 |0=>[]
 |k+1=>if EO k es then AT es k++[(k:Int)] else AT es k
def bj.ends (a:bj):List Int:=if a.ay<=12 then AT a.aw a.ay.toNat else []
def eS (x:Int):Nat->List Int->Int
 |_,[]=> -1
 |k,y::r=>if y=x then k else eS x (k+1) r
def px (x:Int) (l:List Int):Int:=eS x 0 l
@[go_sem] theorem r53 (t:Nat) (l:List Int) (x:Int) (hl:l.length<=2^63 - 1):res A az 53 [.aa t (ints l),.int .i64 x]=some [.int .i64 (px x l)]:=by
 refine ai a53 rfl rfl ?_
 simp only[F53,Tw]
 simp(disch:=omega)only[go_sem]
 refine W.cD l.length (fun k=>⟨[(0,.pv (.aa t (ints l))),(1,.pv (.int .i64 x)),(5,.pv (.int .i64 k))],⟨[],[],[]⟩⟩) (fun k=>px x l=eS x k (l.drop k)) rfl rfl fun k hk hi=>?_
 simp(disch:=omega)only[go_sem]
 refine Br.aD (fun h=>?_) (fun h=>?_)
 .obtain⟨y,hy⟩:=get_at (l:=l) (k:=k) (by omega)
  rw[mO hy]at hi
  simp(disch:=omega)only[go_sem,hy]
  refine Br.aD (fun g1=>?_) (fun g1=>?_)<;>simp(disch:=omega)only[go_sem,g1]
  .rw[hi]
   simp only[eS,if_pos g1]
  .exact .of (by omega) rfl (hi.trans (by simp only[eS,if_neg g1]))
 .simp(disch:=omega)only[go_sem]
  rw[hi,kf h]
  rfl
def cW:List Int->List Int
 |[]=>[]
 |[x]=>[x]
 |x::y::r=>if x=y then cW (y::r) else x::cW (y::r)
@[go_sem] theorem LH (a b c d:Nat):distinct (eo [.own a b c d])=true:=rfl
@[go_sem] theorem LI (bx:List (Nat×List V)) (mp:List (List (PV×PV))) (ar:List aL) (v n:Nat) (l:List Int):bO ⟨bx,⟨v,1,.inl (ints l)⟩::ar,mp⟩ true (.own 0 v 0 n)=some (.fr 1 (ints (l.take n))):=by
 simp[bO,fb,aF,ints]
@[go_sem] theorem Q5 (bx:List (Nat×List V)) (mp:List (List (PV×PV))) (ar:List aL) (v off len:Nat) (l:List Int) (h:off+len<=l.length):IU ⟨bx,⟨v,1,.inl (ints l)⟩::ar,mp⟩ 1 [.pv (.int .i64 0)] (.own 0 v off len)=
  some (.dH [],{ ar:=some (0,⟨v,1,.inl (ints (l.take off++List.replicate len 0++l.drop (off+len)))⟩) }):=by
 simp[IU,aF,aA,V.bN,PV.perm,ints,h]
theorem r104_small (l:List Int) (h1:l.length<2):res A az 104 [.fr 1 (ints l)]=some [.fr 1 (ints l)]:=by
 refine ai a104 rfl rfl ?_
 simp only[F104,Ez]
 have h2:((l.length:Nat):Int)<2:=by omega
 simp(disch:=omega)only[go_sem,h2,List.take_length]
theorem tI (l:List Int) (x y:Int) (k:Nat) (hx:l[k]?=some x) (hy:l[k+1]?=some y):cW (l.take (k+2))=if x=y then cW (l.take (k+1)) else cW (l.take (k+1))++[y]:=by
 induction l generalizing k with
 |nil=>simp at hx
 |cons z l ih=>
  cases k with
  |zero=>
   simp at hx hy
   subst hx
   match l,hy with
   |w::r,hy=>
    simp at hy
    subst hy
    simp only[Nat.zero_add,List.take_succ_cons,List.take_zero,cW]
    split
    .rename_i hzw
     rw[hzw]
    .rfl
  |succ k=>
   simp at hx hy
   have:=ih k hx hy
   match l,hx with
   |w::r,hx=>
    simp only[List.take_succ_cons,cW]at this |-
    split
    .exact this
    .rw[this]
     split<;>simp
theorem GS (c l:List Int) (v:Int) (h:c.length<l.length):(c++l.drop c.length).set c.length v=(c++[v])++l.drop (c++[v]).length:=by
 rw[List.set_append_right _ _ (VI _),Nat.sub_self,VO]
 have:(c++[v]).length=c.length+1:=by simp
 rw[this,List.drop_eq_getElem_cons h]
 rfl
theorem r104_big (l:List Int) (h1:2<=l.length) (h0:l.length<=2000000000):res A az 104 [.fr 1 (ints l)]=some [.fr 1 (ints (cW l))]:=by
 refine ai a104 rfl rfl ?_
 simp only[F104,Ez]
 have h2:¬((l.length:Nat):Int)<2:=by omega
 simp(disch:=omega)only[go_sem,h2]
 refine W.cD (l.length - 1) (fun j=>⟨[(0,.own 0 0 0 l.length),(3,.pv (.int .i64 (j+1:Nat)))],⟨[],[⟨0,1,.inl (ints l)⟩],[]⟩⟩) (fun j=>cW (l.take (j+1))=l.take (j+1)) rfl ?_ fun j hj hi=>?_
 .match l,h1 with
  |x::r,_=>rfl
 have e1:((j+1:Nat):Int) - 1=(j:Int):=by omega
 simp(disch:=omega)only[go_sem]
 refine Br.aD (fun h=>?_) (fun h=>?_)
 .obtain⟨x,hx⟩:=get_at (l:=l) (k:=j) (by omega)
  obtain⟨y,hy⟩:=get_at (l:=l) (k:=j+1) (by omega)
  have hs:=tI l x y j hx hy
  simp(disch:=omega)only[go_sem,e1,hx,hy]
  refine Br.aD (fun g=>?_) (fun g=>?_)
  case refine_2=>
   simp(disch:=omega)only[go_sem,g]
   refine .of (by omega) rfl ?_
   rw[hs,if_neg (fun hc=>g hc.symm),hi,VT (i:=j+1),hy]
   rfl
  simp(disch:=omega)only[go_sem,g]
  have hc0:cW (l.take (j+2))=l.take (j+1):=by rw[hs,if_pos g.symm,hi]
  refine W.cD (l.length - (j+2)) (fun i=>⟨[(0,.own 0 0 0 l.length),(3,.pv (.int .i64 (cW (l.take (j+2+i))).length)),(4,.own 0 0 (j+1) (l.length - (j+1))),(5,.pv (.int .i64 (i+1:Nat)))],⟨[],[⟨0,1,.inl (ints (cW (l.take (j+2+i))++l.drop (cW (l.take (j+2+i))).length))⟩],[]⟩⟩)
   (fun i=>(cW (l.take (j+2+i))).length<=j+1+i) ?_ ?_ fun i hj2 hw=>?_
  .simp only[Nat.add_zero,hc0,List.length_take]
   rw[Xe (by omega),Wo]
   rfl
  .simp only[Nat.add_zero,hc0,List.length_take]
   omega
  have hkeep:∀q,(cW (l.take (j+2+i))).length<=q->(cW (l.take (j+2+i))++l.drop (cW (l.take (j+2+i))).length)[q]?=l[q]?:=fun q hq=>by
   rw[VM hq,Wg]
   congr 1
   omega
  simp(disch:=omega)only[go_sem]
  refine Br.aD (fun f=>?_) (fun f=>?_)
  .obtain⟨u,hu⟩:=get_at (l:=l) (k:=j+1+i) (by omega)
   obtain⟨v,hv⟩:=get_at (l:=l) (k:=j+1+i+1) (by omega)
   have hst:=tI l u v (j+1+i) hu hv
   have k1:=(hkeep (j+1+i) hw).trans hu
   have k2:=(hkeep (j+1+i+1) (by omega)).trans hv
   have e3:((i+1:Nat):Int) - 1=(i:Int):=by omega
   have e4:j+1+(i+1)=j+1+i+1:=by omega
   have e5:j+1+i+2=j+2+(i+1):=by omega
   have e6:j+1+i+1=j+2+i:=by omega
   rw[e5,e6]at hst
   simp(disch:=omega)only[go_sem,e3,e4,k1,k2]
   refine Br.aD (fun g3=>?_) (fun g3=>?_)
   .simp(disch:=omega)only[go_sem,g3]
    rw[if_pos g3.symm]at hst
    refine .of (by omega) ?_ ?_
    .show _=St.mk _ _
     rw[hst]
     rfl
    .show (cW _).length<=_
     rw[hst]
     omega
   .have hln:(cW (l.take (j+2+i))++l.drop (cW (l.take (j+2+i))).length).length=l.length:=by simp; omega
    rw[if_neg (fun hc=>g3 hc.symm)]at hst
    simp(disch:=omega)only[go_sem,g3,e4,k2]
    refine .of (by omega) ?_ ?_
    .show _=St.mk _ _
     rw[hst,GS _ _ _ (by omega),VE]
     rfl
    .show (cW _).length<=_
     rw[hst,VE]
     simp
     omega
  .have hln:(cW (l.take (j+2+i))++l.drop (cW (l.take (j+2+i))).length).length=l.length:=by simp; omega
   have hall:cW (l.take (j+2+i))=cW l:=by rw[VS (by omega)]
   rw[hall]at hln hw |-
   simp(disch:=omega)only[go_sem]
   rw[List.append_assoc,List.take_append_of_le_length (by simp),List.take_take,Nat.min_self,List.take_append_of_le_length (Nat.le_refl _),List.take_length]
 .simp(disch:=omega)only[go_sem]
  rw[VS (by omega)]at hi
  rw[VW,hi]
inductive CY where
 |e
 |a (x:Int) (l:List Int)
 |b (x:Int) (l:List Int)
 |ab (x:Int) (l:List Int) (y:Int) (r:List Int)
 |ba (x:Int) (l:List Int) (y:Int) (r:List Int)
def ow (i:Nat) (l:List Int):V:=.own i l.length 0 (l.length+1)
def ao (x:Int) (l:List Int):aL:=⟨l.length,1,.inl (ints (x::l))⟩
def CY.v0:CY->V
 |.e|.b _ _=>.tl []
 |.a _ l|.ab _ l _ _=>ow 0 l
 |.ba _ l _ _=>ow 1 l
def CY.v1:CY->V
 |.e|.a _ _=>.tl []
 |.b _ l|.ba _ _ _ l=>ow 0 l
 |.ab _ _ _ r=>ow 1 r
def CY.ar:CY->List aL
 |.e=>[]
 |.a x l|.b x l=>[ao x l]
 |.ab x l y r=>[ao x l,ao y r]
 |.ba x l y r=>[ao y r,ao x l]
def CY.l0:CY->List Int
 |.e|.b _ _=>[]
 |.a x l|.ab x l _ _|.ba x l _ _=>x::l
def CY.l1:CY->List Int
 |.e|.a _ _=>[]
 |.b x l|.ab _ _ x l|.ba _ _ x l=>x::l
def CY.put (s:Bool) (z:Int):CY->CY
 |.e=>if s then .b z [] else .a z []
 |.a x l=>if s then .ab x l z [] else .a x (l++[z])
 |.b x l=>if s then .b x (l++[z]) else .ba z [] x l
 |.ab x l y r=>if s then .ab x l y (r++[z]) else .ab x (l++[z]) y r
 |.ba x l y r=>if s then .ba x l y (r++[z]) else .ba x (l++[z]) y r
def CY.len (t:CY):Nat:=t.l0.length+t.l1.length
def AU (id aq off len : Nat) (a : aL) : Option (V × Tn) :=
 if len = 0 then some (.dH [],{ ra := some id }) else (match a.body with
    | .inl rows => if a.k = 1 /\ off + len <= rows.length /\ len <= aT then (match aA gq ((rows.drop off).take len) with
     | some l => some (.dH [],{ ar := some (id,⟨aq,1,.inl (rows.take off ++ (ct nu l).map (fun x => [.int .i64 x]) ++ rows.drop (off + len))⟩) })
     | none => none) else none
    | .inr _ => none)
@[go_sem] theorem Oa (h:af):eQ [.tl []] h=some (.dH [],{}):=rfl
@[go_sem] theorem LJ (h:af) (id aq off len:Nat):eQ [.own id aq off len] h=(aF h id aq).bind (AU id aq off len):=by
 simp only[eQ]
 cases aF h id aq<;>rfl
@[go_sem] theorem HU {id aq n:Nat} {l:List Int} (hn:n=l.length) (h0:n≠0) (hm:n<=2147483648):AU id aq 0 n ⟨aq,1,.inl (ints l)⟩=some (.dH [],{ ar:=some (id,⟨aq,1,.inl (ints (ct nu l))⟩) }):=by
 subst hn
 have e1:(ints l).length=l.length:=aH l
 simp[AU,h0,e1,aT,hm,tz,List.take_of_length_le (Nat.le_of_eq e1),List.drop_eq_nil_of_le (Nat.le_of_eq e1)]
 rfl
def BU (id aq len:Nat) (a:aL):Option (List PV×Option (Nat×aL)):=
 if a.size=len/\a.k≠0 then (match a.body with
   |.inl rows=>some ([.fr a.k rows],some (id,⟨aq+1,0,.inl []⟩))
   |.inr _=>none) else none
@[go_sem] theorem HV (h:af) (id aq len:Nat):cA h true [.own id aq 0 len]=(aF h id aq).bind (BU id aq len):=by
 simp only[cA,cw]
 cases aF h id aq with
 |none=>rfl
 |some a=>
  simp only[Option.bind_some,if_true,BU]
  by_cases hc:a.size=len/\a.k≠0
  .cases hb:a.body<;>simp[hc,aA]
  .simp[hc]
@[go_sem] theorem LK {id aq v len:Nat} {l:List Int} (hn:len=l.length):BU id aq len ⟨v,1,.inl (ints l)⟩=some ([.fr 1 (ints l)],some (id,⟨aq+1,0,.inl []⟩)):=by
 subst hn
 simp[BU,aL.size,aH]
theorem y9:∀{l:List Int},l.length<2->cW l=l
 |[],_=>rfl
 |[_],_=>rfl
 |_::_::_,h=>by simp at h; omega
@[go_sem] theorem r104 (l:List Int) (h0:l.length<=2000000000):res A az 104 [.fr 1 (ints l)]=some [.fr 1 (ints (cW l))]:=by
 rcases VG l.length 2 with h|h
 .rw[r104_small l h,y9 h]
 .exact r104_big l h h0
@[go_sem] theorem r104_nil:res A az 104 [.aa 0 []]=some [.aa 0 []]:=by
 refine ai a104 rfl rfl ?_
 simp only[F104,Ez]
 have h2:(((0:Nat):Nat):Int)<2:=by omega
 simp(disch:=omega)only[go_sem,h2]
 rfl
@[go_sem] theorem qp (l:List Int):(ct nu l).length=l.length:=(bJ nu l).length_eq
theorem qq:∀{l:List Int} {x:Int},x∈cW l↔x∈l
 |[],_=>by simp[cW]
 |[y],_=>by simp[cW]
 |y::z::r,x=>by
  have ih:=qq (l:=z::r) (x:=x)
  unfold cW
  split
  .rename_i h
   subst h
   rw[ih]
   simp
  .simp only[List.mem_cons]at ih |-
   rw[ih]
theorem vH:∀{l:List Int},l.Pairwise (·<=·)->(cW l).Pairwise (·<·)
 |[],_=>List.Pairwise.nil
 |[y],_=>WQ _ _
 |y::z::r,h=>by
  obtain⟨h1,h2⟩:=VQ.1 h
  have ih:=vH h2
  unfold cW
  split
  .exact ih
  .rename_i hn
   refine VQ.2 ⟨fun x hx=>?_,ih⟩
   have hx':=qq.1 hx
   have hz:=h1 z (by simp)
   rcases V6.1 hx' with rfl|hx'
   .omega
   .have:=(VQ.1 h2).1 x hx'
    omega
theorem vI:∀l:List Int,(cW l).length<=l.length
 |[]=>VI _
 |[_]=>VI _
 |x::y::r=>by
  have:=vI (y::r)
  unfold cW
  split<;>simp at *<;>omega
def lu (l:List Int):List Int:=cW (ct nu l)
theorem CZ (l:List Int):(lu l).Pairwise (·<·):=vH (iF l)
theorem vJ (l:List Int):(lu l).length<=l.length:=by
 have:=vI (ct nu l)
 rw[qp]at this
 exact this
theorem mR {l:List Int} {x:Int}:x∈lu l↔x∈l:=by
 unfold lu
 rw[qq,(bJ nu l).mem_iff]
theorem EP {l m:List Int} (hm:m.Pairwise (·<·)) (h:∀x,x∈l↔x∈m):lu l=m:=wW (CZ l) hm fun x=>by rw[mR,h]
theorem tJ {x:Int}:∀{l:List Int} {k:Nat},eS x k l<0↔x∉l
 |[],k=>by simp[eS]
 |y::r,k=>by
  unfold eS
  split
  .rename_i h
   subst h
   simp
  .rename_i h
   rw[tJ]
   simp only[List.mem_cons,not_or]
   exact⟨fun h2=>⟨fun e=>h e.symm,h2⟩,fun h2=>h2.2⟩
theorem py {x:Int} {l:List Int}:px x l<0↔x∉l:=tJ
theorem rT {x:Int} {l:List Int}:0<=px x l↔x∈l:=by
 rw[<- Int.not_lt,py]
 simp
def uw (n:Int):List Int->List Int
 |[]=>[n]
 |y::r=>if y<n then y::uw n r else if y=n then y::r else n::y::r
theorem w6 {n x:Int}:∀{l:List Int},x∈uw n l↔x=n\/x∈l
 |[]=>by simp[uw]
 |y::r=>by
  unfold uw
  split
  .rw[V6,w6,V6]
   constructor
   .rintro (h|h|h)
    .exact .inr (.inl h)
    .exact .inl h
    .exact .inr (.inr h)
   .rintro (h|h|h)
    .exact .inr (.inl h)
    .exact .inl h
    .exact .inr (.inr h)
  .split
   .rename_i h
    subst h
    constructor
    .exact .inr
    .rintro (rfl|h)
     .exact We ..
     .exact h
   .rw[V6]
theorem BV {n:Int}:∀{l:List Int},l.Pairwise (·<·)->(uw n l).Pairwise (·<·)
 |[],_=>WQ _ _
 |y::r,h=>by
  obtain⟨h1,h2⟩:=VQ.1 h
  unfold uw
  split
  .rename_i hy
   refine VQ.2 ⟨fun x hx=>?_,BV h2⟩
   rcases w6.1 hx with rfl|hx
   .exact hy
   .exact h1 x hx
  .split
   .exact h
   .rename_i h3 h4
    refine VQ.2 ⟨fun x hx=>?_,h⟩
    rcases V6.1 hx with rfl|hx
    .omega
    .have:=h1 x hx
     omega
def eT (l m:List Int):List Int:=m.foldl (fun a n=>uw n a) l
theorem mq (l m k:List Int):eT l (m++k)=eT (eT l m) k:=by simp[eT,List.foldl_append]
theorem qt:∀{m l:List Int},l.Pairwise (·<·)->(eT l m).Pairwise (·<·)/\∀x,x∈eT l m↔x∈m\/x∈l
 |[],l,h=>⟨h,fun x=>by simp[eT]⟩
 |n::m,l,h=>by
  obtain⟨h1,h2⟩:=qt (m:=m) (BV (n:=n) h)
  refine⟨h1,fun x=>?_⟩
  show x∈eT (uw n l) m↔_
  rw[h2,w6,V6]
  constructor
  .rintro (h|h|h)
   .exact .inl (.inr h)
   .exact .inl (.inl h)
   .exact .inr h
  .rintro ((h|h)|h)
   .exact .inr (.inl h)
   .exact .inl h
   .exact .inr (.inr h)
theorem AV (m:List Int):eT [] m=lu m:=by
 obtain⟨h1,h2⟩:=qt (m:=m) (l:=[]) List.Pairwise.nil
 exact(EP h1 fun x=>by rw[h2]; simp).symm
theorem rU (n:Int):∀l:List Int,(uw n l).length<=l.length+1
 |[]=>by simp[uw]
 |y::r=>by
  have:=rU n r
  unfold uw
  split
  .simp only[List.length_cons]
   omega
  .split<;>simp
theorem pz:∀(m l:List Int),(eT l m).length<=l.length+m.length
 |[],l=>by simp[eT]
 |n::m,l=>by
  have h1:=pz m (uw n l)
  have h2:=rU n l
  show (eT (uw n l) m).length<=_
  rw[Xn]
  omega
theorem vK (n:Int):∀(l:List Int) (i:Nat),(∀j z,j<i->l[j]?=some z->z<n)->i<=l.length->(∀z,l[i]?=some z->¬z<n)->uw n l=if l[i]?=some n then l else l.take i++n::l.drop i
 |[],i,_,hi,_=>by
  have:i=0:=by simpa using hi
  subst this
  simp[uw]
 |y::r,0,_,_,h=>by
  have hy:=h y rfl
  unfold uw
  rw[if_neg hy]
  by_cases e:y=n
  .rw[if_pos e,if_pos (by simp[e])]
  .rw[if_neg e,if_neg (by simpa using e)]
   rfl
 |y::r,i+1,h1,hi,h2=>by
  have hy:=h1 0 y (by omega) rfl
  have ih:=vK n r i (fun j z hj hz=>h1 (j+1) z (by omega) (by simpa using hz)) (by simpa using hi) (fun z hz=>h2 z (by simpa using hz))
  unfold uw
  rw[if_pos hy,ih]
  simp only[List.getElem?_cons_succ,List.take_succ_cons,List.drop_succ_cons,List.cons_append]
  split<;>rfl
def cC (l:List lC):List Int:=l.flatMap fun c=>[c.nH,c.rep]
def gx (l:List eD):List Int:=l.map (·.ty)
def dj (l:List dx):List Int:=l.flatMap fun w=>gx w.msgs
def jt (l:List nc):List Int:=l.map (·.ty)
def du (v:kr):List Int:=cC v.calls++dj v.ax++jt v.aK
theorem gF {α:Type} (f:α->List Int) (l:List α) (k:Nat):((l.take k).flatMap f).length<=(l.flatMap f).length:=by
 have:=congrArg List.length (congrArg (List.flatMap f) (Wo k l))
 rw[List.flatMap_append,VE]at this
 omega
theorem iS {α:Type} (f:α->List Int) {l:List α} {k:Nat} {x:α} (h:l[k]?=some x):(l.take (k+1)).flatMap f=(l.take k).flatMap f++f x:=by
 rw[VT,h,List.flatMap_append]
 simp
def ny (u:List Bool) (l:List Int):List Bool:=l.foldl (fun u x=>u.set x.toNat true) u
noncomputable def q9 (T:List aC) (R:List Int):List Bool:=R.foldl (fun u r=>ny u (bL T r).1) (List.replicate T.length false)
def jJ (U:List Bool) (k:Nat):List Nat:=(List.range k).filter fun i=>U.getD i false
def gU (U:List Bool) (k:Nat):List Int:=(jJ U k).map fun(i:Nat)=>(i:Int)
def nh (U:List Bool) (n k:Nat):List Int:=(List.range n).map fun j=>if j<k then ((jJ U j).length:Int) else 0
theorem vL (l:List Int):∀u:List Bool,(ny u l).length=u.length:=by
 induction l with
 |nil=>intro u; rfl
 |cons x l ih=>
  intro u
  show (ny (u.set x.toNat true) l).length=_
  rw[ih,WG]
theorem C0 (l:List Int):∀(u:List Bool) (i:Nat),(∀x∈l,0<=x/\x<u.length)->((ny u l).getD i false=true↔u.getD i false=true\/(i:Int)∈l):=by
 induction l with
 |nil=>intro u i _; simp[ny]
 |cons x l ih=>
  intro u i h
  have h0:=h x We
  show ((ny (u.set x.toNat true) l).getD i false=true↔_)
  rw[ih _ _ fun y hy=>by rw[WG]; exact h y (Wl _ hy),V6,VK,List.getElem?_set,VK]
  by_cases e:x.toNat=i
  .rw[if_pos e,if_pos (by omega)]
   have:(i:Int)=x:=by omega
   simp[this]
  .rw[if_neg e]
   have:¬(i:Int)=x:=by omega
   simp[this]
theorem C1 (T:List aC) (R:List Int):∀u:List Bool,(R.foldl (fun u r=>ny u (bL T r).1) u).length=u.length:=by
 induction R with
 |nil=>intro u; rfl
 |cons r R ih=>
  intro u
  rw[Wy,ih,vL]
theorem vM (T:List aC) (R:List Int):(q9 T R).length=T.length:=by
 unfold q9
 rw[C1,WI]
theorem C2 (T:List aC) (R:List Int):∀(u:List Bool) (i:Nat),u.length=T.length->(∀r∈R,∀x∈(bL T r).1,xB T x)->((R.foldl (fun u r=>ny u (bL T r).1) u).getD i false=true↔u.getD i false=true\/∃r∈R,(i:Int)∈(bL T r).1):=by
 induction R with
 |nil=>intro u i _ _; simp
 |cons r R ih=>
  intro u i hl h
  have h1:=C0 (bL T r).1 u i fun x hx=>by rw[hl]; exact h r We x hx
  rw[Wy,ih _ _ (by rw[vL,hl]) fun s hs=>h s (Wl _ hs),h1]
  simp only[List.mem_cons,exists_eq_or_imp]
  exact or_assoc
theorem C3 {T:List aC} {R:List Int} (h:∀r∈R,∀x∈(bL T r).1,xB T x) (i:Nat):(q9 T R).getD i false=true↔∃r∈R,(i:Int)∈(bL T r).1:=by
 unfold q9
 rw[C2 T R _ i WI h]
 have:(List.replicate T.length false).getD i false=false:=by
  rw[VK,WM]
  split<;>rfl
 rw[this]
 simp
theorem tK (U:List Bool) (k:Nat):jJ U (k+1)=if U.getD k false=true then jJ U k++[k] else jJ U k:=by
 unfold jJ
 rw[WR,List.filter_append]
 by_cases h:U.getD k false=true
 .rw[if_pos h]
  simp only[List.filter_cons,h,if_true,List.filter_nil]
 .rw[if_neg h]
  simp only[List.filter_cons,h,if_false,List.filter_nil,List.append_nil,Bool.false_eq_true]
theorem vN {U:List Bool} {k i:Nat}:i∈jJ U k↔i<k/\U.getD i false=true:=by
 simp[jJ,List.mem_filter]
theorem vO {U:List Bool} {k:Nat} {u:Int}:u∈gU U k↔0<=u/\u<k/\U.getD u.toNat false=true:=by
 unfold gU
 rw[VP]
 constructor
 .rintro ⟨i,hi,rfl⟩
  have:=vN.1 hi
  rw[Ws]
  exact⟨by omega,by omega,this.2⟩
 .rintro ⟨h1,h2,h3⟩
  exact⟨u.toNat,vN.2 ⟨by omega,h3⟩,by omega⟩
theorem mS (U:List Bool) (k:Nat):(jJ U k).length<=k:=by
 unfold jJ
 have:=Xk (fun i=>U.getD i false) (List.range k)
 rw[V7]at this
 exact this
theorem C4 (U:List Bool) (k:Nat):(gU U k).Pairwise (·<·):=by
 unfold gU
 rw[List.pairwise_map]
 exact((List.pairwise_lt_range).filter _).imp fun h=>by omega
theorem za (U:List Bool):∀(k i:Nat),i<k->U.getD i false=true->di (gU U k) (i:Int)=(jJ U i).length
 |0,i,h,_=>absurd h (WZ _)
 |k+1,i,h,hu=>by
  have hs:gU U (k+1)=if U.getD k false=true then gU U k++[(k:Int)] else gU U k:=by
   unfold gU
   rw[tK]
   split<;>simp
  rw[hs]
  by_cases e:i=k
  .subst e
   rw[if_pos hu,CU]
   .simp[gU]
   .intro hm
    have:=(vO.1 hm).2.1
    omega
  .have ih:=za U k i (by omega) hu
   split
   .rw[w5 (by omega)]
    exact ih
   .exact ih
theorem zb (U:List Bool) (n k:Nat):(nh U n k).length=n:=by simp[nh]
theorem C5 (U:List Bool) (n:Nat):nh U n 0=List.replicate n 0:=by
 apply List.ext_getElem
 .simp[nh]
 .intro i h1 h2
  simp[nh]
theorem ER (U:List Bool) (n k:Nat):(nh U n k).set k ((jJ U k).length:Int)=nh U n (k+1):=by
 apply List.ext_getElem
 .simp[nh]
 .intro i h1 h2
  rw[List.getElem_set]
  by_cases h:k=i
  .subst h
   simp[nh]
  .have:(i<k+1)=(i<k):=by rw[eq_iff_iff]; omega
   simp[nh,h,this]
theorem ES {U:List Bool} {n:Nat} {u:Int} (h0:0<=u) (h1:u<n) (hu:U.getD u.toNat false=true):(nh U n n)[u.toNat]?=some (di (gU U n) u):=by
 have hk:=za U n u.toNat (by omega) hu
 rw[Xq h0]at hk
 have hl:u.toNat<n:=by omega
 unfold nh
 rw[VF,List.getElem?_range hl,Xb,if_pos hl,hk]
noncomputable def ju (v:kr):List Bool:=q9 v.types (lu (du v))
noncomputable def aQ (v:kr):List Int:=gU (ju v) v.types.length
def bc (L:List Int) (c:lC):lC:=⟨c.name,di L c.nH,di L c.rep⟩
def bp (L:List Int) (c:nc):nc:=⟨c.name,di L c.ty⟩
def gy (L:List Int) (m:eD):eD:=⟨m.id,m.name,di L m.ty⟩
def bG (L:List Int) (w:dx):dx:=⟨w.name,w.msgs.map (gy L),w.auto⟩
noncomputable def jK (v:kr):kr:=⟨v.name,(aQ v).map fun u=>dp (aQ v) (bK v.types u),v.calls.map (bc (aQ v)),v.ax.map (bG (aQ v)),v.aK.map (bp (aQ v))⟩
theorem zd {T:List aC} {r:Int} (hv:bW T=0) (h0:0<=r) (h1:r<T.length):r∈(bL T r).1:=by
 have hk:gv T r=0:=by
  unfold gv
  rw[hv]
  have:dh T.length r=false:=by
   simp[dh]
   omega
  simp[this]
 unfold bL
 rw[if_neg (by simp[hk])]
 refine(bJ nu _).mem_iff.2 ?_
 unfold mf
 rw[wZ (P:=xB T) (bS hv).next gw ⟨h0,h1⟩]
 exact .refl
theorem zf {T:List aC} {r u x:Int} (hu:u∈(bL T r).1) (hx:x∈bT (bK T u)):x∈(bL T r).1:=by
 unfold bL at hu |-
 split at hu
 .simp at hu
 .rename_i h1
  have hk:gv T r=0:=by simpa using h1
  rw[if_neg h1]
  obtain⟨hv,h0,h2⟩:=kW hk
  have hP:=(bS hv).next
  refine(bJ nu _).mem_iff.2 ?_
  have hu:=(bJ nu _).mem_iff.1 hu
  unfold mf at *
  rw[wZ (P:=xB T) hP gw ⟨h0,h2⟩]at *
  exact .step hu hx
theorem kX {T:List aC} {r:Int}:∀x∈(bL T r).1,xB T x:=by
 intro x hx
 unfold bL at hx
 split at hx
 .simp at hx
 .rename_i h1
  have hk:gv T r=0:=by simpa using h1
  exact(vB hk).2 x ((bJ nu _).mem_iff.1 hx)
def Used (v:kr) (u:Int):Prop:=0<=u/\u<v.types.length/\(ju v).getD u.toNat false=true
theorem C6 (v:kr):(ju v).length=v.types.length:=vM _ _
theorem gz {v:kr} {u:Int}:u∈aQ v↔Used v u:=by
 unfold aQ Used
 rw[vO]
theorem mr {v:kr} {u:Int} (h0:0<=u):(ju v).getD u.toNat false=true↔∃r∈du v,u∈(bL v.types r).1:=by
 unfold ju
 rw[C3 fun r _ x hx=>kX x hx,Xq h0]
 simp only[mR]
theorem vP {v:kr} (hv:bW v.types=0) (hr:∀r∈du v,0<=r/\r<v.types.length):∀r∈du v,Used v r:=fun r h=>⟨(hr r h).1,(hr r h).2,(mr (hr r h).1).2 ⟨r,h,zd hv (hr r h).1 (hr r h).2⟩⟩
theorem vQ {v:kr} {u x:Int} (hu:Used v u) (hx:x∈bT (bK v.types u)):Used v x:=by
 obtain⟨h0,h1,h2⟩:=hu
 obtain⟨r,hr,hm⟩:=(mr h0).1 h2
 have:=zf hm hx
 obtain⟨g0,g1⟩:=kX x this
 exact⟨g0,g1,(mr g0).2 ⟨r,hr,this⟩⟩
theorem vR (T:List aC):∀(R K:List Int),K.Pairwise (·<·)->(R.foldl (fun K r=>eT K (bL T r).1) K).Pairwise (·<·)/\∀x,x∈R.foldl (fun K r=>eT K (bL T r).1) K↔(∃r∈R,x∈(bL T r).1)\/x∈K
 |[],K,h=>⟨h,fun x=>by simp⟩
 |r::R,K,h=>by
  obtain⟨g1,g2⟩:=qt (m:=(bL T r).1) h
  obtain⟨h1,h2⟩:=vR T R _ g1
  refine⟨h1,fun x=>?_⟩
  rw[Wy,h2,g2]
  simp only[List.mem_cons,exists_eq_or_imp]
  rw[<- or_assoc]
  constructor
  .rintro ((h|h)|h)
   .exact .inl (.inr h)
   .exact .inl (.inl h)
   .exact .inr h
  .rintro ((h|h)|h)
   .exact .inl (.inr h)
   .exact .inl (.inl h)
   .exact .inr h
theorem ET (v:kr):(lu (du v)).foldl (fun K r=>eT K (bL v.types r).1) []=aQ v:=by
 obtain⟨h1,h2⟩:=vR v.types (lu (du v)) [] List.Pairwise.nil
 refine wW h1 (C4 (ju v) v.types.length) fun x=>?_
 show _↔x∈aQ v
 rw[h2,gz]
 simp only[mR,List.not_mem_nil,or_false]
 constructor
 .rintro ⟨r,hr,hx⟩
  obtain⟨g0,g1⟩:=kX x hx
  exact⟨g0,g1,(mr g0).2 ⟨r,hr,hx⟩⟩
 .rintro ⟨g0,g1,g2⟩
  exact(mr g0).1 g2
theorem w7 {k:Nat} {rows:List (List PV)} (h:∀r∈rows,r.length=k):aP k (.inl rows)=true:=by
 simp only[aP,List.all_eq_true,beq_iff_eq]
 exact h
@[go_sem] theorem GU (l:List Int):aP 1 (.inl (ints l))=true:=w7 fun r hr=>by
 obtain⟨x,_,rfl⟩:=VP.1 hr
 rfl
@[go_sem] theorem Ob (g:bM->V) (h:af) (k t:Nat) (rows:List (List PV)) (hi:bM):
  cZ g h k (.pv (.aa t rows)) none (some hi) none=if aP k (.inl rows)=true then (intOf (g hi)).bind fun i=>wQ i rows.length (.pv (.aa t (rows.take i.toNat)),{}) else none:=by
 cases hf:aP k (.inl rows)with
 |false=>simp[cZ,hf]
 |true=>
  cases hj:intOf (g hi)with
  |none=>simp[cZ,hf,bounds,bound,hj]
  |some i=>by_cases h0:0<=i/\i<=rows.length<;>simp[cZ,hf,bounds,bound,hj,h0,wQ]
@[go_sem] theorem HW (g:bM->V) (h:af) (k t:Nat) (rows:List (List PV)) (lo:bM):
  cZ g h k (.pv (.aa t rows)) (some lo) none none=if aP k (.inl rows)=true then (intOf (g lo)).bind fun i=>wQ i rows.length (.pv (.aa t (rows.drop i.toNat)),{}) else none:=by
 cases hf:aP k (.inl rows)with
 |false=>simp[cZ,hf]
 |true=>
  cases hj:intOf (g lo)with
  |none=>simp[cZ,hf,bounds,bound,hj]
  |some i=>by_cases h0:0<=i/\i<=rows.length<;>simp[cZ,hf,bounds,bound,hj,h0,wQ]
def fT (t u x y:Nat) (v:kr):List PV:=[.str v.name,.aa t (v.types.map aC.c),.aa u (aW v.calls),.aa x (ax v.ax),.aa y (bo v.aK)]
def LM (k:Nat) (rows:List (List PV)):PV:=if rows=[] then .aa 0 [] else .fr k rows
theorem w8 {α:Type} {c:α->List PV} {k:Nat} (hc:∀x,(c x).length=k) (l:List α) (hm:l.length<=2147483648):(l=[]/\∀h,dn k [.pv (.aa 0 (l.map c))] h=some (.tl [],{}))\/(l≠[]/\∀h,dn k [.pv (.aa 0 (l.map c))] h=some (.own h.ar.length 0 0 l.length,{ push:=[⟨0,k,.inl (l.map c)⟩],base:=h.ar.length })):=by
 have hf:aP k (.inl (l.map c))=true:=by simp[aP,hc]
 cases l with
 |nil=>exact .inl ⟨rfl,fun h=>by simp[dn,bg,aP]⟩
 |cons x l=>
  refine .inr ⟨by simp,fun h=>?_⟩
  have hl:((x::l).map c).length=(x::l).length:=VB _
  have h0:¬((x::l).map c).length=0:=by simp
  unfold dn
  simp only[bg]
  rw[if_pos (by omega:0<=1)]
  dsimp only
  rw[if_pos ⟨hf,by unfold aT; rw[hl]; omega⟩,if_neg h0,hl]
theorem r445 (x:dx) (h1:x.msgs.length<=2147483648) (h2:x.auto.aw.length<=2147483648):res A az 445 [.agg x.c]=some [.agg [.str x.name,LM 3 (msgs x.msgs),.int .i64 x.auto.ay,.int .i64 x.auto.start,LM 4 (x.auto.aw.map Edge.c)]]:=by
 refine ai a445 rfl rfl ?_
 simp only[F445,KF,dx.c]
 have k1:(x.msgs.map eD.c).take x.msgs.length=x.msgs.map eD.c:=List.take_of_length_le (by simp)
 have k2:(x.auto.aw.map Edge.c).take x.auto.aw.length=x.auto.aw.map Edge.c:=List.take_of_length_le (by simp)
 rcases w8 (c:=eD.c) (k:=3) (fun _=>rfl) x.msgs h1 with⟨h3,h4⟩|⟨h3,h4⟩<;>rcases w8 (c:=Edge.c) (k:=4) (fun _=>rfl) x.auto.aw h2 with⟨h5,h6⟩|⟨h5,h6⟩
 .simp only[h3,h5,List.map_nil]at h4 h6 |-
  simp(disch:=omega)only[go_sem,h4,h6]
  refine Eq.trans (if_pos (by rfl)) ?_
  simp[bO,aA,fb,aV,PV.perm,LM,msgs,h3,h5]
 .simp only[h3,List.map_nil]at h4 |-
  simp(disch:=omega)only[go_sem,h4,h6]
  refine Eq.trans (if_pos (by rfl)) ?_
  simp[bO,aA,fb,aF,aV,PV.perm,LM,msgs,h3,h5,k2]
 .simp only[h5,List.map_nil]at h6 |-
  simp(disch:=omega)only[go_sem,h4,h6]
  refine Eq.trans (if_pos (by rfl)) ?_
  simp[bO,aA,fb,aF,aV,PV.perm,LM,msgs,h3,h5,k1]
 .simp(disch:=omega)only[go_sem,h4,h6]
  refine Eq.trans (if_pos (by rfl)) ?_
  simp[bO,aA,fb,aF,aV,PV.perm,LM,msgs,h3,h5,k1,k2]
theorem kg (x:Int):IntKind.wrap .u64 x=x%18446744073709551616:=by
 show (if (false&&decide (x%(2^64:Int)≥(2^63:Int)))=true then x%(2^64:Int) - (2^64:Int) else x%(2^64:Int))=_
 simp only[Bool.false_and,Bool.false_eq_true,if_false,Int.reducePow]
theorem gV {x:Int} (h1:0<=x) (h2:x<18446744073709551616):IntKind.wrap .u64 x=x:=by
 rw[kg]
 omega
def zz (n:Int):Int:=if 0<=n then 2*n else -2*n - 1
theorem Q6 {a b:Int}:zz a=zz b↔a=b:=by
 unfold zz
 split<;>split<;>omega
theorem r515 (n:Int) (h:dY n):res A az 515 [.int .i64 n]=some [.int .u64 (zz n)]:=by
 refine ai a515 rfl rfl ?_
 simp only[F515,Li]
 obtain⟨h1,h2⟩:=h
 unfold zz
 simp(disch:=omega)only[go_sem]
 refine Br.aD (fun c=>?_) (fun c=>?_)
 .have e1:=gV (x:=n) (by omega) (by omega)
  have e2:=gV (x:=2*n) (by omega) (by omega)
  simp(disch:=omega)only[go_sem,e1,e2]
  rw[if_pos c]
 .have e1:=gV (x:=0 - (n+1)) (by omega) (by omega)
  have e2:=gV (x:=2*(0 - (n+1))) (by omega) (by omega)
  have e3:=gV (x:=2*(0 - (n+1))+1) (by omega) (by omega)
  simp(disch:=omega)only[go_sem,e1,e2,e3]
  rw[if_neg c]
  congr 3
  omega
theorem GV (a b:Int):cN .xor (.pv (.int .u64 a)) (.pv (.int .u64 b))=some (.pv (.int .u64 (IntKind.wrap .u64 (BitVec.ofInt 64 a^^^BitVec.ofInt 64 b).toNat))):=rfl
theorem GW (a:Int):cN .shl (.pv (.int .u64 a)) (.pv (.int .u64 1))=some (.pv (.int .u64 (IntKind.wrap .u64 (a*2)))):=rfl
theorem GX (a:Int):cN .shr (.pv (.int .i64 a)) (.pv (.int .u64 63))=some (.pv (.int .i64 (a.fdiv 9223372036854775808))):=rfl
theorem r520 (n:Int) (h:dY n):res A az 520 [.int .i64 n]=some [.int .u64 (zz n)]:=by
 refine ai a520 rfl rfl ?_
 simp only[F520,Ln]
 obtain⟨h1,h2⟩:=h
 simp(disch:=omega)only[go_sem,GV,GW,GX]
 congr 3
 rw[kg,kg,kg,kg]
 unfold zz
 by_cases c:0<=n
 .have f1:n.fdiv 9223372036854775808=0:=by
   rw[Int.fdiv_eq_ediv_of_nonneg _ (by decide)]
   omega
  have f2:(n%18446744073709551616*2)%18446744073709551616=2*n:=by omega
  rw[if_pos c,f1,f2]
  have f3:BitVec.ofInt 64 (0%18446744073709551616)=0#64:=by decide
  rw[f3,BitVec.xor_zero]
  simp only[BitVec.toNat_ofInt]
  omega
 .have f1:n.fdiv 9223372036854775808= -1:=by
   rw[Int.fdiv_eq_ediv_of_nonneg _ (by decide)]
   omega
  have f2:(n%18446744073709551616*2)%18446744073709551616=2*n+18446744073709551616:=by omega
  rw[if_neg c,f1,f2]
  have f3:BitVec.ofInt 64 (-1%18446744073709551616)=BitVec.allOnes 64:=by decide
  rw[f3,BitVec.xor_allOnes,BitVec.toNat_not]
  simp only[BitVec.toNat_ofInt]
  omega
theorem r523 (n:Int):res A az 523 [.int .u64 n]=some [.bool false]:=by
 refine ai a523 rfl rfl ?_
 simp only[F523,Lq]
 simp(disch:=omega)only[go_sem]
theorem r524 (s:ByteArray):res A az 524 [.str s]=some [.bool false]:=by
 refine ai a524 rfl rfl ?_
 simp only[F524,Lr]
 simp(disch:=omega)only[go_sem]
def strLt (a b:ByteArray):Bool:=Go.Op.bytesLess a.toList b.toList
@[go_sem] theorem Oc (a b:ByteArray):cN .lss (.pv (.str a)) (.pv (.str b))=some (.pv (.bool (strLt a b))):=rfl
@[go_sem] theorem Od (a b:ByteArray):cN .gtr (.pv (.str a)) (.pv (.str b))=some (.pv (.bool (!(strLt a b||decide (a=b))))):=by simp only[cN,lE,Option.map_some,oX]; rfl
theorem zg:∀l:List UInt8,Go.Op.bytesLess l l=false
 |[]=>rfl
 |a::l=>by simp[Go.Op.bytesLess,zg l]
theorem C7 (a:ByteArray):strLt a a=false:=zg _
def zh (a b:ByteArray):Int:=if strLt a b=true then -1 else if a=b then 0 else 1
theorem r519 (a b:Int):res A az 519 [.int .u64 a,.int .u64 b]=some [.int .i64 (iG a b)]:=by
 refine ai a519 rfl rfl ?_
 simp only[F519,Lm]
 have h1:=r523 a
 have h2:=r523 b
 unfold iG
 simp(disch:=omega)only[go_sem,h1,h2]
 refine Br.aD (fun c=>?_) (fun c=>?_)
 .simp(disch:=omega)only[go_sem]
  rw[if_pos c]
 .simp(disch:=omega)only[go_sem]
  refine Br.aD (fun d=>?_) (fun d=>?_)
  .simp(disch:=omega)only[go_sem]
   rw[if_neg c,if_pos d]
  .simp(disch:=omega)only[go_sem]
   rw[if_neg c,if_neg d]
theorem r521 (a b:ByteArray):res A az 521 [.str a,.str b]=some [.int .i64 (zh a b)]:=by
 refine ai a521 rfl rfl ?_
 simp only[F521,Lo]
 have h1:=r524 a
 have h2:=r524 b
 unfold zh
 cases hs:strLt a b with
 |true=>simp(disch:=omega)only[go_sem,h1,h2,hs,if_true]
 |false=>
  by_cases he:a=b
  .have e:decide (a=b)=true:=decide_eq_true he
   simp(disch:=omega)only[go_sem,h1,h2,hs,e,Bool.or_true,Bool.not_true]
   rw[if_pos he]
  .have e:decide (a=b)=false:=decide_eq_false he
   simp(disch:=omega)only[go_sem,h1,h2,hs,e,Bool.or_false,Bool.not_false]
   rw[if_neg he]
def AW (l e:Bool):Int:=if e=true then 0 else if l=true then -1 else 1
theorem r514 (l e:Bool):res A az 514 [.bool l,.bool e]=some [.int .i64 (AW l e)]:=by
 refine ai a514 rfl rfl ?_
 simp only[F514,Lh]
 cases e<;>cases l<;>simp(disch:=omega)only[go_sem]<;>rfl
def mu (a b:dM):Int:=if a.kind≠b.kind then 0 else
 if a.kind=1 then (if a.bool=b.bool then 0 else if b.bool=true then -1 else 1)
 else if a.kind=2 then iG (zz a.int) (zz b.int)
 else if a.kind=3 then EL [iG a.str.size b.str.size,zh a.str b.str]
 else if a.kind=4 then iG a.id b.id else 0
set_option maxHeartbeats 2000000 in
theorem r513 (a b:dM) (ha:dY a.int) (hb:dY b.int) (has:bw a.str) (hbs:bw b.str):res A az 513 [.agg a.c,.agg b.c]=some [.int .i64 (mu a b)]:=by
 refine ai a513 rfl rfl ?_
 simp only[F513,Lg,dM.c]
 unfold bw at has hbs
 have h1:=r520 a.int ha
 have h2:=r520 b.int hb
 have h3:=r519 (zz a.int) (zz b.int)
 have h4:=r60 (Pr:=az) (by kernel_rfl) (a.str.size:Int) (b.str.size:Int)
 have h5:=r521 a.str b.str
 have h6:=fun t=>r59 (Pr:=az) t [iG a.str.size b.str.size,zh a.str b.str] (by simp)
 have h7:=r60 (Pr:=az) (by kernel_rfl) a.id b.id
 unfold mu
 by_cases c0:a.kind=b.kind
 .have e0:decide (a.kind=b.kind)=true:=decide_eq_true c0
  rw[if_neg (by simpa using c0)]
  by_cases c1:a.kind=1
  .have e1:decide (a.kind=1)=true:=decide_eq_true c1
   rw[if_pos c1]
   have b1:decide (true=false)=false:=rfl
   have b2:decide (false=true)=false:=rfl
   cases hab:a.bool<;>cases hbb:b.bool<;>simp(disch:=omega)only[go_sem,e0,e1,hab,hbb,b1,b2]<;>rfl
  .have e1:decide (a.kind=1)=false:=decide_eq_false c1
   rw[if_neg c1]
   by_cases c2:a.kind=2
   .have e2:decide (a.kind=2)=true:=decide_eq_true c2
    rw[if_pos c2]
    simp(disch:=omega)only[go_sem,e0,e1,e2,h1,h2,h3]
   .have e2:decide (a.kind=2)=false:=decide_eq_false c2
    rw[if_neg c2]
    by_cases c3:a.kind=3
    .have e3:decide (a.kind=3)=true:=decide_eq_true c3
     rw[if_pos c3]
     have hi:ints [iG a.str.size b.str.size,zh a.str b.str]=[[.int .i64 (iG a.str.size b.str.size)],[.int .i64 (zh a.str b.str)]]:=rfl
     rw[hi]at h6
     simp(disch:=omega)only[go_sem,e0,e1,e2,e3,h4,h5,h6]
    .have e3:decide (a.kind=3)=false:=decide_eq_false c3
     rw[if_neg c3]
     by_cases c4:a.kind=4
     .have e4:decide (a.kind=4)=true:=decide_eq_true c4
      rw[if_pos c4]
      simp(disch:=omega)only[go_sem,e0,e1,e2,e3,e4,h7]
     .have e4:decide (a.kind=4)=false:=decide_eq_false c4
      rw[if_neg c4]
      simp(disch:=omega)only[go_sem,e0,e1,e2,e3,e4]
 .have e0:decide (a.kind=b.kind)=false:=decide_eq_false c0
  rw[if_pos c0]
  simp(disch:=omega)only[go_sem,e0]
theorem BW (x y:Int):EL [x,y]=if x=0 then y else x:=by
 by_cases h:x=0
 .rw[if_pos h]
  subst h
  by_cases g:y=0
  .subst g
   rfl
  .simp[EL,g]
 .rw[if_neg h]
  simp[EL,h]
theorem TT (a b:ByteArray):AW (strLt a b) (decide (a=b))=zh a b:=by
 unfold AW zh
 by_cases h:a=b
 .subst h
  rw[C7]
  simp
 .simp[h]
theorem Q7 (a b:Int):AW (decide (a<b)) (decide (a=b))=iG a b:=by
 unfold AW iG
 simp only[decide_eq_true_eq]
 by_cases h:a=b
 .rw[if_pos h,if_neg (by omega),if_neg (by omega)]
 .rw[if_neg h]
  by_cases g:a<b
  .rw[if_pos g,if_pos g]
  .rw[if_neg g,if_neg g,if_pos (by omega)]
set_option maxHeartbeats 2000000 in
theorem r509 (a b:dM) (ha:dY a.int) (hb:dY b.int) (has:bw a.str) (hbs:bw b.str):res A az 509 [.agg a.c,.agg b.c]=some [.int .i64 (mu a b)]:=by
 refine ai a509 rfl rfl ?_
 simp only[F509,Ld,dM.c]
 unfold bw at has hbs
 have h1:=r515 a.int ha
 have h2:=r515 b.int hb
 unfold mu
 by_cases c0:a.kind=b.kind
 .have e0:decide (a.kind=b.kind)=true:=decide_eq_true c0
  rw[if_neg (by simpa using c0)]
  by_cases c1:a.kind=1
  .have e1:decide (a.kind=1)=true:=decide_eq_true c1
   rw[if_pos c1]
   have h3:=r514 b.bool (decide (a.bool=b.bool))
   simp(disch:=omega)only[go_sem,e0,e1,h3]
   unfold AW
   cases a.bool<;>cases b.bool<;>rfl
  .have e1:decide (a.kind=1)=false:=decide_eq_false c1
   rw[if_neg c1]
   by_cases c2:a.kind=2
   .have e2:decide (a.kind=2)=true:=decide_eq_true c2
    rw[if_pos c2]
    have h3:=r514 (decide (zz a.int<zz b.int)) (decide (a.int=b.int))
    simp(disch:=omega)only[go_sem,e0,e1,e2,h1,h2,h3]
    unfold AW iG
    simp only[decide_eq_true_eq]
    have:=Q6 (a:=a.int) (b:=b.int)
    congr 3
    by_cases d:a.int=b.int
    .rw[if_pos d,d,if_neg (by omega),if_neg (by omega)]
    .rw[if_neg d]
     have d2:zz a.int≠zz b.int:=fun e=>d (this.1 e)
     split
     .rfl
     .rw[if_pos (by omega)]
   .have e2:decide (a.kind=2)=false:=decide_eq_false c2
    rw[if_neg c2]
    by_cases c3:a.kind=3
    .have e3:decide (a.kind=3)=true:=decide_eq_true c3
     rw[if_pos c3]
     by_cases d:(a.str.size:Int)=(b.str.size:Int)
     .have d1:decide ((a.str.size:Int)=(b.str.size:Int))=true:=decide_eq_true d
      have h3:=r514 (strLt a.str b.str) (decide (a.str=b.str))
      simp(disch:=omega)only[go_sem,e0,e1,e2,e3,d1,h3]
      have d2:iG a.str.size b.str.size=0:=by
       unfold iG
       rw[if_neg (by omega),if_neg (by omega)]
      rw[BW,if_pos d2,TT]
     .have d1:decide ((a.str.size:Int)=(b.str.size:Int))=false:=decide_eq_false d
      have h3:=r514 (decide ((a.str.size:Int)<(b.str.size:Int))) false
      simp(disch:=omega)only[go_sem,e0,e1,e2,e3,d1,h3]
      have d2:iG a.str.size b.str.size≠0:=by
       unfold iG
       split
       .decide
       .rw[if_pos (by omega)]
        decide
      rw[BW,if_neg d2,<- Q7,d1]
    .have e3:decide (a.kind=3)=false:=decide_eq_false c3
     rw[if_neg c3]
     by_cases c4:a.kind=4
     .have e4:decide (a.kind=4)=true:=decide_eq_true c4
      rw[if_pos c4]
      have h3:=r514 (decide (a.id<b.id)) (decide (a.id=b.id))
      simp(disch:=omega)only[go_sem,e0,e1,e2,e3,e4,h3]
      rw[Q7]
     .have e4:decide (a.kind=4)=false:=decide_eq_false c4
      rw[if_neg c4]
      simp(disch:=omega)only[go_sem,e0,e1,e2,e3,e4]
 .have e0:decide (a.kind=b.kind)=false:=decide_eq_false c0
  rw[if_pos c0]
  simp(disch:=omega)only[go_sem,e0]
def EU (v:dM):dM:=⟨v.kind,if v.kind=1 then v.bool else false,if v.kind=2 then v.int else 0,if v.kind=3 then v.str else ⟨#[]⟩,if v.kind=4\/v.kind=6 then v.id else 0,if v.kind=8 then v.keys else [],if 5<=v.kind then v.items else [],if v.kind=5\/v.kind=6 then v.rest else []⟩
theorem nine {k:Int} (h:1<=k/\k<=9):k=1\/k=2\/k=3\/k=4\/k=5\/k=6\/k=7\/k=8\/k=9:=by omega
theorem r516 (v:dM) (hk:1<=v.kind/\v.kind<=9):res A az 516 [.agg v.c]=some [.agg (EU v).c]:=by
 refine ai a516 rfl rfl ?_
 simp only[F516,Lj]
 obtain⟨kind,bool,int,str,id,keys,items,rest⟩:=v
 unfold dM.c EU
 dsimp only at *
 rcases nine hk with rfl|rfl|rfl|rfl|rfl|rfl|rfl|rfl|rfl<;>
 .simp(disch:=omega)only[go_sem,decide_true,decide_false,Int.reduceEq,Int.reduceLE,if_true,if_false,or_true,true_or,or_false,false_or]
  try rfl
noncomputable def pA (v:dM):Bool:=by
 classical exact decide ((v.kind=1\/v.bool=false)/\(v.kind=2\/v.int=0)/\(v.kind=3\/v.str=⟨#[]⟩)/\(v.kind=4\/v.kind=6\/v.id=0)/\(v.kind=8\/v.keys=[])/\(5<=v.kind\/v.items=[])/\(v.kind=5\/v.kind=6\/v.rest=[]))
set_option maxHeartbeats 4000000 in
theorem r510 (v:dM) (hk:1<=v.kind/\v.kind<=9) (hv:bV v.keys/\bV v.items/\bV v.rest):res A az 510 [.agg v.c]=some [.bool (pA v)]:=by
 refine ai a510 rfl rfl ?_
 simp only[F510,Le]
 have h1:=r516 v hk
 obtain⟨kind,bool,int,str,id,keys,items,rest⟩:=v
 unfold dM.c EU at h1
 unfold dM.c
 dsimp only at *
 unfold pA
 have l1:((keys.length:Int)=0)=(keys=[]):=by simp
 have l2:((items.length:Int)=0)=(items=[]):=by simp
 have l3:((rest.length:Int)=0)=(rest=[]):=by simp
 rcases nine hk with rfl|rfl|rfl|rfl|rfl|rfl|rfl|rfl|rfl<;>cases bool<;>
 .simp(disch:=omega)only[go_sem,decide_true,decide_false,Int.reduceEq,Int.reduceLE,if_true,if_false,or_true,true_or,or_false,false_or]at h1
  simp(disch:=omega)only[go_sem,h1,l1,l2,l3,List.length_nil,Int.reduceEq,Int.reduceLE,List.map_nil,reduceCtorEq,decide_false]
  clear h1 hk hv
  repeat' (refine Br.aD (fun c=>?_) (fun c=>?_)<;>simp(disch:=omega)only[go_sem,c,decide_true,decide_false,reduceCtorEq])
  all_goals first|rfl|(simp; done)|(simp_all; done)
set_option maxHeartbeats 4000000 in
theorem r505 (v:dM) (hk:1<=v.kind/\v.kind<=9) (hv:bV v.keys/\bV v.items/\bV v.rest):res A az 505 [.agg v.c]=some [.bool (pA v)]:=by
 refine ai a505 rfl rfl ?_
 simp only[F505,La]
 obtain⟨kind,bool,int,str,id,keys,items,rest⟩:=v
 unfold dM.c pA
 dsimp only at *
 obtain⟨g1,g2,g3⟩:=hv
 unfold bV at g1 g2 g3
 rcases nine hk with rfl|rfl|rfl|rfl|rfl|rfl|rfl|rfl|rfl<;>cases bool<;>
 .simp(disch:=omega)only[go_sem,List.length_nil,Int.reduceEq,Int.reduceLE,List.map_nil,List.length_map,reduceCtorEq,decide_false,decide_true]
  clear hk
  repeat' (refine Br.aD (fun c=>?_) (fun c=>?_)<;>simp(disch:=omega)only[go_sem,c,decide_true,decide_false,reduceCtorEq])
  all_goals first|rfl|(simp; done)|(simp_all; done)
theorem jU {α:Type} (l:List α) (f:α->Bool):l.all (fun y=>!!f y)=l.all f:=by simp
theorem r508 (u v:Nat) (T:List (List PV)) (t:Int) (l:List (List PV)) (f:List PV->Bool) (hl:l.length<=2^63 - 1) (hv:∀r∈l,∃w:dM,r=w.c) (h:∀r∈l,res A az 502 [.agg [.aa u T],.int .i64 t,.agg r,.bool true]=some [.bool (f r)]):res A az 508 [.agg [.aa u T],.int .i64 t,.aa v l,.bool true]=some [.bool (l.all f)]:=by
 refine ai a508 rfl rfl ?_
 simp only[F508,Lc]
 simp(disch:=omega)only[go_sem]
 refine W.find l (fun r=>!f r) (fun k=>⟨[(1,.pv (.int .i64 t)),(2,.pv (.aa v l)),(3,.pv (.bool true)),(4,.ptr 4 0),(9,.pv (.int .i64 k))],⟨[(4,[.pv (.aa u T)])],[],[]⟩⟩) rfl (fun k x hx hk hfd=>?_) (fun hn=>?_)
 .obtain⟨w,rfl⟩:=hv x (Vz hx)
  have hc:=h w.c (Vz hx)
  have hfd:=fun g=>(hfd g).all
  rw[jU]at hfd
  generalize f w.c=e at hc hfd |-
  unfold dM.c at hc hx
  simp(disch:=omega)only[go_sem]
  refine Br.aD (fun c=>?_) (fun c=>(c (by omega)).elim)
  simp(disch:=omega)only[go_sem,hx,hc]
  refine Br.of (fun g=>?_) (fun g=>?_)<;>simp(disch:=omega)only[go_sem]
  .exact aX.of (by rw[g]; rfl) rfl
  .rw[hfd (by rw[g]; rfl)]
 .have hn:=hn.all
  rw[jU]at hn
  simp(disch:=omega)only[go_sem]
  rw[hn]
theorem r518 (u a b c:Nat) (T:List (List PV)) (t:Int) (w:dM) (e:Bool) (h:res A az 503 [.agg [.aa u T],.int .i64 t,.agg w.c,.bool true]=some [.bool e]):res A az 518 [.agg w.c,.ro a [.aa u T],.ro b [.int .i64 t],.ro c [.bool true]]=some [.bool (!e)]:=by
 refine ai a518 rfl rfl ?_
 simp only[F518,Ll]
 unfold dM.c at h |-
 simp(disch:=omega)only[go_sem,h]
theorem r522 (u v a b c:Nat) (T:List (List PV)) (t:Int) (l:List (List PV)) (f:List PV->Bool) (hl:l.length<=2^63 - 1) (hv:∀r∈l,∃w:dM,r=w.c) (h:∀r∈l,res A az 503 [.agg [.aa u T],.int .i64 t,.agg r,.bool true]=some [.bool (f r)]):res A az 522 [.aa v l,.func 518 [.ro a [.aa u T],.ro b [.int .i64 t],.ro c [.bool true]]]=some [.int .i64 (bd (fun r=>!f r) l)]:=by
 refine ai a522 rfl rfl ?_
 simp only[F522,Lp]
 simp(disch:=omega)only[go_sem]
 refine W.find l (fun r=>!f r) (fun k=>⟨[(0,.pv (.aa v l)),(1,.pv (.func 518 [.ro a [.aa u T],.ro b [.int .i64 t],.ro c [.bool true]])),(7,.pv (.int .i64 l.length)),(8,.pv (.int .i64 k))],⟨[],[],[]⟩⟩) rfl (fun k x hx hk hfd=>?_) (fun hn=>?_)
 .obtain⟨w,rfl⟩:=hv x (Vz hx)
  have hc:=r518 u a b c T t w _ (h w.c (Vz hx))
  have hfd:=fun g=>(hfd g).bd
  generalize f w.c=e at hc hfd |-
  unfold dM.c at hc hx
  simp(disch:=omega)only[go_sem]
  refine Br.aD (fun c=>?_) (fun c=>(c (by omega)).elim)
  simp(disch:=omega)only[go_sem,hx,hc]
  refine Br.of (fun g=>?_) (fun g=>?_)<;>simp(disch:=omega)only[go_sem]
  .exact aX.of (by rw[g]; rfl) rfl
  .rw[hfd (by rw[g]; rfl)]
 .simp(disch:=omega)only[go_sem]
  rw[hn.bd]
theorem AX {α:Type} (f:α->Bool) (l:List α):decide (0<=bd (fun r=>!f r) l)=!l.all f:=by
 unfold bd
 cases h:l.findIdx? (fun r=>!f r)with
 |none=>
  have:=WX.1 h
  have h2:l.all f=true:=List.all_eq_true.2 fun x hx=>by simpa using this x hx
  simp[h2]
 |some k=>
  obtain⟨hk,h2,_⟩:=Wd.1 h
  have h3:l.all f=false:=List.all_eq_false.2 ⟨_,List.getElem_mem hk,by simpa using h2⟩
  rw[h3]
  simp
theorem r512 (u v:Nat) (T:List (List PV)) (t:Int) (l:List (List PV)) (f:List PV->Bool) (hl:l.length<=2^63 - 1) (hv:∀r∈l,∃w:dM,r=w.c) (h:∀r∈l,res A az 503 [.agg [.aa u T],.int .i64 t,.agg r,.bool true]=some [.bool (f r)]):res A az 512 [.agg [.aa u T],.int .i64 t,.aa v l,.bool true]=some [.bool (l.all f)]:=by
 refine ai a512 rfl rfl ?_
 simp only[F512,Lf]
 have h517:∀a b c,res A az 517 [.aa v l,.func 518 [.ro a [.aa u T],.ro b [.int .i64 t],.ro c [.bool true]]]=some [.bool (!l.all f)]:=by
  intro a b c
  refine ai a517 rfl rfl ?_
  simp only[F517,Lk]
  have h522:=r522 u v a b c T t l f hl hv h
  simp(disch:=omega)only[go_sem,h522,AX]
 simp(disch:=omega)only[go_sem,h517,Bool.not_not]
end Go.Pv
