/-
 The interpreter over plain values,and that it is sound.
-/
import Derived.Test.YtpchfogcccagjaaGreatA3
import Derived.Shelf.Sort.Plain
import Derived.Shelf.Slices.In.SortNone
open List renaming getElem?_eq_some_iff → Wq, getElem?_eq_getElem → Ws, length_map → Wu, getElem?_map → Wv, mem_map → Wz, mem_cons → WC, pairwise_cons → WH, findIdx?_eq_some_iff_getElem → WM, mem_cons_self → W1, getElem?_eq_none → W6, ext_getElem? → Xa, findIdx?_eq_none_iff → Xk, pairwise_singleton → XR
open Nat renaming lt_or_ge → Wx
namespace Go.Pv
open Go.Sort
variable {P:Program} {N:Nat->Nat} {W:Nat->Prop} {L:Lx} {e:bj} {h:ae} {w:World}
def GW (x y:Int):Bool:=decide (x<y)
theorem sQ (x:Int):∀l:List Int,l.Pairwise (·<=·)->(ins GW x l).Pairwise (·<=·)
 |[],_=>XR _ _
 |y::r,h=>by
  obtain⟨h1,h2⟩:=WH.1 h
  unfold ins GW
  by_cases hxy:y<x
  .simp only[hxy,decide_true,if_true]
   refine WH.2 ⟨fun z hz=>?_,sQ x r h2⟩
   rcases WC.1 ((ou _ x r).subset hz)with rfl|hz
   .omega
   .exact h1 z hz
  .simp only[hxy,decide_false,Bool.false_eq_true,if_false]
   refine WH.2 ⟨fun z hz=>?_,h⟩
   rcases WC.1 hz with rfl|hz
   .omega
   .have:=h1 z hz; omega
theorem ov:∀l:List Int,(dm GW l).Pairwise (·<=·)
 |[]=>List.Pairwise.nil
 |x::r=>sQ x _ (ov r)
theorem BQ:∀(a b:List Int),a.Pairwise (·<=·)->b.Pairwise (·<=·)->a.Perm b->a=b
 |[],b,_,_,hp=>(List.Perm.eq_nil hp.symm).symm
 |x::a,[],_,_,hp=>by simp at hp
 |x::a,y::b,ha,hb,hp=>by
  obtain⟨a1,a2⟩:=WH.1 ha
  obtain⟨b1,b2⟩:=WH.1 hb
  have hxy:x=y:=by
   have hx:x∈y::b:=hp.subset (W1 ..)
   have hy:y∈x::a:=hp.symm.subset (W1 ..)
   rcases WC.1 hx with h|h
   .exact h
   .rcases WC.1 hy with h'|h'
    .exact h'.symm
    .have:=a1 y h'; have:=b1 x h; omega
  subst hxy
  rw[BQ a b a2 b2 (List.Perm.cons_inv hp)]
theorem qG (l:List Int):l.mergeSort (fun x y=>decide (x<=y))=dm GW l:=by
 refine BQ _ _ ?_ (ov l) ((List.mergeSort_perm _ _).trans (db _ _).symm)
 have:=List.pairwise_mergeSort (le:=fun x y:Int=>decide (x<=y)) (fun a b c h1 h2=>by simp at *; omega) (fun a b=>by simp; omega) l
 simpa using this
def sR:List PV->Option Int
 |[.int .i64 x]=>some x
 |_=>none
def gM:List V->ae->Option (V×Tn)
 |[x],h=>match x with
  |.tl []=>some (.dv [],{})
  |.tl [r]=>(match sR r with
   |some _=>some (.dv [],{})
   |none=>none)
  |.own id ax off len=>match aB h id ax with
   |some a=>if len=0 then some (.dv [],{ ra:=some id }) else (match a.body with
    |.inl rows=>if a.k=1/\off+len<=rows.length/\len<=aQ then (match ay sR ((rows.drop off).take len)with
     |some l=>some (.dv [],{ ar:=some (id,⟨ax,1,.inl (rows.take off++(dm GW l).map (fun x=>[.int .i64 x])++rows.drop (off+len))⟩) })
     |none=>none) else none
    |.inr _=>none)
   |none=>none
  |_=>none
 |_,_=>none
theorem Al (w:World) (blk off:Nat) (d:Array Int):putRow (Value.int .i64) w blk off d=putRow id w blk off (d.map (Value.int .i64)):=by
 unfold putRow
 congr 1
 funext c
 unfold putCells
 congr 1
 funext k x
 rw[Array.size_map]
 by_cases hk:off<=k/\k<off+d.size
 .rw[if_pos hk,if_pos hk]
  have h1:k - off<d.size:=by omega
  rw[getElem!_pos d _ h1,getElem!_pos (d.map _) _ (by rw[Array.size_map]; exact h1)]
  simp
 .rw[if_neg hk,if_neg hk]
theorem behind (hr:HR N L e W h w) (n:Nat) (os:Array Obj):Nx N W L e w L e h (grow (Sort.ahead w n) os):=by
 have hold:∀g,g<w.heap.size->(grow (Sort.ahead w n) os).heap[g]?=w.heap[g]?:=by
  intro g hg
  rw[heap_grow_old _ _ (by simpa [Sort.ahead]using hg)]
  rfl
 have hsz:w.heap.size<=(grow (Sort.ahead w n) os).heap.size:=by simp[Sort.ahead]
 obtain⟨q1,q2⟩:=hr.Ec (w':=grow (Sort.ahead w n) os) (L':=L) (fun _=>False) (fun b hb=>hb.elim) (fun b hb _=>hold b hb) hsz (fun _ _ h=>h) (fun _ _ h=>.inl h)
 refine⟨q1,q2,⟨rfl,rfl,rfl,hsz,fun g hg _=>hold g hg,?_⟩,fun _ _ h=>.inl h⟩
 show w.drawn<=w.drawn+n
 omega
theorem CO {ρ:Go.Shelf.Ren} (LL:Go.Proofs.Lays.n189 P ρ) {fn:Nat} (hfn:N fn=ρ.f 189) (hent:∀args w,(callFunc (N fn) args).run P w=.ok (.enter (N fn) args) w)
  {vs:List V} {args:Array Value} {v:V} {tn:Tn} (hp:gM vs h=some (v,tn)) (hr:HR N L e W h w)
  (hs:args.size=vs.length) (hv:∀(j:Nat) (x:V),vs[j]?=some x->VR N L e w x (args.getD j undef)):
  di P (N fn) args w fun v' w'=>∃L' e',Nx N W L e w L' e' (tn.apply h) w'/\VR N L' e' w' v v':=by
 have key:∀x,vs=[x]->∃v0,args=#[v0]/\VR N L e w x v0:=by
  rintro x rfl
  have h0:=hv 0 x rfl
  have hsz:args.size=1:=hs
  obtain⟨l⟩:=args
  match l,hsz with
  |[v0],_=>exact⟨v0,rfl,h0⟩
 have fin0:∀(a:Option Addr) (cap:Nat),args=#[.slice a 0 cap]->tn.apply h=h->v=.dv []->di P (N fn) args w fun v' w'=>∃L' e',Nx N W L e w L' e' (tn.apply h) w'/\VR N L' e' w' v v':=by
  rintro a cap rfl ht rfl
  refine .inr ⟨hent _ _,?_⟩
  rw[hfn]
  refine(Go.Proofs.Any.slices_Sort_int_none LL a cap w).mono ?_
  rintro en w' ⟨rfl,rfl⟩
  exact⟨L,e,by rw[ht]; exact Nx.refl hr,.dv [] #[] rfl (fun j c hj=>by simp at hj)⟩
 unfold gM at hp
 split at hp<;>first|(cases hp; done)|skip
 rename_i x
 obtain⟨v0,hargs,hv0⟩:=key x rfl
 split at hp<;>first|(cases hp; done)|skip
 .injection hp with hp
  injection hp with e1 e2
  subst e1
  subst e2
  cases hv0 with
  |tl rows a hh=>exact fin0 a 0 hargs (by cases h; simp[Tn.apply]) rfl
 .rename_i r
  split at hp<;>first|(cases hp; done)|skip
  rename_i x hx
  injection hp with hp
  injection hp with e1 e2
  subst e1
  subst e2
  have hr1:r=[.int .i64 x]:=by
   unfold sR at hx
   split at hx
   .cases hx; rfl
   .cases hx
  subst hr1
  cases hv0 with
  |tl rows a hh hsoft=>
   cases hh with
   |aq _ _ _ ad _ k vs hk hc ha hcell hv hpm h1=>
    obtain⟨rfl,hsp,hl⟩:=ha (by simp)
    obtain⟨blk,off,sp⟩:=ad
    dsimp only at hsp hl hcell
    subst hsp
    have hc0:=hcell 0 0 (.int .i64 x) rfl
    have hv1:=hv 0 0 (.int .i64 x) rfl
    have hv2:vs 0 0=.int .i64 x:=by
     generalize vs 0 0=u at hv1
     cases hv1
     rfl
    rw[hv2]at hc0
    have hblk:blk<w.heap.size:=by
     rcases hl with hl|⟨hl,_⟩
     .exact hr.mK _ _ hl
     .exact absurd rfl hl
    have hH:Holds (Value.int .i64) w blk off [x].toArray:=by
     intro j hj
     have hj0:j=0:=by simpa using hj
     subst hj0
     obtain⟨arr,ty,h1⟩:=hsoft (by simp) _ rfl
     exact⟨by simpa using hc0,by simp[World.frozen?,h1]⟩
    have hcall:=Go.Proofs.Any.slices_Sort_int LL blk off 1 [x] w hH hblk (by simp)
    rw[hargs]
    refine .inr ⟨hent _ _,?_⟩
    rw[hfn]
    refine hcall.mono ?_
    rintro en w' ⟨rfl,n,os,rfl⟩
    rw[qG]
    have hself:putRow (Value.int .i64) (Sort.ahead w n) blk off (dm GW [x]).toArray=Sort.ahead w n:=putRow_self _ _ _ _ _ (by exact hH)
    refine⟨L,e,?_,.dv [] #[] rfl (fun j c hj=>by simp at hj)⟩
    have h0:Tn.apply {} h=h:=by cases h; simp[Tn.apply]
    rw[h0,hself]
    exact behind hr n os
 .rename_i id0 ax off len
  split at hp<;>first|(cases hp; done)|skip
  rename_i a ha
  obtain⟨ha1,ha2⟩:=bq ha
  split at hp
  .rename_i hl
   subst hl
   injection hp with hp
   injection hp with e1 e2
   subst e1
   subst e2
   cases hv0 with
   |own _ _ _ _ a' cap _ _ _ _=>exact fin0 a' cap hargs (by cases h; simp[Tn.apply]) rfl
  .rename_i hl
   split at hp<;>first|(cases hp; done)|skip
   rename_i rows hb
   split at hp<;>first|(cases hp; done)|skip
   rename_i hc
   obtain⟨hak,hol,hm⟩:=hc
   split at hp<;>first|(cases hp; done)|skip
   rename_i l hl2
   injection hp with hp
   injection hp with e1 e2
   subst e1
   subst e2
   obtain⟨m1,m2⟩:=pQ hl2
   have hcut:((rows.drop off).take len).length=len:=by simp only[List.length_take,List.length_drop]; omega
   have hll:l.length=len:=by omega
   have hdec:∀(r:List PV) (x:Int),sR r=some x->r=[.int .i64 x]:=by
    intro r x hx
    unfold sR at hx
    split at hx
    .cases hx; rfl
    .cases hx
   have hrl:(rows.drop off).take len=l.map (fun x=>[.int .i64 x]):=by
    apply Xa
    intro i
    rw[Wv]
    rcases Wx i len with hi|hi
    .have h1:((rows.drop off).take len)[i]?=some (((rows.drop off).take len)[i]'(by omega)):=Ws (by omega)
     have h2:l[i]?=some (l[i]'(by omega)):=Ws (by omega)
     rw[h2,h1]
     exact congrArg some (hdec _ _ (m2 i _ _ h1 h2))
    .rw[W6 (by omega),W6 (by omega)]
     rfl
   have hk':a.k≠0:=by rw[hak]; decide
   obtain⟨v1,v2,v3,_⟩:=hr.ax id0 a ha1
   have hid:id0<e.na:=by rw[hr.na]; exact(Wq.1 ha1).1
   have flat:∀(m:List Int) (i j:Nat) (c:PV),fh (m.map fun x=>[PV.int .i64 x]) i j=some c->(m.toArray.map (Value.int .i64))[i*a.k+j]! =sv c:=by
    intro m i j c hc
    unfold fh at hc
    rw[Wv]at hc
    cases hx:m[i]? with
    |none=>simp[hx]at hc
    |some x=>
     simp only[hx,Option.map_some,Option.bind_some]at hc
     match j,hc with
     |0,hc=>
      cases hc
      have hi:=(Wq.1 hx).1
      rw[hak,Nat.mul_one,Nat.add_zero,getElem!_pos _ i (by simpa using hi)]
      have:=(Wq.1 hx).2
      simp[this,sv]
     |j+1,hc=>simp at hc
   cases hv0 with
   |own _ _ _ _ a' cap g0 g1 g2 g3=>
    obtain⟨k1,k2,k3,k4⟩:=g3 (by rw[v1,ha2])
    have ha':=k4 (by omega)
    subst ha'
    have hH0:Holds id w (e.ar id0) (e.ad id0+off*a.k) (l.toArray.map (Value.int .i64)):=by
     refine u9 hr ha1 hb hk' hol ?_ _ (by simp[hll,hak]) ?_
     .intro r hr' c hc
      rw[hrl]at hr'
      obtain⟨y,_,rfl⟩:=Wz.1 hr'
      simp only[List.mem_cons,List.not_mem_nil,or_false]at hc
      subst hc
      rfl
     .intro i j c hc
      rw[hrl]at hc
      exact flat l i j c hc
    have hH:Holds (Value.int .i64) w (e.ar id0) (e.ad id0+off*a.k) l.toArray:=by
     intro j hj
     obtain⟨q1,q2⟩:=hH0 j (by simpa using hj)
     refine⟨?_,q2⟩
     rw[q1,getElem!_pos (l.toArray.map (Value.int .i64)) j (by simpa using hj),getElem!_pos l.toArray j hj]
     simp
    have hblk:=hr.gQ hid (by rw[v2]; exact hk')
    rw[hargs]
    refine .inr ⟨hent _ _,?_⟩
    rw[hfn]
    have hcall:=Go.Proofs.Any.slices_Sort_int LL (e.ar id0) (e.ad id0+off*e.ak id0) cap l w (by rw[v2]; exact hH) hblk (by rw[hll]; unfold aQ at hm; omega)
    rw[hll]at hcall
    refine hcall.mono ?_
    rintro en w' ⟨rfl,n,os,rfl⟩
    rw[qG]
    have hlen2:(dm GW l).length=len:=by rw[(db GW l).length_eq,hll]
    obtain⟨e',hnx⟩:=BP hr ha1 hb hk' hol (news:=(dm GW l).map fun x=>[.int .i64 x]) (by simp[hlen2]) (by
     intro r hr'
     obtain⟨y,_,rfl⟩:=Wz.1 hr'
     refine⟨by rw[hak]; rfl,fun c hc=>?_⟩
     simp only[List.mem_cons,List.not_mem_nil,or_false]at hc
     subst hc
     rfl) ((dm GW l).toArray.map (Value.int .i64)) (by simp[hlen2,hak]) (flat _) n os _ hH0 (by simp[hll,hlen2])
    refine⟨L,e',?_,.dv [] #[] rfl (fun j c hj=>by simp at hj)⟩
    rw[sL,<- ha2,<- hak,Al,v2]
    exact hnx
theorem Am:Prim.Tq gM where
 gu:=by
  intro vs h v t hh
  unfold gM at hh
  repeat' split at hh
  all_goals first|(cases hh; done)|(injection hh with hh; injection hh with e1 e2; subst e2; rfl)
 loc:=by
  intro vs h1 h2 v t hh ha
  unfold gM at hh |-
  split at hh<;>first|(cases hh; done)|skip
  split at hh<;>first|(cases hh; done)|skip
  .exact hh
  .exact hh
  .rename_i id ax off len
   split at hh<;>first|(cases hh; done)|skip
   rename_i a ho
   have:(t.ra=some id\/t.nz=some id\/∃a,t.ar=some (id,a))->aB h2 id ax=some a:=fun hi=>(ha.own hi).trans ho
   split at hh
   .rename_i h0
    injection hh with hh
    injection hh with e1 e2
    subst e1
    subst e2
    rw[this (.inl rfl)]
    simp only[h0,if_true]
   .rename_i h0
    split at hh<;>first|(cases hh; done)|skip
    rename_i rows hb
    split at hh<;>first|(cases hh; done)|skip
    rename_i hc
    split at hh<;>first|(cases hh; done)|skip
    rename_i news hn
    injection hh with hh
    injection hh with e1 e2
    subst e1
    subst e2
    rw[this (.inr (.inr ⟨_,rfl⟩))]
    simp only[h0,if_false,hb,hn]
    rw[if_pos hc]
 fit:=by
  intro vs h v t hh
  unfold gM at hh
  split at hh<;>first|(cases hh; done)|skip
  split at hh<;>first|(cases hh; done)|skip
  .injection hh with hh
   injection hh with e1 e2
   subst e2
   exact⟨fun hp=>absurd rfl hp,fun i a hia=>by cases hia⟩
  .split at hh<;>first|(cases hh; done)|skip
   injection hh with hh
   injection hh with e1 e2
   subst e2
   exact⟨fun hp=>absurd rfl hp,fun i a hia=>by cases hia⟩
  .split at hh<;>first|(cases hh; done)|skip
   rename_i a ho
   split at hh
   .injection hh with hh
    injection hh with e1 e2
    subst e2
    exact⟨fun hp=>absurd rfl hp,fun i a hia=>by cases hia⟩
   .split at hh<;>first|(cases hh; done)|skip
    split at hh<;>first|(cases hh; done)|skip
    split at hh<;>first|(cases hh; done)|skip
    injection hh with hh
    injection hh with e1 e2
    subst e2
    refine⟨fun hp=>absurd rfl hp,fun i a' hia=>?_⟩
    cases hia
    exact gi ho
end Go.Pv
namespace Go.Pv
structure Edge where
 fr:Int
 send:Bool
 label:Int
 to:Int
 deriving DecidableEq,Inhabited
structure aL where
 ai:Int
 start:Int
 aa:List Edge
 deriving DecidableEq,Inhabited
def Edge.c (e:Edge):List PV:=[.int .i64 e.fr,.bool e.send,.int .i64 e.label,.int .i64 e.to]
@[go_sem] theorem Edge.EO (e:Edge):e.c=[.int .i64 e.fr,.bool e.send,.int .i64 e.label,.int .i64 e.to]:=rfl
def Edge.dec:List PV->Option Edge
 |[.int .i64 a,.bool b,.int .i64 c,.int .i64 d]=>some ⟨a,b,c,d⟩
 |_=>none
theorem Edge.HG (r:List PV) (x:Edge) (h:Edge.dec r=some x):x.c=r:=by
 unfold Edge.dec at h
 split at h
 .cases h
  rfl
 .cases h
def aL.p (t:Nat) (a:aL):PV:=.agg [.int .i64 a.ai,.int .i64 a.start,.aq t (a.aa.map Edge.c)]
@[go_sem] theorem aL.VX (t:Nat) (a:aL):a.p t=.agg [.int .i64 a.ai,.int .i64 a.start,.aq t (a.aa.map Edge.c)]:=rfl
def ints (l:List Int):List (List PV):=l.map fun x=>[.int .i64 x]
@[go_sem] theorem bt (l:List Int):(ints l).length=l.length:=by simp[ints]
@[go_sem] theorem EP (l:List Int) (i:Nat):(ints l)[i]?=l[i]?.map fun x=>[.int .i64 x]:=by simp[ints]
@[go_sem] theorem ints_set (l:List Int) (i:Nat) (x:Int):(ints l).set i [.int .i64 x]=ints (l.set i x):=by simp[ints,List.map_set]
theorem An {id row ax:Nat} {k:IntKind} {x:Int} {l:List Int} (h1:row<l.length) (hk:k=.i64):dj id row 0 [.pv (.int k x)] ⟨ax,1,.inl (ints l)⟩=some { ar:=some (id,⟨ax,1,.inl (ints (l.set row x))⟩) }:=by
 subst hk
 rw[oq (by rw[bt]; exact h1) rfl (.inr ⟨.int .i64 l[row],by simp[ints,h1]⟩) rfl,ints_set]
@[go_sem] theorem HH {id row ax:Nat} {x:Int} {l:List Int} (h1:row<l.length):dj id row 0 [.pv (.int .i64 x)] ⟨ax,1,.inl (ints l)⟩=some { ar:=some (id,⟨ax,1,.inl (ints (l.set row x))⟩) }:=An h1 rfl
@[go_sem] theorem Pc (n:Nat) (x:Int):cu n [.pv (.int .i64 x)]=.inl (ints (List.replicate n x)):=by
 simp[cu,ay,V.bP,PV.perm,ints]
@[go_sem] theorem Pd (l:List Int) (n:Nat):(ints l).take n=ints (l.take n):=by simp[ints]
def Edge.side (e:Edge):Int:=if e.send=true then 1 else 0
def hC (x y:Int):Int:=if x<y then -1 else if y<x then 1 else 0
def Edge.cmp (a b:Edge):Int:=if hC a.fr b.fr≠0 then hC a.fr b.fr else if hC a.side b.side≠0 then hC a.side b.side else hC a.label b.label
def Edge.lt (a b:Edge):Bool:=if a.fr≠b.fr then decide (a.fr<b.fr) else if a.send≠b.send then b.send else decide (a.label<b.label)
theorem Edge.ER (a b:Edge):decide (Edge.cmp a b<0)=Edge.lt a b:=by
 unfold Edge.cmp Edge.lt hC Edge.side
 by_cases h1:a.fr=b.fr
 .simp only[h1,Int.lt_irrefl,if_false,ne_eq,not_true_eq_false]
  cases ha:a.send<;>cases hb:b.send<;>simp<;>(repeat' split)<;>simp<;>omega
 .rcases Int.lt_or_gt_of_ne h1 with h|h
  .simp[h,h1]
  .have:¬a.fr<b.fr:=by omega
   simp[h,h1,this]
theorem Edge.KV (a b:Edge):decide (0<=Edge.cmp a b)=!Edge.lt a b:=by
 rw[<- Edge.ER]
 by_cases h:0<=Edge.cmp a b
 .have:¬Edge.cmp a b<0:=by omega
  simp[h,this]
 .have:Edge.cmp a b<0:=by omega
  simp[h,this]
theorem Edge.swo:Go.Sort.SWO Edge.lt where
 irrefl x:=by simp[Edge.lt]
 trans x y z h1 h2:=by
  unfold Edge.lt at *
  by_cases a1:x.fr=y.fr<;>by_cases a2:y.fr=z.fr<;>by_cases b1:x.send=y.send<;>by_cases b2:y.send=z.send<;>simp_all<;>(try omega)
  all_goals (try (have:¬x.fr=z.fr:=by omega); simp_all; omega)
 ntrans x y z h1 h2:=by
  unfold Edge.lt at *
  by_cases a1:x.fr=y.fr<;>by_cases a2:y.fr=z.fr<;>by_cases b1:x.send=y.send<;>by_cases b2:y.send=z.send<;>simp_all<;>(try omega)
  all_goals (try (have:¬x.fr=z.fr:=by omega); simp_all; omega)
def Edge.fits (e:Edge) (n:Int):Bool:=decide (0<=e.fr)&&decide (e.fr<n)&&decide (0<=e.to)&&decide (e.to<n)&&decide (1<=e.label)&&decide (e.label<=1000)
def sS (n:Int):Option Edge->List Edge->Bool
 |_,[]=>true
 |p,e::r=>e.fits n&&(match p with|none=>true|some q=>Edge.lt q e)&&sS n (some e) r
def aL.err (a:aL):Int:=if 12<a.ai\/100<a.aa.length then 3 else if 0<=a.start/\a.start<a.ai then (if sS a.ai none a.aa=true then 0 else 1) else 1
def pS (l:List Edge) (k:Nat):Option Edge:=if k=0 then none else l[k - 1]?
theorem fq {l:List Edge} {k:Nat}:pS l (k+1)=l[k]?:=by simp[pS]
theorem yq {n:Int}:∀{p:Option Edge} {l:List Edge},sS n p l=true->∀e∈l,e.fits n=true
 |_,[],_,e,he=>by simp at he
 |p,x::r,h,e,he=>by
  simp only[sS,Bool.and_eq_true]at h
  rcases WC.1 he with rfl|he
  .exact h.1.1
  .exact yq h.2 e he
theorem eh {e:Edge} {n:Int}:e.fits n=true↔0<=e.fr/\e.fr<n/\0<=e.to/\e.to<n/\1<=e.label/\e.label<=1000:=by
 simp[Edge.fits,and_assoc]
def Uk (l nx:List Int) (e:Edge):List Int:=nx.set e.fr.toNat (min (nx.getD e.fr.toNat 0+l.getD e.to.toNat 0) 1000000000000001)
def Ul (n:Nat) (es:List Edge) (l:List Int):List Int:=es.foldl (Uk l) (List.replicate n 0)
def Rz (n:Nat) (es:List Edge):Nat->List Int
 |0=>List.replicate n 1
 |k+1=>Ul n es (Rz n es k)
theorem getD_some {l:List Int} {i:Nat} (h:i<l.length):l[i]?=some (l.getD i 0):=by simp[h]
def aL.count (a:aL) (n:Int):Int×Int:=
 if a.err≠0 then (0,a.err) else if n<0\/1000<n then (0,7) else
  let v:=(Rz a.ai.toNat a.aa n.toNat).getD a.start.toNat 0
  if 1000000000000000<v then (0,3) else (v,0)
def eI (x:Int):Prop:= -9223372036854775808<=x/\x<=9223372036854775807
def bN {α:Type} (l:List α):Prop:=l.length<=9223372036854775807
def bu (s:ByteArray):Prop:=s.size<=9223372036854775807
structure Raw where
 id:Int
 data:ByteArray
def Raw.c (r:Raw):List PV:=[.int .i64 r.id,.str r.data]
def Raw.ok (r:Raw):Prop:=eI r.id/\bu r.data
structure dw where
 kind:Int
 bool:Bool
 int:Int
 str:ByteArray
 id:Int
 keys:List (List PV)
 items:List (List PV)
 rest:List Raw
def dw.c (v:dw):List PV:=[.int .i64 v.kind,.bool v.bool,.int .i64 v.int,.str v.str,.int .i64 v.id,.aq 0 v.keys,.aq 0 v.items,.aq 0 (v.rest.map Raw.c)]
def mC:Nat->List PV->Prop
 |0,_=>False
 |n+1,cs=>∃v:dw,cs=v.c/\(eI v.kind/\eI v.int/\bu v.str/\eI v.id)/\(bN v.keys/\bN v.items/\bN v.rest)/\(∀r∈v.keys,mC n r)/\(∀r∈v.items,mC n r)/\∀r∈v.rest,r.ok
structure Sym where
 id:Int
 name:ByteArray
def Sym.c (s:Sym):List PV:=[.int .i64 s.id,.str s.name]
def Sym.ok (s:Sym):Prop:=eI s.id/\bu s.name
structure Mem where
 id:Int
 name:ByteArray
 type:Int
 DV:Bool
 has:Bool
 ib:dw
def Mem.c (m:Mem):List PV:=[.int .i64 m.id,.str m.name,.int .i64 m.type,.bool m.DV,.bool m.has,.int .i64 m.ib.kind,.bool m.ib.bool,.int .i64 m.ib.int,.str m.ib.str,.int .i64 m.ib.id,.aq 0 m.ib.keys,.aq 0 m.ib.items,.aq 0 (m.ib.rest.map Raw.c)]
def Mem.ok (m:Mem):Prop:=eI m.id/\bu m.name/\eI m.type/\∃n,mC n m.ib.c
structure aI where
 kind:Int
 name:ByteArray
 low:Int
 high:Int
 max:Int
 syms:List Sym
 bc:List Mem
 key:Int
 elem:Int
 jR:Bool
def aI.c (t:aI):List PV:=[.int .i64 t.kind,.str t.name,.int .i64 t.low,.int .i64 t.high,.int .i64 t.max,.aq 0 (t.syms.map Sym.c),.aq 0 (t.bc.map Mem.c),.int .i64 t.key,.int .i64 t.elem,.bool t.jR]
def aI.ok (t:aI):Prop:=(eI t.kind/\bu t.name/\eI t.low/\eI t.high/\eI t.max/\eI t.key/\eI t.elem)/\(bN t.syms/\bN t.bc)/\(∀s∈t.syms,s.ok)/\∀m∈t.bc,m.ok
variable {P:Program}
theorem CP {n:Nat} {t:TypeId} {k:IntKind} {cs:List PV} (hu:P.underlying t=some (.int k)) (h:typed P (n+1) t cs):∃x,cs=[.int k x]/\k.min<=x/\x<=k.max:=by
 simpa only[typed,hu]using h
theorem yr {n:Nat} {t el:TypeId} {cs:List PV} (hu:P.underlying t=some (.slice el)) (h:typed P (n+1) t cs):∃rows,cs=[.aq 0 rows]/\rows.length<=maxLen/\∀r∈rows,typed P n el r:=by
 simpa only[typed,hu]using h
def ox (P:Program) (n:Nat):List TypeId->List PV->Prop
 |[],cs=>cs=[]
 |t::ts,cs=>∃r q,cs=r++q/\typed P n t r/\ox P n ts q
theorem dJ {n:Nat} {t:TypeId} {fs:Array Field} {ts:List TypeId} {cs:List PV} (hu:P.underlying t=some (.struct fs)) (hts:fs.toList.map (·.type)=ts) (h:typed P (n+1) t cs):ox P n ts cs:=by
 simp only[typed,hu]at h
 obtain⟨parts,h1,rfl,h3⟩:=h
 subst hts
 have key:∀(l:List Field) (parts:List (List PV)),parts.length=l.length->(∀(i:Nat) (f:Field) (r:List PV),l[i]?=some f->parts[i]?=some r->typed P n f.type r)->ox P n (l.map (·.type)) parts.flatten:=by
  intro l
  induction l with
  |nil=>intro parts hl _; simp[List.eq_nil_of_length_eq_zero hl,ox]
  |cons f l ih=>
   intro parts hl hp
   match parts,hl with
   |r::parts,hl=>exact⟨r,parts.flatten,rfl,hp 0 f r rfl rfl,ih parts (by simpa using hl) (fun i g q hg hq=>hp (i+1) g q (by simpa using hg) (by simpa using hq))⟩
 exact key fs.toList parts (by simpa using h1) (fun i f r hf hr=>h3 i f r (by simpa using hf) hr)
theorem qH {n m:Nat} {t el:TypeId} {cs:List PV} (hu:P.underlying t=some (.array m el)) (h:typed P (n+1) t cs):ox P n (List.replicate m el) cs:=by
 simp only[typed,hu]at h
 obtain⟨parts,h1,rfl,h3⟩:=h
 subst h1
 clear hu
 induction parts with
 |nil=>rfl
 |cons r parts ih=>exact⟨r,parts.flatten,rfl,h3 r (by simp),ih (fun q hq=>h3 q (by simp[hq]))⟩
theorem yu {α:Type} {c:α->List PV}:∀{rows:List (List PV)},(∀r∈rows,∃x,r=c x)->∃l:List α,rows=l.map c
 |[],_=>⟨[],rfl⟩
 |r::rows,h=>by
  obtain⟨x,rfl⟩:=h r (by simp)
  obtain⟨l,rfl⟩:=yu (rows:=rows) (fun q hq=>h q (by simp[hq]))
  exact⟨x::l,rfl⟩
theorem wF {t:TypeId} {fs:Array Field} (hu:P.underlying t=some (.struct fs)):cY P t=some true:=by simp[cY,hu]
end Go.Pv
namespace Go.Pv
def u8 (n:Nat):PV:=.int .u8 (n:Int)
structure Part where
 id:Nat
 type:Nat
 flag:Nat
def Part.c (p:Part):List PV:=[.int .u8 p.id,.int .u8 p.type,.int .u8 p.flag]
def Part.ok (p:Part):Prop:=p.id<=255/\p.type<=255/\p.flag<=255
structure Node where
 kind:Nat
 a:Nat
 b:Nat
 c:Nat
 parts:List Part
def Node.cs (x:Node):List PV:=[.int .u8 x.kind,.int .u8 x.a,.int .u8 x.b,.int .u8 x.c,.aq 0 (x.parts.map Part.c)]
def Node.ok (x:Node):Prop:=(x.kind<=255/\x.a<=255/\x.b<=255/\x.c<=255)/\bN x.parts/\∀p∈x.parts,p.ok
def yw (x:Node):Nat:=1+x.kind%9
def aK (d:List Node) (i:Nat):Nat:=((d[i]?).map yw).getD 1
def jF (x:Node):Int:=((x.a%7:Nat):Int) - 3
def lA (x:Node):Int:=jF x+((x.b%6:Nat):Int)
def iS (a n:Nat):List Nat:=(List.range n).filter fun i=>decide (a/2^i%2=1)
def fP (a:Nat):List Nat:=if iS a 6=[] then [1] else (iS a 6).map (·+1)
def cI (d:List Node) (i code:Nat):Option Nat:=
 if 7<=aK d (code%d.length)\/code%d.length<i then some (code%d.length)
 else if 0<i then some (code%d.length%i)
 else (List.range d.length).find? fun k=>decide (7<=aK d k)
def jr (d:List Node) (code:Nat):Option Nat:=((List.range d.length).find? fun k=>decide (aK d ((code+k)%d.length)<=4)).map fun k=>(code+k)%d.length
def fI:Option Nat->Int
 |some n=>n
 |none=> -1
structure jG where
 name:ByteArray
 rn:Int
 rep:Int
 deriving DecidableEq,Inhabited
structure jH where
 name:ByteArray
 ty:Int
 deriving DecidableEq,Inhabited
structure gF where
 id:Int
 name:ByteArray
 ty:Int
 deriving DecidableEq,Inhabited
structure dW where
 name:ByteArray
 msgs:List gF
 auto:aL
structure iY where
 name:ByteArray
 types:List aI
 calls:List jG
 aF:List dW
 aS:List jH
def jG.c (x:jG):List PV:=[.str x.name,.int .i64 x.rn,.int .i64 x.rep]
def jH.c (x:jH):List PV:=[.str x.name,.int .i64 x.ty]
def gF.c (x:gF):List PV:=[.int .i64 x.id,.str x.name,.int .i64 x.ty]
def dW.c (x:dW):List PV:=[.str x.name,.aq 0 (x.msgs.map gF.c),.int .i64 x.auto.ai,.int .i64 x.auto.start,.aq 0 (x.auto.aa.map Edge.c)]
@[go_sem] theorem jG.EO (x:jG):x.c=[.str x.name,.int .i64 x.rn,.int .i64 x.rep]:=rfl
@[go_sem] theorem jH.EO (x:jH):x.c=[.str x.name,.int .i64 x.ty]:=rfl
@[go_sem] theorem gF.EO (x:gF):x.c=[.int .i64 x.id,.str x.name,.int .i64 x.ty]:=rfl
@[go_sem] theorem dW.EO (x:dW):x.c=[.str x.name,.aq 0 (x.msgs.map gF.c),.int .i64 x.auto.ai,.int .i64 x.auto.start,.aq 0 (x.auto.aa.map Edge.c)]:=rfl
def cg (l:List jG):List (List PV):=l.map jG.c
def cQ (l:List jH):List (List PV):=l.map jH.c
def msgs (l:List gF):List (List PV):=l.map gF.c
def aF (l:List dW):List (List PV):=l.map dW.c
@[go_sem] theorem sT (l:List jG):(cg l).length=l.length:=Wu _
@[go_sem] theorem yx (l:List jH):(cQ l).length=l.length:=Wu _
@[go_sem] theorem RA (l:List gF):(msgs l).length=l.length:=Wu _
@[go_sem] theorem ES (l:List dW):(aF l).length=l.length:=Wu _
@[go_sem] theorem RB (l:List jG) (k:Nat):(cg l)[k]?=l[k]?.map jG.c:=Wv
@[go_sem] theorem RC (l:List jH) (k:Nat):(cQ l)[k]?=l[k]?.map jH.c:=Wv
@[go_sem] theorem RD (l:List gF) (k:Nat):(msgs l)[k]?=l[k]?.map gF.c:=Wv
@[go_sem] theorem RE (l:List dW) (k:Nat):(aF l)[k]?=l[k]?.map dW.c:=Wv
def qZ {α:Type} (p:α->Bool) (l:List α):Int:=match l.findIdx? p with|some j=>(j:Int)|none=> -1
def ei {α:Type} (p:α->Bool) (l:List α):Option α:=(l.findIdx? p).bind fun j=>l[j]?
theorem wG {α:Type} {p:α->Bool} {l:List α} {k:Nat} {w:α} (hw:l[k]?=some w) (hp:p w=true) (hn:∀i v,i<k->l[i]?=some v->p v=false):l.findIdx? p=some k:=by
 have hk:=(Wq.1 hw).1
 rw[WM]
 refine⟨hk,by rw[(Wq.1 hw).2]; exact hp,fun j hj=>?_⟩
 rw[hn j _ hj (Ws (by omega))]
 decide
theorem wH {α:Type} {p:α->Bool} {l:List α} (hn:∀(i:Nat) (v:α),l[i]?=some v->p v=false):l.findIdx? p=none:=by
 rw[Xk]
 intro w hw
 obtain⟨i,hi⟩:=List.getElem?_of_mem hw
 exact hn i w hi
theorem sU {α:Type} {l:List α} {k:Nat} {x:α} (hx:l[k]?=some x) {Q:Nat->α->Prop} (h:∀i y,i<k->l[i]?=some y->Q i y) (hq:Q k x):∀i y,i<k+1->l[i]?=some y->Q i y:=fun i y hi hy=>by
 rcases Wx i k with hh|hh
 .exact h i y hh hy
 .have:i=k:=by omega
  subst this
  rw[hx]at hy
  cases hy
  exact hq
theorem pT {α:Type} {l:List α} {k:Nat} (hk:l.length<=k) {Q:Nat->α->Prop} (h:∀i y,i<k->l[i]?=some y->Q i y):∀i y,l[i]?=some y->Q i y:=fun i y hy=>h i y (by have:=(Wq.1 hy).1; omega) hy
theorem get_some {α:Type} {l:List α} {k:Nat} (h:k<l.length):∃x,l[k]?=some x:=⟨l[k],Ws h⟩
end Go.Pv
