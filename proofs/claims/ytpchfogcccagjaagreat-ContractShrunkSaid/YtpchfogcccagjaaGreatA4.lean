/-
 The interpreter over plain values,and that it is sound.
-/
import Derived.Test.YtpchfogcccagjaaGreatA3
import Derived.Shelf.Sort.Plain
import Derived.Shelf.Slices.In.SortNone
open List renaming getElem?_eq_some_iff → V9, getElem?_eq_getElem → Wb, length_map → Wg, getElem?_map → Wf, mem_map → Wk, findIdx?_eq_some_iff_getElem → Ww, mem_cons → WG, pairwise_cons → Wv, mem_cons_self → WH, getElem?_eq_none → WS, ext_getElem? → WW, findIdx?_eq_none_iff → Xe, pairwise_singleton → XC
open Nat renaming lt_or_ge → Wh
namespace Go.Pv
open Go.Sort
variable {P:Program} {N:Nat->Nat} {W:Nat->Prop} {L:Lx} {e:bh} {h:aa} {w:World}
def Gz (x y:Int):Bool:=decide (x<y)
theorem sD (x:Int):∀l:List Int,l.Pairwise (·<=·)->(ins Gz x l).Pairwise (·<=·)
 |[],_=>XC _ _
 |y::r,h=>by
  obtain⟨h1,h2⟩:=Wv.1 h;unfold ins Gz;by_cases hxy:y<x
  .simp only[hxy,decide_true,if_true];refine Wv.2 ⟨λz hz=>?_,sD x r h2⟩;rcases WG.1 ((oe _ x r).subset hz)with rfl|hz
   .omega
   .exact h1 z hz
  .simp only[hxy,decide_false,Bool.false_eq_true,if_false];refine Wv.2 ⟨λz hz=>?_,h⟩;rcases WG.1 hz with rfl|hz
   .omega
   .have:=h1 z hz;omega
theorem og:∀l:List Int,(dp Gz l).Pairwise (·<=·)
 |[]=>List.Pairwise.nil
 |x::r=>sD x _ (og r)
theorem BE:∀(a b:List Int),a.Pairwise (·<=·)->b.Pairwise (·<=·)->a.Perm b->a=b
 |[],b,_,_,hp=>(List.Perm.eq_nil hp.symm).symm
 |x::a,[],_,_,hp=>by simp at hp
 |x::a,y::b,ha,hb,hp=>by
  obtain⟨a1,a2⟩:=Wv.1 ha;obtain⟨b1,b2⟩:=Wv.1 hb;have hxy:x=y:=by
   have hx:x∈y::b:=hp.subset (WH ..);have hy:y∈x::a:=hp.symm.subset (WH ..);rcases WG.1 hx with h|h
   .exact h
   .rcases WG.1 hy with h'|h'
    .exact h'.symm
    .have:=a1 y h';have:=b1 x h;omega
  subst hxy;rw[BE a b a2 b2 (List.Perm.cons_inv hp)]
theorem qu (l:List Int):l.mergeSort (λx y=>decide (x<=y))=dp Gz l:=by
 refine BE _ _ ?_ (og l) ((List.mergeSort_perm _ _).trans (dc _ _).symm);have:=List.pairwise_mergeSort (le:=λx y:Int=>decide (x<=y)) (λa b c h1 h2=>by simp at *;omega) (λa b=>by simp;omega) l;simpa using this
def sE:List PV->Option Int
 |[.int .i64 x]=>some x
 |_=>none
def gL:List V->aa->Option (V×Tn)
 |[x],h=>match x with
  |.tl []=>some (.dy [],{})
  |.tl [r]=>(match sE r with
   |some _=>some (.dy [],{})
   |none=>none)
  |.own id ax off len=>match aB h id ax with
   |some a=>if len=0 then some (.dy [],{ra:=some id}) else (match a.body with
    |.inl rows=>if a.k=1/\off+len<=rows.length/\len<=aN then (match ay sE ((rows.drop off).take len)with
     |some l=>some (.dy [],{ar:=some (id,⟨ax,1,.inl (rows.take off++(dp Gz l).map (λx=>[.int .i64 x])++rows.drop (off+len))⟩)})
     |none=>none) else none
    |.inr _=>none)
   |none=>none
  |_=>none
 |_,_=>none
theorem Ad (w:World)(blk off:Nat)(d:Array Int):putRow (Value.int .i64) w blk off d=putRow id w blk off (d.map (Value.int .i64)):=by
 unfold putRow;congr 1;funext c;unfold putCells;congr 1;funext k x;rw[Array.size_map];by_cases hk:off<=k/\k<off+d.size
 .rw[if_pos hk,if_pos hk];have h1:k - off<d.size:=by omega
  rw[getElem!_pos d _ h1,getElem!_pos (d.map _) _ (by rw[Array.size_map];exact h1)];simp
 .rw[if_neg hk,if_neg hk]
theorem behind (hr:HR N L e W h w)(n:Nat)(os:Array Obj):Nx N W L e w L e h (grow (Sort.ahead w n) os):=by
 have hold:∀g,g<w.heap.size->(grow (Sort.ahead w n) os).heap[g]?=w.heap[g]?:=by
  intro g hg;rw[heap_grow_old _ _ (by simpa [Sort.ahead]using hg)];rfl
 have hsz:w.heap.size<=(grow (Sort.ahead w n) os).heap.size:=by simp[Sort.ahead]
 obtain⟨q1,q2⟩:=hr.D0 (w':=grow (Sort.ahead w n) os) (L':=L) (λ_=>False) (λb hb=>hb.elim) (λb hb _=>hold b hb) hsz (λ_ _ h=>h) (λ_ _ h=>.inl h);refine⟨q1,q2,⟨rfl,rfl,rfl,hsz,λg hg _=>hold g hg,?_⟩,λ_ _ h=>.inl h⟩;show w.drawn<=w.drawn+n;omega
theorem CD {ρ:Go.Shelf.Ren}(LL:Go.Proofs.Lays.n189 P ρ){fn:Nat}(hfn:N fn=ρ.f 189)(hent:∀args w,(callFunc (N fn) args).run P w=.ok (.enter (N fn) args) w)
  {vs:List V}{args:Array Value}{v:V}{tn:Tn}(hp:gL vs h=some (v,tn))(hr:HR N L e W h w)
  (hs:args.size=vs.length)(hv:∀(j:Nat)(x:V),vs[j]?=some x->VR N L e w x (args.getD j undef)):
  da P (N fn) args w λv' w'=>∃L' e',Nx N W L e w L' e' (tn.apply h) w'/\VR N L' e' w' v v':=by
 have key:∀x,vs=[x]->∃v0,args=#[v0]/\VR N L e w x v0:=by
  rintro x rfl
  have h0:=hv 0 x rfl;have hsz:args.size=1:=hs;obtain⟨l⟩:=args
  match l,hsz with
  |[v0],_=>exact⟨v0,rfl,h0⟩
 have fin0:∀(a:Option Addr)(cap:Nat),args=#[.slice a 0 cap]->tn.apply h=h->v=.dy []->da P (N fn) args w λv' w'=>∃L' e',Nx N W L e w L' e' (tn.apply h) w'/\VR N L' e' w' v v':=by
  rintro a cap rfl ht rfl
  refine .inr ⟨hent _ _,?_⟩;rw[hfn];refine(Go.Proofs.Any.slices_Sort_int_none LL a cap w).mono ?_
  rintro en w' ⟨rfl,rfl⟩
  exact⟨L,e,by rw[ht];exact Nx.refl hr,.dy [] #[] rfl (λj c hj=>by simp at hj)⟩
 unfold gL at hp;split at hp<;>first|(cases hp;done)|skip
 rename_i x;obtain⟨v0,hargs,hv0⟩:=key x rfl;split at hp<;>first|(cases hp;done)|skip
 .injection hp with hp;injection hp with e1 e2;subst e1;subst e2;cases hv0 with
  |tl rows a hh=>exact fin0 a 0 hargs (by cases h;simp[Tn.apply]) rfl
 .rename_i r;split at hp<;>first|(cases hp;done)|skip
  rename_i x hx;injection hp with hp;injection hp with e1 e2;subst e1;subst e2;have hr1:r=[.int .i64 x]:=by
   unfold sE at hx;split at hx
   .cases hx;rfl
   .cases hx
  subst hr1;cases hv0 with
  |tl rows a hh hsoft=>
   cases hh with
   |aq _ _ _ ad _ k vs hk hc ha hcell hv hpm h1=>
    obtain⟨rfl,hsp,hl⟩:=ha (by simp);obtain⟨blk,off,sp⟩:=ad;dsimp only at hsp hl hcell;subst hsp;have hc0:=hcell 0 0 (.int .i64 x) rfl;have hv1:=hv 0 0 (.int .i64 x) rfl;have hv2:vs 0 0=.int .i64 x:=by
     generalize vs 0 0=u at hv1;cases hv1;rfl
    rw[hv2]at hc0;have hblk:blk<w.heap.size:=by
     rcases hl with hl|⟨hl,_⟩
     .exact hr.mE _ _ hl
     .exact absurd rfl hl
    have hH:Holds (Value.int .i64) w blk off [x].toArray:=by
     intro j hj;have hj0:j=0:=by simpa using hj
     subst hj0;obtain⟨arr,ty,h1⟩:=hsoft (by simp) _ rfl;exact⟨by simpa using hc0,by simp[World.frozen?,h1]⟩
    have hcall:=Go.Proofs.Any.slices_Sort_int LL blk off 1 [x] w hH hblk (by simp);rw[hargs];refine .inr ⟨hent _ _,?_⟩;rw[hfn];refine hcall.mono ?_
    rintro en w' ⟨rfl,n,os,rfl⟩
    rw[qu];have hself:putRow (Value.int .i64) (Sort.ahead w n) blk off (dp Gz [x]).toArray=Sort.ahead w n:=putRow_self _ _ _ _ _ (by exact hH);refine⟨L,e,?_,.dy [] #[] rfl (λj c hj=>by simp at hj)⟩;have h0:Tn.apply {} h=h:=by cases h;simp[Tn.apply]
    rw[h0,hself];exact behind hr n os
 .rename_i id0 ax off len;split at hp<;>first|(cases hp;done)|skip
  rename_i a ha;obtain⟨ha1,ha2⟩:=bn ha;split at hp
  .rename_i hl;subst hl;injection hp with hp;injection hp with e1 e2;subst e1;subst e2;cases hv0 with
   |own _ _ _ _ a' cap _ _ _ _=>exact fin0 a' cap hargs (by cases h;simp[Tn.apply]) rfl
  .rename_i hl;split at hp<;>first|(cases hp;done)|skip
   rename_i rows hb;split at hp<;>first|(cases hp;done)|skip
   rename_i hc;obtain⟨hak,hol,hm⟩:=hc;split at hp<;>first|(cases hp;done)|skip
   rename_i l hl2;injection hp with hp;injection hp with e1 e2;subst e1;subst e2;obtain⟨m1,m2⟩:=pG hl2;have hcut:((rows.drop off).take len).length=len:=by simp only[List.length_take,List.length_drop];omega
   have hll:l.length=len:=by omega
   have hdec:∀(r:List PV)(x:Int),sE r=some x->r=[.int .i64 x]:=by
    intro r x hx;unfold sE at hx;split at hx
    .cases hx;rfl
    .cases hx
   have hrl:(rows.drop off).take len=l.map (λx=>[.int .i64 x]):=by
    apply WW;intro i;rw[Wf];rcases Wh i len with hi|hi
    .have h1:((rows.drop off).take len)[i]?=some (((rows.drop off).take len)[i]'(by omega)):=Wb (by omega);have h2:l[i]?=some (l[i]'(by omega)):=Wb (by omega);rw[h2,h1];exact congrArg some (hdec _ _ (m2 i _ _ h1 h2))
    .rw[WS (by omega),WS (by omega)];rfl
   have hk':a.k≠0:=by rw[hak];decide
   obtain⟨v1,v2,v3,_⟩:=hr.ax id0 a ha1;have hid:id0<e.na:=by rw[hr.na];exact(V9.1 ha1).1
   have flat:∀(m:List Int)(i j:Nat)(c:PV),ff (m.map λx=>[PV.int .i64 x]) i j=some c->(m.toArray.map (Value.int .i64))[i*a.k+j]! =sv c:=by
    intro m i j c hc;unfold ff at hc;rw[Wf]at hc;cases hx:m[i]? with
    |none=>simp[hx]at hc
    |some x=>
     simp only[hx,Option.map_some,Option.bind_some]at hc
     match j,hc with
     |0,hc=>
      cases hc;have hi:=(V9.1 hx).1;rw[hak,Nat.mul_one,Nat.add_zero,getElem!_pos _ i (by simpa using hi)];have:=(V9.1 hx).2;simp[this,sv]
     |j+1,hc=>simp at hc
   cases hv0 with
   |own _ _ _ _ a' cap g0 g1 g2 g3=>
    obtain⟨k1,k2,k3,k4⟩:=g3 (by rw[v1,ha2]);have ha':=k4 (by omega);subst ha';have hH0:Holds id w (e.ar id0) (e.ad id0+off*a.k) (l.toArray.map (Value.int .i64)):=by
     refine uM hr ha1 hb hk' hol ?_ _ (by simp[hll,hak]) ?_
     .intro r hr' c hc;rw[hrl]at hr';obtain⟨y,_,rfl⟩:=Wk.1 hr';simp only[List.mem_cons,List.not_mem_nil,or_false]at hc;subst hc;rfl
     .intro i j c hc;rw[hrl]at hc;exact flat l i j c hc
    have hH:Holds (Value.int .i64) w (e.ar id0) (e.ad id0+off*a.k) l.toArray:=by
     intro j hj;obtain⟨q1,q2⟩:=hH0 j (by simpa using hj);refine⟨?_,q2⟩;rw[q1,getElem!_pos (l.toArray.map (Value.int .i64)) j (by simpa using hj),getElem!_pos l.toArray j hj];simp
    have hblk:=hr.abR hid (by rw[v2];exact hk');rw[hargs];refine .inr ⟨hent _ _,?_⟩;rw[hfn];have hcall:=Go.Proofs.Any.slices_Sort_int LL (e.ar id0) (e.ad id0+off*e.ak id0) cap l w (by rw[v2];exact hH) hblk (by rw[hll];unfold aN at hm;omega);rw[hll]at hcall;refine hcall.mono ?_
    rintro en w' ⟨rfl,n,os,rfl⟩
    rw[qu];have hlen2:(dp Gz l).length=len:=by rw[(dc Gz l).length_eq,hll]
    obtain⟨e',hnx⟩:=BD hr ha1 hb hk' hol (news:=(dp Gz l).map λx=>[.int .i64 x]) (by simp[hlen2]) (by
     intro r hr';obtain⟨y,_,rfl⟩:=Wk.1 hr';refine⟨by rw[hak];rfl,λc hc=>?_⟩;simp only[List.mem_cons,List.not_mem_nil,or_false]at hc;subst hc;rfl) ((dp Gz l).toArray.map (Value.int .i64)) (by simp[hlen2,hak]) (flat _) n os _ hH0 (by simp[hll,hlen2])
    refine⟨L,e',?_,.dy [] #[] rfl (λj c hj=>by simp at hj)⟩;rw[sx,<- ha2,<- hak,Ad,v2];exact hnx
theorem Ae:Prim.Ri gL where
 gl:=by
  intro vs h v t hh;unfold gL at hh
  repeat' split at hh
  all_goals first|(cases hh;done)|(injection hh with hh;injection hh with e1 e2;subst e2;rfl)
 loc:=by
  intro vs h1 h2 v t hh ha;unfold gL at hh |-;split at hh<;>first|(cases hh;done)|skip
  split at hh<;>first|(cases hh;done)|skip
  .exact hh
  .exact hh
  .rename_i id ax off len;split at hh<;>first|(cases hh;done)|skip
   rename_i a ho;have:(t.ra=some id\/t.np=some id\/∃a,t.ar=some (id,a))->aB h2 id ax=some a:=λhi=>(ha.own hi).trans ho;split at hh
   .rename_i h0;injection hh with hh;injection hh with e1 e2;subst e1;subst e2;rw[this (.inl rfl)];simp only[h0,if_true]
   .rename_i h0;split at hh<;>first|(cases hh;done)|skip
    rename_i rows hb;split at hh<;>first|(cases hh;done)|skip
    rename_i hc;split at hh<;>first|(cases hh;done)|skip
    rename_i news hn;injection hh with hh;injection hh with e1 e2;subst e1;subst e2;rw[this (.inr (.inr ⟨_,rfl⟩))];simp only[h0,if_false,hb,hn];rw[if_pos hc]
 fit:=by
  intro vs h v t hh;unfold gL at hh;split at hh<;>first|(cases hh;done)|skip
  split at hh<;>first|(cases hh;done)|skip
  .injection hh with hh;injection hh with e1 e2;subst e2;exact⟨λhp=>absurd rfl hp,λi a hia=>by cases hia⟩
  .split at hh<;>first|(cases hh;done)|skip
   injection hh with hh;injection hh with e1 e2;subst e2;exact⟨λhp=>absurd rfl hp,λi a hia=>by cases hia⟩
  .split at hh<;>first|(cases hh;done)|skip
   rename_i a ho;split at hh
   .injection hh with hh;injection hh with e1 e2;subst e2;exact⟨λhp=>absurd rfl hp,λi a hia=>by cases hia⟩
   .split at hh<;>first|(cases hh;done)|skip
    split at hh<;>first|(cases hh;done)|skip
    split at hh<;>first|(cases hh;done)|skip
    injection hh with hh;injection hh with e1 e2;subst e2;refine⟨λhp=>absurd rfl hp,λi a' hia=>?_⟩;cases hia;exact fj ho
end Go.Pv
namespace Go.Pv
structure Edge where
 fr:Int
 send:Bool
 label:Int
 to:Int
 deriving DecidableEq,Inhabited
structure aP where
 aj:Int
 start:Int
 af:List Edge
 deriving DecidableEq,Inhabited
def Edge.c (e:Edge):List PV:=[.int .i64 e.fr,.bool e.send,.int .i64 e.label,.int .i64 e.to]
@[go_sem] theorem Edge.EB (e:Edge):e.c=[.int .i64 e.fr,.bool e.send,.int .i64 e.label,.int .i64 e.to]:=rfl
def Edge.dec:List PV->Option Edge
 |[.int .i64 a,.bool b,.int .i64 c,.int .i64 d]=>some ⟨a,b,c,d⟩
 |_=>none
theorem Edge.Hl (r:List PV)(x:Edge)(h:Edge.dec r=some x):x.c=r:=by
 unfold Edge.dec at h;split at h
 .cases h;rfl
 .cases h
def aP.p (t:Nat)(a:aP):PV:=.agg [.int .i64 a.aj,.int .i64 a.start,.aq t (a.af.map Edge.c)]
@[go_sem] theorem aP.VF (t:Nat)(a:aP):a.p t=.agg [.int .i64 a.aj,.int .i64 a.start,.aq t (a.af.map Edge.c)]:=rfl
def ints (l:List Int):List (List PV):=l.map λx=>[.int .i64 x]
@[go_sem] theorem bt (l:List Int):(ints l).length=l.length:=by simp[ints]
@[go_sem] theorem EC (l:List Int)(i:Nat):(ints l)[i]?=l[i]?.map λx=>[.int .i64 x]:=by simp[ints]
@[go_sem] theorem ints_set (l:List Int)(i:Nat)(x:Int):(ints l).set i [.int .i64 x]=ints (l.set i x):=by simp[ints,List.map_set]
theorem Af {id row ax:Nat}{k:IntKind}{x:Int}{l:List Int}(h1:row<l.length)(hk:k=.i64):eG id row 0 [.pv (.int k x)] ⟨ax,1,.inl (ints l)⟩=some {ar:=some (id,⟨ax,1,.inl (ints (l.set row x))⟩)}:=by
 subst hk;rw[oc (by rw[bt];exact h1) rfl (.inr ⟨.int .i64 l[row],by simp[ints,h1]⟩) rfl,ints_set]
@[go_sem] theorem Hm {id row ax:Nat}{x:Int}{l:List Int}(h1:row<l.length):eG id row 0 [.pv (.int .i64 x)] ⟨ax,1,.inl (ints l)⟩=some {ar:=some (id,⟨ax,1,.inl (ints (l.set row x))⟩)}:=Af h1 rfl
@[go_sem] theorem OV (n:Nat)(x:Int):cu n [.pv (.int .i64 x)]=.inl (ints (List.replicate n x)):=by
 simp[cu,ay,V.bS,PV.perm,ints]
@[go_sem] theorem OW (l:List Int)(n:Nat):(ints l).take n=ints (l.take n):=by simp[ints]
def Edge.side (e:Edge):Int:=if e.send=true then 1 else 0
def abU (x y:Int):Int:=if x<y then -1 else if y<x then 1 else 0
def Edge.cmp (a b:Edge):Int:=if abU a.fr b.fr≠0 then abU a.fr b.fr else if abU a.side b.side≠0 then abU a.side b.side else abU a.label b.label
def Edge.lt (a b:Edge):Bool:=if a.fr≠b.fr then decide (a.fr<b.fr) else if a.send≠b.send then b.send else decide (a.label<b.label)
theorem Edge.ED (a b:Edge):decide (Edge.cmp a b<0)=Edge.lt a b:=by
 unfold Edge.cmp Edge.lt abU Edge.side;by_cases h1:a.fr=b.fr
 .simp only[h1,Int.lt_irrefl,if_false,ne_eq,not_true_eq_false];cases ha:a.send<;>cases hb:b.send<;>simp<;>(repeat' split)<;>simp<;>omega
 .rcases Int.lt_or_gt_of_ne h1 with h|h
  .simp[h,h1]
  .have:¬a.fr<b.fr:=by omega
   simp[h,h1,this]
theorem Edge.Kv (a b:Edge):decide (0<=Edge.cmp a b)=!Edge.lt a b:=by
 rw[<- Edge.ED];by_cases h:0<=Edge.cmp a b
 .have:¬Edge.cmp a b<0:=by omega
  simp[h,this]
 .have:Edge.cmp a b<0:=by omega
  simp[h,this]
theorem Edge.swo:Go.Sort.SWO Edge.lt where
 irrefl x:=by simp[Edge.lt]
 trans x y z h1 h2:=by
  unfold Edge.lt at *;by_cases a1:x.fr=y.fr<;>by_cases a2:y.fr=z.fr<;>by_cases b1:x.send=y.send<;>by_cases b2:y.send=z.send<;>simp_all<;>(try omega)
  all_goals (try (have:¬x.fr=z.fr:=by omega);simp_all;omega)
 ntrans x y z h1 h2:=by
  unfold Edge.lt at *;by_cases a1:x.fr=y.fr<;>by_cases a2:y.fr=z.fr<;>by_cases b1:x.send=y.send<;>by_cases b2:y.send=z.send<;>simp_all<;>(try omega)
  all_goals (try (have:¬x.fr=z.fr:=by omega);simp_all;omega)
def Edge.fits (e:Edge)(n:Int):Bool:=decide (0<=e.fr)&&decide (e.fr<n)&&decide (0<=e.to)&&decide (e.to<n)&&decide (1<=e.label)&&decide (e.label<=1000)
def sF (n:Int):Option Edge->List Edge->Bool
 |_,[]=>true
 |p,e::r=>e.fits n&&(match p with|none=>true|some q=>Edge.lt q e)&&sF n (some e) r
def aP.err (a:aP):Int:=if 12<a.aj\/100<a.af.length then 3 else if 0<=a.start/\a.start<a.aj then (if sF a.aj none a.af=true then 0 else 1) else 1
def pI (l:List Edge)(k:Nat):Option Edge:=if k=0 then none else l[k - 1]?
theorem fp {l:List Edge}{k:Nat}:pI l (k+1)=l[k]?:=by simp[pI]
theorem yg {n:Int}:∀{p:Option Edge}{l:List Edge},sF n p l=true->∀e∈l,e.fits n=true
 |_,[],_,e,he=>by simp at he
 |p,x::r,h,e,he=>by
  simp only[sF,Bool.and_eq_true]at h;rcases WG.1 he with rfl|he
  .exact h.1.1
  .exact yg h.2 e he
theorem fG {e:Edge}{n:Int}:e.fits n=true↔0<=e.fr/\e.fr<n/\0<=e.to/\e.to<n/\1<=e.label/\e.label<=1000:=by
 simp[Edge.fits,and_assoc]
def T5 (l nx:List Int)(e:Edge):List Int:=nx.set e.fr.toNat (min (nx.getD e.fr.toNat 0+l.getD e.to.toNat 0) 1000000000000001)
def T6 (n:Nat)(es:List Edge)(l:List Int):List Int:=es.foldl (T5 l) (List.replicate n 0)
def Rj (n:Nat)(es:List Edge):Nat->List Int
 |0=>List.replicate n 1
 |k+1=>T6 n es (Rj n es k)
theorem getD_some {l:List Int}{i:Nat}(h:i<l.length):l[i]?=some (l.getD i 0):=by simp[h]
def aP.count (a:aP)(n:Int):Int×Int:=
 if a.err≠0 then (0,a.err) else if n<0\/1000<n then (0,7) else
  let v:=(Rj a.aj.toNat a.af n.toNat).getD a.start.toNat 0
  if 1000000000000000<v then (0,3) else (v,0)
def eH (x:Int):Prop:= -9223372036854775808<=x/\x<=9223372036854775807
def bP {α:Type}(l:List α):Prop:=l.length<=9223372036854775807
def bC (s:ByteArray):Prop:=s.size<=9223372036854775807
structure Raw where
 id:Int
 data:ByteArray
def Raw.c (r:Raw):List PV:=[.int .i64 r.id,.str r.data]
def Raw.ok (r:Raw):Prop:=eH r.id/\bC r.data
structure dz where
 kind:Int
 bool:Bool
 int:Int
 str:ByteArray
 id:Int
 keys:List (List PV)
 items:List (List PV)
 rest:List Raw
def dz.c (v:dz):List PV:=[.int .i64 v.kind,.bool v.bool,.int .i64 v.int,.str v.str,.int .i64 v.id,.aq 0 v.keys,.aq 0 v.items,.aq 0 (v.rest.map Raw.c)]
def mu:Nat->List PV->Prop
 |0,_=>False
 |n+1,cs=>∃v:dz,cs=v.c/\(eH v.kind/\eH v.int/\bC v.str/\eH v.id)/\(bP v.keys/\bP v.items/\bP v.rest)/\(∀r∈v.keys,mu n r)/\(∀r∈v.items,mu n r)/\∀r∈v.rest,r.ok
structure Sym where
 id:Int
 name:ByteArray
def Sym.c (s:Sym):List PV:=[.int .i64 s.id,.str s.name]
def Sym.ok (s:Sym):Prop:=eH s.id/\bC s.name
structure Mem where
 id:Int
 name:ByteArray
 type:Int
 DJ:Bool
 has:Bool
 ib:dz
def Mem.c (m:Mem):List PV:=[.int .i64 m.id,.str m.name,.int .i64 m.type,.bool m.DJ,.bool m.has,.int .i64 m.ib.kind,.bool m.ib.bool,.int .i64 m.ib.int,.str m.ib.str,.int .i64 m.ib.id,.aq 0 m.ib.keys,.aq 0 m.ib.items,.aq 0 (m.ib.rest.map Raw.c)]
def Mem.ok (m:Mem):Prop:=eH m.id/\bC m.name/\eH m.type/\∃n,mu n m.ib.c
structure aH where
 kind:Int
 name:ByteArray
 low:Int
 high:Int
 max:Int
 syms:List Sym
 bc:List Mem
 key:Int
 elem:Int
 jO:Bool
def aH.c (t:aH):List PV:=[.int .i64 t.kind,.str t.name,.int .i64 t.low,.int .i64 t.high,.int .i64 t.max,.aq 0 (t.syms.map Sym.c),.aq 0 (t.bc.map Mem.c),.int .i64 t.key,.int .i64 t.elem,.bool t.jO]
def aH.ok (t:aH):Prop:=(eH t.kind/\bC t.name/\eH t.low/\eH t.high/\eH t.max/\eH t.key/\eH t.elem)/\(bP t.syms/\bP t.bc)/\(∀s∈t.syms,s.ok)/\∀m∈t.bc,m.ok
variable {P:Program}
theorem CF {n:Nat}{t:TypeId}{k:IntKind}{cs:List PV}(hu:P.underlying t=some (.int k))(h:typed P (n+1) t cs):∃x,cs=[.int k x]/\k.min<=x/\x<=k.max:=by
 simpa only[typed,hu]using h
theorem yh {n:Nat}{t el:TypeId}{cs:List PV}(hu:P.underlying t=some (.slice el))(h:typed P (n+1) t cs):∃rows,cs=[.aq 0 rows]/\rows.length<=maxLen/\∀r∈rows,typed P n el r:=by
 simpa only[typed,hu]using h
def oi (P:Program)(n:Nat):List TypeId->List PV->Prop
 |[],cs=>cs=[]
 |t::ts,cs=>∃r q,cs=r++q/\typed P n t r/\oi P n ts q
theorem dK {n:Nat}{t:TypeId}{fs:Array Field}{ts:List TypeId}{cs:List PV}(hu:P.underlying t=some (.struct fs))(hts:fs.toList.map (·.type)=ts)(h:typed P (n+1) t cs):oi P n ts cs:=by
 simp only[typed,hu]at h;obtain⟨parts,h1,rfl,h3⟩:=h;subst hts;have key:∀(l:List Field)(parts:List (List PV)),parts.length=l.length->(∀(i:Nat)(f:Field)(r:List PV),l[i]?=some f->parts[i]?=some r->typed P n f.type r)->oi P n (l.map (·.type)) parts.flatten:=by
  intro l
  induction l with
  |nil=>intro parts hl _;simp[List.eq_nil_of_length_eq_zero hl,oi]
  |cons f l ih=>
   intro parts hl hp
   match parts,hl with
   |r::parts,hl=>exact⟨r,parts.flatten,rfl,hp 0 f r rfl rfl,ih parts (by simpa using hl) (λi g q hg hq=>hp (i+1) g q (by simpa using hg) (by simpa using hq))⟩
 exact key fs.toList parts (by simpa using h1) (λi f r hf hr=>h3 i f r (by simpa using hf) hr)
theorem qw {n m:Nat}{t el:TypeId}{cs:List PV}(hu:P.underlying t=some (.array m el))(h:typed P (n+1) t cs):oi P n (List.replicate m el) cs:=by
 simp only[typed,hu]at h;obtain⟨parts,h1,rfl,h3⟩:=h;subst h1;clear hu
 induction parts with
 |nil=>rfl
 |cons r parts ih=>exact⟨r,parts.flatten,rfl,h3 r (by simp),ih (λq hq=>h3 q (by simp[hq]))⟩
theorem yi {α:Type}{c:α->List PV}:∀{rows:List (List PV)},(∀r∈rows,∃x,r=c x)->∃l:List α,rows=l.map c
 |[],_=>⟨[],rfl⟩
 |r::rows,h=>by
  obtain⟨x,rfl⟩:=h r (by simp);obtain⟨l,rfl⟩:=yi (rows:=rows) (λq hq=>h q (by simp[hq]));exact⟨x::l,rfl⟩
theorem wu {t:TypeId}{fs:Array Field}(hu:P.underlying t=some (.struct fs)):cR P t=some true:=by simp[cR,hu]
end Go.Pv
namespace Go.Pv
def u8 (n:Nat):PV:=.int .u8 (n:Int)
structure Part where
 id:Nat
 type:Nat
 flag:Nat
def Part.c (p:Part):List PV:=[.int .u8 p.id,.int .u8 p.type,.int .u8 p.flag]
def Part.ok (p:Part):Prop:=p.id<=255/\p.type<=255/\p.flag<=255
structure Node where
 kind:Nat
 a:Nat
 b:Nat
 c:Nat
 parts:List Part
def Node.cs (x:Node):List PV:=[.int .u8 x.kind,.int .u8 x.a,.int .u8 x.b,.int .u8 x.c,.aq 0 (x.parts.map Part.c)]
def Node.ok (x:Node):Prop:=(x.kind<=255/\x.a<=255/\x.b<=255/\x.c<=255)/\bP x.parts/\∀p∈x.parts,p.ok
def yk (x:Node):Nat:=1+x.kind%9
def aI (d:List Node)(i:Nat):Nat:=((d[i]?).map yk).getD 1
def jD (x:Node):Int:=((x.a%7:Nat):Int) - 3
def lq (x:Node):Int:=jD x+((x.b%6:Nat):Int)
def iS (a n:Nat):List Nat:=(List.range n).filter λi=>decide (a/2^i%2=1)
def fP (a:Nat):List Nat:=if iS a 6=[] then [1] else (iS a 6).map (·+1)
def cJ (d:List Node)(i code:Nat):Option Nat:=
 if 7<=aI d (code%d.length)\/code%d.length<i then some (code%d.length)
 else if 0<i then some (code%d.length%i)
 else (List.range d.length).find? λk=>decide (7<=aI d k)
def js (d:List Node)(code:Nat):Option Nat:=((List.range d.length).find? λk=>decide (aI d ((code+k)%d.length)<=4)).map λk=>(code+k)%d.length
def fH:Option Nat->Int
 |some n=>n
 |none=> -1
structure Cal where
 name:ByteArray
 ud:Int
 rep:Int
 deriving DecidableEq,Inhabited
structure Tpc where
 name:ByteArray
 ty:Int
 deriving DecidableEq,Inhabited
structure gI where
 id:Int
 name:ByteArray
 ty:Int
 deriving DecidableEq,Inhabited
structure eE where
 name:ByteArray
 msgs:List gI
 auto:aP
structure ij where
 name:ByteArray
 types:List aH
 calls:List Cal
 aG:List eE
 aT:List Tpc
def Cal.c (x:Cal):List PV:=[.str x.name,.int .i64 x.ud,.int .i64 x.rep]
def Tpc.c (x:Tpc):List PV:=[.str x.name,.int .i64 x.ty]
def gI.c (x:gI):List PV:=[.int .i64 x.id,.str x.name,.int .i64 x.ty]
def eE.c (x:eE):List PV:=[.str x.name,.aq 0 (x.msgs.map gI.c),.int .i64 x.auto.aj,.int .i64 x.auto.start,.aq 0 (x.auto.af.map Edge.c)]
@[go_sem] theorem Cal.EB (x:Cal):x.c=[.str x.name,.int .i64 x.ud,.int .i64 x.rep]:=rfl
@[go_sem] theorem Tpc.EB (x:Tpc):x.c=[.str x.name,.int .i64 x.ty]:=rfl
@[go_sem] theorem gI.EB (x:gI):x.c=[.int .i64 x.id,.str x.name,.int .i64 x.ty]:=rfl
@[go_sem] theorem eE.EB (x:eE):x.c=[.str x.name,.aq 0 (x.msgs.map gI.c),.int .i64 x.auto.aj,.int .i64 x.auto.start,.aq 0 (x.auto.af.map Edge.c)]:=rfl
def ch (l:List Cal):List (List PV):=l.map Cal.c
def df (l:List Tpc):List (List PV):=l.map Tpc.c
def msgs (l:List gI):List (List PV):=l.map gI.c
def aG (l:List eE):List (List PV):=l.map eE.c
@[go_sem] theorem oj (l:List Cal):(ch l).length=l.length:=Wg _
@[go_sem] theorem sG (l:List Tpc):(df l).length=l.length:=Wg _
@[go_sem] theorem Rk (l:List gI):(msgs l).length=l.length:=Wg _
@[go_sem] theorem yl (l:List eE):(aG l).length=l.length:=Wg _
@[go_sem] theorem Rl (l:List Cal)(k:Nat):(ch l)[k]?=l[k]?.map Cal.c:=Wf
@[go_sem] theorem Rm (l:List Tpc)(k:Nat):(df l)[k]?=l[k]?.map Tpc.c:=Wf
@[go_sem] theorem Rn (l:List gI)(k:Nat):(msgs l)[k]?=l[k]?.map gI.c:=Wf
@[go_sem] theorem Ro (l:List eE)(k:Nat):(aG l)[k]?=l[k]?.map eE.c:=Wf
def qO {α:Type}(p:α->Bool)(l:List α):Int:=match l.findIdx? p with|some j=>(j:Int)|none=> -1
def jf {α:Type}(p:α->Bool)(l:List α):Option α:=(l.findIdx? p).bind λj=>l[j]?
theorem wv {α:Type}{p:α->Bool}{l:List α}{k:Nat}{w:α}(hw:l[k]?=some w)(hp:p w=true)(hn:∀i v,i<k->l[i]?=some v->p v=false):l.findIdx? p=some k:=by
 have hk:=(V9.1 hw).1;rw[Ww];refine⟨hk,by rw[(V9.1 hw).2];exact hp,λj hj=>?_⟩;rw[hn j _ hj (Wb (by omega))];decide
theorem wx {α:Type}{p:α->Bool}{l:List α}(hn:∀(i:Nat)(v:α),l[i]?=some v->p v=false):l.findIdx? p=none:=by
 rw[Xe];intro w hw;obtain⟨i,hi⟩:=List.getElem?_of_mem hw;exact hn i w hi
theorem sH {α:Type}{l:List α}{k:Nat}{x:α}(hx:l[k]?=some x){Q:Nat->α->Prop}(h:∀i y,i<k->l[i]?=some y->Q i y)(hq:Q k x):∀i y,i<k+1->l[i]?=some y->Q i y:=λi y hi hy=>by
 rcases Wh i k with hh|hh
 .exact h i y hh hy
 .have:i=k:=by omega
  subst this;rw[hx]at hy;cases hy;exact hq
theorem pJ {α:Type}{l:List α}{k:Nat}(hk:l.length<=k){Q:Nat->α->Prop}(h:∀i y,i<k->l[i]?=some y->Q i y):∀i y,l[i]?=some y->Q i y:=λi y hy=>h i y (by have:=(V9.1 hy).1;omega) hy
theorem get_some {α:Type}{l:List α}{k:Nat}(h:k<l.length):∃x,l[k]?=some x:=⟨l[k],Wb h⟩
end Go.Pv
