/-
 The interpreter over plain values,and that it is sound.
-/
import Derived.Test.YtpchfogcccagjaaGreatA3
import Derived.SizedLaws
open List renaming mem_of_getElem? → Wa, getElem?_eq_some_iff → V9, getElem?_eq_getElem → Wb, mem_iff_getElem? → Wd, length_map → Wg, getElem?_map → Wf, mem_map → Wk, mem_cons → WG, length_range → WI, findIdx?_eq_some_iff_getElem → Ww, append_nil → Xh, findIdx?_eq_none_iff → Xe, contains_iff_mem → XF
open Nat renaming lt_or_ge → Wh, zero_add → XN
open Option renaming map_eq_some_iff → Wx, bind_eq_some_iff → XP
namespace Go.Pv
structure Edge where
 fr:Int
 send:Bool
 label:Int
 to:Int
 deriving DecidableEq,Inhabited
structure aP where
 aj:Int
 start:Int
 af:List Edge
 deriving DecidableEq,Inhabited
def Edge.c (e:Edge):List PV:=[.int .i64 e.fr,.bool e.send,.int .i64 e.label,.int .i64 e.to]
@[go_sem] theorem Edge.EB (e:Edge):e.c=[.int .i64 e.fr,.bool e.send,.int .i64 e.label,.int .i64 e.to]:=rfl
def Edge.dec:List PV→Option Edge
 |[.int .i64 a,.bool b,.int .i64 c,.int .i64 d]=>some ⟨a,b,c,d⟩
 |_=>none
theorem Edge.Hl (r:List PV) (x:Edge) (h:Edge.dec r=some x):x.c=r:=by
 unfold Edge.dec at h
 split at h
 .cases h
  rfl
 .cases h
def aP.p (t:Nat) (a:aP):PV:=.agg [.int .i64 a.aj,.int .i64 a.start,.aq t (a.af.map Edge.c)]
@[go_sem] theorem aP.VF (t:Nat) (a:aP):a.p t=.agg [.int .i64 a.aj,.int .i64 a.start,.aq t (a.af.map Edge.c)]:=rfl
def ints (l:List Int):List (List PV):=l.map fun x=>[.int .i64 x]
@[go_sem] theorem bt (l:List Int):(ints l).length=l.length:=by simp[ints]
@[go_sem] theorem EC (l:List Int) (i:Nat):(ints l)[i]?=l[i]?.map fun x=>[.int .i64 x]:=by simp[ints]
@[go_sem] theorem ints_set (l:List Int) (i:Nat) (x:Int):(ints l).set i [.int .i64 x]=ints (l.set i x):=by simp[ints,List.map_set]
theorem Af {id row ax:Nat} {k:IntKind} {x:Int} {l:List Int} (h1:row<l.length) (hk:k=.i64):eG id row 0 [.pv (.int k x)] ⟨ax,1,.inl (ints l)⟩=some { ar:=some (id,⟨ax,1,.inl (ints (l.set row x))⟩) }:=by
 subst hk
 rw[oc (by rw[bt]; exact h1) rfl (.inr ⟨.int .i64 l[row],by simp[ints,h1]⟩) rfl,ints_set]
@[go_sem] theorem Hm {id row ax:Nat} {x:Int} {l:List Int} (h1:row<l.length):eG id row 0 [.pv (.int .i64 x)] ⟨ax,1,.inl (ints l)⟩=some { ar:=some (id,⟨ax,1,.inl (ints (l.set row x))⟩) }:=Af h1 rfl
@[go_sem] theorem OV (n:Nat) (x:Int):cu n [.pv (.int .i64 x)]=.inl (ints (List.replicate n x)):=by
 simp[cu,ay,V.bS,PV.perm,ints]
@[go_sem] theorem OW (l:List Int) (n:Nat):(ints l).take n=ints (l.take n):=by simp[ints]
def Edge.side (e:Edge):Int:=if e.send=true then 1 else 0
def abU (x y:Int):Int:=if x<y then -1 else if y<x then 1 else 0
def Edge.cmp (a b:Edge):Int:=if abU a.fr b.fr≠0 then abU a.fr b.fr else if abU a.side b.side≠0 then abU a.side b.side else abU a.label b.label
def Edge.lt (a b:Edge):Bool:=if a.fr≠b.fr then decide (a.fr<b.fr) else if a.send≠b.send then b.send else decide (a.label<b.label)
theorem Edge.ED (a b:Edge):decide (Edge.cmp a b<0)=Edge.lt a b:=by
 unfold Edge.cmp Edge.lt abU Edge.side
 by_cases h1:a.fr=b.fr
 .simp only[h1,Int.lt_irrefl,if_false,ne_eq,not_true_eq_false]
  cases ha:a.send<;>cases hb:b.send<;>simp<;>(repeat' split)<;>simp<;>omega
 .rcases Int.lt_or_gt_of_ne h1 with h|h
  .simp[h,h1]
  .have:¬a.fr<b.fr:=by omega
   simp[h,h1,this]
theorem Edge.Kv (a b:Edge):decide (0≤Edge.cmp a b)=!Edge.lt a b:=by
 rw[← Edge.ED]
 by_cases h:0≤Edge.cmp a b
 .have:¬Edge.cmp a b<0:=by omega
  simp[h,this]
 .have:Edge.cmp a b<0:=by omega
  simp[h,this]
theorem Edge.swo:Go.Sort.SWO Edge.lt where
 irrefl x:=by simp[Edge.lt]
 trans x y z h1 h2:=by
  unfold Edge.lt at *
  by_cases a1:x.fr=y.fr<;>by_cases a2:y.fr=z.fr<;>by_cases b1:x.send=y.send<;>by_cases b2:y.send=z.send<;>simp_all<;>(try omega)
  all_goals (try (have:¬x.fr=z.fr:=by omega); simp_all; omega)
 ntrans x y z h1 h2:=by
  unfold Edge.lt at *
  by_cases a1:x.fr=y.fr<;>by_cases a2:y.fr=z.fr<;>by_cases b1:x.send=y.send<;>by_cases b2:y.send=z.send<;>simp_all<;>(try omega)
  all_goals (try (have:¬x.fr=z.fr:=by omega); simp_all; omega)
def Edge.fits (e:Edge) (n:Int):Bool:=decide (0≤e.fr)&&decide (e.fr<n)&&decide (0≤e.to)&&decide (e.to<n)&&decide (1≤e.label)&&decide (e.label≤1000)
def sF (n:Int):Option Edge→List Edge→Bool
 |_,[]=>true
 |p,e::r=>e.fits n&&(match p with|none=>true|some q=>Edge.lt q e)&&sF n (some e) r
def aP.err (a:aP):Int:=if 12<a.aj∨100<a.af.length then 3 else if 0≤a.start∧a.start<a.aj then (if sF a.aj none a.af=true then 0 else 1) else 1
def pI (l:List Edge) (k:Nat):Option Edge:=if k=0 then none else l[k - 1]?
theorem fp {l:List Edge} {k:Nat}:pI l (k+1)=l[k]?:=by simp[pI]
theorem yg {n:Int}:∀{p:Option Edge} {l:List Edge},sF n p l=true→∀e∈l,e.fits n=true
 |_,[],_,e,he=>by simp at he
 |p,x::r,h,e,he=>by
  simp only[sF,Bool.and_eq_true]at h
  rcases WG.1 he with rfl|he
  .exact h.1.1
  .exact yg h.2 e he
theorem fG {e:Edge} {n:Int}:e.fits n=true↔0≤e.fr∧e.fr<n∧0≤e.to∧e.to<n∧1≤e.label∧e.label≤1000:=by
 simp[Edge.fits,and_assoc]
def T5 (l nx:List Int) (e:Edge):List Int:=nx.set e.fr.toNat (min (nx.getD e.fr.toNat 0+l.getD e.to.toNat 0) 1000000000000001)
def T6 (n:Nat) (es:List Edge) (l:List Int):List Int:=es.foldl (T5 l) (List.replicate n 0)
def Rj (n:Nat) (es:List Edge):Nat→List Int
 |0=>List.replicate n 1
 |k+1=>T6 n es (Rj n es k)
def small (l:List Int):Prop:=∀i,0≤l.getD i 0∧l.getD i 0≤1000000000000001
theorem getD_some {l:List Int} {i:Nat} (h:i<l.length):l[i]?=some (l.getD i 0):=by simp[h]
def aP.count (a:aP) (n:Int):Int×Int:=
 if a.err≠0 then (0,a.err) else if n<0∨1000<n then (0,7) else
  let v:=(Rj a.aj.toNat a.af n.toNat).getD a.start.toNat 0
  if 1000000000000000<v then (0,3) else (v,0)
def eH (x:Int):Prop:= -9223372036854775808≤x∧x≤9223372036854775807
def bP {α:Type} (l:List α):Prop:=l.length≤9223372036854775807
def bC (s:ByteArray):Prop:=s.size≤9223372036854775807
structure Raw where
 id:Int
 data:ByteArray
def Raw.c (r:Raw):List PV:=[.int .i64 r.id,.str r.data]
def Raw.ok (r:Raw):Prop:=eH r.id∧bC r.data
structure dz where
 kind:Int
 bool:Bool
 int:Int
 str:ByteArray
 id:Int
 keys:List (List PV)
 items:List (List PV)
 rest:List Raw
def dz.c (v:dz):List PV:=[.int .i64 v.kind,.bool v.bool,.int .i64 v.int,.str v.str,.int .i64 v.id,.aq 0 v.keys,.aq 0 v.items,.aq 0 (v.rest.map Raw.c)]
def mu:Nat→List PV→Prop
 |0,_=>False
 |n+1,cs=>∃v:dz,cs=v.c∧(eH v.kind∧eH v.int∧bC v.str∧eH v.id)∧(bP v.keys∧bP v.items∧bP v.rest)∧(∀r∈v.keys,mu n r)∧(∀r∈v.items,mu n r)∧∀r∈v.rest,r.ok
structure Sym where
 id:Int
 name:ByteArray
def Sym.c (s:Sym):List PV:=[.int .i64 s.id,.str s.name]
def Sym.ok (s:Sym):Prop:=eH s.id∧bC s.name
structure Mem where
 id:Int
 name:ByteArray
 type:Int
 DJ:Bool
 has:Bool
 ib:dz
def Mem.c (m:Mem):List PV:=[.int .i64 m.id,.str m.name,.int .i64 m.type,.bool m.DJ,.bool m.has,.int .i64 m.ib.kind,.bool m.ib.bool,.int .i64 m.ib.int,.str m.ib.str,.int .i64 m.ib.id,.aq 0 m.ib.keys,.aq 0 m.ib.items,.aq 0 (m.ib.rest.map Raw.c)]
def Mem.ok (m:Mem):Prop:=eH m.id∧bC m.name∧eH m.type∧∃n,mu n m.ib.c
structure aH where
 kind:Int
 name:ByteArray
 low:Int
 high:Int
 max:Int
 syms:List Sym
 bc:List Mem
 key:Int
 elem:Int
 jO:Bool
def aH.c (t:aH):List PV:=[.int .i64 t.kind,.str t.name,.int .i64 t.low,.int .i64 t.high,.int .i64 t.max,.aq 0 (t.syms.map Sym.c),.aq 0 (t.bc.map Mem.c),.int .i64 t.key,.int .i64 t.elem,.bool t.jO]
def aH.ok (t:aH):Prop:=(eH t.kind∧bC t.name∧eH t.low∧eH t.high∧eH t.max∧eH t.key∧eH t.elem)∧(bP t.syms∧bP t.bc)∧(∀s∈t.syms,s.ok)∧∀m∈t.bc,m.ok
variable {P:Program}
theorem CF {n:Nat} {t:TypeId} {k:IntKind} {cs:List PV} (hu:P.underlying t=some (.int k)) (h:typed P (n+1) t cs):∃x,cs=[.int k x]∧k.min≤x∧x≤k.max:=by
 simpa only[typed,hu]using h
theorem aeB {n:Nat} {t:TypeId} {cs:List PV} (hu:P.underlying t=some .bool) (h:typed P (n+1) t cs):∃b,cs=[.bool b]:=by
 simpa only[typed,hu]using h
theorem yh {n:Nat} {t el:TypeId} {cs:List PV} (hu:P.underlying t=some (.slice el)) (h:typed P (n+1) t cs):∃rows,cs=[.aq 0 rows]∧rows.length≤maxLen∧∀r∈rows,typed P n el r:=by
 simpa only[typed,hu]using h
def oi (P:Program) (n:Nat):List TypeId→List PV→Prop
 |[],cs=>cs=[]
 |t::ts,cs=>∃r q,cs=r++q∧typed P n t r∧oi P n ts q
theorem dK {n:Nat} {t:TypeId} {fs:Array Field} {ts:List TypeId} {cs:List PV} (hu:P.underlying t=some (.struct fs)) (hts:fs.toList.map (·.type)=ts) (h:typed P (n+1) t cs):oi P n ts cs:=by
 simp only[typed,hu]at h
 obtain⟨parts,h1,rfl,h3⟩:=h
 subst hts
 have key:∀(l:List Field) (parts:List (List PV)),parts.length=l.length→(∀(i:Nat) (f:Field) (r:List PV),l[i]?=some f→parts[i]?=some r→typed P n f.type r)→oi P n (l.map (·.type)) parts.flatten:=by
  intro l
  induction l with
  |nil=>intro parts hl _; simp[List.eq_nil_of_length_eq_zero hl,oi]
  |cons f l ih=>
   intro parts hl hp
   match parts,hl with
   |r::parts,hl=>exact⟨r,parts.flatten,rfl,hp 0 f r rfl rfl,ih parts (by simpa using hl) (fun i g q hg hq=>hp (i+1) g q (by simpa using hg) (by simpa using hq))⟩
 exact key fs.toList parts (by simpa using h1) (fun i f r hf hr=>h3 i f r (by simpa using hf) hr)
theorem yi {α:Type} {c:α→List PV}:∀{rows:List (List PV)},(∀r∈rows,∃x,r=c x)→∃l:List α,rows=l.map c
 |[],_=>⟨[],rfl⟩
 |r::rows,h=>by
  obtain⟨x,rfl⟩:=h r (by simp)
  obtain⟨l,rfl⟩:=yi (rows:=rows) (fun q hq=>h q (by simp[hq]))
  exact⟨x::l,rfl⟩
def Edge.r64 (e:Edge):Prop:=(-9223372036854775808≤e.fr∧e.fr≤9223372036854775807)∧(-9223372036854775808≤e.label∧e.label≤9223372036854775807)∧(-9223372036854775808≤e.to∧e.to≤9223372036854775807)
def aP.r64 (a:aP):Prop:=(-9223372036854775808≤a.aj∧a.aj≤9223372036854775807)∧(-9223372036854775808≤a.start∧a.start≤9223372036854775807)∧a.af.length≤2^63 - 1∧∀e∈a.af,e.r64
theorem wu {t:TypeId} {fs:Array Field} (hu:P.underlying t=some (.struct fs)):cR P t=some true:=by simp[cR,hu]
end Go.Pv
namespace Go.Pv
structure Cal where
 name:ByteArray
 ud:Int
 rep:Int
 deriving DecidableEq,Inhabited
structure Tpc where
 name:ByteArray
 ty:Int
 deriving DecidableEq,Inhabited
structure gI where
 id:Int
 name:ByteArray
 ty:Int
 deriving DecidableEq,Inhabited
structure eE where
 name:ByteArray
 msgs:List gI
 auto:aP
structure ij where
 name:ByteArray
 types:List aH
 calls:List Cal
 aG:List eE
 aT:List Tpc
def Cal.c (x:Cal):List PV:=[.str x.name,.int .i64 x.ud,.int .i64 x.rep]
def Tpc.c (x:Tpc):List PV:=[.str x.name,.int .i64 x.ty]
def gI.c (x:gI):List PV:=[.int .i64 x.id,.str x.name,.int .i64 x.ty]
def eE.c (x:eE):List PV:=[.str x.name,.aq 0 (x.msgs.map gI.c),.int .i64 x.auto.aj,.int .i64 x.auto.start,.aq 0 (x.auto.af.map Edge.c)]
@[go_sem] theorem Cal.EB (x:Cal):x.c=[.str x.name,.int .i64 x.ud,.int .i64 x.rep]:=rfl
@[go_sem] theorem Tpc.EB (x:Tpc):x.c=[.str x.name,.int .i64 x.ty]:=rfl
@[go_sem] theorem gI.EB (x:gI):x.c=[.int .i64 x.id,.str x.name,.int .i64 x.ty]:=rfl
@[go_sem] theorem eE.EB (x:eE):x.c=[.str x.name,.aq 0 (x.msgs.map gI.c),.int .i64 x.auto.aj,.int .i64 x.auto.start,.aq 0 (x.auto.af.map Edge.c)]:=rfl
def ch (l:List Cal):List (List PV):=l.map Cal.c
def df (l:List Tpc):List (List PV):=l.map Tpc.c
def msgs (l:List gI):List (List PV):=l.map gI.c
def aG (l:List eE):List (List PV):=l.map eE.c
@[go_sem] theorem oj (l:List Cal):(ch l).length=l.length:=Wg _
@[go_sem] theorem sG (l:List Tpc):(df l).length=l.length:=Wg _
@[go_sem] theorem Rk (l:List gI):(msgs l).length=l.length:=Wg _
@[go_sem] theorem yl (l:List eE):(aG l).length=l.length:=Wg _
@[go_sem] theorem Rl (l:List Cal) (k:Nat):(ch l)[k]?=l[k]?.map Cal.c:=Wf
@[go_sem] theorem Rm (l:List Tpc) (k:Nat):(df l)[k]?=l[k]?.map Tpc.c:=Wf
@[go_sem] theorem Rn (l:List gI) (k:Nat):(msgs l)[k]?=l[k]?.map gI.c:=Wf
@[go_sem] theorem Ro (l:List eE) (k:Nat):(aG l)[k]?=l[k]?.map eE.c:=Wf
def qO {α:Type} (p:α→Bool) (l:List α):Int:=match l.findIdx? p with|some j=>(j:Int)|none=> -1
def jf {α:Type} (p:α→Bool) (l:List α):Option α:=(l.findIdx? p).bind fun j=>l[j]?
theorem wv {α:Type} {p:α→Bool} {l:List α} {k:Nat} {w:α} (hw:l[k]?=some w) (hp:p w=true) (hn:∀i v,i<k→l[i]?=some v→p v=false):l.findIdx? p=some k:=by
 have hk:=(V9.1 hw).1
 rw[Ww]
 refine⟨hk,by rw[(V9.1 hw).2]; exact hp,fun j hj=>?_⟩
 rw[hn j _ hj (Wb (by omega))]
 decide
theorem wx {α:Type} {p:α→Bool} {l:List α} (hn:∀(i:Nat) (v:α),l[i]?=some v→p v=false):l.findIdx? p=none:=by
 rw[Xe]
 intro w hw
 obtain⟨i,hi⟩:=List.getElem?_of_mem hw
 exact hn i w hi
theorem sH {α:Type} {l:List α} {k:Nat} {x:α} (hx:l[k]?=some x) {Q:Nat→α→Prop} (h:∀i y,i<k→l[i]?=some y→Q i y) (hq:Q k x):∀i y,i<k+1→l[i]?=some y→Q i y:=fun i y hi hy=>by
 rcases Wh i k with hh|hh
 .exact h i y hh hy
 .have:i=k:=by omega
  subst this
  rw[hx]at hy
  cases hy
  exact hq
theorem pJ {α:Type} {l:List α} {k:Nat} (hk:l.length≤k) {Q:Nat→α→Prop} (h:∀i y,i<k→l[i]?=some y→Q i y):∀i y,l[i]?=some y→Q i y:=fun i y hy=>h i y (by have:=(V9.1 hy).1; omega) hy
theorem get_some {α:Type} {l:List α} {k:Nat} (h:k<l.length):∃x,l[k]?=some x:=⟨l[k],Wb h⟩
def u8 (n:Nat):PV:=.int .u8 (n:Int)
structure Part where
 id:Nat
 type:Nat
 flag:Nat
def Part.c (p:Part):List PV:=[.int .u8 p.id,.int .u8 p.type,.int .u8 p.flag]
def Part.ok (p:Part):Prop:=p.id≤255∧p.type≤255∧p.flag≤255
structure Node where
 kind:Nat
 a:Nat
 b:Nat
 c:Nat
 parts:List Part
def Node.cs (x:Node):List PV:=[.int .u8 x.kind,.int .u8 x.a,.int .u8 x.b,.int .u8 x.c,.aq 0 (x.parts.map Part.c)]
def Node.ok (x:Node):Prop:=(x.kind≤255∧x.a≤255∧x.b≤255∧x.c≤255)∧bP x.parts∧∀p∈x.parts,p.ok
open Go.RowKit Go.ChangeShapes
variable {P:Program} {N:Nat→Nat} {w:World}
def afL (P:Program) (M:Nat):Nat→TypeId→List PV→Prop
 |0,_,_=>False
 |n+1,t,cs=>match P.underlying t with
  |some .bool=>∃b,cs=[.bool b]
  |some (.int k)=>∃x,cs=[.int k x]∧k.min≤x∧x≤k.max
  |some .string=>∃s,cs=[.str s]∧s.size≤maxLen
  |some (.slice e)=>∃rows,cs=[.aq 0 rows]∧(rows.length≤maxLen∧rows.length*P.bytesOf e≤M)∧∀r∈rows,afL P M n e r
  |some (.struct fs)=>∃parts:List (List PV),parts.length=fs.size∧cs=parts.flatten∧∀(i:Nat) (f:Field) (r:List PV),fs[i]?=some f→parts[i]?=some r→afL P M n f.type r
  |some (.array m e)=>∃parts:List (List PV),parts.length=m∧cs=parts.flatten∧∀r∈parts,afL P M n e r
  |_=>False
theorem afL.typed {M:Nat}:∀{n:Nat} {t:TypeId} {cs:List PV},afL P M n t cs→typed P n t cs
 |0,_,_,h=>h.elim
 |n+1,t,cs,h=>by
  simp only[afL]at h
  simp only[Pv.typed]
  cases hu:P.underlying t with
  |none=>simp[hu]at h
  |some d=>
   rw[hu]at h
   cases d<;>simp only at h ⊢<;>try exact h
   .obtain⟨rows,h1,h2,h3⟩:=h
    exact⟨rows,h1,h2.1,fun r hr=>(h3 r hr).typed⟩
   all_goals first
    |(obtain⟨parts,h1,h2,h3⟩:=h; exact⟨parts,h1,h2,fun i f r hi hr=>(h3 i f r hi hr).typed⟩)
    |(obtain⟨parts,h1,h2,h3⟩:=h; exact⟨parts,h1,h2,fun r hr=>(h3 r hr).typed⟩)
def aeo {H:Type} (P:Program) (M:Nat) (t:TypeId) (d:DataW H):Prop:=∀n∈d.weights P t,n≤M
theorem ke {H:Type} {e:TypeId} {d:DataW H} {n:Nat} (hn:n∈d.weights P e):∀{l:List (DataW H)},d∈l→n∈DataW.weightsAll P e l
 |[],h=>by cases h
 |x::l,h=>by
  simp only[DataW.weightsAll,List.mem_append]
  rcases WG.1 h with rfl|h
  .exact .inl hn
  .exact .inr (ke hn h)
theorem xc {H:Type}:∀{ts:List TypeId} {ds:List (DataW H)} (us:List TypeId) {n:Nat},n∈DataW.weightsEach P ts ds→n∈DataW.weightsEach P (ts++us) ds
 |[],_,_,_,h=>by simp[DataW.weightsEach]at h
 |_::_,[],_,_,h=>by simp[DataW.weightsEach]at h
 |t::ts,d::ds,us,n,h=>by
  simp only[DataW.weightsEach,List.mem_append,List.cons_append]at h ⊢
  exact h.imp id (xc us)
theorem aeo.slice {H:Type} {M:Nat} {t el:TypeId} {e s:List (DataW H)} (hM:aeo P M t (.slice e s)) (hu:P.underlying t=some (.slice el)):e.length*P.bytesOf el≤M∧∀d∈e,aeo P M el d:=by
 refine⟨?_,fun d hd n hn=>hM n (by simp only[DataW.weights,hu,List.mem_cons,List.mem_append]; exact .inr (.inl (ke hn hd)))⟩
 exact Nat.le_trans (Nat.mul_le_mul_right _ (Nat.le_add_right _ _)) (hM ((e.length+s.length)*P.bytesOf el) (by simp[DataW.weights,hu]))
theorem aeo.field {H:Type} {M:Nat} {t:TypeId} {fs:Array Field} {ps:List (DataW H)} (hM:aeo P M t (.agg ps)) (hu:P.underlying t=some (.struct fs)) {j:Nat} {f:Field} {d:DataW H} (hj:fs.toList[j]?=some f) (hd:ps[j]?=some d):aeo P M f.type d:=
 fun n hn=>hM n (by simp only[DataW.weights,hu]; exact DataW.weights_mem_each (j:=j) (by rw[List.getElem?_map,hj]; rfl) hd n hn)
theorem aeo.item {H:Type} {M:Nat} {t el:TypeId} {m:Nat} {ps:List (DataW H)} (hM:aeo P M t (.agg ps)) (hu:P.underlying t=some (.array m el)) {d:DataW H} (hd:d∈ps):aeo P M el d:=
 fun n hn=>hM n (by simp only[DataW.weights,hu]; exact ke hn hd)
theorem af4 {S:List TypeId} (hS:lS P S=true) {H:Type} {M:Nat} {enc:TypeId×Value→H} {base:Nat} {spare:Nat→Bool} {held:Bool}:∀(fuel:Nat) (t:TypeId),t∈S→∀(cs:List Value) (r:DataW H×List MemPlace),DataW.trod enc P w base spare held fuel t cs=some r→aeo P M t r.1→
  ∃ps,afL P M fuel t ps∧gA N w ps cs
 |0,t,_,cs,r,ht,_=>by simp[DataW.trod]at ht
 |fuel+1,t,hp,cs,r,ht,hM=>by
   have hp:=xS hS hp
   unfold lR at hp
   cases hu:P.underlying t with
   |none=>simp[hu]at hp
   |some de=>
    simp only[hu]at hp
    cases de with
    |bool=>
     rcases cs with _|⟨v,_|⟨v2,l⟩⟩
     .simp[DataW.trod,hu]at ht
     .cases v<;>simp[DataW.trod,hu]at ht
      rename_i b
      exact⟨[.bool b],by simp only[afL,hu]; exact⟨b,rfl⟩,gA.one (.bool b) rfl⟩
     .simp[DataW.trod,hu]at ht
    |int k=>
     rcases cs with _|⟨v,_|⟨v2,l⟩⟩
     .simp[DataW.trod,hu]at ht
     .cases v<;>simp[DataW.trod,hu]at ht
      rename_i k' x
      obtain⟨⟨rfl,hwf⟩,_⟩:=ht
      simp[Lit.wf]at hwf
      exact⟨[.int k' x],by simp only[afL,hu]; exact⟨x,rfl,hwf.1,hwf.2⟩,gA.one (.int k' x) rfl⟩
     .simp[DataW.trod,hu]at ht
    |string=>
     rcases cs with _|⟨v,_|⟨v2,l⟩⟩
     .simp[DataW.trod,hu]at ht
     .cases v<;>simp[DataW.trod,hu]at ht
      rename_i x
      exact⟨[.str x],by simp only[afL,hu]; exact⟨x,rfl,ht.1⟩,gA.one (.str x) rfl⟩
     .simp[DataW.trod,hu]at ht
    |slice el=>
     simp only[Bool.and_eq_true,decide_eq_true_eq]at hp
     obtain⟨hpe,hk⟩:=hp
     rcases cs with _|⟨v,_|⟨v2,l⟩⟩
     .simp[DataW.trod,hu]at ht
     .cases v with
      |slice A len cap=>
       cases A with
       |none=>
        rcases len with _|len<;>rcases cap with _|cap<;>simp[DataW.trod,hu]at ht
        refine⟨[.aq 0 []],by simp only[afL,hu]; exact⟨[],rfl,by simp,by simp⟩,gA.one (.aq 0 [] none default 0 0 (fun _ _=>undef) (by simp) (by simp) (by simp) (by simp[ff]) (by simp[ff]) (by simp[ff]) (by simp[ff])) rfl⟩
       |some a=>
        simp only[DataW.trod,hu]at ht
        split at ht<;>first|(cases ht; done)|skip
        rename_i hc
        rw[XP]at ht
        obtain⟨elems,hel,hrest⟩:=ht
        rw[Wx]at hrest
        obtain⟨rest,_,rfl⟩:=hrest
        obtain⟨k1,k2⟩:=nS hel
        obtain⟨b1,b2⟩:=hM.slice hu
        rw[Wg,k1,WI]at b1
        obtain⟨rows,q1,q2,q3⟩:=Jy (N:=N) (w:=w) (a:=a) (len:=len) (cap:=cap) (base:=base) (Ty:=afL P M fuel el) hk hc.2.1 (fun i hi=>by
         obtain⟨y,hy0,hy⟩:=k2 i i (by simp[hi])
         rw[XP]at hy
         obtain⟨ci,hci,htr⟩:=hy
         exact⟨ci,hci,af4 hS fuel el (XF.1 hpe) ci y htr (b2 y.1 (Wk.2 ⟨y,Wa hy0,rfl⟩))⟩)
        refine⟨[.aq 0 rows],by simp only[afL,hu]; exact⟨rows,rfl,⟨by omega,by rw[q1]; exact b1⟩,q2⟩,?_⟩
        rw[q1]at q3
        exact gA.one q3 rfl
      |_=>simp[DataW.trod,hu]at ht
     .simp[DataW.trod,hu]at ht
    |struct fs=>
     simp only[Bool.and_eq_true,List.all_eq_true,beq_iff_eq]at hp
     obtain⟨⟨ho,hf⟩,hsum⟩:=hp
     simp only[DataW.trod,hu]at ht
     split at ht<;>first|(cases ht; done)|skip
     rename_i hlen
     obtain⟨xs,hxs,rfl⟩:=Wx.1 ht
     obtain⟨k1,k2⟩:=nS hxs
     obtain⟨parts,p1,p2⟩:=je (fun(_:Nat) (f:Field) (ps:List PV)=>afL P M fuel f.type ps∧gA N w ps ((cs.drop f.offset).take (P.cellsOf f.type))) fs.toList (fun j f hj=>by
      obtain⟨y,hy0,hy⟩:=k2 j f hj
      exact af4 hS fuel f.type (XF.1 (hf f (Wa hj)).1) _ y hy (hM.field hu (j:=j) hj (by rw[Wf,hy0]; rfl)))
     refine⟨parts.flatten,by simp only[afL,hu]; exact⟨parts,by simpa using p1,rfl,fun i f r hi hr=>(p2 i f r (by simpa using hi) hr).1⟩,?_⟩
     have:=sk (N:=N) (w:=w) (cs:=cs) fs.toList 0 parts ho (fun f hff=>(hf f hff).2) p1 (by rw[XN,hsum,hlen]) (fun i f r hi hr=>(p2 i f r hi hr).2)
     simpa using this
    |array m el=>
     simp only[Bool.and_eq_true,beq_iff_eq]at hp
     simp only[DataW.trod,hu]at ht
     split at ht<;>first|(cases ht; done)|skip
     rename_i hlen
     obtain⟨xs,hxs,rfl⟩:=Wx.1 ht
     obtain⟨k1,k2⟩:=nS hxs
     obtain⟨parts,p1,p2⟩:=je (fun(i:Nat) (_:Nat) (ps:List PV)=>afL P M fuel el ps∧gA N w ps ((cs.drop (i*P.cellsOf el)).take (P.cellsOf el))) (List.range m) (fun j x hj=>by
      obtain⟨y,hy0,hy⟩:=k2 j x hj
      have hjx:x=j:=by
       have hlt:j<m:=by have:=(List.getElem?_eq_some_iff.1 hj).1; simpa using this
       simp[hlt]at hj; exact hj.symm
      subst hjx
      exact af4 hS fuel el (XF.1 hp.1) _ y hy (hM.item hu (Wk.2 ⟨y,Wa hy0,rfl⟩)))
     have hpl:parts.length=m:=by simpa using p1
     refine⟨parts.flatten,by simp only[afL,hu]; exact⟨parts,hpl,rfl,fun r hr=>by
      obtain⟨i,hi⟩:=Wd.1 hr
      have hlt:i<m:=by rw[← hpl]; exact(V9.1 hi).1
      exact(p2 i i r (by simp[hlt]) hi).1⟩,?_⟩
     have:=uI (N:=N) (w:=w) (cs:=cs) (k:=P.cellsOf el) m 0 parts hpl (by rw[XN,hp.2,hlen]) (fun i r hi=>by
      have hlt:i<m:=by rw[← hpl]; exact(V9.1 hi).1
      rw[XN]
      exact(p2 i i r (by simp[hlt]) hi).2)
     simpa using this
    |_=>simp at hp
theorem aen {S:List TypeId} (hS:lS P S=true) {H:Type} {M:Nat} {enc:TypeId×Value→H} {base b0:Nat} {spare:Nat→Bool} {held:Bool} {r:Reach}:∀(ts:List TypeId) (vs:List Value) (ds:List (DataW H)) (pl:List MemPlace),DataW.TrodAll enc P w base spare held ts vs ds pl→(∀t∈ts,t∈S)→(∀n∈DataW.weightsEach P ts ds,n≤M)→
  (∀(j:Nat) (t:TypeId) (v:Value),ts[j]?=some t→vs[j]?=some v→Value.okWide P w r b0 t v)→
  ∃css:List (List PV),css.length=ts.length∧vs.length=ts.length∧(∀(j:Nat) (t:TypeId) (cs:List PV),ts[j]?=some t→css[j]?=some cs→∃n,afL P M n t cs)∧
   ∀(j:Nat) (p:PV),(List.zipWith (gQ P) ts css)[j]?=some p→∃v,vs[j]?=some v∧dw N (py w) w p v
 |[],[],[],pl,_,_,_,_=>⟨[],rfl,rfl,fun j t cs hj=>by simp at hj,fun j p hj=>by simp at hj⟩
 |t::ts,v::vs,d::ds,pl,h,hp,hM,hv=>by
  obtain⟨p,q,⟨fuel,h1⟩,h2,_⟩:=h
  obtain⟨ps,k1,k2⟩:=af4 (N:=N) hS fuel t (hp t (by simp)) _ _ h1 (fun n hn=>hM n (by simp only[DataW.weightsEach]; exact List.mem_append_left _ hn))
  have hone:=GS (xS hS (hp t (by simp))) (hv 0 t v rfl rfl) k1.typed k2
  obtain⟨css,g1,g2,g3,g4⟩:=aen hS ts vs ds q h2 (fun u hu=>hp u (by simp[hu])) (fun n hn=>hM n (by simp only[DataW.weightsEach]; exact List.mem_append_right _ hn)) (fun j u x hj hx=>hv (j+1) u x (by simpa using hj) (by simpa using hx))
  refine⟨ps::css,by simp[g1],by simp[g2],fun j u cs hj hc=>?_,fun j p hj=>?_⟩
  .match j,hj,hc with
   |0,hj,hc=>simp at hj hc; subst hj; subst hc; exact⟨_,k1⟩
   |j+1,hj,hc=>exact g3 j u cs (by simpa using hj) (by simpa using hc)
  .match j,hj with
   |0,hj=>simp at hj; subst hj; exact⟨v,rfl,hone⟩
   |j+1,hj=>simpa using g4 j p (by simpa using hj)
theorem af7 {S : List TypeId} (hS : lS P S = true) {H : Type} {M : Nat} {enc : TypeId × Value → H} {base b0 : Nat} {spare : Nat → Bool} {held : Bool} {r : Reach} {f : Nat} {ts : List TypeId} (hF : ∀ css : List (List PV),css.length = ts.length → (∀ (j : Nat) (t : TypeId) (cs : List PV),ts[j]? = some t → css[j]? = some cs → ∃ n,afL P M n t cs) →
   uq P N f (List.zipWith (gQ P) ts css) [.bool true]) (htab : Ei N w) {go : Func} {code : Code} (h1 : P.funcs[N f]? = some go) (h2 : go.body = some code) (h3 : (go.name == "runtime.NumGoroutine") = false)
  {args : Array Value} {ds : List (DataW H)} {pl : List MemPlace} (hA : DataW.TrodAll enc P w base spare held ts args.toList ds pl) (hp : ∀ t ∈ ts,t ∈ S) (hM : ∀ n ∈ DataW.weightsEach P ts ds,n ≤ M)
  (hv : ∀ (j : Nat) (t : TypeId) (v : Value),ts[j]? = some t → args.toList[j]? = some v → Value.okWide P w r b0 t v) :
  Calls P (N f) args w fun e w' => e = .returned (.bool true) ∧ Below w.heap.size w w' := by
 obtain ⟨css,g1,g2,g3,g4⟩ := aen (N := N) hS ts args.toList ds pl hA hp hM hv
 have hlen : args.toList.length = (List.zipWith (gQ P) ts css).length := by rw [g2,List.length_zipWith,g1]; simp
 have hcg := hF css g1 g3 (py w) w none args (fun t b hb => hb.2) htab.py (.plain _ _ hlen g4)
 have hpost : ∀ v w',DZ N (py w) w none [.bool true] v w' → v = .bool true ∧ Below w.heap.size w w' := by
  rintro v w' ⟨L1,bs,vals,f1,f2,f3,f4,f5,f6,f7,rfl⟩
  refine ⟨?_,f1.os,f1.tape,f1.output,f1.size,fun k hk => f1.kept k hk (fun hc => by
   rcases hc with hc | hc
   .omega
   .cases hc)⟩
  cases f5 with
  | cons p u b1 ps vs b2 q1 q2 =>
   cases q2
   cases q1 with
   | cell _ _ _ q =>
    cases q with
    | keep _ _ _ q => cases q; rfl
 rcases hcg with ⟨v,w',k1,k2⟩ | ⟨k1,k2⟩
 .exfalso
  have : (callFunc (N f) args).run P w = .ok (.enter (N f) args) w := by simp only [beq_eq_false_iff_ne,ne_eq] at h3; simp [callFunc,h1,h2,h3]
  rw [this] at k1
  cases k1
 .refine k2.mono fun e w' hh => ?_
  cases e with
  | returned v =>
   obtain ⟨rfl,hb⟩ := hpost v w' hh
   exact ⟨rfl,hb⟩
  | panicked => exact hh.elim
  | outgrown => exact hh.elim
theorem af5 {H:Type} {S:List TypeId} {C:Checked} {os:Os} {N:Nat→Nat} {f:Nat} {fn:Func} {s:ChangeSpec} {code:Code} {tb:TypeId} (enc:TypeId×Value→H)
  (hF:∀css:List (List PV),css.length=fn.params.toList.length→(∀(j:Nat) (t:TypeId) (cs:List PV),fn.params.toList[j]?=some t→css[j]?=some cs→∃n,afL C.prog reachBytes n t cs)→uq C.prog N f (List.zipWith (gQ C.prog) fn.params.toList css) [.bool true])
  (hN:N 1000000<100000:=by decide) (own:ownKnob C.prog.godebug=none) (hl:laidOutB C.prog=true) (started:os.Started) (noInit:C.prog.inits.idxOf? (N f)=none) (hfn:C.prog.funcs[N f]?=some fn) (hcode:fn.body=some code) (hname:(fn.name== "runtime.NumGoroutine")=false)
  (wit:∃(w:World) (tape:Tape) (i:Input),w.os=os∧(w.forCall tape i).Shaped C.prog∧i.vars=[]∧Input.okWide C.prog (w.forCall tape i) .any w.heap.size (N f) i∧
   s.pre6 enc C.prog fn [] false (w.forCall tape i).memory i.args∧({}:Assume).holds C.prog (lone (Frame.enter C.prog (N f) i.args .normal) [] (w.forCall tape i)))
  (hres:fn.resultTypes=#[tb]) (htb:C.prog.underlying tb=some .bool) (hsv:s.vars=[]) (hsf:∀ds:List (DataW H),ds.length=fn.params.toList.length→s.fn H ds={ results:=[.lit (.bool true)],args:=ds })
  (hr:∀t∈fn.params.toList,C.prog.readableRec t=true∧t<C.prog.types.size) (hS:lS C.prog S=true) (hp:∀t∈fn.params.toList,t∈S):
  ReturnsInHanded {} C os (N f) .any (s.pre6 enc C.prog fn [] false) (s.post enc C.prog fn false true false false):=by
 refine returnsInHanded_of_change_sized own started noInit hfn wit ?_
 intro W base args ds gs before hval hW _ hz _
 have hW':=hW
 obtain⟨p,q,h1,h2,h3,h4,h5⟩:=hW
 have hlen:ds.length=fn.params.toList.length:=by
  have key:∀(ts:List TypeId) (vs:List Value) (ds:List (DataW H)) (ps:List MemPlace),DataW.TrodAll enc C.prog W 0 (fun _=>true) true ts vs ds ps→ds.length=ts.length:=by
   intro ts
   induction ts with
   |nil=>intro vs ds ps h; obtain⟨rfl,rfl,rfl⟩:=trodAll_nil h; rfl
   |cons t ts ih=>
    intro vs ds ps h
    obtain⟨v,vs',d,ds',p,q,rfl,rfl,rfl,_,g2⟩:=trodAll_cons h
    simp[ih _ _ _ g2]
  exact key _ _ _ _ h1
 have hgs:gs=[]:=by
  rw[hsv]at h2
  obtain⟨g1,g2⟩:=trodVars_none h2
  first|exact g2|exact g1
 refine(af7 hS hF (.none hN) hfn hcode hname h1 hp (fun n hn=>by
  rw[hgs,Xh]at hz
  exact of_decide_eq_true (List.all_eq_true.1 hz n (xc _ hn))) (fun j t v hj hv=>hval j t v (by simpa using hj) (by simpa using hv))).mono fun e W' ⟨he,hb⟩=>?_
 subst he
 exact⟨_,rfl,Ej hl hW' hsv hres htb (by rw[hgs,Xh]; exact hsf ds hlen) hr hb⟩
end Go.Pv
