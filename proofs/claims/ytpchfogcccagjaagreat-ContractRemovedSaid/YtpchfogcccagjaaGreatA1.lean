/-
 The interpreter over plain values,and that it is sound.
-/
import GoSem.Core.Code
import GoSem.Core.Lib
import GoSem.Core.Utf8
import GoSem.Op.String
import Derived.Orders
import GoSem.Dispatch
import Derived.Below
import Derived.LoopN
import Derived.Laws.Rows
import Derived.Laws.Cells
import Derived.Laws.CopyRow
import Derived.Laws.StructEq
import Derived.Laws.Slices
import Derived.Laws.Strings
import Derived.Laws.AppendOwn
import Derived.Laws.MakeOwn
open List renaming getElem?_eq_some_iff → V9, mem_of_getElem? → Wa, getElem?_eq_getElem → Wb, mem_iff_getElem? → Wd, getElem?_append_left → We, getElem?_map → Wf, length_map → Wg, mem_map → Wk, getElem?_append_right → Wn, eq_nil_of_length_eq_zero → Wp, all_eq_true → Wu, getElem?_take → Wy, append_assoc → WK, getElem?_drop → WQ, mem_append → WT, getElem?_set_self → WU, ext_getElem? → WW, mem_of_mem_take → W2, mem_of_mem_drop → W5, length_take → W8, getElem_mem → Xc, getElem?_set_ne → Xk, getElem?_range → Xr, getElem?_replicate → XA, mem_or_eq_of_mem_set → XK
open Nat renaming lt_or_ge → Wh, mul_le_mul_right → Wi, le_refl → Wj, add_mul → Wm, mod_lt → Wt, zero_le → WA, le_trans → WM, add_assoc → W0, lt_of_lt_of_le → W6, one_mul → W7, eq_zero_or_pos → Xi, le_succ → XM, zero_add → XN, mod_eq_of_lt → XO, div_lt_iff_lt_mul → XU
open Array renaming getElem?_toList → Wo, getElem?_eq_some_iff → Wr, length_toList → Xf
namespace Go.Pv
inductive PV where
 |bool (b:Bool)
 |int (k:IntKind) (n:Int)
 |str (s:ByteArray)
 |nn
 |qV
 |aq (tag:Nat) (rows:List (List PV))
 |ro (tag:Nat) (cs:List PV)
 |func (f:Nat) (cap:List PV)
 |agg (cs:List PV)
 |fr (k:Nat) (rows:List (List PV))
 deriving Inhabited
inductive V where
 |pv (p:PV)
 |tl (rows:List (List PV))
 |own (id ax off len:Nat)
 |ptr (slot off:Nat)
 |du (id ax row col:Nat)
 |func (f:Nat) (cap:List V)
 |map (id:Nat)
 |dR
 |agg (cs:List V)
 |dy (vs:List V)
 |any
 deriving Inhabited
inductive bJ where
 |tmp (t:Nat)
 |val (v:V)
 deriving Inhabited
inductive dL where
 |Pp (x:bJ)
 |pick (c a b:bJ)
 |alloc (slot:Nat) (zero:List V)
 |box (slot n:Nat) (x:bJ)
 |build (zero:List V) (parts:List (Nat×Nat×bJ))
 |lit (k:Nat) (zero:List V) (len:Nat) (parts:List (Nat×Nat×bJ))
 |load (n:Nat) (isAgg:Bool) (x:bJ)
 |store (n:Nat) (x v:bJ)
 |vI (x:bJ)
 |bin (op:BinOp) (x y:bJ)
 |Pq (ag:Bool) (ks:List Nat) (neg:Bool) (x y:bJ)
 |un (op:UnOp) (x:bJ)
 |conv (k:IntKind) (x:bJ)
 |vJ (x:bJ)
 |Sv (off:Nat) (x:bJ)
 |part (off n:Nat) (isAgg:Bool) (x:bJ)
 |idx (k:Nat) (x i:bJ)
 |Gn (len k:Nat) (x i:bJ)
 |Tx (len k:Nat) (isAgg:Bool) (x i:bJ)
 |Sw (x i:bJ)
 |sl (k:Nat) (x:bJ) (lo hi mx:Option bJ)
 |Tz (x:bJ) (lo hi:Option bJ)
 |len (kd:Nat) (x:bJ)
 |app (k:Nat) (x y:bJ)
 |make (k:Nat) (zero:List V) (n c:bJ)
 |gk (id k:Nat) (zero:List V) (n c:bJ)
 |kC (id k:Nat) (zero:List V) (len:Nat) (parts:List (Nat×Nat×bJ))
 |kD (id k:Nat) (x y:bJ)
 |qJ
 |look (ag:Bool) (ks:List Nat) (zero:V) (x i:bJ) (ok:Bool)
 |Gp (ag:Bool) (ks:List Nat) (m k v:bJ)
 |Gq (f:Nat) (cap:List bJ)
 |ext (x:bJ) (i:Nat)
 |call (f:bJ) (args:List bJ)
 |kx (isMax:Bool) (args:List bJ)
 |Jf (k:Nat) (zero:List V) (x:bJ)
 |copy (k:Nat) (x y:bJ)
 deriving Inhabited
structure aC where
 dst:Option Nat
 op:dL
 guard:Option (Nat×Bool)
 deriving Inhabited
inductive AC where
 |skip
 |region (ops:List aC) (kt kb:List Nat)
 |draw (ops:List (aC×List Nat)) (kt kb:List Nat)
 |qK (n:Nat) (ops:List (aC×List Nat)) (kt kb:List Nat)
 |seq (a b:AC)
 |cond (c:bJ) (thn els:AC)
 |block (id:Nat) (body:AC)
 |loop (body:AC)
 |exit (id:Nat)
 |ret
 |mask (kt kb:List Nat) (a:AC)
 deriving Inhabited
inductive nq where
 |tmp (t:Nat)
 |cell (t n:Nat) (isAgg:Bool)
 deriving Inhabited
structure ae where
 oU:Nat
 body:AC
 results:List nq
 fresh:Bool
 take:Bool
 inl:Bool:=false
 deriving Inhabited
structure aL where
 ax:Nat
 k:Nat
 body:Sum (List (List PV)) (List (List V))
instance:Inhabited aL:=⟨⟨0,0,.inl []⟩⟩
structure aa where
 bx:List (Nat×List V)
 ar:List aL
 mp:List (List (PV×PV))
 deriving Inhabited
structure St where
 env:List (Nat×V)
 h:aa
 deriving Inhabited
inductive Ex where
 |normal
 |exit (id:Nat)
 |ret
 deriving Inhabited
def aa.empty:aa:=⟨[],[],[]⟩
def aE {α:Type} (t:Nat):List (Nat×α)→Option α
 |[]=>none
 |(s,x)::r=>if s=t then some x else aE t r
def get (env:List (Nat×V)) (t:Nat):V:=(aE t env).getD .any
def bk (env:List (Nat×V)):bJ→V
 |.tmp t=>get env t
 |.val v=>v
def dM (slot:Nat) (cells:List V):List (Nat×List V)→List (Nat×List V)
 |[]=>[(slot,cells)]
 |(s,c)::r=>if s=slot then (slot,cells)::r else (s,c)::dM slot cells r
def aL.rows (a:aL):List (List V):=
 match a.body with
 |.inl l=>l.map (·.map .pv)
 |.inr l=>l
def aL.size (a:aL):Nat:=
 match a.body with
 |.inl l=>l.length
 |.inr l=>l.length
def V.cells:V→List V
 |.agg cs=>cs
 |v=>[v]
def PV.perm:PV→Bool
 |.bool _|.int _ _|.str _|.nn|.qV=>true
 |.aq t _=>t==0
 |.func _ cap=>cap.isEmpty
 |_=>false
def V.bS:V→Option PV
 |.pv p=>if p.perm then some p else none
 |.func f cap=>if cap.isEmpty then some (.func f []) else none
 |_=>none
def dE (s:Nat):Bool:=Nat.ble 100000 s
def outer:Nat:=200000
def V.calm:V→Bool
 |.pv (.ro _ _)|.pv (.agg _)|.pv (.fr _ _)=>false
 |.pv (.func _ cap)=>cap.isEmpty
 |.pv _|.tl _|.own _ _ _ _=>true
 |.func _ cap=>cap.isEmpty
 |_=>false
def V.dF:V→Bool
 |.ptr s _=>dE s
 |.map _|.dR=>true
 |v=>v.calm
def V.sized:V→Bool
 |.any|.dy _|.pv (.agg _)|.pv (.fr _ _)=>false
 |_=>true
def ay {α β:Type} (f:α→Option β):List α→Option (List β)
 |[]=>some []
 |x::r=>match f x,ay f r with
  |some y,some l=>some (y::l)
  |_,_=>none
def iu (rows:List (List V)):Sum (List (List PV)) (List (List V)):=
 match ay (ay V.bS) rows with
 |some l=>.inl l
 |none=>.inr rows
def cu (n:Nat) (zero:List V):Sum (List (List PV)) (List (List V)):=
 match ay V.bS zero with
 |some z=>.inl (List.replicate n z)
 |none=>.inr (List.replicate n zero)
def aU (a b:Sum (List (List PV)) (List (List V))):Sum (List (List PV)) (List (List V)):=
 match a,b with
 |.inl x,.inl y=>.inl (x++y)
 |.inl x,.inr y=>.inr (x.map (·.map .pv)++y)
 |.inr x,.inl y=>.inr (x++y.map (·.map .pv))
 |.inr x,.inr y=>.inr (x++y)
def az (off len:Nat):Sum (List (List PV)) (List (List V))→Sum (List (List PV)) (List (List V))
 |.inl x=>.inl ((x.drop off).take len)
 |.inr x=>.inr ((x.drop off).take len)
def setBody (r c:Nat) (news:List V):Sum (List (List PV)) (List (List V))→Sum (List (List PV)) (List (List V))
 |.inl x=>match ay V.bS news with
  |some l=>.inl (x.set r ((x.getD r []).take c++l++(x.getD r []).drop (c+news.length)))
  |none=>.inr ((x.map (·.map .pv)).set r (((x.getD r []).map .pv).take c++news++((x.getD r []).map .pv).drop (c+news.length)))
 |.inr x=>.inr (x.set r ((x.getD r []).take c++news++(x.getD r []).drop (c+news.length)))
def aB (h:aa) (id ax:Nat):Option aL:=
 match h.ar[id]? with
 |some a=>if a.ax=ax then some a else none
 |none=>none
def aR (h:aa):Nat→V→Option PV
 |_,.pv p=>match p with
  |.agg _=>none
  |.fr _ _=>none
  |p=>some p
 |_,.tl rows=>some (.aq 0 rows)
 |0,_=>none
 |d+1,.own id ax off len=>
  match aB h id ax with
  |some a=>match az off len a.body with
   |.inl rows=>some (.aq 1 rows)
   |.inr rows=>match ay (ay (aR h d)) rows with
    |some l=>some (.aq 2 l)
    |none=>none
  |none=>none
 |d+1,.ptr slot off=>
  match aE slot h.bx with
  |some cs=>match ay (aR h d) (cs.drop off)with
   |some l=>some (.ro 2 l)
   |none=>none
  |none=>none
 |d+1,.func f cap=>match ay (aR h d) cap with
  |some l=>some (.func f l)
  |none=>none
 |_,_=>none
def cq (h:aa):V→Option PV
 |.agg cs=>match ay (aR h 4) cs with
  |some l=>some (.agg l)
  |none=>none
 |.pv (.agg cs)=>some (.agg cs)
 |v=>aR h 4 v
def aY (h:aa):Nat→V→Option PV
 |_,.pv p=>if p.perm then some p else none
 |_,.tl rows=>some (.aq 0 rows)
 |0,_=>none
 |d+1,.own id ax off len=>
  match aB h id ax with
  |some a=>match az off len a.body with
   |.inl rows=>some (.aq 0 rows)
   |.inr rows=>match ay (ay (aY h d)) rows with
    |some l=>some (.aq 0 l)
    |none=>none
  |none=>none
 |_,.func f cap=>if cap.isEmpty then some (.func f []) else none
 |_,_=>none
def eM (h:aa):V→Option PV
 |.own id ax 0 len=>
  match aB h id ax with
  |some a=>(match a.body with
   |.inl rows=>if a.k=0 then none else some (.fr a.k (rows.take len))
   |.inr _=>none)
  |none=>none
 |.own _ _ _ _=>none
 |v=>aY h 4 v
def keep (h:aa) (fresh:Bool):V→Option PV
 |.pv (.ro t cs)=>if fresh=false∧t=0∧cs.all PV.perm=true then some (.ro t cs) else none
 |.ptr slot off=>if fresh then none else match aE slot h.bx with
  |some cs=>(match ay (aY h 4) (cs.drop off)with
   |some l=>some (.ro 0 l)
   |none=>none)
  |none=>none
 |.agg cs=>match ay (if fresh then eM h else aY h 4) cs with
  |some l=>some (.agg l)
  |none=>none
 |v=>if fresh then eM h v else aY h 4 v
def fR:V→Option Nat
 |.own id _ _ _=>some id
 |_=>none
def dT:List V→List Nat
 |[]=>[]
 |v::r=>(v.cells.filterMap fR)++dT r
def distinct:List Nat→Bool
 |[]=>true
 |x::r=>!r.contains x&&distinct r
def cb (h:aa):V→Option (PV×Option (Nat×aL))
 |.own id ax 0 len=>
  match aB h id ax with
  |some a=>if a.size=len∧a.k≠0 then (match a.body with
   |.inl rows=>some (.fr a.k rows,some (id,⟨ax+1,0,.inl []⟩))
   |.inr _=>none) else none
  |none=>none
 |.tl []=>some (.aq 0 [],none)
 |_=>none
def V.i7:PV→V
 |.agg cs=>.agg (cs.map .pv)
 |.fr _ rows=>.own 0 0 0 rows.length
 |p=>.pv p
def cV (n:Nat):List PV→List V×List aL
 |[]=>([],[])
 |.fr k rows::r=>let (vs,as):=cV (n+1) r; (.own n 0 0 rows.length::vs,⟨0,k,.inl rows⟩::as)
 |p::r=>let (vs,as):=cV n r; (.pv p::vs,as)
def eF (n:Nat):PV→V×List aL
 |.agg cs=>let (vs,as):=cV n cs; (.agg vs,as)
 |.fr k rows=>(.own n 0 0 rows.length,[⟨0,k,.inl rows⟩])
 |p=>(.pv p,[])
def bw (n:Nat):List PV→List V×List aL
 |[]=>([],[])
 |p::r=>let (v,as):=eF n p; let (vs,bs):=bw (n+as.length) r; (v::vs,as++bs)
def eD:List V→V
 |[v]=>v
 |vs=>.dy vs
structure Tn where
 bx:Option (Nat×List V):=none
 new:Bool:=false
 ar:Option (Nat×aL):=none
 push:List aL:=[]
 mp:Option (Nat×List (PV×PV)):=none
 mD:Bool:=false
 rb:Option Nat:=none
 ra:Option Nat:=none
 rm:Option Nat:=none
 eK:Bool:=false
 np:Option Nat:=none
 base:Nat:=0
 all:Option (List (Nat×List V)×List aL×List (List (PV×PV))):=none
 deriving Inhabited
def eN:List (Nat×List V)→List (Nat×List V)→List (Nat×List V)
 |[],bx=>bx
 |(s,cs)::r,bx=>eN r (dM s cs bx)
def Tn.apply (t:Tn) (h:aa):aa:=
  match t.all with
  |some (bs,ar,mp)=>⟨eN bs h.bx,ar,mp⟩
  |none=>
  { bx:=match t.bx with|some (s,cs)=>dM s cs h.bx|none=>h.bx
    ar:=(match t.ar with|some (i,a)=>h.ar.set i a|none=>h.ar)++t.push
    mp:=(match t.mp with|some (i,m)=>h.mp.set i m|none=>h.mp)++(if t.mD then [[]] else []) }
def jk {α:Type} (o:Option α) (p:Option α) (eq:α→α→Bool):Bool:=
 match o,p with
 |some a,some b=>!eq a b
 |_,_=>true
def Tn.gl (a:Tn) (n:Nat):Bool:=a.ar.all (·.1<n)&&a.ra.all (·<n)&&a.np.all (·<n)
def Tn.ns (a b:Tn):Bool:=
 jk (a.bx.map (·.1)) (b.bx.map (·.1)) (·==·)&&jk (a.bx.map (·.1)) b.rb (·==·)&&
 jk (a.ar.map (·.1)) (b.ar.map (·.1)) (·==·)&&jk (a.ar.map (·.1)) b.ra (·==·)&&jk (a.ar.map (·.1)) b.np (·==·)&&
 (a.push.isEmpty||(b.push.isEmpty&&b.gl a.base))&&a.mp.isNone&&!a.mD&&(a.all.isNone&&b.all.isNone)
def Tn.off (a b:Tn):Bool:=a.ns b&&(!b.eK||(a.bx.isNone&&a.ar.isNone&&a.push.isEmpty))
def Tn.zr (a b:Tn):Bool:=a.ns b&&(!b.eK||((a.bx.isNone||a.new)&&a.ar.isNone))
def Tn.apart (a b:Tn):Bool:=a.off b&&b.zr a
def setAt {α:Type} (l:List α) (off:Nat) (news:List α):List α:=l.take off++news++l.drop (off+news.length)
def eA (g:bJ→V):List V→List (Nat×Nat×bJ)→Option (List V)
 |cells,[]=>some cells
 |cells,(off,n,x)::r=>
  if (g x).sized=true∧(g x).cells.length=n∧off+n≤cells.length then eA g (setAt cells off (g x).cells) r else none
def dY (isAgg:Bool):List V→Option V
 |cs=>if isAgg then some (.agg cs) else match cs with
  |[v]=>some v
  |_=>none
def takeN {α:Type} (off n:Nat) (l:List α):Option (List α):=if off+n≤l.length then some ((l.drop off).take n) else none
def fN {α:Type} (k:Nat):Nat→List α→List (List α)
 |0,_=>[]
 |n+1,l=>l.take k::fN k n (l.drop k)
def PV.eqs:Nat→PV→PV→Option Bool
 |0,.bool a,.bool b=>some (a==b)
 |1,.int j a,.int k b=>if j=k then some (a==b) else none
 |2,.str a,.str b=>some (a.toList==b.toList)
 |_,_,_=>none
def bd:List Nat→List PV→List PV→Option Bool
 |[],[],[]=>some true
 |k::ks,a::x,b::y=>match PV.eqs k a b,bd ks x y with
  |some p,some q=>some (p&&q)
  |_,_=>none
 |_,_,_=>none
def vN:V→Option PV
 |.pv p=>some p
 |_=>none
def intOf:V→Option Int
 |.pv (.int _ n)=>some n
 |_=>none
def eO (op:BinOp) (k:IntKind) (x y:Int):Option PV:=
 match op with
 |.add=>some (.int k (k.wrap (x+y)))
 |.sub=>some (.int k (k.wrap (x - y)))
 |.mul=>some (.int k (k.wrap (x*y)))
 |.quo=>if y=0 then none else some (.int k (k.wrap (x.tdiv y)))
 |.rem=>if y=0 then none else some (.int k (x.tmod y))
 |.and=>some (.int k (k.wrap (BitVec.ofInt k.bits x&&& BitVec.ofInt k.bits y).toNat))
 |.or=>some (.int k (k.wrap (BitVec.ofInt k.bits x|||BitVec.ofInt k.bits y).toNat))
 |.xor=>some (.int k (k.wrap (BitVec.ofInt k.bits x^^^BitVec.ofInt k.bits y).toNat))
 |.andNot=>some (.int k (k.wrap (BitVec.ofInt k.bits x&&& ~~~(BitVec.ofInt k.bits y)).toNat))
 |.eql=>some (.bool (x==y))
 |.neq=>some (.bool (x != y))
 |.lss=>some (.bool (decide (x<y)))
 |.leq=>some (.bool (decide (x≤y)))
 |.gtr=>some (.bool (decide (x>y)))
 |.geq=>some (.bool (decide (x≥y)))
 |_=>none
def ry (op:BinOp) (k:IntKind) (x y:Int):Option PV:=
 if y<0 then none else
 match op with
 |.shl=>some (.int k (k.wrap (x*2^(min y.toNat k.bits))))
 |.shr=>some (.int k (x.fdiv (2^(min y.toNat k.bits))))
 |_=>none
def kI (op:BinOp) (a b:ByteArray):Option PV:=
 match op with
 |.eql=>some (.bool (a.toList==b.toList))
 |.neq=>some (.bool !(a.toList==b.toList))
 |.add=>if a.size+b.size≤1099511627776 then some (.str (a++b)) else none
 |.lss=>some (.bool (Go.Op.bytesLess a.toList b.toList))
 |.gtr=>some (.bool !(Go.Op.bytesLess a.toList b.toList||a.toList==b.toList))
 |_=>none
def cB (op:BinOp):V→V→Option V
 |.pv (.int j a),.pv (.int k b)=>
  if op=.shl∨op=.shr then (ry op j a b).map .pv
  else if j=k then (eO op j a b).map .pv else none
 |.pv (.str a),.pv (.str b)=>(kI op a b).map .pv
 |_,_=>none
def Nq:UnOp→V→Option V
 |.neg,.pv (.int k n)=>some (.pv (.int k (k.wrap (0 - n))))
 |.not,.pv (.bool b)=>some (.pv (.bool !b))
 |_,_=>none
def cw (i:Option Int) (n:Nat):Option Nat:=
 match i with
 |some x=>if 0≤x∧x<n then some x.toNat else none
 |none=>none
def bound (g:bJ→V) (o:Option bJ) (ib top:Nat):Option Nat:=
 match o with
 |none=>some ib
 |some x=>match intOf (g x)with
  |some i=>if 0≤i∧i≤top then some i.toNat else none
  |none=>none
def aN:Nat:=2147483648
def bu (ag:Bool):V→Option (List PV)
 |.agg cs=>if ag then ay vN cs else none
 |.pv p=>if ag then none else some [p]
 |_=>none
def keyOf (ag:Bool) (x:V):Option PV:=
 match bu ag x with
 |some l=>if ag then some (.agg l) else l.head?
 |none=>none
def iw (ag:Bool) (ks:List Nat):PV→PV→Option Bool
 |.agg a,.agg b=>if ag then bd ks a b else none
 |a,b=>if ag then none else bd ks [a] [b]
def findKey (ag:Bool) (ks:List Nat) (k:PV):List (PV×PV)→Nat→Option (Option (Nat×PV))
 |[],_=>if (iw ag ks k k).isSome then some none else none
 |(q,v)::r,i=>match iw ag ks k q with
  |some true=>some (some (i,v))
  |some false=>findKey ag ks k r (i+1)
  |none=>none
def loadAt (h:aa) (n:Nat):V→Option (List V×Tn)
 |.pv (.ro _ cs)=>match takeN 0 n cs with
  |some l=>some (l.map .pv,{})
  |none=>none
 |.ptr slot off=>match aE slot h.bx with
  |some cs=>match takeN off n cs with
   |some l=>some (l,{ rb:=some slot })
   |none=>none
  |none=>none
 |.du id ax row col=>match aB h id ax with
  |some a=>match a.body with
   |.inl x=>match x[row]? with
    |some r=>match takeN col n r with
     |some l=>some (l.map .pv,{ ra:=some id })
     |none=>none
    |none=>none
   |.inr x=>match x[row]? with
    |some r=>match takeN col n r with
     |some l=>some (l,{ ra:=some id })
     |none=>none
    |none=>none
  |none=>none
 |_=>none
def storeAt (h:aa) (x:V) (news:List V):Option Tn:=
 match x with
 |.ptr slot off=>match aE slot h.bx with
  |some cs=>if off+news.length≤cs.length∧news.all V.dF then some { bx:=some (slot,setAt cs off news) } else none
  |none=>none
 |.du id ax row col=>match aB h id ax with
  |some a=>if row<a.size∧col+news.length≤a.k∧news.all V.calm then some { ar:=some (id,{ a with body:=setBody row col news a.body }) } else none
  |none=>none
 |_=>none
def aW (h:aa):V→Option (Sum (List (List PV)) (List (List V))×Option Nat)
 |.pv (.aq t rows)=>if t≤1 then some (.inl rows,none) else some (.inr (rows.map (·.map .pv)),none)
 |.tl rows=>some (.inl rows,none)
 |.own id ax off len=>match aB h id ax with
  |some a=>some (az off len a.body,some id)
  |none=>none
 |_=>none
def aD:Sum (List (List PV)) (List (List V))→Nat
 |.inl x=>x.length
 |.inr x=>x.length
def aO (k:Nat):Sum (List (List PV)) (List (List V))→Bool
 |.inl x=>x.all (·.length==k)
 |.inr x=>x.all (·.length==k)
def aK (h:aa) (k:Nat) (x y:V):Option (V×Tn):=
 match aW h y with
 |none=>none
 |some (new,rd)=>
  if aO k new then
   match x with
   |.tl rows=>
    if aD new=0 then some (.tl rows,{ ra:=rd })
    else if rows.length+aD new≤aN∧aO k (.inl rows) then
     some (.own h.ar.length 0 0 (rows.length+aD new),{ push:=[⟨0,k,aU (.inl rows) new⟩],ra:=rd,base:=h.ar.length })
    else none
   |.own id ax off len=>
    match aB h id ax with
    |some a=>
     if aD new=0 then some (.own id ax off len,{ ra:=rd,np:=some id })
     else if off+len≤a.size∧a.k=k∧len+aD new≤aN then
      some (.own id (ax+1) 0 (len+aD new),{ ar:=some (id,⟨ax+1,k,aU (az off len a.body) new⟩),ra:=rd })
     else none
    |none=>none
   |_=>none
  else none
def fx (h:aa) (id k:Nat) (x y:V):Option (V×Tn):=
 match x with
 |.tl rows=>match aW h y with
  |none=>none
  |some (new,rd)=>
   if aO k new then
    if aD new=0 then some (.tl rows,{ ra:=rd })
    else match h.ar[id]? with
     |some gl=>if rows.length+aD new≤aN∧aO k (.inl rows)∧gl.k=0 then
       some (.own id (gl.ax+1) 0 (rows.length+aD new),{ ar:=some (id,⟨gl.ax+1,k,aU (.inl rows) new⟩),ra:=rd })
      else none
     |none=>none
   else none
 |x=>aK h k x y
def copyV (h:aa) (k:Nat) (x y:V):Option (V×Tn):=
 match aW h y with
 |some (.inl new,rd)=>
  if aO k (.inl new) then
   match x with
   |.own id ax off len=>
    if min new.length len=0 then some (.pv (.int .i64 0),{ ra:=rd })
    else match aB h id ax with
     |some a=>match a.body with
      |.inl rows=>if a.k=k∧off+len≤rows.length then
        some (.pv (.int .i64 (min new.length len:Nat)),{ ar:=some (id,⟨ax,k,.inl (rows.take off++new.take (min new.length len)++rows.drop (off+min new.length len))⟩),ra:=rd }) else none
      |.inr _=>none
     |none=>none
   |_=>none
  else none
 |_=>none
def bounds (g:bJ→V) (lo hi mx:Option bJ) (len:Nat):Option (Nat×Nat×Option Nat):=
 match bound g hi len len with
 |some b=>match bound g lo 0 b with
  |some a=>match mx with
   |none=>some (a,b,none)
   |some _=>match bound g mx 0 len with
    |some c=>if b≤c then some (a,b,some c) else none
    |none=>none
  |none=>none
 |none=>none
def di (g:bJ→V) (h:aa) (k:Nat) (x:V) (lo hi mx:Option bJ):Option (V×Tn):=
 match x with
 |.pv (.aq t rows)=>
  if aO k (.inl rows) then
   match bounds g lo hi mx rows.length with
   |some (a,b,none)=>some (.pv (.aq t ((rows.take b).drop a)),{})
   |some (a,b,some c)=>if c=b∧a=b then some (.tl [],{}) else none
   |none=>none
  else none
 |.tl rows=>
  if aO k (.inl rows) then
   match bounds g lo hi mx rows.length with
   |some (a,b,none)=>if b=rows.length then some (.tl ((rows.take b).drop a),{}) else some (.pv (.aq 0 ((rows.take b).drop a)),{})
   |some (a,b,some c)=>if c=b then some (.tl ((rows.take b).drop a),{}) else none
   |none=>none
  else none
 |.own id ax off len=>
  match aB h id ax with
  |some ar=>if ar.k=k then
    (match bounds g lo hi mx len with
    |some (a,b,none)=>some (.own id ax (off+a) (b - a),{ ra:=some id })
    |some (a,b,some c)=>if c=b∧a=b then some (.tl [],{ ra:=some id }) else none
    |none=>none) else none
  |none=>none
 |_=>none
def vO (g:bJ→V) (x:V) (lo hi:Option bJ):Option V:=
 match x with
 |.pv (.str s)=>
  match bound g hi s.size s.size with
  |some b=>match bound g lo 0 b with
   |some a=>some (.pv (.str (s.extract a b)))
   |none=>none
  |none=>none
 |_=>none
def jx (k t:Nat) (rows:List (List PV)) (i:Option Int):Option V:=
 match cw i rows.length with
 |some j=>match rows[j]? with
  |some r=>if r.length=k then some (.pv (.ro t r)) else none
  |none=>none
 |none=>none
def oW (h:aa) (k:Nat) (x:V) (i:Option Int):Option (V×Tn):=
 match x with
 |.pv (.aq t rows)=>(jx k t rows i).map fun v=>(v,{})
 |.tl rows=>(jx k 0 rows i).map fun v=>(v,{})
 |.own id ax off len=>match cw i len,aB h id ax with
  |some j,some a=>if a.k=k then some (.du id ax (off+j) 0,{ ra:=some id }) else none
  |_,_=>none
 |_=>none
def rz (off:Nat):V→Option V
 |.pv (.ro t cs)=>some (.pv (.ro t (cs.drop off)))
 |.ptr slot o=>some (.ptr slot (o+off))
 |.du id ax row col=>some (.du id ax row (col+off))
 |_=>none
def ix (h:aa):Nat→V→Option (Nat×Tn)
 |0,.pv (.aq _ rows)=>some (rows.length,{})
 |0,.tl rows=>some (rows.length,{})
 |0,.own _ _ _ len=>some (len,{})
 |1,.pv (.str s)=>some (s.size,{})
 |2,.map id=>match h.mp[id]? with
  |some m=>some (m.length,{ rm:=some id })
  |none=>none
 |2,.dR=>some (0,{})
 |_,_=>none
def funcOf:V→Option (Nat×List V)
 |.func f cap=>some (f,cap)
 |.pv (.func f cap)=>some (f,cap.map .pv)
 |_=>none
def V.jm:V→Bool
 |.pv _=>true
 |.tl _=>true
 |.func _ cap=>cap.isEmpty
 |.agg cs=>cs.all fun|.pv _=>true|.tl _=>true|_=>false
 |_=>false
def gV (isMax:Bool):Int→List V→Option Int
 |a,[]=>some a
 |a,.pv (.int _ b)::r=>gV isMax (if isMax then (if b>a then b else a) else (if b<a then b else a)) r
 |_,_::_=>none
abbrev bm:=Nat→Option (List V→aa→Option (V×Tn))
def ca (h:aa) (tk:Bool) (vs:List V):Option (List PV×Option (Nat×aL)):=
 if tk then match vs with
  |v::r=>match cb h v with
   |some (p,none)=>match ay (cq h) r with
    |some l=>some (p::l,none)
    |none=>none
   |some (p,some (i,a))=>match ay (cq { h with ar:=h.ar.set i a }) r with
    |some l=>some (p::l,some (i,a))
    |none=>none
   |none=>none
  |[]=>none
 else match ay (cq h) vs with
  |some l=>some (l,none)
  |none=>none
def evalOp (Φ:Nat→List PV→Option (List PV)) (Pr:bm) (Tk:Nat→Bool) (g:bJ→V) (h:aa):dL→Option (V×Tn)
 |.Pp x=>some (g x,{})
 |.pick c a b=>match g c with
  |.pv (.bool true)=>some (g a,{})
  |.pv (.bool false)=>some (g b,{})
  |_=>none
 |.alloc slot zero=>match aE slot h.bx with
  |none=>some (.ptr slot 0,{ bx:=some (slot,zero),new:=true })
  |some _=>none
 |.box slot n x=>match aE slot h.bx with
  |none=>if (g x).cells.length=n∧(g x).cells.all V.dF then some (.ptr slot 0,{ bx:=some (slot,(g x).cells),new:=true }) else none
  |some _=>none
 |.build zero parts=>match eA g zero parts with
  |some cs=>some (.agg cs,{})
  |none=>none
 |.lit k zero len parts=>match eA g ((List.range (len*k)).map fun i=>zero.getD (i%k) .any) parts with
  |some cs=>match iu (fN k len cs)with
   |.inl rows=>some (.tl rows,{})
   |.inr rows=>if cs.all V.calm then some (.own h.ar.length 0 0 len,{ push:=[⟨0,k,.inr rows⟩],base:=h.ar.length }) else none
  |none=>none
 |.load n isAgg x=>match loadAt h n (g x)with
  |some (cs,t)=>match dY isAgg cs with
   |some v=>some (v,t)
   |none=>none
  |none=>none
 |.store n x v=>if (g v).cells.length=n then (match storeAt h (g x) (g v).cells with
   |some t=>some (.any,t)
   |none=>none) else none
 |.vI x=>match g x with
  |.func f cap=>some (.func f cap,{})
  |.pv (.func f cap)=>some (.pv (.func f cap),{})
  |.ptr s o=>some (.ptr s o,{})
  |.pv (.ro t cs)=>some (.pv (.ro t cs),{})
  |.du i v r c=>some (.du i v r c,{})
  |_=>none
 |.bin op x y=>(cB op (g x) (g y)).map fun v=>(v,{})
 |.Pq ag ks neg x y=>match bu ag (g x),bu ag (g y)with
  |some a,some b=>match bd ks a b with
   |some r=>some (.pv (.bool (if neg then !r else r)),{})
   |none=>none
  |_,_=>none
 |.un op x=>(Nq op (g x)).map fun v=>(v,{})
 |.conv k x=>match g x with
  |.pv (.int _ n)=>some (.pv (.int k (k.wrap n)),{})
  |_=>none
 |.vJ x=>match g x with
  |.pv (.str s)=>some (.pv (.str s),{})
  |.pv (.int _ n)=>some (.pv (.str (Utf8.encode n)),{})
  |_=>none
 |.Sv off x=>(rz off (g x)).map fun v=>(v,{})
 |.part off n isAgg x=>match g x with
  |.agg cs=>match takeN off n cs with
   |some l=>(dY isAgg l).map fun v=>(v,{})
   |none=>none
  |_=>none
 |.idx k x i=>oW h k (g x) (intOf (g i))
 |.Gn len k x i=>match cw (intOf (g i)) len with
  |some j=>(rz (j*k) (g x)).map fun v=>(v,{})
  |none=>none
 |.Tx len k isAgg x i=>match cw (intOf (g i)) len with
  |some j=>match g x with
   |.agg cs=>match takeN (j*k) k cs with
    |some l=>(dY isAgg l).map fun v=>(v,{})
    |none=>none
   |_=>none
  |none=>none
 |.Sw x i=>match g x with
  |.pv (.str s)=>match cw (intOf (g i)) s.size with
   |some j=>match s[j]? with
    |some b=>some (.pv (.int .u8 b.toNat),{})
    |none=>none
   |none=>none
  |_=>none
 |.sl k x lo hi mx=>di g h k (g x) lo hi mx
 |.Tz x lo hi=>(vO g (g x) lo hi).map fun v=>(v,{})
 |.len kd x=>match ix h kd (g x)with
  |some (n,t)=>some (.pv (.int .i64 n),t)
  |none=>none
 |.app k x y=>aK h k (g x) (g y)
 |.make k zero n c=>match intOf (g n),intOf (g c)with
  |some a,some b=>
   if 0≤a∧a≤b∧b≤aN then some (.own h.ar.length 0 0 a.toNat,{ push:=[⟨0,k,cu a.toNat zero⟩],base:=h.ar.length }) else none
  |_,_=>none
 |.gk id k zero n c=>match intOf (g n),intOf (g c),h.ar[id]? with
  |some a,some b,some gl=>
   if 0≤a∧a≤b∧b≤aN∧gl.k=0 then some (.own id (gl.ax+1) 0 a.toNat,{ ar:=some (id,⟨gl.ax+1,k,cu a.toNat zero⟩) }) else none
  |_,_,_=>none
 |.kC id k zero len parts=>match eA g ((List.range (len*k)).map fun i=>zero.getD (i%k) .any) parts with
  |some cs=>match h.ar[id]? with
   |some gl=>if cs.all V.calm∧gl.k=0 then some (.own id (gl.ax+1) 0 len,{ ar:=some (id,⟨gl.ax+1,k,iu (fN k len cs)⟩) }) else none
   |none=>none
  |none=>none
 |.kD id k x y=>fx h id k (g x) (g y)
 |.qJ=>some (.map h.mp.length,{ mD:=true })
 |.look ag ks zero x i ok=>match keyOf ag (g i)with
  |none=>none
  |some k=>
   match (match g x with
    |.dR=>some []
    |.map id=>h.mp[id]?
    |_=>none)with
   |none=>none
   |some m=>match findKey ag ks k m 0 with
    |none=>none
    |some r=>
     let v:V:=match r with
      |some (_,p)=>.pv p
      |none=>zero
     some (if ok then .dy [v,.pv (.bool r.isSome)] else v,match g x with|.map id=>{ rm:=some id }|_=>{})
 |.Gp ag ks m k v=>match g m,keyOf ag (g k),(g v).bS with
  |.map id,some q,some p=>match h.mp[id]? with
   |some l=>match findKey ag ks q l 0 with
    |some (some (i,_))=>some (.any,{ mp:=some (id,l.set i (q,p)) })
    |some none=>some (.any,{ mp:=some (id,l++[(q,p)]) })
    |none=>none
   |none=>none
  |_,_,_=>none
 |.Gq f cap=>some (.func f (cap.map g),{})
 |.ext x i=>match g x with
  |.dy vs=>match vs[i]? with
   |some v=>some (v,{})
   |none=>none
  |_=>none
 |.call f args=>match funcOf (g f)with
  |none=>none
  |some (fn,cap)=>
   let vs:=args.map g++cap
   match Pr fn with
   |some pr=>pr vs h
   |none=>match ca h (Tk fn) vs with
    |none=>none
    |some (ps,a)=>match Φ fn ps with
     |none=>none
     |some rs=>
      let (ws,as):=bw h.ar.length rs
      some (eD ws,{ ar:=a,push:=as,eK:=!(vs.all V.jm),base:=if as.isEmpty then 0 else h.ar.length })
 |.kx isMax args=>match args.map g with
  |.pv (.int k a)::r=>match gV isMax a r with
   |some n=>some (.pv (.int k n),{})
   |none=>none
  |_=>none
 |.Jf k zero x=>match g x with
  |.pv (.aq _ [])=>some (.dy [],{})
  |.tl []=>some (.dy [],{})
  |.own id ax off len=>match aB h id ax,ay V.bS zero with
   |some a,some z=>match a.body with
    |.inl rows=>if a.k=k∧off+len≤rows.length then
      some (.dy [],{ ar:=some (id,⟨ax,k,.inl (rows.take off++List.replicate len z++rows.drop (off+len))⟩) }) else none
    |.inr _=>none
   |_,_=>none
  |_=>none
 |.copy k x y=>copyV h k (g x) (g y)
def bJ.reads:bJ→List Nat
 |.tmp t=>[t]
 |.val _=>[]
def jP:Option bJ→List Nat
 |some x=>x.reads
 |none=>[]
def dL.reads:dL→List Nat
 |.Pp x|.box _ _ x|.load _ _ x|.vI x|.un _ x|.conv _ x|.vJ x|.Sv _ x|.part _ _ _ x|.len _ x|.ext x _|.Jf _ _ x=>x.reads
 |.pick c a b=>c.reads++a.reads++b.reads
 |.alloc _ _|.qJ=>[]
 |.build _ parts=>parts.flatMap fun p=>p.2.2.reads
 |.lit _ _ _ parts|.kC _ _ _ _ parts=>parts.flatMap fun p=>p.2.2.reads
 |.store _ x y|.bin _ x y|.Pq _ _ _ x y|.idx _ x y|.Gn _ _ x y|.Tx _ _ _ x y|.Sw x y|.app _ x y|.copy _ x y|.make _ _ x y|.gk _ _ _ x y|.kD _ _ x y|.look _ _ _ x y _=>x.reads++y.reads
 |.sl _ x lo hi mx=>x.reads++jP lo++jP hi++jP mx
 |.Tz x lo hi=>x.reads++jP lo++jP hi
 |.Gp _ _ m k v=>m.reads++k.reads++v.reads
 |.Gq _ cap=>cap.flatMap bJ.reads
 |.call f args=>f.reads++args.flatMap bJ.reads
 |.kx _ args=>args.flatMap bJ.reads
def aC.reads (o:aC):List Nat:=(match o.guard with|some (t,_)=>[t]|none=>[])++o.op.reads
def aC.apart (x y:aC):Bool:=
  (match x.dst with
   |some d=>!y.reads.contains d&&y.dst != some d
   |none=>true)&&
  (match y.dst with
   |some d=>!x.reads.contains d
   |none=>true)
def wanted (env:List (Nat×V)):Option (Nat×Bool)→Option Bool
 |none=>some true
 |some (t,b)=>match get env t with
  |.pv (.bool c)=>some (c==b)
  |.dy _=>some false
  |_=>none
def put (env:List (Nat×V)) (d:Option Nat) (v:V):List (Nat×V):=
 match d with
 |some t=>(t,v)::env
 |none=>env
def bp (Φ:Nat→List PV→Option (List PV)) (Pr:bm) (Tk:Nat→Bool) (o:aC) (s:St):Option (St×Tn):=
 match wanted s.env o.guard with
 |none=>none
 |some false=>some (⟨put s.env o.dst (.dy []),s.h⟩,{})
 |some true=>match evalOp Φ Pr Tk (bk s.env) s.h o.op with
  |some (v,t)=>some (⟨put s.env o.dst v,t.apply s.h⟩,t)
  |none=>none
def dH (Φ:Nat→List PV→Option (List PV)) (Pr:bm) (Tk:Nat→Bool):List aC→St→Option St
 |[],s=>some s
 |o::r,s=>match bp Φ Pr Tk o s with
  |some (s',_)=>dH Φ Pr Tk r s'
  |none=>none
def dZ (un:List Nat) (t:Tn) (done:List Tn):Bool:=
 un.all fun j=>match done[j]? with
  |some u=>u.apart t
  |none=>false
def cx (Φ:Nat→List PV→Option (List PV)) (Pr:bm) (Tk:Nat→Bool):List (aC×List Nat)→List Tn→St→Option St
 |[],_,s=>some s
 |(o,un)::r,done,s=>match bp Φ Pr Tk o s with
  |some (s',t)=>if dZ un t done then cx Φ Pr Tk r (done++[t]) s' else none
  |none=>none
def rA (kb:List Nat):V→Bool
 |.ptr s _=>kb.contains s||dE s
 |.func _ cap=>cap.isEmpty
 |.agg _|.dy _=>false
 |_=>true
def dN (kb:List Nat):V→V
 |.ptr s o=>if kb.contains s||dE s then .ptr s o else .any
 |.func f cap=>if cap.all (rA kb) then .func f cap else .any
 |.agg cs=>if cs.all (rA kb) then .agg cs else .any
 |.dy _=>.any
 |v=>v
def gW (kt kb:List Nat) (env:List (Nat×V)):List (Nat×V):=kt.map fun t=>(t,dN kb (get env t))
def pins:List (Nat×List V)→List (Nat×List V)
 |[]=>[]
 |(s,cs)::r=>if dE s=true then (s,cs)::pins r else pins r
def gJ (kb:List Nat) (bx:List (Nat×List V)):List (Nat×List V):=
 match kb with
 |[]=>pins bx
 |s::r=>match aE s bx with
  |some cs=>(s,cs)::gJ r bx
  |none=>gJ r bx
def St.mask (kt kb:List Nat) (s:St):St:=⟨gW kt kb s.env,{ s.h with bx:=gJ kb s.h.bx }⟩
def entry:Nat→List PV→List (Nat×V)
 |_,[]=>[]
 |n,p::r=>(n,V.i7 p)::entry (n+1) r
def cA:List PV→aa
 |.fr k rows::_=>⟨[],[⟨0,k,.inl rows⟩],[]⟩
 |_=>aa.empty
def oX:Bool→List PV→Bool
 |_,[]=>true
 |tk,.fr _ _::r=>tk&&oX false r
 |_,_::r=>oX false r
def cL (s:St):nq→Option V
 |.tmp t=>some (get s.env t)
 |.cell t n isAgg=>match loadAt s.h n (get s.env t)with
  |some (cs,_)=>dY isAgg cs
  |none=>none
def leave (fn:ae) (s:St):Option (List PV):=
 match ay (cL s) fn.results with
 |some vs=>if !fn.fresh||distinct (dT vs) then ay (keep s.h fn.fresh) vs else none
 |none=>none
def Bj (E:AC→St→Option (Ex×St)) (fn:ae) (args:List PV):Option (List PV):=
 if args.length=fn.oU∧oX fn.take args=true then
  match E fn.body ⟨entry 0 args,cA args⟩ with
  |some (.normal,s)=>leave fn s
  |some (.ret,s)=>leave fn s
  |_=>none
 else none
def cM (A:Nat→Option ae) (E:AC→St→Option (Ex×St)) (f:Nat) (args:List PV):Option (List PV):=
 match A f with
 |some fn=>Bj E fn args
 |none=>none
def dx (A:Nat→Option ae) (f:Nat):Bool:=
 match A f with
 |some fn=>fn.take
 |none=>false
def vQ:V→Option Nat
 |.ptr s _=>some s
 |_=>none
def slotsOf:V→List Nat
 |.ptr s _=>[s]
 |.func _ cap=>cap.filterMap vQ
 |.agg cs=>cs.filterMap vQ
 |_=>[]
def bZ (l:List Nat):List Nat→List Nat
 |[]=>l
 |s::r=>if l.contains s then bZ l r else bZ (l++[s]) r
def qW (bx:List (Nat×List V)) (s:Nat):List Nat:=
 match aE s bx with
 |some cs=>cs.filterMap vQ
 |none=>[]
def dv (bx:List (Nat×List V)):Nat→List Nat→List Nat
 |0,l=>l
 |n+1,l=>dv bx n (bZ l (l.flatMap (qW bx)))
def fu (f:Nat→Option Nat):V→Option V
 |.ptr s o=>match f s with
  |some t=>some (.ptr t o)
  |none=>none
 |.func k cap=>if cap.isEmpty then some (.func k cap) else none
 |.agg _|.dy _=>none
 |v=>some v
def kJ (f:Nat→Option Nat):V→Option V
 |.func k cap=>match ay (fu f) cap with
  |some l=>some (.func k l)
  |none=>none
 |.agg cs=>match ay (fu f) cs with
  |some l=>some (.agg l)
  |none=>none
 |v=>fu f v
def oY (ss:List Nat) (s:Nat):Option Nat:=(ss.findIdx? (·==s)).map (outer+·)
def fS (ss:List Nat) (s:Nat):Option Nat:=if outer≤s then ss[s - outer]? else none
def rB (f:Nat→Option Nat) (bx:List (Nat×List V)):Nat→List Nat→Option (List (Nat×List V))
 |_,[]=>some []
 |n,s::r=>match aE s bx with
  |some cs=>match ay (fu f) cs,rB f bx (n+1) r with
   |some l,some b=>some ((n,l)::b)
   |_,_=>none
  |none=>none
def kK (f:Nat→Option Nat) (bx:List (Nat×List V)):Nat→List Nat→Option (List (Nat×List V))
 |_,[]=>some []
 |n,s::r=>match aE n bx with
  |some cs=>match ay (fu f) cs,kK f bx (n+1) r with
   |some l,some b=>if l.all V.dF then some ((s,l)::b) else none
   |_,_=>none
  |none=>none
def kL:Nat→List V→List (Nat×V)
 |_,[]=>[]
 |n,v::r=>(n,v)::kL (n+1) r
def mF (fn:ae) (ss:List Nat) (s:St):Option (V×Tn):=
 match ay (cL s) fn.results with
 |some rs=>match ay (kJ (fS ss)) rs,kK (fS ss) s.h.bx outer ss with
  |some ws,some bs=>some (eD ws,{ all:=some (bs,s.h.ar,s.h.mp) })
  |_,_=>none
 |none=>none
def fy (E:AC→St→Option (Ex×St)) (fn:ae) (vs:List V) (h:aa):Option (V×Tn):=
 if vs.length=fn.oU then
  match ay (kJ (oY (dv h.bx 2 (bZ [] (vs.flatMap slotsOf))))) vs,rB (oY (dv h.bx 2 (bZ [] (vs.flatMap slotsOf)))) h.bx outer (dv h.bx 2 (bZ [] (vs.flatMap slotsOf)))with
  |some us,some bx=>match E fn.body ⟨kL 0 us,⟨bx,h.ar,h.mp⟩⟩ with
   |some (.normal,s)=>mF fn (dv h.bx 2 (bZ [] (vs.flatMap slotsOf))) s
   |some (.ret,s)=>mF fn (dv h.bx 2 (bZ [] (vs.flatMap slotsOf))) s
   |_=>none
  |_,_=>none
 else none
def bD (A:Nat→Option ae) (E:AC→St→Option (Ex×St)) (Pr:bm):bm:=fun f=>
 match A f with
 |some fn=>if fn.inl=true then some (fy E fn) else Pr f
 |none=>Pr f
def tN (b:Nat):dL→dL
 |.gk i k z n c=>.gk (b+i) k z n c
 |.kC i k z n ps=>.kC (b+i) k z n ps
 |.kD i k x y=>.kD (b+i) k x y
 |q=>q
def kM (b:Nat) (l:List (aC×List Nat)):List (aC×List Nat):=l.map fun x=>(⟨x.1.dst,tN b x.1.op,x.1.guard⟩,x.2)
def aa.room (h:aa) (n:Nat):aa:={ h with ar:=h.ar++List.replicate n ⟨0,0,.inl []⟩ }
def bQ (A:Nat→Option ae) (Pr:bm) (E:AC→St→Option (Ex×St)):AC→St→Option (Ex×St)
 |.skip,s=>some (.normal,s)
 |.region ops kt kb,s=>match dH (cM A E) (bD A E Pr) (dx A) ops s with
  |some s'=>some (.normal,s'.mask kt kb)
  |none=>none
 |.draw ops kt kb,s=>match cx (cM A E) (bD A E Pr) (dx A) ops [] s with
  |some s'=>some (.normal,s'.mask kt kb)
  |none=>none
 |.qK n ops kt kb,s=>match cx (cM A E) (bD A E Pr) (dx A) (kM s.h.ar.length ops) [] ⟨s.env,s.h.room n⟩ with
  |some s'=>some (.normal,s'.mask kt kb)
  |none=>none
 |.seq a b,s=>match E a s with
  |some (.normal,s')=>E b s'
  |r=>r
 |.cond c a b,s=>match bk s.env c with
  |.pv (.bool true)=>E a s
  |.pv (.bool false)=>E b s
  |_=>none
 |.block id a,s=>match E a s with
  |some (.exit j,s')=>if j=id then some (.normal,s') else some (.exit j,s')
  |r=>r
 |.loop a,s=>match E a s with
  |some (.normal,s')=>E (.loop a) s'
  |r=>r
 |.exit id,s=>some (.exit id,s)
 |.ret,s=>some (.ret,s)
 |.mask kt kb a,s=>E a (s.mask kt kb)
def exec (A:Nat→Option ae) (Pr:bm):Nat→AC→St→Option (Ex×St)
 |0,_,_=>none
 |n+1,c,s=>bQ A Pr (exec A Pr n) c s
def ue:Value→Option V
 |.bool b=>some (.pv (.bool b))
 |.int k n=>some (.pv (.int k n))
 |.string s=>some (.pv (.str s))
 |.pointer none=>some (.pv .nn)
 |.nilFunc=>some (.pv .qV)
 |.slice none 0 0=>some (.tl [])
 |.map none=>some .dR
 |_=>none
def cv:Value→Option V
 |.agg cs=>match ay ue cs.toList with
  |some l=>some (.agg l)
  |none=>none
 |v=>ue v
def bg (N M:Nat→Nat):Operand→Option bJ
 |.tmp t=>some (.tmp t)
 |.const v=>match cv v with
  |some x=>some (.val x)
  |none=>none
 |.func f=>if N (M f)=f then some (.val (.func (M f) [])) else none
 |.global _=>none
def zeroOf (P:Program) (t:TypeId):Option (List V):=
 match P.info? t with
 |some i=>match i.zero with
  |some z=>match ay ue z.cells.toList with
   |some l=>if l.length=i.size then some l else none
   |none=>none
  |none=>none
 |none=>none
def zeroV (P:Program) (t:TypeId):Option V:=((P.info? t).bind (·.zero)).bind ue
def cR (P:Program) (t:TypeId):Option Bool:=
 match P.underlying t with
 |some (.struct _)=>some true
 |some (.array _ _)=>some true
 |some _=>some false
 |none=>none
def cG (P:Program) (t:TypeId):Option Nat:=(P.info? t).map (·.size)
def iy (P:Program) (t:TypeId):Option (TypeId×Nat):=
 match P.underlying t with
 |some (.slice e)=>match P.info? e with
  |some i=>if i.bytes≤32768∧0<i.size∧i.zero.map (·.cells.size)=some i.size then some (e,i.size) else none
  |none=>none
 |_=>none
def loadT (P:Program) (t:TypeId):Option (Nat×Bool):=
 match cR P t,cG P t with
 |some true,some n=>some (n,true)
 |some false,some n=>if n=1 then some (1,false) else none
 |_,_=>none
def cg (P:Program):Nat→TypeId→Option (List Nat)
 |0,_=>none
 |d+1,t=>match P.underlying t with
  |some .bool=>some [0]
  |some (.int _)=>some [1]
  |some .string=>some [2]
  |some (.array n e)=>match cg P d e,loadT P e with
   |some ks,some (k,_)=>if k=ks.length then some ((List.replicate n ks).flatten) else none
   |_,_=>none
  |some (.struct fs)=>if P.stoodInHeld t then none else
    fs.toList.foldr (fun f (acc:Option (List Nat))=>match acc,cg P d f.type,loadT P f.type with
     |some l, some ks, some (k, _)=>if f.name≠ "_"∧k=ks.length then some (ks++l) else none
     |_,_,_=>none) (some [])
  |_=>none
def jn (P:Program):Nat→List Field→Bool
 |_,[]=>true
 |a,f::r=>f.offset==a&&jn P (a+(cG P f.type).getD 0) r
def dW (P:Program):Nat→TypeId→Bool
 |0,_=>false
 |d+1,t=>match P.underlying t with
  |some (.array _ e)=>dW P d e
  |some (.struct fs)=>jn P 0 fs.toList&&fs.toList.all fun f=>dW P d f.type
  |_=>true
def qL (P:Program) (t:TypeId):Option (Bool×List Nat):=
 match cg P 40 t,cR P t with
 |some ks,some ag=>if dW P 40 t&&P.eqGuardType P.depth t==false then some (ag,ks) else none
 |_,_=>none
def kN (P:Program) (N M:Nat→Nat) (fs:Array Field):List (Nat×Operand)→Option (List (Nat×Nat×bJ))
 |[]=>some []
 |(i,x)::r=>match fs[i]?,bg N M x,kN P N M fs r with
  |some f,some y,some l=>match cG P f.type with
   |some n=>some ((f.offset,n,y)::l)
   |none=>none
  |_,_,_=>none
def iz (N M:Nat→Nat) (k:Nat):List (Nat×Operand)→Option (List (Nat×Nat×bJ))
 |[]=>some []
 |(i,x)::r=>match bg N M x,iz N M k r with
  |some y,some l=>some ((i*k,k,y)::l)
  |_,_=>none
def iB (N M:Nat→Nat):Option Operand→Option (Option bJ)
 |none=>some none
 |some x=>match bg N M x with
  |some y=>some (some y)
  |none=>none
def DN (kb:List Nat) (d:Nat):Nat:=if kb.contains (100000+d) then 100000+d else d
def dj (P:Program) (N M:Nat→Nat) (pb:List Nat) (dst:Option Nat):Op→Option dL
 |.move x=>(bg N M x).map .Pp
 |.assign x=>(bg N M x).map .Pp
 |.pick c a b=>match bg N M c,bg N M a,bg N M b with
  |some c,some a,some b=>some (.pick c a b)
  |_,_,_=>none
 |.alloc t=>match zeroOf P t,dst with
  |some z,some d=>if z.all V.dF then some (.alloc (DN pb d) z) else none
  |_,_=>none
 |.box t x=>match loadT P t,bg N M x,dst with
  |some (n,_),some x,some d=>some (.box (DN pb d) n x)
  |_,_,_=>none
 |.build t parts=>match zeroOf P t,P.underlying t with
  |some z,some (.struct fs)=>match kN P N M fs parts.toList with
   |some l=>if fs.toList.all fun f=>(cG P f.type).isSome then some (.build z l) else none
   |none=>none
  |some z,some (.array _ e)=>match cG P e with
   |some k=>match iz N M k parts.toList with
    |some l=>some (.build z l)
    |none=>none
   |none=>none
  |_,_=>none
 |.buildSlice t len parts=>match iy P t with
  |some (e,k)=>match zeroOf P e,iz N M k parts.toList with
   |some z,some l=>if len*k≤16777216 then some (.lit k z len l) else none
   |_,_=>none
  |none=>none
 |.load t x=>match loadT P t,bg N M x with
  |some (n,a),some x=>some (.load n a x)
  |_,_=>none
 |.store t x v=>match loadT P t,bg N M x,bg N M v with
  |some (n,_),some x,some v=>some (.store n x v)
  |_,_,_=>none
 |.nilCheck x=>(bg N M x).map .vI
 |.binOp op t x y _=>match bg N M x,bg N M y with
  |some x,some y=>match P.underlying t with
   |some (.int _)=>some (.bin op x y)
   |some .string=>some (.bin op x y)
   |_=>match qL P t with
    |some (ag,ks)=>if op=.eql∨op=.neq then some (.Pq ag ks (op==.neq) x y) else none
    |none=>none
  |_,_=>none
 |.unOp op _ x=>(bg N M x).map (.un op)
 |.convert s d x=>match bg N M x,P.underlying s,P.underlying d with
  |some x,some (.int _),some (.int k)=>some (.conv k x)
  |some x,some (.int _),some .string=>some (.vJ x)
  |some x,some .string,some .string=>some (.vJ x)
  |_,_,_=>none
 |.makeFunc (.func f) first cap=>match ay (bg N M) cap.toList with
  |some l=>if N (M f)=f∧first.size=0 then some (.Gq (M f) l) else none
  |none=>none
 |.makeMap _ none=>some .qJ
 |.makeSlice t n c=>match iy P t with
  |some (e,k)=>match zeroOf P e,bg N M n,bg N M c with
   |some z,some n,some c=>if z.all V.calm then some (.make k z n c) else none
   |_,_,_=>none
  |none=>none
 |.slice t x lo hi mx=>match bg N M x,iB N M lo,iB N M hi,iB N M mx with
  |some x,some lo,some hi,some mx=>match P.underlying t with
   |some .string=>match mx with
    |none=>some (.Tz x lo hi)
    |some _=>none
   |some (.slice e)=>match cG P e with
    |some k=>match mx,hi with
     |some _,none=>none
     |_,_=>some (.sl k x lo hi mx)
    |none=>none
   |_=>none
  |_,_,_,_=>none
 |.fieldAddr t x i=>match P.underlying t,bg N M x with
  |some (.struct fs),some x=>match fs[i]? with
   |some f=>match cG P f.type with
    |some n=>if n=0 then none else some (.Sv f.offset x)
    |none=>none
   |none=>none
  |_,_=>none
 |.field t x i=>match P.underlying t,bg N M x with
  |some (.struct fs),some x=>match fs[i]? with
   |some f=>match loadT P f.type with
    |some (n,a)=>some (.part f.offset n a x)
    |none=>none
   |none=>none
  |_,_=>none
 |.indexAddr t x i=>match bg N M x,bg N M i,P.underlying t with
  |some x,some i,some (.slice e)=>match cG P e with
   |some k=>some (.idx k x i)
   |none=>none
  |some x,some i,some (.array n e)=>match cG P e with
   |some k=>some (.Gn n k x i)
   |none=>none
  |_,_,_=>none
 |.index t x i=>match bg N M x,bg N M i,P.underlying t with
  |some x,some i,some (.array n e)=>match loadT P e,cG P e with
   |some (k,a),some _=>some (.Tx n k a x i)
   |_,_=>none
  |some x,some i,some .string=>some (.Sw x i)
  |_,_,_=>none
 |.lookup t x i ok=>match bg N M x,bg N M i,P.underlying t with
  |some x,some i,some (.map k e)=>match zeroV P e,qL P k with
   |some z,some (ag,ks)=>some (.look ag ks z x i ok)
   |_,_=>none
  |_,_,_=>none
 |.mapUpdate t m k v=>match bg N M m,bg N M k,bg N M v,P.underlying t with
  |some m,some k,some v,some (.map kt _)=>match qL P kt with
   |some (ag,ks)=>some (.Gp ag ks m k v)
   |none=>none
  |_,_,_,_=>none
 |.insert t m k v=>match bg N M m,bg N M k,bg N M v,P.underlying t with
  |some m,some k,some v,some (.map kt _)=>match qL P kt with
   |some (ag,ks)=>some (.Gp ag ks m k v)
   |none=>none
  |_,_,_,_=>none
 |.extract x i=>(bg N M x).map (.ext · i)
 |.call c=>match c.callee,ay (bg N M) c.args.toList with
  |.value f,some args=>match bg N M f with
   |some f=>some (.call f args)
   |none=>none
  |.builtin .len,some [x]=>match (c.argTypes[0]?).bind P.underlying with
   |some .string=>some (.len 1 x)
   |some (.slice _)=>some (.len 0 x)
   |some (.map _ _)=>some (.len 2 x)
   |_=>none
  |.builtin .append,some [x,y]=>match c.argTypes[0]? with
   |some t=>match iy P t with
    |some (_,k)=>if c.argTypes=#[t,t] then some (.app k x y) else none
    |none=>none
   |none=>none
  |.builtin .clear,some [x]=>match (c.argTypes[0]?).bind (iy P)with
   |some (e,k)=>match zeroOf P e with
    |some z=>some (.Jf k z x)
    |none=>none
   |none=>none
  |.builtin .copy,some [x,y]=>match c.argTypes[0]? with
   |some t=>match iy P t with
    |some (_,k)=>if c.argTypes=#[t,t] then some (.copy k x y) else none
    |none=>none
   |none=>none
  |.builtin .min,some args=>some (.kx false args)
  |.builtin .max,some args=>some (.kx true args)
  |_,_=>none
 |.panic _=>some (.kx true [])
 |.makeInterface _ _=>some (.kx true [])
 |_=>none
def nu (ops:Array Oper) (o:Oper):Option (Option (Nat×Bool)):=
 match o.guard with
 |none=>some none
 |some (j,b)=>match (ops[j]?).bind (·.dst)with
  |some t=>some (some (t,b))
  |none=>none
def iD (P:Program) (N M:Nat→Nat) (nt:Nat) (pb:List Nat) (ops:Array Oper) (o:Oper):Option aC:=
 match dj P N M pb o.dst o.op,nu ops o with
 |some q,some g=>if o.dst.all (·<nt) then some ⟨o.dst,q,g⟩ else none
 |_,_=>none
def once:List Nat→List Nat→List Nat
 |acc,[]=>acc
 |acc,a::r=>if acc.contains a then once acc r else once (a::acc) r
def cD:List (List Nat)→List Oper→List (List Nat)
 |acc,[]=>acc
 |acc,o::r=>
  let ds:=(o.after.toList.filter (Region.binds .any ·)).map (·.on)
  cD (acc++[once [] (ds++ds.flatMap fun d=>acc.getD d [])]) r
def dL.looks:dL→Bool
 |.load ..|.len ..|.look ..|.idx ..|.sl ..=>true
 |_=>false
def dL.turns:dL→Bool
 |.alloc ..|.box ..|.lit ..|.store ..|.app ..|.make ..|.gk ..|.kC ..|.kD ..|.qJ|.Gp ..|.call ..|.Jf ..|.copy ..=>true
 |_=>false
def mn (a b:dL):Bool:=(a.turns&&(b.looks||b.turns))||(b.turns&&a.looks)
def ja (as:List aC) (ah:List Nat) (q:aC) (n:Nat):List Nat:=
 (List.range n).filter fun j=>!ah.contains j&&(match as[j]? with
  |some p=>mn p.op q.op
  |none=>false)
def rC (ops:List Oper) (as:List aC) (ahs:List (List Nat)):Bool:=
 (List.range ops.length).all fun i=>
  match ops[i]?,as[i]?,ahs[i]? with
  |some o,some q,some ah=>
   (o.after.toList.all fun e=>!Region.binds .any e||e.on<i)&&
   ((List.range i).all fun j=>ah.contains j||(match as[j]? with
    |some p=>p.apart q
    |none=>false))
  |_,_,_=>false
def cE (as:List aC) (ahs:List (List Nat)):List (aC×List Nat):=
 as.zipIdx.map fun(q,i)=>(q,ja as (ahs.getD i []) q i)
def gq (kb:List Nat):List Nat:=kb.filter fun s=>!dE s
def TC:dL→Bool
 |.make ..=>true
 |_=>false
def qX (l:List aC):Nat:=(l.filter fun o=>TC o.op).length
def mkNum (n:Nat):List aC→List aC
 |[]=>[]
 |o::r=>match o.op with
  |.make k z a b=>⟨o.dst,.gk n k z a b,o.guard⟩::mkNum (n+1) r
  |q=>⟨o.dst,q,o.guard⟩::mkNum n r
def TD:dL→Bool
 |.make ..|.lit ..|.app ..=>true
 |_=>false
def qY (l:List aC):Nat:=(l.filter fun o=>TD o.op).length
def eB (n:Nat):List aC→List aC
 |[]=>[]
 |o::r=>match o.op with
  |.make k z a b=>⟨o.dst,.gk n k z a b,o.guard⟩::eB (n+1) r
  |.lit k z a ps=>⟨o.dst,.kC n k z a ps,o.guard⟩::eB (n+1) r
  |.app k x y=>⟨o.dst,.kD n k x y,o.guard⟩::eB (n+1) r
  |q=>⟨o.dst,q,o.guard⟩::eB n r
def rD:Nat:=999998
abbrev DO:=List (List Nat×List Nat)
def vR:AC:=.region [⟨none,.un .not (.val (.pv (.int .i64 0))),none⟩] [] []
def uf:List Nat:=[999999]
def dI (P:Program) (N M:Nat→Nat) (nt:Nat):Code→DO→Option (AC×DO)
 |.skip,an=>some (.skip,an)
 |.region _ ops draw,an=>match an with
  |(kt,kb)::r=>if kb=uf then some (vR,r) else match ay (iD P N M nt kb ops) ops.toList with
   |some l=>
    if draw then
     if rC ops.toList l (cD [] ops.toList) then
      if kb.contains rD then some (.qK (qY l) (cE (eB 0 l) (cD [] ops.toList)) kt (gq kb),r)
      else if 2≤qX l then some (.qK (qX l) (cE (mkNum 0 l) (cD [] ops.toList)) kt (gq kb),r)
      else some (.draw (cE l (cD [] ops.toList)) kt (gq kb),r)
     else none
    else if kb.contains rD then some (.qK (qY l) ((eB 0 l).map fun q=>(q,[])) kt (gq kb),r)
    else some (.region l kt (gq kb),r)
   |none=>none
  |[]=>none
 |.seq a b,an=>match dI P N M nt a an with
  |some (x,an')=>match dI P N M nt b an' with
   |some (y,an'')=>some (.seq x y,an'')
   |none=>none
  |none=>none
 |.cond c a b,an=>match bg N M c,dI P N M nt a an with
  |some c,some (x,an')=>match dI P N M nt b an' with
   |some (y,an'')=>some (.cond c x y,an'')
   |none=>none
  |_,_=>none
 |.block id a,an=>match dI P N M nt a an with
  |some (x,an')=>some (.block id x,an')
  |none=>none
 |.loop a,an=>match an with
  |(kt,kb)::r=>match dI P N M nt a r with
   |some (x,an')=>some (.loop (.mask kt (gq kb) x),an')
   |none=>none
  |[]=>none
 |.exit id,an=>some (.exit id,an)
 |.ret,an=>some (.ret,an)
 |_,_=>none
def rE (P:Program):ResultVar→Option nq
 |.tmp t=>some (.tmp t)
 |.cell a t=>match loadT P t with
  |some (n,b)=>some (.cell a n b)
  |none=>none
def w5 (P:Program) (N M:Nat→Nat) (F:Nat) (an:DO) (fn:ae):Prop:=
 ∃go code, P.funcs[F]?=some go∧go.body=some code∧(go.name== "runtime.NumGoroutine")=false∧
  fn.oU≤go.ntmps∧dI P N M go.ntmps code an=some (fn.body,[])∧ay (rE P) go.results.toList=some fn.results
abbrev Lx:=Nat→Nat→Prop
def jo (L:Lx) (t b:Nat):Prop:=L 0 b∨(t≠0∧L 1 b)
def PV.one:PV→Bool
 |.agg _|.fr _ _=>false
 |_=>true
def PV.calm:PV→Bool
 |.ro _ _|.agg _|.fr _ _=>false
 |.func _ cap=>cap.isEmpty
 |_=>true
theorem PV.zt (p:PV):(V.pv p).calm=p.calm:=by cases p<;>rfl
theorem PV.kO {p:PV} (h:p.calm=true):p.one=true:=by cases p<;>simp[PV.calm,PV.one]at *
def ff {α:Type} (rows:List (List α)) (i j:Nat):Option α:=(rows[i]?).bind (·[j]?)
inductive dw (N:Nat→Nat) (L:Lx) (w:World):PV→Value→Prop
 |bool (b:Bool):dw N L w (.bool b) (.bool b)
 |int (k:IntKind) (n:Int):dw N L w (.int k n) (.int k n)
 |str (s:ByteArray):dw N L w (.str s) (.string s)
 |nn:dw N L w .nn (.pointer none)
 |qV:dw N L w .qV .nilFunc
 |aq (t:Nat) (rows:List (List PV)) (a:Option Addr) (ad:Addr) (cap k:Nat) (vs:Nat→Nat→Value)
   (hk:∀r∈rows,r.length=k) (hc:rows.length≤cap) (ha:0<rows.length→a=some ad∧ad.spot=none∧jo L t ad.block)
   (hcell:∀i j c,ff rows i j=some c→w.cell? ⟨ad.block,ad.off+(i*k+j),none⟩=some (vs i j))
   (hv:∀i j c,ff rows i j=some c→dw N L w c (vs i j)) (hp:t≤1→∀i j c,ff rows i j=some c→c.perm=true)
   (h1:∀i j c,ff rows i j=some c→c.calm=true):dw N L w (.aq t rows) (.slice a rows.length cap)
 |ro (t:Nat) (cs:List PV) (b off:Nat) (vs:Nat→Value) (ha:0<cs.length→jo L t b)
   (hcell:∀(j:Nat) (c:PV),cs[j]?=some c→w.cell? ⟨b,off+j,none⟩=some (vs j)) (hv:∀(j:Nat) (c:PV),cs[j]?=some c→dw N L w c (vs j))
   (h1:∀c∈cs,c.one=true):dw N L w (.ro t cs) (.pointer (some ⟨b,off,none⟩))
 |func (f:Nat) (cap:List PV) (arr:Array Value) (hs:arr.size=cap.length) (hv:∀(j:Nat) (c:PV),cap[j]?=some c→dw N L w c (arr.getD j undef)):
   dw N L w (.func f cap) (.func (.func (N f)) #[] arr)
 |agg (cs:List PV) (arr:Array Value) (hs:arr.size=cs.length) (hv:∀(j:Nat) (c:PV),cs[j]?=some c→dw N L w c (arr.getD j undef))
   (h1:∀c∈cs,c.one=true):dw N L w (.agg cs) (.agg arr)
theorem ic {w w':World} {b o:Nat} (h:w'.heap[b]?=w.heap[b]?):w'.cell? ⟨b,o,none⟩=w.cell? ⟨b,o,none⟩:=by simp[World.cell?,h]
theorem Bk {α:Type} {rows:List (List α)} {i j:Nat} {c:α} (h:ff rows i j=some c):i<rows.length:=by
 unfold ff at h
 rcases Wh i rows.length with h1|h1
 .exact h1
 .simp[List.getElem?_eq_none h1]at h
theorem jo.mono {L L':Lx} {t b:Nat} (hL:∀t b,L t b→L' t b) (h:jo L t b):jo L' t b:=by
 rcases h with h|⟨h,h'⟩
 .exact .inl (hL _ _ h)
 .exact .inr ⟨h,hL _ _ h'⟩
theorem dw.mono {N:Nat→Nat} {L L':Lx} {w w':World} {p:PV} {v:Value} (h:dw N L w p v) (hL:∀t b,L t b→L' t b)
  (hw:∀t b,L t b→w'.heap[b]?=w.heap[b]?):dw N L' w' p v:=by
 induction h with
 |bool b=>exact .bool b
 |int k n=>exact .int k n
 |str s=>exact .str s
 |nn=>exact .nn
 |qV=>exact .qV
 |aq t rows a ad cap k vs hk hc ha hcell hv hp h1 ih=>
  refine .aq t rows a ad cap k vs hk hc (fun h=>⟨(ha h).1,(ha h).2.1,(ha h).2.2.mono hL⟩) (fun i j c hc'=>?_) ih hp h1
  have hl:jo L t ad.block:=(ha (Nat.lt_of_le_of_lt (WA _) (Bk hc'))).2.2
  have hs:w'.heap[ad.block]?=w.heap[ad.block]?:=by
   rcases hl with hl|⟨_,hl⟩<;>exact hw _ _ hl
  rw[ic hs]; exact hcell i j c hc'
 |ro t cs b off vs ha hcell hv h1 ih=>
  refine .ro t cs b off vs (fun h=>(ha h).mono hL) (fun j c hc'=>?_) ih h1
  have hl:jo L t b:=ha (by
   rcases Wh j cs.length with h2|h2
   .omega
   .simp[List.getElem?_eq_none h2]at hc')
  have hs:w'.heap[b]?=w.heap[b]?:=by
   rcases hl with hl|⟨_,hl⟩<;>exact hw _ _ hl
  rw[ic hs]; exact hcell j c hc'
 |func f cap arr hs hv ih=>exact .func f cap arr hs ih
 |agg cs arr hs hv h1 ih=>exact .agg cs arr hs ih h1
theorem PV.w6 {p:PV} (h:p.perm=true):p.one=true:=by
 cases p<;>simp[PV.perm,PV.one]at *
theorem dw.fT {N:Nat→Nat} {L L':Lx} {w w':World} {p:PV} {v:Value} (h:dw N L w p v) (hp:p.perm=true)
  (hL:∀b,L 0 b→L' 0 b∧w'.heap[b]?=w.heap[b]?):dw N L' w' p v:=by
 induction h with
 |bool b=>exact .bool b
 |int k n=>exact .int k n
 |str s=>exact .str s
 |nn=>exact .nn
 |qV=>exact .qV
 |aq t rows a ad cap k vs hk hc ha hcell hv hp' h1 ih=>
  have ht:t=0:=by simpa [PV.perm]using hp
  subst ht
  have hpp:=hp' (by omega)
  refine .aq 0 rows a ad cap k vs hk hc (fun h=>⟨(ha h).1,(ha h).2.1,?_⟩) (fun i j c hc'=>?_) (fun i j c hc'=>ih i j c hc' (hpp i j c hc')) (fun _=>hpp) h1
  .rcases(ha h).2.2 with hl|⟨hl,_⟩
   .exact .inl (hL _ hl).1
   .exact absurd rfl hl
  .have hl:=(ha (Nat.lt_of_le_of_lt (WA _) (Bk hc'))).2.2
   have hs:w'.heap[ad.block]?=w.heap[ad.block]?:=by
    rcases hl with hl|⟨hl,_⟩
    .exact(hL _ hl).2
    .exact absurd rfl hl
   rw[ic hs]; exact hcell i j c hc'
 |ro t cs b off vs ha hcell hv h1 ih=>simp[PV.perm]at hp
 |func f cap arr hs hv ih=>
  have hc:cap=[]:=by simpa [PV.perm]using hp
  subst hc
  exact .func f [] arr hs (fun j c hc=>by simp at hc)
 |agg cs arr hs hv h1 ih=>simp[PV.perm]at hp
structure bh where
 sl:Nat→Prop
 bx:Nat→Nat
 na:Nat
 ar:Nat→Nat
 ad:Nat→Nat
 cap:Nat→Nat
 av:Nat→Nat
 ak:Nat→Nat
 an:Nat→Nat
 nm:Nat
 mp:Nat→Nat
def vT (w:World) (a:Option Addr) (n:Nat):Prop:=0<n→∀ad,a=some ad→∃arr ty,w.heap[ad.block]?=some (.cells arr ty (0,0))
theorem vT.nil {w:World} {a:Option Addr}:vT w a 0:=fun h=>absurd h (Nat.lt_irrefl 0)
inductive VR (N:Nat→Nat) (L:Lx) (e:bh) (w:World):V→Value→Prop
 |pv (p:PV) (v:Value) (h:dw N L w p v):VR N L e w (.pv p) v
 |tl (rows:List (List PV)) (a:Option Addr) (h:dw N L w (.aq 0 rows) (.slice a rows.length rows.length)) (hs:vT w a rows.length):VR N L e w (.tl rows) (.slice a rows.length rows.length)
 |own (id ax off len:Nat) (a:Option Addr) (cap:Nat) (h0:0<len→a.isSome=true) (h1:id<e.na) (h2:ax≤e.av id)
   (h3:ax=e.av id→off+len≤e.an id∧len≤cap∧off+cap≤e.cap id∧(0<cap→a=some ⟨e.ar id,e.ad id+off*e.ak id,none⟩)):VR N L e w (.own id ax off len) (.slice a len cap)
 |ptr (s off:Nat) (h:e.sl s):VR N L e w (.ptr s off) (.pointer (some ⟨e.bx s,off,none⟩))
 |du (id ax row col:Nat) (a:Addr) (h1:id<e.na) (h2:ax≤e.av id) (h3:ax=e.av id→a=⟨e.ar id,e.ad id+(row*e.ak id+col),none⟩):
   VR N L e w (.du id ax row col) (.pointer (some a))
 |func (f:Nat) (cap:List V) (arr:Array Value) (hs:arr.size=cap.length) (hv:∀(j:Nat) (c:V),cap[j]?=some c→VR N L e w c (arr.getD j undef)):
   VR N L e w (.func f cap) (.func (.func (N f)) #[] arr)
 |map (id:Nat) (h:id<e.nm):VR N L e w (.map id) (.map (some (e.mp id)))
 |dR:VR N L e w .dR (.map none)
 |agg (cs:List V) (arr:Array Value) (hs:arr.size=cs.length) (hv:∀(j:Nat) (c:V),cs[j]?=some c→VR N L e w c (arr.getD j undef)):VR N L e w (.agg cs) (.agg arr)
 |dy (cs:List V) (arr:Array Value) (hs:arr.size=cs.length) (hv:∀(j:Nat) (c:V),cs[j]?=some c→VR N L e w c (arr.getD j undef)):VR N L e w (.dy cs) (.tuple arr)
 |any (v:Value):VR N L e w .any v
structure Ext (L:Lx) (e:bh) (w:World) (L':Lx) (e':bh) (w':World):Prop where
 sub:∀t b,L t b→L' t b
 kept:∀t b,L t b→w'.heap[b]?=w.heap[b]?
 sl:∀s,e.sl s→e'.sl s∧e'.bx s=e.bx s
 na:e.na≤e'.na
 av:∀id,id<e.na→e.av id≤e'.av id∧(e'.av id=e.av id→e'.ar id=e.ar id∧e'.ad id=e.ad id∧e'.cap id=e.cap id∧e'.ak id=e.ak id∧e'.an id=e.an id)
 nm:e.nm≤e'.nm
 mp:∀id,id<e.nm→e'.mp id=e.mp id
theorem Ext.refl (L:Lx) (e:bh) (w:World):Ext L e w L e w:=
 ⟨fun _ _ h=>h,fun _ _ _=>rfl,fun _ h=>⟨h,rfl⟩,Wj _,fun _ _=>⟨Wj _,fun _=>⟨rfl,rfl,rfl,rfl,rfl⟩⟩,Wj _,fun _ _=>rfl⟩
theorem Ext.trans {L L' L'':Lx} {e e' e'':bh} {w w' w'':World} (h:Ext L e w L' e' w') (k:Ext L' e' w' L'' e'' w''):Ext L e w L'' e'' w'':=by
 refine⟨fun t b hb=>k.sub _ _ (h.sub _ _ hb),fun t b hb=>(k.kept _ _ (h.sub _ _ hb)).trans (h.kept _ _ hb),fun s hs=>?_,WM h.na k.na,fun id hid=>?_,WM h.nm k.nm,fun id hid=>?_⟩
 .obtain⟨h1,h2⟩:=h.sl s hs
  obtain⟨h3,h4⟩:=k.sl s h1
  exact⟨h3,h4.trans h2⟩
 .obtain⟨h1,h2⟩:=h.av id hid
  obtain⟨h3,h4⟩:=k.av id (W6 hid h.na)
  refine⟨WM h1 h3,fun he=>?_⟩
  have e1:e'.av id=e.av id:=by omega
  have e2:e''.av id=e'.av id:=by omega
  obtain⟨a1,a2,a3,a4,a5⟩:=h2 e1
  obtain⟨b1,b2,b3,b4,b5⟩:=h4 e2
  exact⟨b1.trans a1,b2.trans a2,b3.trans a3,b4.trans a4,b5.trans a5⟩
 .exact(k.mp id (W6 hid h.nm)).trans (h.mp id hid)
theorem VR.mono {N:Nat→Nat} {L L':Lx} {e e':bh} {w w':World} {x:V} {v:Value} (h:VR N L e w x v) (hx:Ext L e w L' e' w'):VR N L' e' w' x v:=by
 induction h with
 |pv p v h=>exact .pv p v (h.mono hx.sub hx.kept)
 |tl rows a h hs=>
  refine .tl rows a (h.mono hx.sub hx.kept) (fun hn ad' had=>?_)
  cases h with
  |aq _ _ _ ad _ _ _ _ _ ha _ _ _ _=>
   obtain⟨h1,_,h3⟩:=ha hn
   rw[h1]at had
   injection had with had
   subst had
   obtain⟨arr,ty,g⟩:=hs hn ad h1
   refine⟨arr,ty,?_⟩
   rcases h3 with h3|⟨h3,_⟩
   .rw[hx.kept _ _ h3]; exact g
   .exact absurd rfl h3
 |own id ax off len a cap h0 h1 h2 h3=>
  obtain⟨g1,g2⟩:=hx.av id h1
  refine .own id ax off len a cap h0 (W6 h1 hx.na) (WM h2 g1) (fun he=>?_)
  obtain⟨a1,a2,a3,a4,a5⟩:=g2 (by omega)
  rw[a1,a2,a3,a4,a5]
  exact h3 (by omega)
 |ptr s off h=>
  obtain⟨g1,g2⟩:=hx.sl s h
  rw[← g2]; exact .ptr s off g1
 |du id ax row col a h1 h2 h3=>
  obtain⟨g1,g2⟩:=hx.av id h1
  refine .du id ax row col a (W6 h1 hx.na) (WM h2 g1) (fun he=>?_)
  obtain⟨a1,a2,a3,a4,a5⟩:=g2 (by omega)
  rw[a1,a2,a4]
  exact h3 (by omega)
 |func f cap arr hs hv ih=>exact .func f cap arr hs ih
 |map id h=>rw[← hx.mp id h]; exact .map id (W6 h hx.nm)
 |dR=>exact .dR
 |agg cs arr hs hv ih=>exact .agg cs arr hs ih
 |dy cs arr hs hv ih=>exact .dy cs arr hs ih
 |any v=>exact .any v
def Block (w:World) (b n:Nat):Prop:=∃arr ty,w.heap[b]?=some (.cells arr ty (0,0))∧n≤arr.size
def fz (N:Nat→Nat) (L:Lx) (e:bh) (w:World) (b off:Nat) (cs:List V):Prop:=
 ∀(j:Nat) (c:V),cs[j]?=some c→c.calm=true∧∃v,w.cell? ⟨b,off+j,none⟩=some v∧VR N L e w c v
def kP (N:Nat→Nat) (L:Lx) (e:bh) (w:World) (b:Nat) (cs:List V):Prop:=
 ∀(j:Nat) (c:V),cs[j]?=some c→c.dF=true∧∃v,w.cell? ⟨b,j,none⟩=some v∧VR N L e w c v
def bK:Sum (List (List PV)) (List (List V))→Prop
 |.inl rows=>∀r∈rows,∀c∈r,c.perm=true
 |.inr _=>True
def oZ (N:Nat→Nat) (L:Lx) (w:World) (p:PV×PV) (m:MapEntry):Prop:=dw N L w p.1 m.key∧dw N L w p.2 m.val∧p.2.perm=true
def nw:PV→Bool
 |.bool _|.int _ _|.str _=>true
 |.agg cs=>cs.all fun|.bool _|.int _ _|.str _=>true|_=>false
 |_=>false
def w7:Array Value:=((List.range 20).map fun i:Nat=>Value.int .u64 ((10:Int)^i)).toArray
def rF (N:Nat→Nat) (L:Lx) (w:World):Prop:=∀g,N 1000000=100000+g→L 7777 g∧∃ty z,w.heap[g]?=some (.cells w7 ty z)
theorem rF.mono {N:Nat→Nat} {L L':Lx} {w w':World} (h:rF N L w) (hs:∀t b,L t b→L' t b) (hk:∀t b,L t b→w'.heap[b]?=w.heap[b]?):rF N L' w':=fun g hg=>by
 obtain⟨h1,h2⟩:=h g hg
 refine⟨hs _ _ h1,?_⟩
 rw[hk _ _ h1]
 exact h2
structure HR (N:Nat→Nat) (L:Lx) (e:bh) (W:Nat→Prop) (h:aa) (w:World):Prop where
 sl:∀s,e.sl s↔(aE s h.bx).isSome=true
 bx:∀s cs,aE s h.bx=some cs→Block w (e.bx s) cs.length∧kP N L e w (e.bx s) cs
 na:e.na=h.ar.length
 ax:∀(id:Nat) (a:aL),h.ar[id]?=some a→e.av id=a.ax∧e.ak id=a.k∧e.an id=a.size∧(a.k=0→a.rows=[])
 ar:∀(id:Nat) (a:aL),h.ar[id]?=some a→a.k≠0→a.size≤e.cap id∧Block w (e.ar id) (e.ad id+e.cap id*a.k)∧(∀r∈a.rows,r.length=a.k)∧
  (∀i r,a.rows[i]?=some r→fz N L e w (e.ar id) (e.ad id+i*a.k) r)∧bK a.body
 nm:e.nm=h.mp.length
 mp:∀(id:Nat) (m:List (PV×PV)),h.mp[id]?=some m→∃es clock,w.heap[e.mp id]?=some (.map es clock)∧es.size=m.length∧
  ∀(i:Nat) (p:PV×PV),m[i]?=some p→nw p.1=true∧∃x,es[i]?=some x∧oZ N L w p x
 tL:∀s,e.sl s→W (e.bx s)∧∀t,¬L t (e.bx s)
 mm:∀id,id<e.na→e.ak id≠0→W (e.ar id)∧∀t,¬L t (e.ar id)
 vK:∀id,id<e.nm→W (e.mp id)∧∀t,¬L t (e.mp id)
 zl:∀s s',e.sl s→e.sl s'→e.bx s=e.bx s'→s=s'
 vL:∀s id,e.sl s→id<e.na→e.ak id≠0→e.bx s≠e.ar id
 vM:∀i j,i<e.na→j<e.na→e.ak i≠0→e.ak j≠0→e.ar i=e.ar j→i=j
 zq:∀i j,i<e.nm→j<e.nm→e.mp i=e.mp j→i=j
 mE:∀t b,L t b→b<w.heap.size
 wide:∀b,w.heap.size≤b→W b
 zm:rF N L w
structure Fr (W:Nat→Prop) (w w':World):Prop where
 os:w'.os=w.os
 tape:w'.tape=w.tape
 output:w'.output=w.output
 size:w.heap.size≤w'.heap.size
 kept:∀b,b<w.heap.size→¬W b→w'.heap[b]?=w.heap[b]?
 drawn:w.drawn≤w'.drawn
theorem Fr.refl (W:Nat→Prop) (w:World):Fr W w w:=⟨rfl,rfl,rfl,Wj _,fun _ _ _=>rfl,Wj _⟩
theorem Fr.trans {W:Nat→Prop} {a b c:World} (h:Fr W a b) (k:Fr W b c):Fr W a c:=
 ⟨k.os.trans h.os,k.tape.trans h.tape,k.output.trans h.output,WM h.size k.size,fun i hi hw=>(k.kept i (W6 hi h.size) hw).trans (h.kept i hi hw),WM h.drawn k.drawn⟩
structure Nx (N:Nat→Nat) (W:Nat→Prop) (L:Lx) (e:bh) (w:World) (L':Lx) (e':bh) (h':aa) (w':World):Prop where
 hr:HR N L' e' W h' w'
 ext:Ext L e w L' e' w'
 fr:Fr W w w'
 new:∀t b,L' t b→L t b∨(t=0∧W b)
theorem Nx.refl {N:Nat→Nat} {W:Nat→Prop} {L:Lx} {e:bh} {w:World} {h:aa} (hr:HR N L e W h w):Nx N W L e w L e h w:=
 ⟨hr,Ext.refl _ _ _,Fr.refl _ _,fun _ _ h=>.inl h⟩
theorem Nx.trans {N:Nat→Nat} {W:Nat→Prop} {L L' L'':Lx} {e e' e'':bh} {w w' w'':World} {h' h'':aa} (h:Nx N W L e w L' e' h' w') (k:Nx N W L' e' w' L'' e'' h'' w''):Nx N W L e w L'' e'' h'' w'':=
 ⟨k.hr,h.ext.trans k.ext,h.fr.trans k.fr,fun t b hb=>by
  rcases k.new t b hb with hb|hb
  .exact h.new t b hb
  .exact .inr hb⟩
variable {N:Nat→Nat} {W:Nat→Prop} {L L':Lx} {e e':bh} {h:aa} {w w':World}
theorem Block.out {b n:Nat} (k:Block w b n):∃arr ty,w.heap[b]?=some (.cells arr ty (0,0))∧n≤arr.size:=k
theorem Block.same {b n:Nat} (k:Block w b n) (hs:w'.heap[b]?=w.heap[b]?):Block w' b n:=by
 obtain⟨arr,ty,h1,h2⟩:=k
 exact⟨arr,ty,hs.trans h1,h2⟩
theorem Block.lt {b n:Nat} (k:Block w b n):b<w.heap.size:=by
 obtain⟨arr,ty,h1,_⟩:=k
 exact(Wr.1 h1).1
theorem fz.mono {b off:Nat} {cs:List V} (k:fz N L e w b off cs) (hx:Ext L e w L' e' w') (hs:w'.heap[b]?=w.heap[b]?):fz N L' e' w' b off cs:=by
 intro j c hc
 obtain⟨h1,v,h2,h3⟩:=k j c hc
 exact⟨h1,v,(ic hs).trans h2,h3.mono hx⟩
theorem kP.mono {b:Nat} {cs:List V} (k:kP N L e w b cs) (hx:Ext L e w L' e' w') (hs:w'.heap[b]?=w.heap[b]?):kP N L' e' w' b cs:=by
 intro j c hc
 obtain⟨h1,v,h2,h3⟩:=k j c hc
 exact⟨h1,v,(ic hs).trans h2,h3.mono hx⟩
theorem oZ.mono {p:PV×PV} {m:MapEntry} (k:oZ N L w p m) (hx:Ext L e w L' e' w'):oZ N L' w' p m:=
 ⟨k.1.mono hx.sub hx.kept,k.2.1.mono hx.sub hx.kept,k.2.2⟩
theorem ct (o:Obj) {b:Nat} (hb:b<w.heap.size):(w.alloc o).heap[b]?=w.heap[b]?:=by
 show (w.heap.push o)[b]?=_
 rw[Array.getElem?_push,if_neg (by omega)]
theorem Fr.alloc (o:Obj):Fr W w (w.alloc o):=⟨rfl,rfl,rfl,by simp,fun _ hb _=>ct o hb,Nat.le_refl _⟩
theorem HR.ky (hr:HR N L e W h w) {s:Nat} (hs:e.sl s):e.bx s<w.heap.size:=by
 obtain⟨cs,hcs⟩:=Option.isSome_iff_exists.1 ((hr.sl s).1 hs)
 exact(hr.bx s cs hcs).1.lt
theorem HR.Jg (hr:HR N L e W h w) {id:Nat} (hi:id<e.na):∃a,h.ar[id]?=some a∧e.av id=a.ax∧e.ak id=a.k∧e.an id=a.size∧(a.k=0→a.rows=[]):=by
 have hi':id<h.ar.length:=by rw[← hr.na]; exact hi
 exact⟨h.ar[id],Wb hi',hr.ax id _ (Wb hi')⟩
theorem HR.gP (hr:HR N L e W h w) {id:Nat} (hi:id<e.na) (hk:e.ak id≠0):e.ar id<w.heap.size:=by
 obtain⟨a,ha,_,h2,_,_⟩:=hr.Jg hi
 exact(hr.ar id a ha (by rw[← h2]; exact hk)).2.1.lt
theorem HR.zu (hr:HR N L e W h w) {id:Nat} (hi:id<e.nm):∃m,h.mp[id]?=some m:=by
 have hi':id<h.mp.length:=by rw[← hr.nm]; exact hi
 exact⟨h.mp[id],Wb hi'⟩
theorem HR.w8 (hr:HR N L e W h w) {id:Nat} (hi:id<e.nm):e.mp id<w.heap.size:=by
 obtain⟨m,hm⟩:=hr.zu hi
 obtain⟨es,cl,h1,_⟩:=hr.mp id m hm
 exact(Wr.1 h1).1
theorem HR.quiet (hr:HR N L e W h w) (hs:∀b,b<w.heap.size→w'.heap[b]?=w.heap[b]?) (hz:w.heap.size≤w'.heap.size)
  (hsub:∀t b,L t b→L' t b) (hnew:∀t b,L' t b→L t b∨(w.heap.size≤b∧b<w'.heap.size)):HR N L' e W h w'∧Ext L e w L' e w':=by
 have hx:Ext L e w L' e w':={ Ext.refl L e w with sub:=hsub,kept:=fun _ _ hb=>hs _ (hr.mE _ _ hb) }
 refine⟨⟨hr.sl,fun s cs hc=>?_,hr.na,hr.ax,fun id a ha hk=>?_,hr.nm,fun id m hm=>?_,fun s hs'=>?_,fun id hi hk=>?_,fun id hi=>?_,hr.zl,hr.vL,hr.vM,hr.zq,fun t b hb=>?_,fun b hb=>hr.wide b (by omega),hr.zm.mono hx.sub hx.kept⟩,hx⟩
 .obtain⟨h1,h2⟩:=hr.bx s cs hc
  have:=hs _ h1.lt
  exact⟨h1.same this,h2.mono hx this⟩
 .obtain⟨h1,h2,h3,h4,h5⟩:=hr.ar id a ha hk
  have:=hs _ h2.lt
  exact⟨h1,h2.same this,h3,fun i r hi=>(h4 i r hi).mono hx this,h5⟩
 .obtain⟨es,cl,h1,h2,h3⟩:=hr.mp id m hm
  have hlt:=(Wr.1 h1).1
  refine⟨es,cl,(hs _ hlt).trans h1,h2,fun i p hp=>?_⟩
  obtain⟨g1,x,g2,g3⟩:=h3 i p hp
  exact⟨g1,x,g2,g3.mono hx⟩
 .refine⟨(hr.tL s hs').1,fun t hl=>?_⟩
  rcases hnew _ _ hl with hl|hl
  .exact(hr.tL s hs').2 t hl
  .have:=hr.ky hs'; omega
 .refine⟨(hr.mm id hi hk).1,fun t hl=>?_⟩
  rcases hnew _ _ hl with hl|hl
  .exact(hr.mm id hi hk).2 t hl
  .have:=hr.gP hi hk; omega
 .refine⟨(hr.vK id hi).1,fun t hl=>?_⟩
  rcases hnew _ _ hl with hl|hl
  .exact(hr.vK id hi).2 t hl
  .have:=hr.w8 hi; omega
 .rcases hnew _ _ hb with hb|hb
  .exact W6 (hr.mE _ _ hb) hz
  .omega
theorem Fr.drew:Fr W w w.drew:=⟨rfl,rfl,rfl,Wj _,fun _ _ _=>rfl,XM _⟩
theorem Nx.drew (hr:HR N L e W h w):Nx N W L e w L e h w.drew:=by
 obtain⟨h1,h2⟩:=hr.quiet (w':=w.drew) (L':=L) (fun _ _=>rfl) (Wj _) (fun _ _ hb=>hb) (fun _ _ hb=>.inl hb)
 exact⟨h1,h2,Fr.drew,fun _ _ hb=>.inl hb⟩
def Lx.add (L:Lx) (c:Nat):Lx:=fun t b=>L t b∨(t=0∧b=c)
theorem Nx.still (hr:HR N L e W h w) (o:Obj):Nx N W L e w (L.add w.heap.size) e h (w.alloc o):=by
 obtain⟨h1,h2⟩:=hr.quiet (w':=w.alloc o) (L':=L.add w.heap.size) (fun _ hb=>ct o hb) (by simp) (fun _ _ hb=>.inl hb)
  (fun t b hb=>by
   rcases hb with hb|⟨_,rfl⟩
   .exact .inl hb
   .exact .inr ⟨Nat.le_refl _,by simp⟩)
 refine⟨h1,h2,Fr.alloc o,fun t b hb=>?_⟩
 rcases hb with hb|⟨h0,rfl⟩
 .exact .inl hb
 .exact .inr ⟨h0,hr.wide _ (Wj _)⟩
theorem Nx.idle (hr:HR N L e W h w) (o:Obj):Nx N W L e w L e h (w.alloc o):=by
 obtain⟨h1,h2⟩:=hr.quiet (w':=w.alloc o) (L':=L) (fun _ hb=>ct o hb) (by simp) (fun _ _ hb=>hb) (fun _ _ hb=>.inl hb)
 exact⟨h1,h2,Fr.alloc o,fun _ _ hb=>.inl hb⟩
theorem dB {α:Type} (s t:Nat) (c:List V):∀bx:List (Nat×List V),aE t (dM s c bx)=if s=t then some c else aE t bx
 |[]=>by simp[dM,aE]
 |(u,d)::r=>by
  unfold dM
  by_cases hu:u=s
  .subst hu
   rw[if_pos rfl]
   unfold aE
   split<;>rfl
  .rw[if_neg hu]
   unfold aE
   rw[dB (α:=α) s t c r]
   by_cases ht:u=t
   .rw[if_pos ht,if_pos ht,if_neg (by omega)]
   .rw[if_neg ht,if_neg ht]
def fO {α:Type} (f:Nat→α) (i:Nat) (x:α):Nat→α:=fun j=>if j=i then x else f j
theorem aF {α:Type} (f:Nat→α) (i:Nat) (x:α):fO f i x i=x:=by simp[fO]
theorem ai {α:Type} (f:Nat→α) {i j:Nat} (x:α) (hne:j≠i):fO f i x j=f j:=by simp[fO,hne]
def bh.qa (e:bh) (s b:Nat):bh:={ e with sl:=fun t=>e.sl t∨t=s,bx:=fO e.bx s b }
theorem Nx.DP (hr : HR N L e W h w) {s : Nat} (hs : aE s h.bx = none) {cs : List V} {arr : Array Value} (ty : TypeId) (hz : arr.size = cs.length)
    (hc : ∀ (j : Nat) (c : V),cs[j]? = some c → c.dF = true ∧ VR N L e w c (arr.getD j undef)) :
    Nx N W L e w L (e.qa s w.heap.size) { h with bx := dM s cs h.bx } (w.alloc (.cells arr ty)) := by
  have hns : ¬ e.sl s := fun hh => by have := (hr.sl s).1 hh; simp [hs] at this
  have hne : ∀ t,e.sl t → t ≠ s := fun t ht he => hns (he ▸ ht)
  have hx : Ext L e w L (e.qa s w.heap.size) (w.alloc (.cells arr ty)) :=
    { sub := fun _ _ hb => hb,kept := fun _ _ hb => ct _ (hr.mE _ _ hb),sl := fun t ht => ⟨.inl ht,ai _ _ (hne _ ht)⟩,na := Wj _,
      av := fun _ _ => ⟨Wj _,fun _ => ⟨rfl,rfl,rfl,rfl,rfl⟩⟩,nm := Wj _,mp := fun _ _ => rfl }
  have hnew : (w.alloc (.cells arr ty)).heap[w.heap.size]? = some (.cells arr ty (0,0)) := heap_alloc_new w _
  refine ⟨⟨fun t => ?_,fun t ds hd => ?_,hr.na,hr.ax,fun id a ha hk => ?_,hr.nm,fun id m hm => ?_,fun t ht => ?_,hr.mm,hr.vK,fun t u ht hu heq => ?_,fun t id ht hi hk => ?_,hr.vM,hr.zq,
    fun t b hb => by have := hr.mE t b hb; simp; omega,fun b hb => hr.wide b (by simp at hb; omega),hr.zm.mono hx.sub hx.kept⟩,hx,Fr.alloc _,fun _ _ hb => .inl hb⟩
  . show e.sl t ∨ t = s ↔ _
    rw [dB (α := Unit)]
    by_cases ht : s = t
    . subst ht; simp
    . rw [if_neg ht,hr.sl t]
      simp [Ne.symm ht]
  . rw [dB (α := Unit)] at hd
    by_cases ht : s = t
    . subst ht
      rw [if_pos rfl] at hd
      injection hd with hd
      subst hd
      show Block _ (fO e.bx s w.heap.size s) _ ∧ kP _ _ _ _ (fO e.bx s w.heap.size s) _
      rw [aF]
      refine ⟨⟨arr,ty,hnew,by omega⟩,fun j c hj => ?_⟩
      obtain ⟨g1,g2⟩ := hc j c hj
      have hjl : j < arr.size := by rw [hz]; exact (V9.1 hj).1
      refine ⟨g1,arr.getD j undef,?_,g2.mono hx⟩
      rw [cell_of_row _ _ _ _ _ _ hnew]
      simp [Array.getD,hjl]
    . rw [if_neg ht] at hd
      obtain ⟨h1,h2⟩ := hr.bx t ds hd
      show Block _ (fO e.bx s w.heap.size t) _ ∧ kP _ _ _ _ (fO e.bx s w.heap.size t) _
      rw [ai _ _ (Ne.symm ht)]
      have := ct (.cells arr ty) h1.lt
      exact ⟨h1.same this,h2.mono hx this⟩
  . obtain ⟨h1,h2,h3,h4,h5⟩ := hr.ar id a ha hk
    have := ct (.cells arr ty) h2.lt
    exact ⟨h1,h2.same this,h3,fun i r hi => (h4 i r hi).mono hx this,h5⟩
  . obtain ⟨es,cl,h1,h2,h3⟩ := hr.mp id m hm
    have hlt := (Wr.1 h1).1
    refine ⟨es,cl,(ct _ hlt).trans h1,h2,fun i p hp => ?_⟩
    obtain ⟨g1,x,g2,g3⟩ := h3 i p hp
    exact ⟨g1,x,g2,g3.mono hx⟩
  . show W (fO e.bx s w.heap.size t) ∧ ∀ u,¬ L u (fO e.bx s w.heap.size t)
    rcases ht with ht | rfl
    . rw [ai _ _ (hne _ ht)]
      exact hr.tL t ht
    . rw [aF]
      exact ⟨hr.wide _ (Wj _),fun u hu => by have := hr.mE _ _ hu; omega⟩
  . change fO e.bx s w.heap.size t = fO e.bx s w.heap.size u at heq
    rcases ht with ht | rfl <;> rcases hu with hu | rfl
    . rw [ai _ _ (hne _ ht),ai _ _ (hne _ hu)] at heq
      exact hr.zl t u ht hu heq
    . rw [ai _ _ (hne _ ht),aF] at heq
      have := hr.ky ht; omega
    . rw [ai _ _ (hne _ hu),aF] at heq
      have := hr.ky hu; omega
    . rfl
  . show fO e.bx s w.heap.size t ≠ e.ar id
    rcases ht with ht | rfl
    . rw [ai _ _ (hne _ ht)]
      exact hr.vL t id ht hi hk
    . rw [aF]
      have := hr.gP hi hk
      omega
theorem setRow_other {g b:Nat} (w:World) (arr:Array Value) (hne:b≠g):(w.setRow g arr).heap[b]?=w.heap[b]?:=by
 simp only[World.setRow,Array.getElem?_modify]
 rw[if_neg (Ne.symm hne)]
theorem Fr.setRow {g:Nat} (hg:W g) (arr:Array Value):Fr W w (w.setRow g arr):=
 ⟨rfl,rfl,rfl,by simp,fun b _ hb=>setRow_other w arr (fun he=>hb (he ▸ hg)),Nat.le_refl _⟩
theorem HR.other (_hr:HR N L e W h w) {g:Nat} (arr:Array Value) (hl:∀t,¬L t g):Ext L e w L e (w.setRow g arr):=
  { Ext.refl L e w with kept:=fun _ _ hb=>setRow_other w arr (fun he=>hl _ (he ▸ hb)) }
theorem fg {b g:Nat} {es:Array MapEntry} {cl:Nat} {arr:Array Value} {ty:TypeId} (h1:w.heap[b]?=some (.map es cl)) (h2:w.heap[g]?=some (.cells arr ty (0,0))):b≠g:=by
 rintro rfl
 rw[h1]at h2
 cases h2
theorem Nx.DQ (hr:HR N L e W h w) {s off:Nat} {cs news:List V} {arr:Array Value} {ty:TypeId} {vs:List Value} (hs:aE s h.bx=some cs)
  (hg:w.heap[e.bx s]?=some (.cells arr ty (0,0))) (hfit:off+news.length≤cs.length) (hz:vs.length=news.length)
  (hc:∀(j:Nat) (c:V),news[j]?=some c→c.dF=true∧∃v,vs[j]?=some v∧VR N L e w c v):
  Nx N W L e w L e { h with bx:=dM s (setAt cs off news) h.bx } (w.setRow (e.bx s) (arr.toList.take off++vs++arr.toList.drop (off+vs.length)).toArray):=by
 have hsl:e.sl s:=(hr.sl s).2 (by rw[hs]; rfl)
 have hx:=hr.other (g:=e.bx s) (arr.toList.take off++vs++arr.toList.drop (off+vs.length)).toArray (hr.tL s hsl).2
 obtain⟨⟨arr',ty',hb1,hb2⟩,hcells⟩:=hr.bx s cs hs
 rw[hg]at hb1
 injection hb1 with hb1
 injection hb1 with hb1 hb3
 subst hb1; subst hb3
 have hsame:=setRow_heap w (e.bx s) arr (arr.toList.take off++vs++arr.toList.drop (off+vs.length)).toArray ty (0,0) hg
 refine⟨⟨fun t=>?_,fun t ds hd=>?_,hr.na,hr.ax,fun id a ha hk=>?_,hr.nm,fun id m hm=>?_,hr.tL,hr.mm,hr.vK,hr.zl,hr.vL,hr.vM,hr.zq,
  fun t b hb=>by have:=hr.mE t b hb; simpa using this,fun b hb=>hr.wide b (by simpa using hb),hr.zm.mono hx.sub hx.kept⟩,hx,Fr.setRow (hr.tL s hsl).1 _,fun _ _ hb=>.inl hb⟩
 .rw[dB (α:=Unit)]
  by_cases ht:s=t
  .subst ht; simp[hsl]
  .rw[if_neg ht]; exact hr.sl t
 .rw[dB (α:=Unit)]at hd
  by_cases ht:s=t
  .subst ht
   rw[if_pos rfl]at hd
   injection hd with hd
   subst hd
   refine⟨⟨_,ty,hsame,?_⟩,fun j c hj=>?_⟩
   .simp[setAt]; omega
   .rw[cell_of_row _ _ _ _ _ _ hsame]
    unfold setAt at hj
    simp only[List.getElem?_toArray]
    have hoff:off≤arr.toList.length:=by simp; omega
    rcases Wh j off with h1|h1
    .rw[List.append_assoc,List.getElem?_append_left (by simp; omega),List.getElem?_take,if_pos h1]at hj
     obtain⟨g1,v,g2,g3⟩:=hcells j c hj
     rw[cell_of_row _ _ _ _ _ _ hg]at g2
     refine⟨g1,v,?_,g3.mono hx⟩
     rw[List.append_assoc,List.getElem?_append_left (by simp; omega),List.getElem?_take,if_pos h1,Array.getElem?_toList]
     exact g2
    .rcases Wh j (off+news.length)with h2|h2
     .rw[List.append_assoc,List.getElem?_append_right (by simp; omega),List.getElem?_append_left (by simp; omega)]at hj
      have hl1:(cs.take off).length=off:=by simp; omega
      rw[hl1]at hj
      obtain⟨g1,v,g2,g3⟩:=hc _ c hj
      refine⟨g1,v,?_,g3.mono hx⟩
      rw[List.append_assoc,List.getElem?_append_right (by simp; omega),List.getElem?_append_left (by simp; omega)]
      have hl2:(arr.toList.take off).length=off:=by simp; omega
      rw[hl2]
      exact g2
     .rw[List.getElem?_append_right (by simp; omega),List.getElem?_drop]at hj
      have hl1:off+news.length+(j - (cs.take off++news).length)=j:=by simp; omega
      rw[hl1]at hj
      obtain⟨g1,v,g2,g3⟩:=hcells j c hj
      rw[cell_of_row _ _ _ _ _ _ hg]at g2
      refine⟨g1,v,?_,g3.mono hx⟩
      rw[List.getElem?_append_right (by simp; omega),List.getElem?_drop]
      have hl2:off+vs.length+(j - (arr.toList.take off++vs).length)=j:=by simp; omega
      rw[hl2,Wo]
      exact g2
  .rw[if_neg ht]at hd
   obtain⟨h1,h2⟩:=hr.bx t ds hd
   have hne:e.bx t≠e.bx s:=fun he=>ht (hr.zl s t hsl ((hr.sl t).2 (by rw[hd]; rfl)) he.symm)
   have:=setRow_other w (arr.toList.take off++vs++arr.toList.drop (off+vs.length)).toArray hne
   exact⟨h1.same this,h2.mono hx this⟩
 .obtain⟨h1,h2,h3,h4,h5⟩:=hr.ar id a ha hk
  have hid:id<e.na:=by rw[hr.na]; exact(V9.1 ha).1
  have hk':e.ak id≠0:=by rw[(hr.ax id a ha).2.1]; exact hk
  have:=setRow_other w (arr.toList.take off++vs++arr.toList.drop (off+vs.length)).toArray (hr.vL s id hsl hid hk').symm
  exact⟨h1,h2.same this,h3,fun i r hi=>(h4 i r hi).mono hx this,h5⟩
 .obtain⟨es,cl,h1,h2,h3⟩:=hr.mp id m hm
  refine⟨es,cl,(setRow_other w _ (fg h1 hg)).trans h1,h2,fun i p hp=>?_⟩
  obtain⟨g1,x,g2,g3⟩:=h3 i p hp
  exact⟨g1,x,g2,g3.mono hx⟩
end Go.Pv
namespace Go.Pv
variable {N:Nat→Nat} {W:Nat→Prop} {L L':Lx} {e e':bh} {h:aa} {w w':World}
def bh.cU (e:bh) (b d c:Nat) (a:aL):bh:=
  { e with na:=e.na+1,ar:=fO e.ar e.na b,ad:=fO e.ad e.na d,cap:=fO e.cap e.na c,av:=fO e.av e.na a.ax,ak:=fO e.ak e.na a.k,an:=fO e.an e.na a.size }
def bh.bo (e:bh) (id b d c:Nat) (a:aL):bh:=
  { e with ar:=fO e.ar id b,ad:=fO e.ad id d,cap:=fO e.cap id c,av:=fO e.av id a.ax,ak:=fO e.ak id a.k,an:=fO e.an id a.size }
def Jh (N:Nat→Nat) (L:Lx) (e:bh) (w:World) (b d:Nat) (a:aL):Prop:=
 ∀(i:Nat) (r:List V),a.rows[i]?=some r→fz N L e w b (d+i*a.k) r
theorem bG {i n:Nat} (h:i<n):i≠n:=by omega
theorem Nx.vU (hr : HR N L e W h w) {b d c : Nat} (a : aL) (hW : W b) (hL : ∀ t,¬ L t b) (hbx : ∀ s,e.sl s → e.bx s ≠ b) (hbar : ∀ id,id < e.na → e.ak id ≠ 0 → e.ar id ≠ b)
    (hk0 : a.k ≠ 0) (hc : a.size ≤ c) (hb : Block w b (d + c * a.k)) (hk : ∀ r ∈ a.rows,r.length = a.k) (hrows : Jh N L e w b d a) (hp : bK a.body) :
    Nx N W L e w L (e.cU b d c a) { h with ar := h.ar ++ [a] } w := by
  have hx : Ext L e w L (e.cU b d c a) w :=
    { Ext.refl L e w with
      sl := fun s hs => ⟨hs,rfl⟩,na := XM _
      av := fun id hi => by
        have hn := bG hi
        exact ⟨Nat.le_of_eq (ai _ _ hn).symm,fun _ => ⟨ai _ _ hn,ai _ _ hn,ai _ _ hn,ai _ _ hn,ai _ _ hn⟩⟩ }
  have hcase : ∀ (id : Nat) (a' : aL),(h.ar ++ [a])[id]? = some a' → (id < e.na ∧ h.ar[id]? = some a') ∨ (id = e.na ∧ a' = a) := by
    intro id a' ha
    rw [hr.na]
    rcases Wh id h.ar.length with h1 | h1
    . rw [We h1] at ha
      exact .inl ⟨h1,ha⟩
    . rw [Wn h1] at ha
      have : id - h.ar.length = 0 := by
        rcases Wh 0 (id - h.ar.length) with h2 | h2
        . rw [List.getElem?_eq_none (by simp; omega)] at ha; cases ha
        . omega
      rw [this] at ha
      simp at ha
      exact .inr ⟨by omega,ha.symm⟩
  refine ⟨⟨hr.sl,fun s cs hs => ?_,by simp [bh.cU,hr.na],fun id a' ha => ?_,fun id a' ha hk' => ?_,hr.nm,fun id m hm => ?_,hr.tL,fun id hi hk' => ?_,hr.vK,hr.zl,fun s id hs hi hk' => ?_,fun i j hi hj hki hkj heq => ?_,hr.zq,hr.mE,hr.wide,hr.zm⟩,
    hx,Fr.refl _ _,fun _ _ hb => .inl hb⟩
  . obtain ⟨h1,h2⟩ := hr.bx s cs hs
    exact ⟨h1,h2.mono hx rfl⟩
  . rcases hcase id a' ha with ⟨hi,ha⟩ | ⟨rfl,rfl⟩
    . simp only [bh.cU,ai _ _ (bG hi)]
      exact hr.ax id a' ha
    . simp [bh.cU,aF,hk0]
  . rcases hcase id a' ha with ⟨hi,ha⟩ | ⟨rfl,rfl⟩
    . simp only [bh.cU,ai _ _ (bG hi)]
      obtain ⟨h1,h2,h3,h4,h5⟩ := hr.ar id a' ha hk'
      exact ⟨h1,h2,h3,fun i r hi' => (h4 i r hi').mono hx rfl,h5⟩
    . simp only [bh.cU,aF]
      exact ⟨hc,hb,hk,fun i r hi' => (hrows i r hi').mono hx rfl,hp⟩
  . obtain ⟨es,cl,h1,h2,h3⟩ := hr.mp id m hm
    refine ⟨es,cl,h1,h2,fun i p hp' => ?_⟩
    obtain ⟨g1,x,g2,g3⟩ := h3 i p hp'
    exact ⟨g1,x,g2,g3⟩
  . change id < e.na + 1 at hi
    rcases Wh id e.na with h1 | h1
    . simp only [bh.cU,ai _ _ (bG h1)] at hk' ⊢
      exact hr.mm id h1 hk'
    . obtain rfl : id = e.na := by omega
      simp only [bh.cU,aF]
      exact ⟨hW,hL⟩
  . change id < e.na + 1 at hi
    rcases Wh id e.na with h1 | h1
    . simp only [bh.cU,ai _ _ (bG h1)] at hk' ⊢
      exact hr.vL s id hs h1 hk'
    . obtain rfl : id = e.na := by omega
      simp only [bh.cU,aF]
      exact hbx s hs
  . change i < e.na + 1 at hi
    change j < e.na + 1 at hj
    rcases Wh i e.na with h1 | h1 <;> rcases Wh j e.na with h2 | h2
    . simp only [bh.cU,ai _ _ (bG h1),ai _ _ (bG h2)] at hki hkj heq
      exact hr.vM i j h1 h2 hki hkj heq
    . obtain rfl : j = e.na := by omega
      simp only [bh.cU,ai _ _ (bG h1),aF] at hki heq
      exact absurd heq (hbar i h1 hki)
    . obtain rfl : i = e.na := by omega
      simp only [bh.cU,ai _ _ (bG h2),aF] at hkj heq
      exact absurd heq.symm (hbar j h2 hkj)
    . omega
theorem gX {α:Type} {l:List α} {i j:Nat} {x y:α} (hh:(l.set i x)[j]?=some y):(j=i∧y=x)∨(j≠i∧l[j]?=some y):=by
 by_cases hji:j=i
 .subst hji
  have hl:j<l.length:=by
   have:=(V9.1 hh).1
   simpa using this
  rw[WU hl]at hh
  injection hh with hh
  exact .inl ⟨rfl,hh.symm⟩
 .rw[Xk (Ne.symm hji)]at hh
  exact .inr ⟨hji,hh⟩
theorem Nx.mG (hr : HR N L e W h w) {id b d c : Nat} {a0 : aL} (a : aL) (h0 : h.ar[id]? = some a0) (hk0 : a0.k ≠ 0)
    (hother : ∀ g,g < w.heap.size → g ≠ e.ar id → w'.heap[g]? = w.heap[g]?) (hsz : w.heap.size ≤ w'.heap.size) (hfr : Fr W w w')
    (hv : a0.ax < a.ax ∨ (a.ax = a0.ax ∧ b = e.ar id ∧ d = e.ad id ∧ c = e.cap id ∧ a.k = a0.k ∧ a.size = a0.size)) (hloc : b = e.ar id ∨ w.heap.size ≤ b)
    (hk1 : a.k ≠ 0) (hc : a.size ≤ c) (hb : Block w' b (d + c * a.k)) (hk : ∀ r ∈ a.rows,r.length = a.k)
    (hrows : ∀ (i : Nat) (r : List V),a.rows[i]? = some r → ∀ (j : Nat) (x : V),r[j]? = some x → x.calm = true ∧ ∃ v,w'.cell? ⟨b,d + i * a.k + j,none⟩ = some v ∧ VR N L e w x v) (hp : bK a.body) :
    Nx N W L e w L (e.bo id b d c a) { h with ar := h.ar.set id a } w' := by
  have hid : id < e.na := by rw [hr.na]; exact (V9.1 h0).1
  obtain ⟨v1,v2,v3,_⟩ := hr.ax id a0 h0
  have hak : e.ak id ≠ 0 := by rw [v2]; exact hk0
  have hown := hr.mm id hid hak
  have hx : Ext L e w L (e.bo id b d c a) w' :=
    { Ext.refl L e w with
      kept := fun t g hg => hother g (hr.mE _ _ hg) (fun he => hown.2 t (he ▸ hg))
      sl := fun s hs => ⟨hs,rfl⟩,na := Wj _
      av := fun j hj => by
        by_cases hji : j = id
        . subst hji
          simp only [bh.bo,aF]
          rcases hv with hv | ⟨g1,g2,g3,g4,g5,g6⟩
          . exact ⟨by omega,fun he => by omega⟩
          . exact ⟨by omega,fun _ => ⟨g2,g3,g4,by omega,by omega⟩⟩
        . exact ⟨Nat.le_of_eq (ai _ _ hji).symm,fun _ => ⟨ai _ _ hji,ai _ _ hji,ai _ _ hji,ai _ _ hji,ai _ _ hji⟩⟩ }
  have hWb : W b ∧ ∀ t,¬ L t b := by
    rcases hloc with rfl | hl
    . exact hown
    . exact ⟨hr.wide _ hl,fun t ht => by have := hr.mE _ _ ht; omega⟩
  refine ⟨⟨hr.sl,fun s cs hs => ?_,by simp [bh.bo,hr.na],fun j a' ha => ?_,fun j a' ha hk' => ?_,hr.nm,fun j m hm => ?_,hr.tL,fun j hj hk' => ?_,hr.vK,hr.zl,fun s j hs hj hk' => ?_,fun i j hi hj hki hkj heq => ?_,hr.zq,
    fun t g hg => by have := hr.mE t g hg; omega,fun g hg => hr.wide g (by omega),hr.zm.mono hx.sub hx.kept⟩,hx,hfr,fun _ _ hb => .inl hb⟩
  . obtain ⟨h1,h2⟩ := hr.bx s cs hs
    have hsl := (hr.sl s).2 (by rw [hs]; rfl)
    have := hother _ h1.lt (hr.vL s id hsl hid hak)
    exact ⟨h1.same this,h2.mono hx this⟩
  . rcases gX ha with ⟨rfl,rfl⟩ | ⟨hne,ha⟩
    . simp [bh.bo,aF,hk1]
    . simp only [bh.bo,ai _ _ hne]
      exact hr.ax j a' ha
  . rcases gX ha with ⟨rfl,rfl⟩ | ⟨hne,ha⟩
    . simp only [bh.bo,aF]
      refine ⟨hc,hb,hk,fun i r hi j' x hj' => ?_,hp⟩
      obtain ⟨g1,v,g2,g3⟩ := hrows i r hi j' x hj'
      exact ⟨g1,v,g2,g3.mono hx⟩
    . simp only [bh.bo,ai _ _ hne]
      obtain ⟨h1,h2,h3,h4,h5⟩ := hr.ar j a' ha hk'
      have hj : j < e.na := by rw [hr.na]; exact (V9.1 ha).1
      have hkj : e.ak j ≠ 0 := by rw [(hr.ax j a' ha).2.1]; exact hk'
      have := hother _ h2.lt (fun he => hne (hr.vM j id hj hid hkj hak he))
      exact ⟨h1,h2.same this,h3,fun i r hi' => (h4 i r hi').mono hx this,h5⟩
  . obtain ⟨es,cl,h1,h2,h3⟩ := hr.mp j m hm
    obtain ⟨_,⟨arr,ty,h4,_⟩,_⟩ := hr.ar id a0 h0 hk0
    refine ⟨es,cl,(hother _ (Wr.1 h1).1 (fg h1 h4)).trans h1,h2,fun i p hp' => ?_⟩
    obtain ⟨g1,x,g2,g3⟩ := h3 i p hp'
    exact ⟨g1,x,g2,g3.mono hx⟩
  . by_cases hji : j = id
    . subst hji
      simp only [bh.bo,aF]
      exact hWb
    . simp only [bh.bo,ai _ _ hji] at hk' ⊢
      exact hr.mm j hj hk'
  . by_cases hji : j = id
    . subst hji
      simp only [bh.bo,aF]
      rcases hloc with rfl | hl
      . exact hr.vL s j hs hid hak
      . have := hr.ky hs; omega
    . simp only [bh.bo,ai _ _ hji] at hk' ⊢
      exact hr.vL s j hs hj hk'
  . by_cases hii : i = id <;> by_cases hjj : j = id
    . omega
    . subst hii
      simp only [bh.bo,aF,ai _ _ hjj] at hkj heq
      rcases hloc with rfl | hl
      . exact hr.vM i j hid hj hak hkj heq
      . have := hr.gP hj hkj; omega
    . subst hjj
      simp only [bh.bo,aF,ai _ _ hii] at hki heq
      rcases hloc with rfl | hl
      . exact hr.vM i j hi hid hki hak heq
      . have := hr.gP hi hki; omega
    . simp only [bh.bo,ai _ _ hii,ai _ _ hjj] at hki hkj heq
      exact hr.vM i j hi hj hki hkj heq
theorem Nx.GF (hr : HR N L e W h w) {id : Nat} {a0 : aL} (a : aL) (h0 : h.ar[id]? = some a0) (hv : a0.ax < a.ax) (hk : a.k = 0) (hre : a.rows = []) :
    Nx N W L e w L (e.bo id (e.ar id) (e.ad id) (e.cap id) a) { h with ar := h.ar.set id a } w := by
  have hid : id < e.na := by rw [hr.na]; exact (V9.1 h0).1
  obtain ⟨v1,v2,v3,_⟩ := hr.ax id a0 h0
  have hx : Ext L e w L (e.bo id (e.ar id) (e.ad id) (e.cap id) a) w :=
    { Ext.refl L e w with
      sl := fun s hs => ⟨hs,rfl⟩,na := Wj _
      av := fun j hj => by
        by_cases hji : j = id
        . subst hji
          simp only [bh.bo,aF]
          exact ⟨by omega,fun he => by omega⟩
        . exact ⟨Nat.le_of_eq (ai _ _ hji).symm,fun _ => ⟨ai _ _ hji,ai _ _ hji,ai _ _ hji,ai _ _ hji,ai _ _ hji⟩⟩ }
  have hak : ∀ j,(e.bo id (e.ar id) (e.ad id) (e.cap id) a).ak j ≠ 0 → j ≠ id ∧ e.ak j ≠ 0 := by
    intro j hj
    by_cases hji : j = id
    . subst hji; simp [bh.bo,aF,hk] at hj
    . simp only [bh.bo,ai _ _ hji] at hj
      exact ⟨hji,hj⟩
  refine ⟨⟨hr.sl,fun s cs hs => ?_,by simp [bh.bo,hr.na],fun j a' ha => ?_,fun j a' ha hk' => ?_,hr.nm,fun j m hm => ?_,hr.tL,fun j hj hk' => ?_,hr.vK,hr.zl,fun s j hs hj hk' => ?_,fun i j hi hj hki hkj heq => ?_,hr.zq,
    hr.mE,hr.wide,hr.zm⟩,hx,Fr.refl _ _,fun _ _ hb => .inl hb⟩
  . obtain ⟨h1,h2⟩ := hr.bx s cs hs
    exact ⟨h1,h2.mono hx rfl⟩
  . rcases gX ha with ⟨rfl,rfl⟩ | ⟨hne,ha⟩
    . simp [bh.bo,aF,hre]
    . simp only [bh.bo,ai _ _ hne]
      exact hr.ax j a' ha
  . rcases gX ha with ⟨rfl,rfl⟩ | ⟨hne,ha⟩
    . exact absurd hk hk'
    . simp only [bh.bo,ai _ _ hne]
      obtain ⟨h1,h2,h3,h4,h5⟩ := hr.ar j a' ha hk'
      exact ⟨h1,h2,h3,fun i r hi' => (h4 i r hi').mono hx rfl,h5⟩
  . obtain ⟨es,cl,h1,h2,h3⟩ := hr.mp j m hm
    exact ⟨es,cl,h1,h2,h3⟩
  . obtain ⟨hji,hkj⟩ := hak j hk'
    simp only [bh.bo,ai _ _ hji]
    exact hr.mm j hj hkj
  . obtain ⟨hji,hkj⟩ := hak j hk'
    simp only [bh.bo,ai _ _ hji]
    exact hr.vL s j hs hj hkj
  . obtain ⟨hii,hki⟩ := hak i hki
    obtain ⟨hjj,hkj⟩ := hak j hkj
    simp only [bh.bo,ai _ _ hii,ai _ _ hjj] at heq
    exact hr.vM i j hi hj hki hkj heq
def bh.eQ (e:bh) (b:Nat):bh:={ e with nm:=e.nm+1,mp:=fO e.mp e.nm b }
theorem Nx.Ji (hr:HR N L e W h w):Nx N W L e w L (e.eQ w.heap.size) { h with mp:=h.mp++[[]] } (w.alloc (.map #[] 0)):=by
  have hs:∀b,b<w.heap.size→(w.alloc (.map #[] 0)).heap[b]?=w.heap[b]?:=fun b hb=>ct _ hb
  have hx:Ext L e w L (e.eQ w.heap.size) (w.alloc (.map #[] 0)):=
    { sub:=fun _ _ hb=>hb,kept:=fun _ _ hb=>hs _ (hr.mE _ _ hb),sl:=fun s h=>⟨h,rfl⟩,na:=Wj _,av:=fun _ _=>⟨Wj _,fun _=>⟨rfl,rfl,rfl,rfl,rfl⟩⟩
      nm:=XM _,mp:=fun id hi=>ai _ _ (bG hi) }
  have hnew:(w.alloc (.map #[] 0)).heap[w.heap.size]?=some (.map #[] 0):=heap_alloc_new w _
  refine⟨⟨hr.sl,fun s cs hc=>?_,hr.na,hr.ax,fun id a ha hk=>?_,by simp[bh.eQ,hr.nm],fun id m hm=>?_,hr.tL,hr.mm,fun id hi=>?_,hr.zl,hr.vL,hr.vM,fun i j hi hj heq=>?_,
    fun t b hb=>by have:=hr.mE t b hb; simp; omega,fun b hb=>hr.wide b (by simp at hb; omega),hr.zm.mono hx.sub hx.kept⟩,hx,Fr.alloc _,fun _ _ hb=>.inl hb⟩
  . obtain⟨h1,h2⟩:=hr.bx s cs hc
    exact⟨h1.same (hs _ h1.lt),h2.mono hx (hs _ h1.lt)⟩
  . obtain⟨h1,h2,h3,h4,h5⟩:=hr.ar id a ha hk
    exact⟨h1,h2.same (hs _ h2.lt),h3,fun i r hi=>(h4 i r hi).mono hx (hs _ h2.lt),h5⟩
  . rcases Wh id h.mp.length with h1|h1
    . change (h.mp++[[]])[id]?=some m at hm
      rw[We h1]at hm
      have hi:id<e.nm:=by rw[hr.nm]; exact h1
      obtain⟨es,cl,h1,h2,h3⟩:=hr.mp id m hm
      simp only[bh.eQ,ai _ _ (bG hi)]
      refine⟨es,cl,(hs _ (Wr.1 h1).1).trans h1,h2,fun i p hp=>?_⟩
      obtain⟨g1,x,g2,g3⟩:=h3 i p hp
      exact⟨g1,x,g2,g3.mono hx⟩
    . change (h.mp++[[]])[id]?=some m at hm
      rw[Wn h1]at hm
      have:id - h.mp.length=0:=by
        rcases Wh 0 (id - h.mp.length)with h2|h2
        . rw[List.getElem?_eq_none (by simp; omega)]at hm; cases hm
        . omega
      rw[this]at hm
      simp at hm
      subst hm
      obtain rfl:id=e.nm:=by rw[hr.nm]; omega
      simp only[bh.eQ,aF]
      exact⟨#[],0,hnew,rfl,fun i p hp=>by simp at hp⟩
  . change id<e.nm+1 at hi
    rcases Wh id e.nm with h1|h1
    . simp only[bh.eQ,ai _ _ (bG h1)]
      exact hr.vK id h1
    . obtain rfl:id=e.nm:=by omega
      simp only[bh.eQ,aF]
      exact⟨hr.wide _ (Wj _),fun u hu=>by have:=hr.mE _ _ hu; omega⟩
  . change i<e.nm+1 at hi
    change j<e.nm+1 at hj
    rcases Wh i e.nm with h1|h1<;>rcases Wh j e.nm with h2|h2
    . simp only[bh.eQ,ai _ _ (bG h1),ai _ _ (bG h2)]at heq
      exact hr.zq i j h1 h2 heq
    . obtain rfl:j=e.nm:=by omega
      simp only[bh.eQ,ai _ _ (bG h1),aF]at heq
      have:=hr.w8 h1; omega
    . obtain rfl:i=e.nm:=by omega
      simp only[bh.eQ,ai _ _ (bG h2),aF]at heq
      have:=hr.w8 h2; omega
    . omega
theorem Nx.DR (hr : HR N L e W h w) {id : Nat} {m0 m : List (PV × PV)} {es : Array MapEntry} {cl : Nat} (h0 : h.mp[id]? = some m0) (hz : es.size = m.length)
    (hent : ∀ (i : Nat) (p : PV × PV),m[i]? = some p → nw p.1 = true ∧ ∃ x,es[i]? = some x ∧ oZ N L w p x) :
    Nx N W L e w L e { h with mp := h.mp.set id m } { w with heap := w.heap.setIfInBounds (e.mp id) (.map es cl) } := by
  have hid : id < e.nm := by rw [hr.nm]; exact (V9.1 h0).1
  have hown := hr.vK id hid
  obtain ⟨es0,cl0,h1,_⟩ := hr.mp id m0 h0
  have hlt := (Wr.1 h1).1
  have hs : ∀ b,b ≠ e.mp id → ({ w with heap := w.heap.setIfInBounds (e.mp id) (.map es cl) } : World).heap[b]? = w.heap[b]? := fun b hb => by
    show (w.heap.setIfInBounds (e.mp id) (.map es cl))[b]? = _
    rw [Array.getElem?_setIfInBounds_ne (Ne.symm hb)]
  have hself : ({ w with heap := w.heap.setIfInBounds (e.mp id) (.map es cl) } : World).heap[e.mp id]? = some (.map es cl) := by
    show (w.heap.setIfInBounds (e.mp id) (.map es cl))[e.mp id]? = _
    rw [Array.getElem?_setIfInBounds_self_of_lt hlt]
  have hx : Ext L e w L e { w with heap := w.heap.setIfInBounds (e.mp id) (.map es cl) } :=
    { Ext.refl L e w with kept := fun t b hb => hs b (fun he => hown.2 t (he ▸ hb)) }
  refine ⟨⟨hr.sl,fun s cs hc => ?_,hr.na,hr.ax,fun j a ha hk => ?_,by simp [hr.nm],fun j m' hm => ?_,hr.tL,hr.mm,hr.vK,hr.zl,hr.vL,hr.vM,hr.zq,
    fun t b hb => by have := hr.mE t b hb; simpa using this,fun b hb => hr.wide b (by simpa using hb),hr.zm.mono hx.sub hx.kept⟩,hx,⟨rfl,rfl,rfl,by simp,fun b _ hb => hs b (fun he => hb (he ▸ hown.1)),Nat.le_refl _⟩,fun _ _ hb => .inl hb⟩
  . obtain ⟨h2,h3⟩ := hr.bx s cs hc
    obtain ⟨arr,ty,h4,_⟩ := h2.out
    have := hs (e.bx s) (fun he => fg h1 h4 he.symm)
    exact ⟨h2.same this,h3.mono hx this⟩
  . obtain ⟨g1,g2,g3,g4,g5⟩ := hr.ar j a ha hk
    obtain ⟨arr,ty,h4,_⟩ := g2.out
    have := hs (e.ar j) (fun he => fg h1 h4 he.symm)
    exact ⟨g1,g2.same this,g3,fun i r hi => (g4 i r hi).mono hx this,g5⟩
  . rcases gX hm with ⟨rfl,rfl⟩ | ⟨hne,hm⟩
    . refine ⟨es,cl,hself,hz,fun i p hp => ?_⟩
      obtain ⟨g1,x,g2,g3⟩ := hent i p hp
      exact ⟨g1,x,g2,g3.mono hx⟩
    . obtain ⟨es',cl',g1,g2,g3⟩ := hr.mp j m' hm
      have hj : j < e.nm := by rw [hr.nm]; exact (V9.1 hm).1
      refine ⟨es',cl',(hs _ (fun he => hne (hr.zq j id hj hid he))).trans g1,g2,fun i p hp => ?_⟩
      obtain ⟨k1,x,k2,k3⟩ := g3 i p hp
      exact ⟨k1,x,k2,k3.mono hx⟩
end Go.Pv
namespace Go.Pv
variable {P:Program} {N M:Nat→Nat} {W:Nat→Prop} {L L':Lx} {e e':bh} {h:aa} {w w':World} {g:bJ→V} {ρ:Operand→Value}
def OR (N M:Nat→Nat) (L:Lx) (e:bh) (w:World) (g:bJ→V) (ρ:Operand→Value):Prop:=
 ∀x y,bg N M x=some y→VR N L e w (g y) (ρ x)
def Good (P:Program) (N:Nat→Nat) (W:Nat→Prop) (L:Lx) (e:bh) (h:aa) (w:World) (s:Sem Value) (v:V) (t:Tn):Prop:=
 ∃v' w' L' e',s.run P w=.ok v' w'∧Nx N W L e w L' e' (t.apply h) w'∧VR N L' e' w' v v'
theorem Tn.aM (h:aa) (rb ra rm:Option Nat) (eK new:Bool) {np:Option Nat} {base:Nat}:({ rb:=rb,ra:=ra,rm:=rm,eK:=eK,new:=new,np:=np,base:=base }:Tn).apply h=h:=by
 cases h; simp[Tn.apply]
theorem Good.pure {s:Sem Value} {v:V} {v':Value} {t:Tn} (hr:HR N L e W h w) (hs:s.run P w=.ok v' w) (hv:VR N L e w v v') (ht:t.apply h=h):Good P N W L e h w s v t:=by
 refine⟨v',w,L,e,hs,?_,hv⟩
 rw[ht]
 exact Nx.refl hr
theorem VR.kO {x:V} {v:Value} (hv:VR N L e w x v) (hc:x.calm=true):v.oneCell'=true:=by
 cases hv with
 |pv p v hp=>cases hp<;>first|rfl|(simp[V.calm]at hc)
 |tl=>rfl
 |own=>rfl
 |ptr=>rfl
 |du=>rfl
 |func=>rfl
 |map=>rfl
 |dR=>rfl
 |agg=>simp[V.calm]at hc
 |dy=>simp[V.calm]at hc
 |any=>simp[V.calm]at hc
theorem VR.Cf {x:V} {v:Value} (hv:VR N L e w x v) (hc:x.dF=true):v.oneCell'=true:=by
 cases x with
 |ptr s o=>cases hv; rfl
 |map i=>cases hv; rfl
 |dR=>cases hv; rfl
 |_=>exact hv.kO hc
theorem V.Jj {x:V} (hc:x.calm=true):x.dF=true:=by
 cases x<;>first|exact hc|(simp[V.calm]at hc; done)
theorem VR.cells {x:V} {v:Value} (hv:VR N L e w x v) (hs:x.sized=true):
  v.cells.size=x.cells.length∧∀(j:Nat) (c:V),x.cells[j]?=some c→VR N L e w c (v.cells.getD j undef):=by
 have key:∀{x:V} {v:Value},VR N L e w x v→x.cells=[x]→v.cells=#[v]→v.cells.size=x.cells.length∧∀(j:Nat) (c:V),x.cells[j]?=some c→VR N L e w c (v.cells.getD j undef):=by
  intro x v hv h1 h2
  rw[h1,h2]
  refine⟨rfl,fun j c hj=>?_⟩
  match j,hj with
  |0,hj=>simp at hj; subst hj; exact hv
  |j+1,hj=>simp at hj
 cases hv with
 |pv p v hp=>
  cases hp with
  |agg=>simp[V.sized]at hs
  |_=>exact key (.pv _ _ (by constructor<;>assumption)) rfl rfl
 |tl rows a hh hsoft=>exact key (.tl rows a hh hsoft) rfl rfl
 |own id ax off len a cap h0 h1 h2 h3=>exact key (.own id ax off len a cap h0 h1 h2 h3) rfl rfl
 |ptr s off hh=>exact key (.ptr s off hh) rfl rfl
 |du id ax row col a h1 h2 h3=>exact key (.du id ax row col a h1 h2 h3) rfl rfl
 |func f cap arr h1 h2=>exact key (.func f cap arr h1 h2) rfl rfl
 |map id hh=>exact key (.map id hh) rfl rfl
 |dR=>exact key .dR rfl rfl
 |agg cs arr h1 h2=>exact⟨h1,h2⟩
 |dy=>simp[V.sized]at hs
 |any=>simp[V.sized]at hs
theorem zw {x:V} (hc:x.cells.all V.calm=true):x.sized=true:=by
 cases x with
 |pv p=>cases p<;>first|rfl|(simp[V.cells,V.calm]at hc)
 |any=>simp[V.cells,V.calm]at hc
 |dy=>simp[V.cells,V.calm]at hc
 |_=>rfl
theorem kQ {x:V} (hc:x.cells.all V.dF=true):x.sized=true:=by
 cases x with
 |pv p=>cases p<;>first|rfl|(simp[V.cells,V.dF,V.calm]at hc)
 |any=>simp[V.cells,V.dF,V.calm]at hc
 |dy=>simp[V.cells,V.dF,V.calm]at hc
 |_=>rfl
theorem bf {arr:Array Value} {j:Nat} (hj:j<arr.size):arr[j]?=some (arr.getD j undef):=by
 simp[Array.getD,hj]
theorem iF {t:TypeId} {n:Nat} {ag:Bool} (hl:loadT P t=some (n,ag)):
  (isAgg t).run P w=.ok ag w∧(sizeOf t).run P w=.ok n w∧(ag=false→n=1):=by
 unfold loadT cR cG at hl
 cases hi:P.info? t with
 |none=>simp[hi]at hl
 |some i=>
  simp only[hi,Option.map_some]at hl
  cases hu:P.underlying t with
  |none=>simp[hu]at hl
  |some d=>
   simp only[hu]at hl
   have hsz:(sizeOf t).run P w=.ok i.size w:=by simp[sizeOf,typeInfo,hi]
   rw[hsz]
   cases d<;>simp at hl<;>(first
    |(obtain⟨h1,h2,h3⟩:=hl; subst h2; subst h3; simp[isAgg,underlying,hu,h1])
    |(obtain⟨h2,h3⟩:=hl; subst h2; subst h3; simp[isAgg,underlying,hu]))
theorem eR {t:TypeId} {n:Nat} (hl:cG P t=some n):(sizeOf t).run P w=.ok n w:=by
 unfold cG at hl
 cases hi:P.info? t with
 |none=>simp[hi]at hl
 |some i=>simp[hi]at hl; simp[sizeOf,typeInfo,hi,hl]
theorem dm (b off j:Nat):(⟨b,off,none⟩:Addr).add j=⟨b,off+j,none⟩:=by
 unfold Addr.add; split<;>simp_all
theorem w9 {t:TypeId} {n:Nat} {ag:Bool} (hl:loadT P t=some (n,ag)) {b off:Nat} {cs:List V} (hn:cs.length=n)
  (hc:∀(j:Nat) (c:V),cs[j]?=some c→∃v,w.cell? ⟨b,off+j,none⟩=some v∧VR N L e w c v) {v:V} (hv:dY ag cs=some v):
  ∃v',(loadVar t ⟨b,off,none⟩).run P w=.ok v' w∧VR N L e w v v':=by
 obtain⟨h1,h2,h3⟩:=iF (w:=w) hl
 let f:Nat→Value:=fun j=>(w.cell? ⟨b,off+j,none⟩).getD undef
 have hf:∀(j:Nat) (c:V),cs[j]?=some c→w.cell? ⟨b,off+j,none⟩=some (f j)∧VR N L e w c (f j):=by
  intro j c hj
  obtain⟨v,g1,g2⟩:=hc j c hj
  simp only[f,g1,Option.getD_some]
  exact⟨trivial,g2⟩
 cases ag with
 |true=>
  have hv':V.agg cs=v:=by simpa [dY]using hv
  subst hv'
  have hload:=run_loadCells (P:=P) w ⟨b,off,none⟩ n f (fun j hj=>by
   rw[dm]
   exact(hf j cs[j] (Wb (by omega))).1)
  refine⟨.agg ((List.range n).map f).toArray,by simp[loadVar,h1,h2,hload],.agg cs _ (by simp[hn]) (fun j c hj=>?_)⟩
  have hjl:j<n:=by rw[← hn]; exact(V9.1 hj).1
  have:=(hf j c hj).2
  simpa [Array.getD,hjl]using this
 |false=>
  have h1':=h3 rfl
  subst h1'
  match cs,hn with
  |[c],_=>
   have hv':c=v:=by simpa [dY]using hv
   subst hv'
   obtain⟨g1,g2⟩:=hf 0 c rfl
   simp only[Nat.add_zero]at g1
   refine⟨f 0,?_,g2⟩
   simp[loadVar,h1,g1]
theorem jQ {α:Type} {off n:Nat} {l r:List α} (hh:takeN off n l=some r):r.length=n∧off+n≤l.length∧∀(j:Nat) (x:α),r[j]?=some x→l[off+j]?=some x:=by
 unfold takeN at hh
 split at hh
 .rename_i hle
  injection hh with hh
  subst hh
  refine⟨by simp; omega,hle,fun j x hj=>?_⟩
  rw[Wy]at hj
  split at hj
  .rwa [WQ]at hj
  .cases hj
 .cases hh
theorem cZ {l:List PV} {j:Nat} {c:V} (hj:(l.map V.pv)[j]?=some c):∃p,l[j]?=some p∧c=.pv p:=by
 rw[Wf]at hj
 cases hl:l[j]? with
 |none=>simp[hl]at hj
 |some p=>simp[hl]at hj; exact⟨p,rfl,hj.symm⟩
theorem bn {id ax:Nat} {a:aL} (hh:aB h id ax=some a):h.ar[id]?=some a∧a.ax=ax:=by
 unfold aB at hh
 cases hg:h.ar[id]? with
 |none=>simp[hg]at hh
 |some x=>
  simp only[hg]at hh
  split at hh
  .injection hh with hh; subst hh; exact⟨rfl,by assumption⟩
  .cases hh
theorem qb (hr:HR N L e W h w) {n:Nat} {x:V} {v:Value} (hx:VR N L e w x v) {cs:List V} {t:Tn} (hh:loadAt h n x=some (cs,t)):
  t.apply h=h∧cs.length=n∧∃b off,v=.pointer (some ⟨b,off,none⟩)∧∀(j:Nat) (c:V),cs[j]?=some c→∃v',w.cell? ⟨b,off+j,none⟩=some v'∧VR N L e w c v':=by
 unfold loadAt at hh
 split at hh
 .rename_i tg ds
  cases hl:takeN 0 n ds with
  |none=>simp[hl]at hh
  |some l=>
   simp[hl]at hh
   obtain⟨rfl,rfl⟩:=hh
   obtain⟨k1,k2,k3⟩:=jQ hl
   cases hx with
   |pv _ _ hp=>
    cases hp with
    |ro _ _ b off vs ha hcell hv h1=>
     refine⟨Tn.aM h _ _ _ _ _,by simp[k1],b,off,rfl,fun j c hj=>?_⟩
     obtain⟨p,hp,rfl⟩:=cZ hj
     have:=k3 j p hp
     rw[XN]at this
     exact⟨vs j,hcell j p this,.pv _ _ (hv j p this)⟩
 .rename_i slot off
  cases hs:aE slot h.bx with
  |none=>simp[hs]at hh
  |some ds=>
   simp only[hs]at hh
   cases hl:takeN off n ds with
   |none=>simp[hl]at hh
   |some l=>
    simp[hl]at hh
    obtain⟨rfl,rfl⟩:=hh
    obtain⟨k1,k2,k3⟩:=jQ hl
    cases hx with
    |ptr _ _ hsl=>
     refine⟨Tn.aM h _ _ _ _ _,k1,e.bx slot,off,rfl,fun j c hj=>?_⟩
     obtain⟨_,v',g1,g2⟩:=(hr.bx slot ds hs).2 (off+j) c (k3 j c hj)
     exact⟨v',g1,g2⟩
 .rename_i id ax row col
  cases ho:aB h id ax with
  |none=>simp[ho]at hh
  |some a=>
   simp only[ho]at hh
   obtain⟨ha,hver⟩:=bn ho
   obtain⟨e1,e2,e3,e4⟩:=hr.ax id a ha
   cases hx with
   |du _ _ _ _ ad q1 q2 q3=>
    have had:=q3 (by omega)
    subst had
    have key:∀r:List V,a.rows[row]?=some r→takeN col n r=some cs→a.k≠0∧cs.length=n∧∀(j:Nat) (c:V),cs[j]?=some c→∃v',w.cell? ⟨e.ar id,e.ad id+(row*e.ak id+col)+j,none⟩=some v'∧VR N L e w c v':=by
     intro r hrow hl
     obtain⟨k1,k2,k3⟩:=jQ hl
     by_cases hk:a.k=0
     .rw[e4 hk]at hrow; simp at hrow
     .obtain⟨g1,g2,g3,g4,g5⟩:=hr.ar id a ha hk
      refine⟨hk,k1,fun j c hj=>?_⟩
      obtain⟨_,v',p1,p2⟩:=g4 row r hrow (col+j) c (k3 j c hj)
      rw[e2,show e.ad id+(row*a.k+col)+j=e.ad id+row*a.k+(col+j) by omega]
      exact⟨v',p1,p2⟩
    split at hh
    .rename_i rows hbody
     cases hrw:rows[row]? with
     |none=>simp[hrw]at hh
     |some r=>
      simp only[hrw]at hh
      cases hl:takeN col n r with
      |none=>simp[hl]at hh
      |some l=>
       simp[hl]at hh
       obtain⟨rfl,rfl⟩:=hh
       have hrow:a.rows[row]?=some (r.map V.pv):=by simp[aL.rows,hbody,hrw]
       have hl':takeN col n (r.map V.pv)=some (l.map V.pv):=by
        unfold takeN at hl ⊢
        simp only[List.length_map]
        split at hl
        .rename_i hle; rw[if_pos hle]; injection hl with hl; subst hl; simp[List.map_take,List.map_drop]
        .cases hl
       obtain⟨_,k2,k3⟩:=key _ hrow hl'
       exact⟨Tn.aM h _ _ _ _ _,k2,_,_,rfl,k3⟩
    .rename_i rows hbody
     cases hrw:rows[row]? with
     |none=>simp[hrw]at hh
     |some r=>
      simp only[hrw]at hh
      cases hl:takeN col n r with
      |none=>simp[hl]at hh
      |some l=>
       simp[hl]at hh
       obtain⟨rfl,rfl⟩:=hh
       have hrow:a.rows[row]?=some r:=by simp[aL.rows,hbody,hrw]
       obtain⟨_,k2,k3⟩:=key _ hrow hl
       exact⟨Tn.aM h _ _ _ _ _,k2,_,_,rfl,k3⟩
 .cases hh
end Go.Pv
namespace Go.Pv
variable {P:Program} {N M:Nat→Nat} {W:Nat→Prop} {L L':Lx} {e e':bh} {h:aa} {w w':World} {g:bJ→V} {ρ:Operand→Value}
theorem bH {α β:Type} {f:α→Option β}:∀{l:List α} {r:List β},ay f l=some r→r.length=l.length
 |[],r,hh=>by simp[ay]at hh; subst hh; rfl
 |x::l,r,hh=>by
  unfold ay at hh
  cases hx:f x with
  |none=>simp[hx]at hh
  |some y=>
   cases hl:ay f l with
   |none=>simp[hx,hl]at hh
   |some s=>simp[hx,hl]at hh; subst hh; simp[bH hl]
theorem bq {α β:Type} {f:α→Option β}:∀{l:List α} {r:List β},ay f l=some r→∀(j:Nat) (y:β),r[j]?=some y→∃x,l[j]?=some x∧f x=some y
 |[],r,hh,j,y,hj=>by simp[ay]at hh; subst hh; simp at hj
 |x::l,r,hh,j,y,hj=>by
  unfold ay at hh
  cases hx:f x with
  |none=>simp[hx]at hh
  |some z=>
   cases hl:ay f l with
   |none=>simp[hx,hl]at hh
   |some s=>
    simp[hx,hl]at hh
    subst hh
    match j with
    |0=>simp at hj; subst hj; exact⟨x,rfl,hx⟩
    |j+1=>simp at hj; simpa using bq hl j y hj
theorem ny {α β:Type} {f:α→Option β} {l:List α} {r:List β} (hh:ay f l=some r) (j:Nat) (x:α) (hj:l[j]?=some x):∃y,r[j]?=some y∧f x=some y:=by
 have hlt:j<r.length:=by rw[bH hh]; exact(V9.1 hj).1
 obtain⟨x',h1,h2⟩:=bq hh j r[j] (Wb hlt)
 rw[hj]at h1
 injection h1 with h1
 subst h1
 exact⟨_,Wb hlt,h2⟩
theorem VR.ue {v:Value} {c:V} (hc:ue v=some c):VR N L e w c v:=by
 unfold Pv.ue at hc
 split at hc<;>(try (cases hc; done))<;>(injection hc with hc; subst hc)
 .exact .pv _ _ (.bool _)
 .exact .pv _ _ (.int _ _)
 .exact .pv _ _ (.str _)
 .exact .pv _ _ .nn
 .exact .pv _ _ .qV
 .exact .tl [] none (.aq 0 [] none default 0 0 (fun _ _=>undef) (by simp) (by simp) (by simp) (by simp[ff]) (by simp[ff]) (by simp[ff]) (by simp[ff])) vT.nil
 .exact .dR
theorem bW {arr:Array Value} {j:Nat} {x:Value} (hj:arr.toList[j]?=some x):arr.getD j undef=x:=by
 rw[Wo]at hj
 have hlt:=(Wr.1 hj).1
 simp only[Array.getD,hlt,dif_pos]
 exact(Wr.1 hj).2
theorem VR.cv {v:Value} {x:V} (hc:Pv.cv v=some x):VR N L e w x v:=by
 unfold Pv.cv at hc
 split at hc
 .rename_i cs
  cases hm:ay Pv.ue cs.toList with
  |none=>simp[hm]at hc
  |some l=>
   simp[hm]at hc
   subst hc
   refine .agg l cs (by simpa using (bH hm).symm) (fun j c hj=>?_)
   obtain⟨y,h1,h2⟩:=bq hm j c hj
   rw[bW h1]
   exact VR.ue h2
 .exact VR.ue hc
theorem OR.Jk {env:List (Nat×V)} {a:Act} (hE:∀t,VR N L e w (get env t) (a.tmps.getD t undef)):OR N M L e w (bk env) a.eval:=by
 intro x y hxy
 unfold bg at hxy
 split at hxy
 .injection hxy with hxy; subst hxy; exact hE _
 .rename_i v
  cases hc:Pv.cv v with
  |none=>simp[hc]at hxy
  |some z=>simp[hc]at hxy; subst hxy; exact VR.cv hc
 .rename_i f
  split at hxy
  .rename_i hN
   injection hxy with hxy; subst hxy
   show VR N L e w (.func (M f) []) (.func (.func f) #[] #[])
   have:=VR.func (N:=N) (L:=L) (e:=e) (w:=w) (M f) [] #[] rfl (by simp)
   rwa [hN]at this
  .cases hxy
 .cases hxy
theorem fh {t:TypeId} {z:List V} (hz:zeroOf P t=some z):∃i zv,P.info? t=some i∧i.zero=some zv∧z.length=i.size∧zv.cells.size=z.length∧
  (∀(j:Nat) (c:V),z[j]?=some c→ue (zv.cells.getD j undef)=some c)∧(∀w,(zeroValue t).run P w=.ok zv w):=by
 unfold zeroOf at hz
 cases hi:P.info? t with
 |none=>simp[hi]at hz
 |some i=>
  simp only[hi]at hz
  cases hzv:i.zero with
  |none=>simp[hzv]at hz
  |some zv=>
   simp only[hzv]at hz
   cases hm:ay Pv.ue zv.cells.toList with
   |none=>simp[hm]at hz
   |some l=>
    simp only[hm]at hz
    split at hz
    .rename_i hl
     injection hz with hz
     subst hz
     refine⟨i,zv,rfl,hzv,hl,by simpa using (bH hm).symm,fun j c hj=>?_,fun w=>by simp[zeroValue,typeInfo,hi,hzv]⟩
     obtain⟨y,h1,h2⟩:=bq hm j c hj
     rw[bW h1]
     exact h2
    .cases hz
theorem rG (t:TypeId) (v:Value):(newVar t v).run P w=.ok ⟨w.heap.size,0,none⟩ (w.alloc (.cells v.cells t)):=by
 simp[newVar,newRow]
theorem Tn.rH (h:aa) (s:Nat) (cs:List V) (new:Bool):({ bx:=some (s,cs),new:=new }:Tn).apply h={ h with bx:=dM s cs h.bx }:=by
 cases h; simp[Tn.apply]
theorem GG (hr:HR N L e W h w) {t:TypeId} {z:List V} (hz:zeroOf P t=some z) {slot:Nat} (hs:aE slot h.bx=none) (hcalm:z.all V.dF=true):
  Good P N W L e h w (Instr.alloc t true (.tuple #[])) (.ptr slot 0) { bx:=some (slot,z),new:=true }:=by
 obtain⟨i,zv,h1,h2,h3,h4,h5,h6⟩:=fh hz
 have hn:=Nx.DP hr hs (cs:=z) (arr:=zv.cells) t h4 (fun j c hj=>⟨Wu.1 hcalm c (Wa hj),VR.ue (h5 j c hj)⟩)
 refine⟨.pointer (some ⟨w.heap.size,0,none⟩),w.alloc (.cells zv.cells t),L,e.qa slot w.heap.size,?_,?_,?_⟩
 .simp[Instr.alloc,h6,rG]
 .rw[Tn.rH]; exact hn
 .have:=VR.ptr (N:=N) (L:=L) (e:=e.qa slot w.heap.size) (w:=w.alloc (.cells zv.cells t)) slot 0 (.inr rfl)
  simpa [bh.qa,aF]using this
theorem Pt (hr:HR N L e W h w) {t:TypeId} {n:Nat} {slot:Nat} (hs:aE slot h.bx=none) {x:V} {xv:Value} (hx:VR N L e w x xv)
  (_hn:x.cells.length=n) (hcalm:x.cells.all V.dF=true):Good P N W L e h w (Instr.box t xv) (.ptr slot 0) { bx:=some (slot,x.cells),new:=true }:=by
 obtain⟨h1,h2⟩:=hx.cells (kQ hcalm)
 have hnx:=Nx.DP hr hs (cs:=x.cells) (arr:=xv.cells) t h1 (fun j c hj=>⟨Wu.1 hcalm c (Wa hj),h2 j c hj⟩)
 refine⟨.pointer (some ⟨w.heap.size,0,none⟩),w.alloc (.cells xv.cells t),L,e.qa slot w.heap.size,?_,?_,?_⟩
 .simp[Instr.box,rG]
 .rw[Tn.rH]; exact hnx
 .have:=VR.ptr (N:=N) (L:=L) (e:=e.qa slot w.heap.size) (w:=w.alloc (.cells xv.cells t)) slot 0 (.inr rfl)
  simpa [bh.qa,aF]using this
theorem Tn.cy (h:aa) (id:Nat) (a:aL) (ra:Option Nat):({ ar:=some (id,a),ra:=ra }:Tn).apply h={ h with ar:=h.ar.set id a }:=by
 cases h; simp[Tn.apply]
def norm (news:List V):List V:=
 match ay V.bS news with
 |some l=>l.map .pv
 |none=>news
theorem V.eT {c:V} {p:PV} (hp:c.bS=some p):p.perm=true:=by
 cases c<;>simp[V.bS]at hp
 .obtain⟨h1,rfl⟩:=hp; exact h1
 .obtain⟨h1,rfl⟩:=hp; rfl
theorem VR.bS {c:V} {p:PV} {v:Value} (hv:VR N L e w c v) (hp:c.bS=some p):VR N L e w (.pv p) v:=by
 cases hv with
 |pv q v hq=>simp[V.bS]at hp; obtain⟨_,rfl⟩:=hp; exact .pv _ _ hq
 |func f cap arr h1 h2=>
  simp[V.bS]at hp
  obtain⟨hc,rfl⟩:=hp
  subst hc
  exact .pv _ _ (.func f [] arr h1 (by simp))
 |_=>simp[V.bS]at hp
theorem PV.er {p:PV} (hp:p.perm=true):(V.pv p).calm=true:=by
 cases p<;>simp[PV.perm,V.calm]at *<;>exact hp
theorem kR (news:List V):(norm news).length=news.length:=by
 unfold norm
 cases hm:ay V.bS news with
 |none=>rfl
 |some l=>simp[bH hm]
theorem rI {news:List V} (hc:news.all V.calm=true) {j:Nat} {c:V} (hj:(norm news)[j]?=some c):
  c.calm=true∧∃d,news[j]?=some d∧∀v,VR N L e w d v→VR N L e w c v:=by
 unfold norm at hj
 cases hm:ay V.bS news with
 |none=>rw[hm]at hj; exact⟨Wu.1 hc c (Wa hj),c,hj,fun _ hv=>hv⟩
 |some l=>
  rw[hm]at hj
  obtain⟨p,hp,rfl⟩:=cZ hj
  obtain⟨d,h1,h2⟩:=bq hm j p hp
  exact⟨PV.er (V.eT h2),d,h1,fun v hv=>hv.bS h2⟩
def kS (a:aL) (news:List V):List V:=
 match a.body with
 |.inl _=>norm news
 |.inr _=>news
theorem iG (a:aL) (news:List V):(kS a news).length=news.length:=by
 unfold kS
 split
 .exact kR news
 .rfl
theorem zx {a:aL} {news:List V} (hc:news.all V.calm=true) {j:Nat} {c:V} (hj:(kS a news)[j]?=some c):
  c.calm=true∧∃d,news[j]?=some d∧∀v,VR N L e w d v→VR N L e w c v:=by
 unfold kS at hj
 split at hj
 .exact rI hc hj
 .exact⟨Wu.1 hc c (Wa hj),c,hj,fun _ hv=>hv⟩
theorem nz (a:aL) (r c:Nat) (news:List V) (hr:r<a.size):
  (({ a with body:=setBody r c news a.body }:aL)).rows=a.rows.set r ((a.rows.getD r []).take c++kS a news++(a.rows.getD r []).drop (c+news.length)):=by
 obtain⟨ax,k,body⟩:=a
 cases body with
 |inl x=>
  have hr':r<x.length:=hr
  have hg:(x.map (·.map V.pv)).getD r []=(x.getD r []).map V.pv:=by
   simp[List.getD,List.getElem?_map,List.getElem?_eq_getElem hr']
  simp only[setBody,aL.rows,kS,norm]
  cases hm:ay V.bS news with
  |none=>simp only[]; rw[hg]
  |some l=>
   simp only[]
   rw[hg,List.map_set]
   simp[List.map_take,List.map_drop]
 |inr x=>simp[setBody,aL.rows,kS]
theorem nA (a:aL) (r c:Nat) (news:List V):(({ a with body:=setBody r c news a.body }:aL)).size=a.size:=by
 obtain⟨ax,k,body⟩:=a
 cases body with
 |inl x=>
  simp only[setBody,aL.size]
  cases hm:ay V.bS news<;>simp
 |inr x=>simp[setBody,aL.size]
theorem aL.br (a:aL):a.rows.length=a.size:=by
 obtain⟨ax,k,body⟩:=a
 cases body<;>simp[aL.rows,aL.size]
theorem vV (a:aL) (r c:Nat) (news:List V) (hp:bK a.body):bK (setBody r c news a.body):=by
 obtain⟨ax,k,body⟩:=a
 cases body with
 |inr x=>simp[setBody,bK]
 |inl x=>
  simp only[setBody]
  cases hm:ay V.bS news with
  |none=>simp[bK]
  |some l=>
   simp only[bK]at hp ⊢
   intro q hq d hd
   rcases XK hq with hq|rfl
   .exact hp q hq d hd
   .have hrow:∀d∈x.getD r [],d.perm=true:=by
     intro d hd
     cases hx:x[r]? with
     |none=>simp[List.getD,hx]at hd
     |some q=>simp[List.getD,hx]at hd; exact hp q (List.mem_of_getElem? hx) d hd
    simp only[List.mem_append]at hd
    rcases hd with(hd|hd)|hd
    .exact hrow d (W2 hd)
    .obtain⟨j,hj⟩:=Wd.1 hd
     obtain⟨_,_,h2⟩:=bq hm j d hj
     exact V.eT h2
    .exact hrow d (W5 hd)
theorem nB {α:Type} {l news:List α} {c:Nat} (hfit:c+news.length≤l.length) {j:Nat} {x:α} (hj:(l.take c++news++l.drop (c+news.length))[j]?=some x):
  (c≤j∧j<c+news.length∧news[j - c]?=some x)∨((j<c∨c+news.length≤j)∧l[j]?=some x):=by
 have hl:(l.take c).length=c:=by simp; omega
 rcases Wh j c with h1|h1
 .rw[WK,We (by omega),Wy,if_pos h1]at hj
  exact .inr ⟨.inl h1,hj⟩
 .rcases Wh j (c+news.length)with h2|h2
  .rw[WK,Wn (by omega),We (by omega),hl]at hj
   exact .inl ⟨h1,h2,hj⟩
  .rw[List.getElem?_append_right (by simp; omega),List.getElem?_drop]at hj
   have:c+news.length+(j - (l.take c++news).length)=j:=by simp; omega
   rw[this]at hj
   exact .inr ⟨.inr h2,hj⟩
theorem gr {α:Type} {l news:List α} {c:Nat} (hfit:c+news.length≤l.length) {j:Nat} (h1:c≤j) (h2:j<c+news.length):
  (l.take c++news++l.drop (c+news.length))[j]?=news[j - c]?:=by
 have hl:(l.take c).length=c:=by simp; omega
 rw[WK,Wn (by omega),We (by omega),hl]
theorem dn {α:Type} {l news:List α} {c:Nat} (hfit:c+news.length≤l.length) {j:Nat} (h1:j<c∨c+news.length≤j):
  (l.take c++news++l.drop (c+news.length))[j]?=l[j]?:=by
 have hl:(l.take c).length=c:=by simp; omega
 rcases h1 with h1|h1
 .rw[WK,We (by omega),Wy,if_pos h1]
 .rw[List.getElem?_append_right (by simp; omega),List.getElem?_drop]
  have:c+news.length+(j - (l.take c++news).length)=j:=by simp; omega
  rw[this]
theorem ug {t:TypeId} {n:Nat} (hsz:(sizeOf t).run P w=.ok n w) {b off:Nat} {xv:Value} (hn:xv.cells.size=n) {arr:Array Value} {ty:TypeId}
  (hb:w.heap[b]?=some (.cells arr ty (0,0))) (hfit:off+n≤arr.size) (h1:∀v∈xv.cells.toList,v.oneCell'=true):
  (storeVar t ⟨b,off,none⟩ xv).run P w=.ok () (w.setRow b (arr.toList.take off++xv.cells.toList++arr.toList.drop (off+xv.cells.toList.length)).toArray):=by
 have hst:=run_storeCells_at P b off ty xv.cells.toList 0 arr w hb (by simp; omega) h1
 simp only[Nat.add_zero]at hst
 simp[storeVar,hsz,hn,hst]
theorem VR.Bl {x:V} {xv:Value} (hx:VR N L e w x xv) (hc:x.cells.all V.dF=true):∀v∈xv.cells.toList,v.oneCell'=true:=by
 intro v hv
 obtain⟨h1,h2⟩:=hx.cells (kQ hc)
 obtain⟨j,hj⟩:=Wd.1 hv
 rw[Wo]at hj
 have hjl:=(Wr.1 hj).1
 have hc':x.cells[j]?=some (x.cells[j]'(by omega)):=Wb (by omega)
 have hvr:=h2 j _ hc'
 have:xv.cells.getD j undef=v:=bW (by rw[Wo]; exact hj)
 rw[this]at hvr
 exact hvr.Cf (Wu.1 hc _ (Wa hc'))
theorem qc {t:TypeId} {a:Addr} {v:Value}:(Instr.storeAt t (.pointer (some a)) v).run P w=(storeVar t a v).run P w:=by
 simp[Instr.storeAt,Instr.sureAddr]
theorem GH (hr:HR N L e W h w) {t:TypeId} {n:Nat} (hsz:(sizeOf t).run P w=.ok n w) {x v:V} {xv vv:Value} (hx:VR N L e w x xv) (hv:VR N L e w v vv)
  (hn:v.cells.length=n) {tn:Tn} (hh:storeAt h x v.cells=some tn):
  ∃w' L' e',(Instr.storeAt t xv vv).run P w=.ok () w'∧Nx N W L e w L' e' (tn.apply h) w':=by
 unfold storeAt at hh
 split at hh
 .rename_i slot off
  cases hs:aE slot h.bx with
  |none=>simp[hs]at hh
  |some cs=>
   simp only[hs]at hh
   split at hh
   .rename_i hcond
    obtain⟨hfit,hcalm⟩:=hcond
    injection hh with hh
    subst hh
    cases hx with
    |ptr _ _ hsl=>
     obtain⟨⟨arr,ty,hb,hbz⟩,_⟩:=hr.bx slot cs hs
     obtain⟨k1,k2⟩:=hv.cells (kQ hcalm)
     have hst:=ug (P:=P) hsz (off:=off) (xv:=vv) (by omega) hb (by omega) (hv.Bl hcalm)
     refine⟨_,L,e,qc.trans hst,?_⟩
     have:=Nx.DQ hr (off:=off) (news:=v.cells) (vs:=vv.cells.toList) hs hb hfit (by simpa using k1) (fun j c hj=>by
      have hjl:=(V9.1 hj).1
      refine⟨Wu.1 hcalm c (Wa hj),vv.cells.getD j undef,?_,k2 j c hj⟩
      rw[Wo]
      exact bf (by omega))
     simpa [Tn.apply]using this
   .cases hh
 .rename_i id ax row col
  cases ho:aB h id ax with
  |none=>simp[ho]at hh
  |some a=>
   simp only[ho]at hh
   obtain⟨ha,hver⟩:=bn ho
   obtain⟨e1,e2,e3,e4⟩:=hr.ax id a ha
   split at hh
   .rename_i hcond
    obtain⟨hrow,hcol,hcalm⟩:=hcond
    injection hh with hh
    subst hh
    have hk:a.k≠0:=by
     intro hk
     have:=e4 hk
     rw[← aL.br,this]at hrow
     simp at hrow
    obtain⟨g1,⟨arr,ty,hb,hbz⟩,g3,g4,g5⟩:=hr.ar id a ha hk
    cases hx with
    |du _ _ _ _ ad q1 q2 q3=>
     have had:=q3 (by omega)
     subst had
     obtain⟨k1,k2⟩:=hv.cells (zw hcalm)
     have hle:row*a.k+a.k≤e.cap id*a.k:=by
      have:(row+1)*a.k≤e.cap id*a.k:=Wi _ (by omega)
      rw[Wm,W7]at this
      exact this
     have hst:=ug (P:=P) hsz (off:=e.ad id+(row*e.ak id+col)) (xv:=vv) (by omega) hb (by rw[e2]; omega) (hv.Bl (Wu.2 fun c hc=>V.Jj (Wu.1 hcalm c hc)))
     have hid:id<e.na:=q1
     have hlen:vv.cells.toList.length=v.cells.length:=by simpa using k1
     have hfit:e.ad id+(row*e.ak id+col)+vv.cells.toList.length≤arr.toList.length:=by simp; rw[e2]; omega
     refine⟨_,L,e.bo id (e.ar id) (e.ad id) (e.cap id) { a with body:=setBody row col v.cells a.body },qc.trans hst,?_⟩
     rw[Tn.cy]
     refine Nx.mG hr (b:=e.ar id) (d:=e.ad id) (c:=e.cap id) { a with body:=setBody row col v.cells a.body } ha hk
      (fun q _ hq=>setRow_other w _ hq) (by simp) (Fr.setRow (hr.mm id hid (by rw[e2]; exact hk)).1 _) (.inr ⟨rfl,rfl,rfl,rfl,rfl,nA a row col v.cells⟩) (.inl rfl) hk
      (by rw[nA]; exact g1) ⟨_,ty,setRow_heap w _ arr _ ty (0,0) hb,by simp; omega⟩ ?_ ?_ (vV a row col v.cells g5)
     .intro r hr'
      rw[nz a row col v.cells hrow]at hr'
      rcases XK hr' with hr'|rfl
      .exact g3 r hr'
      .have hrl:(a.rows.getD row []).length=a.k:=by
        have:a.rows[row]?=some (a.rows[row]'(by rw[aL.br]; exact hrow)):=Wb _
        simp only[List.getD,this,Option.getD_some]
        exact g3 _ (Xc _)
       simp only[List.length_append,List.length_take,List.length_drop,iG,hrl]; omega
     .intro i r hi j c hj
      have hcell:∀o,(w.setRow (e.ar id) (arr.toList.take (e.ad id+(row*e.ak id+col))++vv.cells.toList++arr.toList.drop (e.ad id+(row*e.ak id+col)+vv.cells.toList.length)).toArray).cell? ⟨e.ar id,o,none⟩=
        (arr.toList.take (e.ad id+(row*e.ak id+col))++vv.cells.toList++arr.toList.drop (e.ad id+(row*e.ak id+col)+vv.cells.toList.length))[o]?:=fun o=>by
       rw[cell_of_row _ _ _ _ _ _ (setRow_heap w _ arr _ ty (0,0) hb)]
       simp
      have hold:∀o v',w.cell? ⟨e.ar id,o,none⟩=some v'→arr.toList[o]?=some v':=fun o v' ho'=>by
       rw[cell_of_row _ _ _ _ _ _ hb]at ho'
       simpa using ho'
      rw[nz a row col v.cells hrow]at hi
      have hrowlen:∀(i:Nat) (r:List V),a.rows[i]?=some r→r.length=a.k:=fun i r hi=>g3 r (Wa hi)
      have hrg:a.rows[row]?=some (a.rows.getD row []):=by
       have:a.rows[row]?=some (a.rows[row]'(by rw[aL.br]; exact hrow)):=Wb _
       simp only[List.getD,this,Option.getD_some]
      have apart:∀i' j',i'≠row→j'<a.k→e.ad id+i'*a.k+j'<e.ad id+(row*a.k+col)∨e.ad id+(row*a.k+col)+v.cells.length≤e.ad id+i'*a.k+j':=by
       intro i' j' hne hj'
       rcases Wh i' row with hlt|hge
       .left
        have:(i'+1)*a.k≤row*a.k:=Wi _ (by omega)
        rw[Wm,W7]at this
        omega
       .right
        have:(row+1)*a.k≤i'*a.k:=Wi _ (by omega)
        rw[Wm,W7]at this
        omega
      rcases gX hi with⟨rfl,rfl⟩|⟨hne,hi⟩
      .have hfit':col+(kS a v.cells).length≤(a.rows.getD i []).length:=by rw[iG,hrowlen _ _ hrg]; exact hcol
       rw[← iG a v.cells]at hj
       rcases nB hfit' hj with⟨p1,p2,p3⟩|⟨p1,p2⟩
       .obtain⟨q1',d,q2',q3'⟩:=zx (N:=N) (L:=L) (e:=e) (w:=w) hcalm p3
        refine⟨q1',vv.cells.getD (j - col) undef,?_,q3' _ (k2 _ _ q2')⟩
        rw[iG]at p2
        rw[hcell,gr (j:=e.ad id+i*a.k+j) hfit (by rw[e2]; omega) (by rw[e2,hlen]; omega),Wo]
        rw[show e.ad id+i*a.k+j - (e.ad id+(i*e.ak id+col))=j - col by rw[e2]; omega]
        exact bf (by omega)
       .obtain⟨q1',v',q2',q3'⟩:=g4 i _ hrg j c p2
        rw[iG]at p1
        refine⟨q1',v',?_,q3'⟩
        rw[hcell,dn (j:=e.ad id+i*a.k+j) hfit (by rw[e2,hlen]; omega)]
        exact hold _ _ q2'
      .obtain⟨q1',v',q2',q3'⟩:=g4 i r hi j c hj
       have hjk:j<a.k:=by rw[← hrowlen i r hi]; exact(V9.1 hj).1
       refine⟨q1',v',?_,q3'⟩
       rw[hcell,dn (j:=e.ad id+i*a.k+j) hfit (by rw[e2,hlen]; exact apart i j hne hjk)]
       exact hold _ _ q2'
   .cases hh
 .cases hh
end Go.Pv
namespace Go.Pv
variable {P:Program} {N M:Nat→Nat} {W:Nat→Prop} {L L':Lx} {e e':bh} {h:aa} {w w':World} {g:bJ→V} {ρ:Operand→Value}
def Plain (P:Program) (N:Nat→Nat) (L:Lx) (e:bh) (w:World) (s:Sem Value) (v:V):Prop:=∃v',s.run P w=.ok v' w∧VR N L e w v v'
theorem Plain.vW (hr:HR N L e W h w) {s:Sem Value} {v:V} {t:Tn} (hp:Plain P N L e w s v) (ht:t.apply h=h):Good P N W L e h w s v t:=by
 obtain⟨v',h1,h2⟩:=hp
 exact .pure hr h1 h2 ht
theorem xd {t:TypeId} {n:Nat} {ag:Bool} (hl:loadT P t=some (n,ag)) {off:Nat} {cs:List V} {arr:Array Value} (hs:arr.size=cs.length)
  (hv:∀(j:Nat) (c:V),cs[j]?=some c→VR N L e w c (arr.getD j undef)) {l:List V} (ht:takeN off n cs=some l) {v:V} (hc:dY ag l=some v):
  Plain P N L e w (part t arr off) v:=by
 obtain⟨h1,h2,h3⟩:=iF (w:=w) hl
 obtain⟨k1,k2,k3⟩:=jQ ht
 cases ag with
 |true=>
  have hv':V.agg l=v:=by simpa [dY]using hc
  subst hv'
  refine⟨.agg (arr.extract off (off+n)),by simp[part,h1,h2],.agg l _ (by simp; omega) (fun j c hj=>?_)⟩
  have hjl:j<n:=by rw[← k1]; exact(V9.1 hj).1
  have:=hv (off+j) c (k3 j c hj)
  have e1:(arr.extract off (off+n)).getD j undef=arr.getD (off+j) undef:=by
   have hlt:off+j<arr.size:=by omega
   simp only[Array.getD,hlt,dif_pos,Array.size_extract]
   rw[dif_pos (by omega)]
   simp
  rw[e1]; exact this
 |false=>
  have h1':=h3 rfl
  subst h1'
  match l,k1 with
  |[c],_=>
   have hv':c=v:=by simpa [dY]using hc
   subst hv'
   have hcs:=k3 0 c rfl
   have hlt:off+0<arr.size:=by rw[hs]; exact(V9.1 hcs).1
   simp only[Nat.add_zero]at hcs hlt
   refine⟨arr.getD off undef,?_,hv off c hcs⟩
   have hge:arr[off]?=some (arr.getD off undef):=bf hlt
   generalize arr.getD off undef=u at hge
   simp[part,h1,hge]
theorem Jl {t:TypeId} {fs:Array Field} {i n:Nat} {f:Field} {ag:Bool} (hu:P.underlying t=some (.struct fs)) (hf:fs[i]?=some f) (hl:loadT P f.type=some (n,ag)) {cs:List V} {xv:Value}
  (hx:VR N L e w (.agg cs) xv) {l:List V} (ht:takeN f.offset n cs=some l) {v:V} (hc:dY ag l=some v):Plain P N L e w (Instr.field t xv i) v:=by
 cases hx with
 |agg _ arr h1 h2=>
  obtain⟨v',k1,k2⟩:=xd hl h1 h2 ht hc
  exact⟨v',by simp[Instr.field,underlying,hu,hf,asAgg,k1],k2⟩
theorem Is {x v:V} {xv:Value} (hx:VR N L e w x xv) {off:Nat} (hh:rz off x=some v):
  ∃a,xv=.pointer (some a)∧VR N L e w v (.pointer (some (a.add off))):=by
 unfold rz at hh
 split at hh
 .rename_i t cs
  injection hh with hh
  subst hh
  cases hx with
  |pv _ _ hp=>
   cases hp with
   |ro _ _ b o vs ha hcell hv h1=>
    refine⟨⟨b,o,none⟩,rfl,?_⟩
    rw[dm]
    refine .pv _ _ (.ro t (cs.drop off) b (o+off) (fun j=>vs (off+j)) (fun hl=>ha (by simp at hl; omega)) (fun j c hj=>?_) (fun j c hj=>?_) (fun c hc=>h1 c (List.mem_of_mem_drop hc)))
    .rw[WQ]at hj
     rw[W0]; exact hcell _ c hj
    .rw[WQ]at hj
     exact hv _ c hj
 .rename_i s o
  injection hh with hh
  subst hh
  cases hx with
  |ptr _ _ hs=>exact⟨_,rfl,by rw[dm]; exact .ptr s _ hs⟩
 .injection hh with hh
  subst hh
  cases hx with
  |du id ax row col a h1 h2 h3=>
   refine⟨a,rfl,.du _ _ _ _ _ h1 h2 (fun hv=>?_)⟩
   rw[h3 hv,dm,W0,W0]
 .cases hh
theorem xe {t:TypeId} {fs:Array Field} {i n:Nat} {f:Field} (hu:P.underlying t=some (.struct fs)) (hf:fs[i]?=some f) (hn:cG P f.type=some n) (hn0:n≠0) {x v:V} {xv:Value}
  (hx:VR N L e w x xv) (hh:rz f.offset x=some v):Plain P N L e w (Instr.fieldAt t xv i) v:=by
 obtain⟨a,rfl,h2⟩:=Is hx hh
 have hsz:=eR (w:=w) hn
 exact⟨_,by simp[Instr.fieldAt,underlying,hu,hf,Instr.sureAddr,fieldPlace,hsz,hn0],h2⟩
theorem fA {i:V} {iv:Value} (hi:VR N L e w i iv) {n j:Nat} (hh:cw (intOf i) n=some j):∃k x,iv=.int k x∧0≤x∧x<n∧x.toNat=j∧j<n:=by
 cases hi with
 |pv p v hp=>
  cases hp with
  |int k x=>
   simp only[intOf,cw]at hh
   split at hh
   .rename_i hc
    injection hh with hh
    exact⟨k,x,rfl,hc.1,hc.2,hh,by omega⟩
   .cases hh
  |_=>simp[intOf,cw]at hh
 |_=>simp[intOf,cw]at hh
theorem Pu (hr:HR N L e W h w) {t el:TypeId} {k:Nat} (hu:P.underlying t=some (.slice el)) (hk:cG P el=some k) {x i v:V} {xv iv:Value} (hx:VR N L e w x xv) (hi:VR N L e w i iv)
  {tn:Tn} (hh:oW h k x (intOf i)=some (v,tn)):Plain P N L e w (Instr.indexAt t xv iv) v∧tn.apply h=h:=by
 have hsz:=eR (w:=w) hk
 have run:∀(a:Addr) (len cap:Nat) (kd:IntKind) (y:Int),0≤y→y<len→(Instr.indexAt t (.slice (some a) len cap) (.int kd y)).run P w=.ok (.pointer (some (a.add (y.toNat*k)))) w:=by
  intro a len cap kd y h0 h1
  simp[Instr.indexAt,asIntOf,underlying,hu,hsz,h0,h1]
 have rows:∀(tg:Nat) (rows:List (List PV)) (r:List PV) (j:Nat) (v':Value),dw N L w (.aq tg rows) v'→rows[j]?=some r→r.length=k→cw (intOf i) rows.length=some j→
   Plain P N L e w (Instr.indexAt t v' iv) (.pv (.ro tg r)):=by
  intro tg rows r j v' hp hr hrk hj
  obtain⟨kd,y,rfl,y0,y1,yj,jl⟩:=fA hi hj
  cases hp with
  |aq _ _ a ad cap k' vs hk' hc ha hcell hv hpm h1=>
   obtain⟨rfl,hsp,hl⟩:=ha (by omega)
   have hkk:k'=k:=by rw[← hk' r (Wa hr)]; exact hrk
   subst hkk
   refine⟨_,run ad _ cap kd y y0 y1,?_⟩
   obtain⟨b,o,sp⟩:=ad
   simp only at hsp
   subst hsp
   rw[dm,yj]
   have hat:∀(j':Nat) (c:PV),r[j']?=some c→ff rows j j'=some c:=fun j' c hc=>by simp[ff,hr,hc]
   refine .pv _ _ (.ro tg r b (o+j*k') (fun j'=>vs j j') (fun _=>hl) (fun j' c hc=>?_) (fun j' c hc=>hv j j' c (hat j' c hc)) (fun c hc=>?_))
   .rw[W0]; exact hcell j j' c (hat j' c hc)
   .obtain⟨j',hj'⟩:=Wd.1 hc
    exact PV.kO (h1 j j' c (hat j' c hj'))
 have cQ:∀(tg:Nat) (rows':List (List PV)) (v0:V) (v':Value),dw N L w (.aq tg rows') v'→jx k tg rows' (intOf i)=some v0→Plain P N L e w (Instr.indexAt t v' iv) v0:=by
  intro tg rws v0 v' hp hh
  unfold jx at hh
  cases hj:cw (intOf i) rws.length with
  |none=>simp[hj]at hh
  |some j=>
   simp only[hj]at hh
   cases hr:rws[j]? with
   |none=>simp[hr]at hh
   |some r=>
    simp only[hr]at hh
    split at hh
    .rename_i hrk
     injection hh with hh
     subst hh
     exact rows tg rws r j _ hp hr hrk hj
    .cases hh
 unfold oW at hh
 split at hh
 .rename_i tg rws
  cases hq:jx k tg rws (intOf i)with
  |none=>simp[hq]at hh
  |some v0=>
   simp[hq]at hh
   obtain⟨rfl,rfl⟩:=hh
   cases hx with
   |pv _ _ hp=>exact⟨cQ tg rws _ _ hp hq,Tn.aM h _ _ _ _ _⟩
 .rename_i rws
  cases hq:jx k 0 rws (intOf i)with
  |none=>simp[hq]at hh
  |some v0=>
   simp[hq]at hh
   obtain⟨rfl,rfl⟩:=hh
   cases hx with
   |tl _ _ hp=>exact⟨cQ 0 rws _ _ hp hq,Tn.aM h _ _ _ _ _⟩
 .rename_i id ax off len
  cases hj:cw (intOf i) len with
  |none=>simp[hj]at hh
  |some j=>
   cases ho:aB h id ax with
   |none=>simp[hj,ho]at hh
   |some ar=>
    simp only[hj,ho]at hh
    split at hh
    .rename_i hk'
     injection hh with hh
     simp only[Prod.mk.injEq]at hh
     obtain⟨rfl,rfl⟩:=hh
     refine⟨?_,Tn.aM h _ _ _ _ _⟩
     obtain⟨kd,y,rfl,y0,y1,yj,jl⟩:=fA hi hj
     obtain⟨ho1,ho2⟩:=bn ho
     obtain⟨v1,v2,v3,_⟩:=hr.ax id ar ho1
     cases hx with
     |own _ _ _ _ a cap h0 h1 h2 h3=>
      obtain⟨ad,rfl⟩:=Option.isSome_iff_exists.1 (h0 (by omega))
      refine⟨_,run ad len cap kd y y0 y1,.du id ax (off+j) 0 _ h1 h2 (fun hv=>?_)⟩
      obtain⟨g1,g2,g3,g4⟩:=h3 hv
      have:=g4 (by omega)
      injection this with this
      subst this
      rw[dm,yj,v2,hk',Wm]
      simp[Nat.add_assoc]
    .cases hh
 .cases hh
theorem Jm {t el:TypeId} {n k:Nat} (hu:P.underlying t=some (.array n el)) (hk:cG P el=some k) {x i v:V} {xv iv:Value} (hx:VR N L e w x xv) (hi:VR N L e w i iv)
  {j:Nat} (hj:cw (intOf i) n=some j) (hh:rz (j*k) x=some v):Plain P N L e w (Instr.indexAt t xv iv) v:=by
 have hsz:=eR (w:=w) hk
 obtain⟨kd,y,rfl,y0,y1,yj,jl⟩:=fA hi hj
 obtain⟨a,rfl,h2⟩:=Is hx hh
 refine⟨_,?_,h2⟩
 subst yj
 simp[Instr.indexAt,asIntOf,underlying,hu,Instr.sureAddr,hsz,y0,y1]
theorem Pw {t el:TypeId} {n k:Nat} {ag:Bool} (hu:P.underlying t=some (.array n el)) (hl:loadT P el=some (k,ag)) {cs:List V} {i v:V} {xv iv:Value} (hx:VR N L e w (.agg cs) xv) (hi:VR N L e w i iv)
  {j:Nat} (hj:cw (intOf i) n=some j) {l:List V} (ht:takeN (j*k) k cs=some l) (hc:dY ag l=some v):Plain P N L e w (Instr.index t xv iv) v:=by
 obtain⟨kd,y,rfl,y0,y1,yj,jl⟩:=fA hi hj
 cases hx with
 |agg _ arr h1 h2=>
  obtain⟨v',k1,k2⟩:=xd hl h1 h2 ht hc
  obtain⟨_,hsz,_⟩:=iF (w:=w) hl
  refine⟨v',?_,k2⟩
  subst yj
  simp[Instr.index,asIntOf,underlying,hu,hsz,y0,y1,k1]
theorem Px {t:TypeId} (hu:P.underlying t=some .string) {s:ByteArray} {i:V} {xv iv:Value} (hx:VR N L e w (.pv (.str s)) xv) (hi:VR N L e w i iv)
  {j:Nat} (hj:cw (intOf i) s.size=some j) {b:UInt8} (hb:s[j]?=some b):Plain P N L e w (Instr.index t xv iv) (.pv (.int .u8 b.toNat)):=by
 obtain⟨kd,y,rfl,y0,y1,yj,jl⟩:=fA hi hj
 cases hx with
 |pv _ _ hp=>
  cases hp with
  |str _=>
   refine⟨.int .u8 b.toNat,?_,.pv _ _ (.int _ _)⟩
   subst yj
   simp[Instr.index,asIntOf,underlying,hu,y0,hb]
end Go.Pv
namespace Go.Pv
variable {P:Program} {N M:Nat→Nat} {W:Nat→Prop} {L L':Lx} {e e':bh} {h:aa} {w w':World} {g:bJ→V} {ρ:Operand→Value}
theorem eU (hO:OR N M L e w g ρ) {o:Option Operand} {q:Option bJ} (ho:iB N M o=some q) {d top b:Nat} (hb:bound g q d top=some b):
  (o=none∧q=none∧b=d)∨∃x y k i,o=some x∧q=some y∧ρ x=.int k i∧0≤i∧i≤top∧i.toNat=b:=by
 unfold iB at ho
 split at ho
 .injection ho with ho
  subst ho
  simp[bound]at hb
  exact .inl ⟨rfl,rfl,hb.symm⟩
 .rename_i x
  cases hx:bg N M x with
  |none=>simp[hx]at ho
  |some y=>
   simp[hx]at ho
   subst ho
   refine .inr ⟨x,y,?_⟩
   have hv:=hO x y hx
   simp only[bound]at hb
   cases hi:intOf (g y)with
   |none=>simp[hi]at hb
   |some i=>
    simp only[hi]at hb
    split at hb
    .rename_i hc
     injection hb with hb
     generalize hgy:g y=v at hv hi
     generalize hrx:ρ x=u at hv
     cases hv with
     |pv p u hp=>
      cases hp with
      |int k n=>
       simp[intOf]at hi
       subst hi
       exact⟨k,n,rfl,rfl,rfl,hc.1,hc.2,hb⟩
      |_=>simp[intOf]at hi
     |_=>simp[intOf]at hi
    .cases hb
theorem jR (hO:OR N M L e w g ρ) {lo hi mx:Option Operand} {lo' hi' mx':Option bJ} (hlo:iB N M lo=some lo') (hhi:iB N M hi=some hi') (hmx:iB N M mx=some mx')
  (hnn:∀y,mx'=some y→hi'≠none) {len cap:Nat} (hcap:len≤cap) {a b:Nat} {c:Option Nat} (hb:bounds g lo' hi' mx' len=some (a,b,c)) (isS:Bool):
  (Instr.sliceBounds isS len cap (lo.map ρ) (hi.map ρ) (mx.map ρ)).run P w=.ok (a,b,c.getD cap) w∧a≤b∧b≤len∧(∀m,c=some m→b≤m∧m≤len):=by
 unfold bounds at hb
 cases hb1:bound g hi' len len with
 |none=>simp[hb1]at hb
 |some b'=>
  simp only[hb1]at hb
  cases hb2:bound g lo' 0 b' with
  |none=>simp[hb2]at hb
  |some a'=>
   simp only[hb2]at hb
   have hble:b'≤len:=by
    rcases eU hO hhi hb1 with⟨_,_,h3⟩|⟨_,_,_,i,_,_,_,h4,h5,h6⟩<;>omega
   have hale:a'≤b':=by
    rcases eU hO hlo hb2 with⟨_,_,h3⟩|⟨_,_,_,i,_,_,_,h4,h5,h6⟩<;>omega
   have low:∀code:BoundsCode,((match lo.map ρ with|some v=>Instr.sliceBound v b' code|none=>pure 0):Sem Nat).run P w=.ok a' w:=by
    intro code
    rcases eU hO hlo hb2 with⟨h1,h2,h3⟩|⟨x,y,k,i,h1,h2,h3,h4,h5,h6⟩
    .subst h1; simp[h3]
    .subst h1; simp only[Option.map_some,h3]; rw[run_sliceBound w k i b' code h4 h5,h6]
   cases hm:mx' with
   |none=>
    simp only[hm]at hb
    injection hb with hb
    simp only[Prod.mk.injEq]at hb
    obtain⟨rfl,rfl,rfl⟩:=hb
    refine⟨?_,hale,hble,fun m hm'=>by cases hm'⟩
    have hmn:mx=none:=by
     subst hm
     unfold iB at hmx
     split at hmx
     .rfl
     .split at hmx<;>simp at hmx
    subst hmn
    have high:((match hi.map ρ with|some v=>Instr.sliceBound v cap (if isS then .sliceAcap else .sliceAlen)|none=>pure len):Sem Nat).run P w=.ok b' w:=by
     rcases eU hO hhi hb1 with⟨h1,h2,h3⟩|⟨x,y,k,i,h1,h2,h3,h4,h5,h6⟩
     .subst h1; simp[h3]
     .subst h1; simp only[Option.map_some,h3]; rw[run_sliceBound w k i cap _ h4 (by omega),h6]
    have lowr:=low .sliceB
    cases hi with
    |none=>
     simp only[Option.map_none]at high
     simp only[Instr.sliceBounds,Option.map_none,Sem.run_bind,Sem.run_pure,Result.andThen_ok]
     have:len=b':=by simpa using high
     subst this
     cases lo with
     |none=>simp only[Option.map_none]at lowr ⊢; simp only[Sem.run_bind,Sem.run_pure,Result.andThen_ok]at lowr ⊢; simpa using lowr
     |some l=>simp only[Option.map_some]at lowr ⊢; simp[lowr]
    |some hx=>
     simp only[Option.map_some]at high
     simp only[Instr.sliceBounds,Option.map_none,Option.map_some,Sem.run_bind,Sem.run_pure,Result.andThen_ok,high]
     cases lo with
     |none=>simp only[Option.map_none]at lowr ⊢; simp only[Sem.run_bind,Sem.run_pure,Result.andThen_ok]at lowr ⊢; simpa using lowr
     |some l=>simp only[Option.map_some]at lowr ⊢; simp[lowr]
   |some y=>
    simp only[hm]at hb
    cases hb3:bound g (some y) 0 len with
    |none=>simp[hb3]at hb
    |some c'=>
     simp only[hb3]at hb
     split at hb
     .rename_i hbc
      injection hb with hb
      simp only[Prod.mk.injEq]at hb
      obtain⟨rfl,rfl,rfl⟩:=hb
      have hcl:c'≤len:=by
       rcases eU hO (by rw[← hm]; exact hmx) hb3 with⟨_,h2,_⟩|⟨_,_,_,i,_,_,_,h4,h5,h6⟩
       .cases h2
       .omega
      refine⟨?_,hale,hble,fun m hm'=>by injection hm' with hm'; omega⟩
      rcases eU hO (by rw[← hm]; exact hmx) hb3 with⟨_,h2,_⟩|⟨x,y',k,i,h1,h2,h3,h4,h5,h6⟩
      .cases h2
      .subst h1
       rcases eU hO hhi hb1 with⟨q1,q2,q3⟩|⟨x',y'',k',i',q1,q2,q3,q4,q5,q6⟩
       .exact absurd q2 (hnn y hm)
       .subst q1
        have lowr:=low .slice3C
        simp only[Instr.sliceBounds,Option.map_some,Sem.run_bind,h3,q3]
        rw[run_sliceBound w k i cap _ h4 (by omega),Result.andThen_ok,h6,run_sliceBound w k' i' c' _ q4 (by omega),Result.andThen_ok,q6]
        cases lo with
        |none=>simp only[Option.map_none]at lowr ⊢; simp only[Sem.run_bind,Sem.run_pure,Result.andThen_ok]at lowr ⊢; simpa using lowr
        |some l=>simp only[Option.map_some]at lowr ⊢; simp[lowr]
     .cases hb
theorem pc {tg k cap a b m:Nat} {rows:List (List PV)} {A:Option Addr} (hp:dw N L w (.aq tg rows) (.slice A rows.length cap)) (hf:aO k (.inl rows)=true)
  (hab:a≤b) (hb:b≤rows.length) (_hm:m≤cap) (hbm:b≤m):
  dw N L w (.aq tg ((rows.take b).drop a)) (.slice (if m=a then A else A.map (·.add (a*k))) (b - a) (m - a)):=by
 have hlen:((rows.take b).drop a).length=b - a:=by simp; omega
 rw[← hlen]
 cases hp with
 |aq _ _ _ ad _ k' vs hk hc ha hcell hv hpm h1=>
  have hat:∀i j c,ff ((rows.take b).drop a) i j=some c→ff rows (a+i) j=some c:=by
   intro i j c hh
   unfold ff at hh ⊢
   rw[WQ,Wy]at hh
   split at hh
   .exact hh
   .simp at hh
  by_cases hne:0<((rows.take b).drop a).length
  .obtain⟨rfl,hsp,hl⟩:=ha (by omega)
   have hkk:k'=k:=by
    have:rows[0]?=some (rows[0]'(by omega)):=Wb _
    have h2:=hk _ (Wa this)
    simp only[aO,List.all_eq_true,beq_iff_eq]at hf
    rw[← h2]; exact hf _ (Wa this)
   subst hkk
   have hma:m≠a:=by omega
   rw[if_neg hma]
   obtain⟨bb,o,sp⟩:=ad
   simp only at hsp
   subst hsp
   refine .aq tg _ _ ⟨bb,o+a*k',none⟩ _ k' (fun i j=>vs (a+i) j) (fun r hr=>hk r (List.mem_of_mem_take (List.mem_of_mem_drop hr))) (by omega) (fun _=>⟨by simp[dm],rfl,hl⟩)
    (fun i j c hh=>?_) (fun i j c hh=>hv _ _ c (hat i j c hh)) (fun ht i j c hh=>hpm ht _ _ c (hat i j c hh)) (fun i j c hh=>h1 _ _ c (hat i j c hh))
   have:=hcell _ _ c (hat i j c hh)
   simp only at this ⊢
   rw[← this,Wm]
   congr 2
   omega
  .have hnil:(rows.take b).drop a=[]:=Wp (by omega)
   rw[hnil]
   exact .aq tg [] _ ad _ k' vs (by simp) (by simp) (by simp) (by simp[ff]) (by simp[ff]) (by simp[ff]) (by simp[ff])
theorem uh {tg cap:Nat} {A:Option Addr}:dw N L w (.aq tg []) (.slice A 0 cap):=
 .aq tg [] A default cap 0 (fun _ _=>undef) (by simp) (by simp) (by simp) (by simp[ff]) (by simp[ff]) (by simp[ff]) (by simp[ff])
theorem GI (hr:HR N L e W h w) (hO:OR N M L e w g ρ) {lo hi mx:Option Operand} {lo' hi' mx':Option bJ} (hlo:iB N M lo=some lo') (hhi:iB N M hi=some hi') (hmx:iB N M mx=some mx')
  (hnn:∀y,mx'=some y→hi'≠none) {t el:TypeId} {k:Nat} (hu:P.underlying t=some (.slice el)) (hk:cG P el=some k) {x v:V} {xv:Value} (hx:VR N L e w x xv)
  {tn:Tn} (hh:di g h k x lo' hi' mx'=some (v,tn)):Plain P N L e w (Instr.sliceAt t xv (lo.map ρ) (hi.map ρ) (mx.map ρ)) v∧tn.apply h=h:=by
 have hsz:=eR (w:=w) hk
 have run:∀(A:Option Addr) (len cap a b m:Nat),(Instr.sliceBounds true len cap (lo.map ρ) (hi.map ρ) (mx.map ρ)).run P w=.ok (a,b,m) w→
   (Instr.sliceAt t (.slice A len cap) (lo.map ρ) (hi.map ρ) (mx.map ρ)).run P w=.ok (.slice (if m=a then A else A.map (·.add (a*k))) (b - a) (m - a)) w:=by
  intro A len cap a b m hb
  simp[Instr.sliceAt,Instr.slice,underlying,hu,hb,hsz]
 unfold di at hh
 split at hh
 .rename_i tg rows
  split at hh
  .rename_i hf
   cases hx with
   |pv _ _ hp=>
    have hp':=hp
    cases hp with
    |aq _ _ A ad cap k' vs hk' hc ha hcell hv hpm h1=>
     cases hb:bounds g lo' hi' mx' rows.length with
     |none=>simp[hb]at hh
     |some abc=>
      obtain⟨a,b,c⟩:=abc
      obtain⟨r1,r2,r3,r4⟩:=jR (P:=P) (w:=w) hO hlo hhi hmx hnn hc hb true
      simp only[hb]at hh
      cases c with
      |none=>
       simp at hh
       obtain⟨rfl,rfl⟩:=hh
       exact⟨⟨_,run A _ cap a b _ r1,.pv _ _ (pc hp' hf r2 r3 (Nat.le_refl _) (by simp; omega))⟩,Tn.aM h _ _ _ _ _⟩
      |some m=>
       simp only[]at hh
       split at hh
       .rename_i hcond
        obtain⟨rfl,rfl⟩:=hcond
        injection hh with hh
        simp only[Prod.mk.injEq]at hh
        obtain⟨rfl,rfl⟩:=hh
        refine⟨⟨_,run A _ cap _ _ _ r1,?_⟩,Tn.aM h _ _ _ _ _⟩
        simp only[Option.getD_some,Nat.sub_self]
        exact .tl [] _ uh vT.nil
       .cases hh
  .cases hh
 .rename_i rows
  split at hh
  .rename_i hf
   cases hx with
   |tl _ A hp hsoft=>
    have hso:∀(c:Prop) [Decidable c] (j n:Nat),n≤rows.length→vT w (if c then A else A.map (·.add j)) n:=by
     intro c _ j n hn h0 ad hd
     split at hd
     .exact hsoft (by omega) ad hd
     .cases A with
      |none=>cases hd
      |some a0=>
       injection hd with hd
       subst hd
       have hb:(a0.add j).block=a0.block:=by unfold Addr.add; split<;>rfl
       show ∃arr ty,w.heap[(a0.add j).block]?=_
       rw[hb]
       exact hsoft (by omega) a0 rfl
    cases hb:bounds g lo' hi' mx' rows.length with
    |none=>simp[hb]at hh
    |some abc=>
     obtain⟨a,b,c⟩:=abc
     obtain⟨r1,r2,r3,r4⟩:=jR (P:=P) (w:=w) hO hlo hhi hmx hnn (Wj rows.length) hb true
     simp only[hb]at hh
     cases c with
     |none=>
      simp only[Option.getD_none]at r1
      simp only[]at hh
      have hsl:=pc (m:=rows.length) hp hf r2 r3 (Wj _) r3
      split at hh
      .rename_i hbl
       injection hh with hh
       simp only[Prod.mk.injEq]at hh
       obtain⟨rfl,rfl⟩:=hh
       refine⟨⟨_,run A _ _ a b _ r1,?_⟩,Tn.aM h _ _ _ _ _⟩
       have hlen:((rows.take b).drop a).length=b - a:=by simp; omega
       subst hbl
       have:=VR.tl (N:=N) (L:=L) (e:=e) (w:=w) ((rows.take rows.length).drop a) (if rows.length=a then A else A.map (·.add (a*k))) (by rw[hlen]; exact hsl) (hso _ _ _ (by simp only[List.length_drop,List.length_take]; omega))
       rw[hlen]at this
       exact this
      .injection hh with hh
       simp only[Prod.mk.injEq]at hh
       obtain⟨rfl,rfl⟩:=hh
       exact⟨⟨_,run A _ _ a b _ r1,.pv _ _ hsl⟩,Tn.aM h _ _ _ _ _⟩
     |some m=>
      obtain⟨m1,m2⟩:=r4 m rfl
      simp only[]at hh
      split at hh
      .rename_i hcond
       subst hcond
       injection hh with hh
       simp only[Prod.mk.injEq]at hh
       obtain⟨rfl,rfl⟩:=hh
       have hlen:((rows.take m).drop a).length=m - a:=by simp; omega
       refine⟨⟨_,run A _ _ _ _ _ r1,?_⟩,Tn.aM h _ _ _ _ _⟩
       have hsl:=pc (m:=m) hp hf r2 r3 m2 (Wj _)
       have:=VR.tl (N:=N) (L:=L) (e:=e) (w:=w) ((rows.take m).drop a) (if m=a then A else A.map (·.add (a*k))) (by rw[hlen]; exact hsl) (hso _ _ _ (by simp only[List.length_drop,List.length_take]; omega))
       rw[hlen]at this
       exact this
      .cases hh
  .cases hh
 .rename_i id ax off len
  cases ho:aB h id ax with
  |none=>simp[ho]at hh
  |some ar=>
   simp only[ho]at hh
   split at hh
   .rename_i hark
    obtain⟨ho1,ho2⟩:=bn ho
    obtain⟨v1,v2,v3,_⟩:=hr.ax id ar ho1
    cases hx with
    |own _ _ _ _ A cap h0 h1 h2 h3=>
     obtain⟨g1,g2,g3,g4⟩:=h3 (by omega)
     cases hb:bounds g lo' hi' mx' len with
     |none=>simp[hb]at hh
     |some abc=>
      obtain⟨a,b,c⟩:=abc
      obtain⟨r1,r2,r3,r4⟩:=jR (P:=P) (w:=w) hO hlo hhi hmx hnn g2 hb true
      simp only[hb]at hh
      cases c with
      |none=>
       simp at hh
       obtain⟨rfl,rfl⟩:=hh
       refine⟨⟨_,run A _ cap a b _ r1,?_⟩,Tn.aM h _ _ _ _ _⟩
       simp only[Option.getD_none]
       refine .own id ax (off+a) (b - a) _ _ (fun hlt=>?_) h1 h2 (fun _=>⟨by omega,by omega,by omega,fun hlt=>?_⟩)
       .have:=h0 (by omega)
        split
        .exact this
        .simpa using this
       .rw[if_neg (by omega),g4 (by omega)]
        simp only[Option.map_some,dm]
        rw[v2,hark,Wm]
        simp[Nat.add_assoc]
      |some m=>
       simp only[]at hh
       split at hh
       .rename_i hcond
        obtain⟨rfl,rfl⟩:=hcond
        injection hh with hh
        simp only[Prod.mk.injEq]at hh
        obtain⟨rfl,rfl⟩:=hh
        refine⟨⟨_,run A _ cap _ _ _ r1,?_⟩,Tn.aM h _ _ _ _ _⟩
        simp only[Option.getD_some,Nat.sub_self]
        exact .tl [] _ uh vT.nil
       .cases hh
   .cases hh
 .cases hh
theorem Py (hO:OR N M L e w g ρ) {lo hi:Option Operand} {lo' hi':Option bJ} (hlo:iB N M lo=some lo') (hhi:iB N M hi=some hi')
  {t:TypeId} (hu:P.underlying t=some .string) {x v:V} {xv:Value} (hx:VR N L e w x xv) (hh:vO g x lo' hi'=some v):
  Plain P N L e w (Instr.sliceAt t xv (lo.map ρ) (hi.map ρ) none) v:=by
 unfold vO at hh
 split at hh
 .rename_i s
  cases hx with
  |pv _ _ hp=>
   cases hp with
   |str _=>
    cases hb1:bound g hi' s.size s.size with
    |none=>simp[hb1]at hh
    |some b=>
     simp only[hb1]at hh
     cases hb2:bound g lo' 0 b with
     |none=>simp[hb2]at hh
     |some a=>
      simp only[hb2]at hh
      injection hh with hh
      subst hh
      have hb:bounds g lo' hi' none s.size=some (a,b,none):=by simp[bounds,hb1,hb2]
      obtain⟨r1,_⟩:=jR (P:=P) (w:=w) (mx:=none) hO hlo hhi rfl (by simp) (Nat.le_refl s.size) hb false
      simp only[Option.map_none,Option.getD_none]at r1
      exact⟨_,by simp[Instr.sliceAt,Instr.slice,underlying,hu,r1],.pv _ _ (.str _)⟩
 .cases hh
end Go.Pv
namespace Go.Pv
variable {P:Program} {N M:Nat→Nat} {W:Nat→Prop} {L L':Lx} {e e':bh} {h:aa} {w w':World} {g:bJ→V} {ρ:Operand→Value}
theorem VR.int {k:IntKind} {n:Int} {v:Value} (hv:VR N L e w (.pv (.int k n)) v):v=.int k n:=by
 cases hv with
 |pv _ _ hp=>cases hp; rfl
theorem VR.bool {b:Bool} {v:Value} (hv:VR N L e w (.pv (.bool b)) v):v=.bool b:=by
 cases hv with
 |pv _ _ hp=>cases hp; rfl
theorem VR.str {s:ByteArray} {v:Value} (hv:VR N L e w (.pv (.str s)) v):v=.string s:=by
 cases hv with
 |pv _ _ hp=>cases hp; rfl
theorem cF (k:IntKind) (n:Int) {s:Sem Value} (hs:s.run P w=.ok (.int k n) w):Plain P N L e w s (.pv (.int k n)):=⟨_,hs,.pv _ _ (.int k n)⟩
theorem ea (b:Bool) {s:Sem Value} (hs:s.run P w=.ok (.bool b) w):Plain P N L e w s (.pv (.bool b)):=⟨_,hs,.pv _ _ (.bool b)⟩
theorem lO (b:ByteArray) {s:Sem Value} (hs:s.run P w=.ok (.string b) w):Plain P N L e w s (.pv (.str b)):=⟨_,hs,.pv _ _ (.str b)⟩
theorem zy {op:BinOp} {t:TypeId} {k:IntKind} {a b:Int} {p:PV} (hns:¬(op=.shl∨op=.shr)) (hh:eO op k a b=some p):
  Plain P N L e w (binOp op t (.int k a) (.int k b)) (.pv p):=by
 cases op<;>simp[eO]at hh hns
 case add=>subst hh; exact cF _ _ (by simp[binOp,Op.intArith])
 case sub=>subst hh; exact cF _ _ (by simp[binOp,Op.intArith])
 case mul=>subst hh; exact cF _ _ (by simp[binOp,Op.intArith])
 case quo=>obtain⟨h1,rfl⟩:=hh; exact cF _ _ (by simp[binOp,Op.intDiv,h1])
 case rem=>obtain⟨h1,rfl⟩:=hh; exact cF _ _ (by simp[binOp,Op.intDiv,h1])
 case and=>subst hh; exact cF _ _ (by simp[binOp,Op.intBits])
 case or=>subst hh; exact cF _ _ (by simp[binOp,Op.intBits])
 case xor=>subst hh; exact cF _ _ (by simp[binOp,Op.intBits])
 case andNot=>subst hh; exact cF _ _ (by simp[binOp,Op.intBits])
 case eql=>subst hh; exact ea _ (by simp[binOp,Op.intCmp])
 case neq=>subst hh; exact ea _ (by simp[binOp,Op.intCmp])
 case lss=>subst hh; exact ea _ (by simp[binOp,Op.intCmp])
 case leq=>subst hh; exact ea _ (by simp[binOp,Op.intCmp])
 case gtr=>subst hh; exact ea _ (by simp[binOp,Op.intCmp])
 case geq=>subst hh; exact ea _ (by simp[binOp,Op.intCmp])
theorem Pz {op:BinOp} {t:TypeId} {x y v:V} {xv yv:Value} (hx:VR N L e w x xv) (hy:VR N L e w y yv) (hh:cB op x y=some v):Plain P N L e w (binOp op t xv yv) v:=by
 unfold cB at hh
 split at hh
 .rename_i j a k b
  have e1:=hx.int
  have e2:=hy.int
  subst e1; subst e2
  split at hh
  .rename_i hs
   unfold ry at hh
   split at hh
   .simp at hh
   .rename_i hb
    rcases hs with rfl|rfl
    .simp at hh; subst hh; exact cF _ _ (by simp[binOp,Op.shift,hb])
    .simp at hh; subst hh; exact cF _ _ (by simp[binOp,Op.shift,hb])
  .rename_i hs
   split at hh
   .rename_i hjk
    subst hjk
    cases hq:eO op j a b with
    |none=>simp[hq]at hh
    |some p=>simp[hq]at hh; subst hh; exact zy hs hq
   .cases hh
 .rename_i a b
  have e1:=hx.str
  have e2:=hy.str
  subst e1; subst e2
  cases op<;>simp[kI]at hh
  .obtain⟨h1,rfl⟩:=hh
   exact lO _ (by
    have:¬(((a.size+b.size:Nat):Int)>IntKind.i64.max):=by
     have:IntKind.i64.max=9223372036854775807:=by decide
     omega
    simp only[binOp,Op.stringOp]
    rw[if_neg this]
    rfl)
  all_goals subst hh; exact ea _ (by simp[binOp,Op.stringOp])
 .cases hh
theorem xf {op:BinOp} {t:TypeId} {x y:Operand} {x' y' v:V} {xv yv:Value} (hx:VR N L e w x' xv) (hy:VR N L e w y' yv) (hh:cB op x' y'=some v):
  (eqGuard op t x y xv yv).run P w=.ok () w:=by
 unfold cB at hh
 split at hh
 .have e1:=hx.int
  have e2:=hy.int
  subst e1; subst e2
  unfold eqGuard
  split<;>rfl
 .have e1:=hx.str
  have e2:=hy.str
  subst e1; subst e2
  unfold eqGuard
  split<;>rfl
 .cases hh
theorem TE {op:UnOp} {x v:V} {xv:Value} (hx:VR N L e w x xv) (hh:Nq op x=some v):Plain P N L e w (Op.unary op xv) v:=by
 unfold Nq at hh
 split at hh
 .injection hh with hh
  subst hh
  have e1:=hx.int
  subst e1
  exact cF _ _ (by simp[Op.unary,Op.intArith])
 .injection hh with hh
  subst hh
  have e1:=hx.bool
  subst e1
  exact ea _ (by simp[Op.unary])
 .cases hh
theorem Jn {s d:TypeId} {k k':IntKind} (hs:P.underlying s=some (.int k')) (hd:P.underlying d=some (.int k)) {k0:IntKind} {n:Int} {xv:Value} (hx:VR N L e w (.pv (.int k0 n)) xv):
  Plain P N L e w (convert s d xv) (.pv (.int k (k.wrap n))):=by
 have e1:=hx.int
 subst e1
 exact cF _ _ (by simp[convert,underlying,hs,hd,Conv.intToInt])
theorem DS {s d:TypeId} {k':IntKind} (hs:P.underlying s=some (.int k')) (hd:P.underlying d=some .string) {k0:IntKind} {n:Int} {xv:Value} (hx:VR N L e w (.pv (.int k0 n)) xv):
  Plain P N L e w (convert s d xv) (.pv (.str (Utf8.encode n))):=by
 have e1:=hx.int
 subst e1
 exact lO _ (by simp[convert,underlying,hs,hd,Conv.intToString])
theorem xg {s d:TypeId} {de:TypeDesc} (hs:P.underlying s=some de) (hd:P.underlying d=some .string) {b:ByteArray} {xv:Value} (hx:VR N L e w (.pv (.str b)) xv):
  Plain P N L e w (convert s d xv) (.pv (.str b)):=by
 have e1:=hx.str
 subst e1
 exact lO _ (by simp[convert,underlying,hs,hd])
theorem PA {vs:List V} {i:Nat} {v:V} {xv:Value} (hx:VR N L e w (.dy vs) xv) (hv:vs[i]?=some v):Plain P N L e w (Instr.extract xv i) v:=by
 cases hx with
 |dy _ arr h1 h2=>
  have hlt:i<arr.size:=by rw[h1]; exact(V9.1 hv).1
  have hge:arr[i]?=some (arr.getD i undef):=bf hlt
  refine⟨arr.getD i undef,?_,h2 i v hv⟩
  generalize arr.getD i undef=u at hge
  simp[Instr.extract,hge]
theorem Jo {t el:TypeId} (hd:P.underlying t=some (.slice el)) {ty:TypeId} {x:V} {xv:Value} (hx:VR N L e w x xv) {n:Nat} {tn:Tn} (hh:ix h 0 x=some (n,tn)):
  (Builtin.len_ #[t] ty #[xv]).run P w=.ok (goInt n) w∧tn.apply h=h:=by
 unfold ix at hh
 split at hh<;>first|(cases hh; done)|skip
 .rename_i tg rows _
  simp at hh
  obtain⟨rfl,rfl⟩:=hh
  refine⟨?_,Tn.aM h _ _ _ _ _⟩
  cases hx with
  |pv _ _ hp=>cases hp with|aq=>simp[Builtin.len_,underlying,hd]
 .simp at hh
  obtain⟨rfl,rfl⟩:=hh
  refine⟨?_,Tn.aM h _ _ _ _ _⟩
  cases hx with
  |tl=>simp[Builtin.len_,underlying,hd]
 .simp at hh
  obtain⟨rfl,rfl⟩:=hh
  refine⟨?_,Tn.aM h _ _ _ _ _⟩
  cases hx with
  |own=>simp[Builtin.len_,underlying,hd]
 all_goals (rename_i hq; simp at hq)
theorem Jp {t : TypeId} (hd : P.underlying t = some .string) {ty : TypeId} {x : V} {xv : Value} (hx : VR N L e w x xv) {n : Nat} {tn : Tn} (hh : ix h 1 x = some (n,tn)) :
    (Builtin.len_ #[t] ty #[xv]).run P w = .ok (goInt n) w ∧ tn.apply h = h := by
  unfold ix at hh
  split at hh <;> first | (cases hh; done) | skip
  all_goals first
    | (rename_i hq; simp at hq; done)
    | (simp at hh
       obtain ⟨rfl,rfl⟩ := hh
       refine ⟨?_,Tn.aM h _ _ _ _ _⟩
       have e1 := hx.str
       subst e1
       simp [Builtin.len_,underlying,hd])
theorem jS {r:Nat} {es:Array MapEntry} {cl:Nat} (hm:w.heap[r]?=some (.map es cl)):(getObj r).run P w=.ok (.map es cl) w:=by
 simp[getObj,Sem.run,hm]
theorem Jq (hr:HR N L e W h w) {t k el:TypeId} (hd:P.underlying t=some (.map k el)) {ty:TypeId} {x:V} {xv:Value} (hx:VR N L e w x xv) {n:Nat} {tn:Tn} (hh:ix h 2 x=some (n,tn)):
  (Builtin.len_ #[t] ty #[xv]).run P w=.ok (goInt n) w∧tn.apply h=h:=by
 unfold ix at hh
 split at hh<;>first|(cases hh; done)|skip
 all_goals (try (rename_i hq; simp at hq; done))
 .rename_i id _
  cases hm:h.mp[id]? with
  |none=>simp[hm]at hh
  |some m=>
   simp[hm]at hh
   obtain⟨rfl,rfl⟩:=hh
   refine⟨?_,Tn.aM h _ _ _ _ _⟩
   cases hx with
   |map _ hid=>
    obtain⟨es,cl,g1,g2,_⟩:=hr.mp id m hm
    simp[Builtin.len_,underlying,hd,jS g1,g2]
 .simp at hh
  obtain⟨rfl,rfl⟩:=hh
  refine⟨?_,Tn.aM h _ _ _ _ _⟩
  cases hx with
  |dR=>simp[Builtin.len_,underlying,hd]
theorem rJ (isMax:Bool) (k:IntKind):∀(r:List V) (vs:List Value) (a n:Int),(∀(j:Nat) (c:V),r[j]?=some c→∃v,vs[j]?=some v∧VR N L e w c v)→vs.length=r.length→gV isMax a r=some n→
  (vs.foldlM (if isMax then Builtin.max2 else Builtin.min2) (.int k a)).run P w=.ok (.int k n) w
 |[],vs,a,n,_,hl,hh=>by
  have:vs=[]:=List.eq_nil_of_length_eq_zero (by simpa using hl)
  subst this
  simp[gV]at hh
  subst hh
  rfl
 |c::r,vs,a,n,hv,hl,hh=>by
  match vs,hl with
  |v::vs,hl=>
   unfold gV at hh
   split at hh
   .cases ‹_::_=[]›
   .rename_i k' b r' heq
    injection heq with h1 h2
    subst h1; subst h2
    obtain⟨v',h3,h4⟩:=hv 0 _ rfl
    simp at h3
    subst h3
    have e1:=h4.int
    subst e1
    have ih:=rJ isMax k r vs _ n (fun j c hj=>by simpa using hv (j+1) c (by simpa using hj)) (by simpa using hl) hh
    cases isMax<;>simp[List.foldlM_cons,Builtin.max2,Builtin.min2]at ih ⊢<;>exact ih
   .cases hh
def gK (N:Nat→Nat) (L:Lx) (e:bh) (w:World) (cs:List V) (arr:Array Value):Prop:=
 arr.size=cs.length∧∀(j:Nat) (c:V),cs[j]?=some c→VR N L e w c (arr.getD j undef)
def jT (off:Nat) (vs:Array Value) (cells:Array Value):Array Value:=vs.zipIdx.foldl (fun cs (c,j)=>cs.setIfInBounds (off+j) c) cells
theorem nC (off:Nat):∀(l:List Value) (i:Nat) (cells:Array Value),
  ((l.zipIdx i).foldl (fun(cs:Array Value) (x:Value×Nat)=>cs.setIfInBounds (off+x.2) x.1) cells).size=cells.size∧
  ∀j,((l.zipIdx i).foldl (fun(cs:Array Value) (x:Value×Nat)=>cs.setIfInBounds (off+x.2) x.1) cells)[j]?=
   if off+i≤j∧j<off+i+l.length∧j<cells.size then l[j - (off+i)]? else cells[j]?
 |[],i,cells=>by
  refine⟨rfl,fun j=>?_⟩
  rw[if_neg (by simp; omega)]
  rfl
 |v::l,i,cells=>by
  obtain⟨h1,h2⟩:=nC off l (i+1) (cells.setIfInBounds (off+i) v)
  simp only[List.zipIdx_cons,List.foldl_cons]
  refine⟨by rw[h1]; simp,fun j=>?_⟩
  rw[h2 j]
  simp only[Array.size_setIfInBounds,List.length_cons]
  by_cases hj:j=off+i
  .subst hj
   rw[if_neg (by omega)]
   by_cases hs:off+i<cells.size
   .rw[if_pos (by omega),Array.getElem?_setIfInBounds_self_of_lt hs]
    simp
   .rw[if_neg (by omega),Array.getElem?_eq_none (by simp; omega),Array.getElem?_eq_none (by omega)]
  .by_cases hc:off+(i+1)≤j∧j<off+(i+1)+l.length∧j<cells.size
   .rw[if_pos hc,if_pos (by omega)]
    rw[show j - (off+i)=(j - (off+(i+1)))+1 by omega,List.getElem?_cons_succ]
   .rw[if_neg hc,if_neg (by omega),Array.getElem?_setIfInBounds_ne (Ne.symm hj)]
theorem xh (off:Nat) (vs cells:Array Value):(jT off vs cells).size=cells.size∧
  ∀j,(jT off vs cells)[j]?=if off≤j∧j<off+vs.size∧j<cells.size then vs[j - off]? else cells[j]?:=by
 have key:jT off vs cells=(vs.toList.zipIdx 0).foldl (fun(cs:Array Value) (x:Value×Nat)=>cs.setIfInBounds (off+x.2) x.1) cells:=by
  unfold jT
  rw[← Array.foldl_toList,Array.toList_zipIdx]
 rw[key]
 obtain⟨h1,h2⟩:=nC off vs.toList 0 cells
 refine⟨h1,fun j=>?_⟩
 rw[h2 j]
 simp
theorem gK.over {cs:List V} {arr:Array Value} (hc:gK N L e w cs arr) {x:V} {v:Value} (hx:VR N L e w x v) (hs:x.sized=true) {off:Nat} (hfit:off+x.cells.length≤cs.length):
  gK N L e w (setAt cs off x.cells) (jT off v.cells arr):=by
 obtain⟨h1,h2⟩:=hx.cells hs
 obtain⟨k1,k2⟩:=xh off v.cells arr
 refine⟨by rw[k1,hc.1]; simp[setAt]; omega,fun j c hj=>?_⟩
 have hjl:j<arr.size:=by
  rw[hc.1]
  have:=(V9.1 hj).1
  simp[setAt]at this
  omega
 have hget:(jT off v.cells arr).getD j undef=((jT off v.cells arr)[j]?).getD undef:=by simp
 rw[hget,k2 j]
 unfold setAt at hj
 rcases nB hfit hj with⟨p1,p2,p3⟩|⟨p1,p2⟩
 .rw[if_pos (by omega)]
  have:=h2 _ c p3
  simpa using this
 .rw[if_neg (by omega)]
  have:=hc.2 j c p2
  simpa using this
theorem nD (hO:OR N M L e w g ρ) {place:Nat→Option (Nat×Nat)}:∀(parts:List (Nat×Operand)) (parts':List (Nat×Nat×bJ)) (cs cs':List V) (arr:Array Value),
  parts'.length=parts.length→(∀(j:Nat) (q:Nat×Nat×bJ),parts'[j]?=some q→∃i x,parts[j]?=some (i,x)∧place i=some (q.1,q.2.1)∧bg N M x=some q.2.2)→
  gK N L e w cs arr→eA g cs parts'=some cs'→∃arr',Instr.fill place arr (parts.map fun(i,x)=>(i,ρ x))=some arr'∧gK N L e w cs' arr'
 |[],parts',cs,cs',arr,hl,_,hc,hf=>by
  have:parts'=[]:=List.eq_nil_of_length_eq_zero (by simpa using hl)
  subst this
  simp[eA]at hf
  subst hf
  exact⟨arr,rfl,hc⟩
 |(i,x)::parts,parts',cs,cs',arr,hl,hp,hc,hf=>by
  match parts',hl with
  |(off,n,y)::parts',hl=>
   obtain⟨i',x',q1,q2,q3⟩:=hp 0 _ rfl
   simp at q1
   obtain⟨rfl,rfl⟩:=q1
   simp only[eA]at hf
   split at hf
   .rename_i hcond
    obtain⟨c1,c2,c3⟩:=hcond
    have hx:=hO x y q3
    obtain⟨h1,h2⟩:=hx.cells c1
    have hov:=hc.over hx c1 (off:=off) (by omega)
    obtain⟨arr',r1,r2⟩:=nD hO parts parts' _ cs' _ (by simpa using hl) (fun j q hj=>by simpa using hp (j+1) q (by simpa using hj)) hov hf
    refine⟨arr',?_,r2⟩
    simp only[List.map_cons,Instr.fill,q2]
    have hn:(((ρ x).cells.size≠n||off+(ρ x).cells.size>arr.size):Bool)=false:=by
     have e1:(ρ x).cells.size=n:=by rw[h1,c2]
     simp[e1,hc.1]; omega
    rw[if_neg (by rw[hn]; simp)]
    exact r1
   .cases hf
theorem gK.zero {t:TypeId} {z:List V} (hz:zeroOf P t=some z):∃zv,(∀w,(zeroValue t).run P w=.ok zv w)∧gK N L e w z zv.cells:=by
 obtain⟨i,zv,h1,h2,h3,h4,h5,h6⟩:=fh hz
 exact⟨zv,h6,h4,fun j c hj=>VR.ue (h5 j c hj)⟩
theorem kT {k:Nat}:∀{parts:List (Nat×Operand)} {l:List (Nat×Nat×bJ)},iz N M k parts=some l→l.length=parts.length∧
  ∀(j:Nat) (q:Nat×Nat×bJ),l[j]?=some q→∃i x,parts[j]?=some (i,x)∧some (i*k,k)=some (q.1,q.2.1)∧bg N M x=some q.2.2
 |[],l,hh=>by simp[iz]at hh; subst hh; simp
 |(i,x)::r,l,hh=>by
  unfold iz at hh
  cases hx:bg N M x with
  |none=>simp[hx]at hh
  |some y=>
   cases hr:iz N M k r with
   |none=>simp[hx,hr]at hh
   |some s=>
    simp[hx,hr]at hh
    subst hh
    obtain⟨k1,k2⟩:=kT hr
    refine⟨by simp[k1],fun j q hj=>?_⟩
    match j with
    |0=>simp at hj; subst hj; exact⟨i,x,rfl,rfl,hx⟩
    |j+1=>simpa using k2 j q (by simpa using hj)
theorem qd {fs:Array Field}:∀{parts:List (Nat×Operand)} {l:List (Nat×Nat×bJ)},kN P N M fs parts=some l→l.length=parts.length∧
  ∀(j:Nat) (q:Nat×Nat×bJ),l[j]?=some q→∃i x f,parts[j]?=some (i,x)∧fs[i]?=some f∧q.1=f.offset∧cG P f.type=some q.2.1∧bg N M x=some q.2.2
 |[],l,hh=>by simp[kN]at hh; subst hh; simp
 |(i,x)::r,l,hh=>by
  unfold kN at hh
  cases hf:fs[i]? with
  |none=>simp[hf]at hh
  |some f=>
   cases hx:bg N M x with
   |none=>simp[hf,hx]at hh
   |some y=>
    cases hr:kN P N M fs r with
    |none=>simp[hf,hx,hr]at hh
    |some s=>
     cases hn:cG P f.type with
     |none=>simp[hf,hx,hr,hn]at hh
     |some n=>
      simp[hf,hx,hr,hn]at hh
      subst hh
      obtain⟨k1,k2⟩:=qd hr
      refine⟨by simp[k1],fun j q hj=>?_⟩
      match j with
      |0=>simp at hj; subst hj; exact⟨i,x,f,rfl,hf,rfl,hn,hx⟩
      |j+1=>simpa using k2 j q (by simpa using hj)
theorem zA (fs:Array Field) (hall:fs.toList.all (fun f=>(cG P f.type).isSome)=true):
  (fs.mapM fun f=>do pure (f.offset,← sizeOf f.type):Sem (Array (Nat×Nat))).run P w=.ok (fs.map fun f=>(f.offset,(cG P f.type).getD 0)) w:=by
 have hl:∀f∈fs.toList,(cG P f.type).isSome=true:=fun f hf=>Wu.1 hall f hf
 have key:∀l:List Field,(∀f∈l,(cG P f.type).isSome=true)→(l.mapM fun f=>Functor.map (Prod.mk f.offset) (sizeOf f.type):Sem (List (Nat×Nat))).run P w=.ok (l.map fun f=>(f.offset,(cG P f.type).getD 0)) w:=by
  intro l
  induction l with
  |nil=>intro _; rfl
  |cons f l ih=>
   intro hl
   obtain⟨n,hn⟩:=Option.isSome_iff_exists.1 (hl f (by simp))
   have hsz:=eR (w:=w) hn
   simp[List.mapM_cons,hsz,ih (fun f hf=>hl f (by simp[hf])),hn]
 obtain⟨fl⟩:=fs
 have:=key fl hl
 simp only[Array.mapM_eq_mapM_toList]at *
 simp[this]
theorem DT (hO:OR N M L e w g ρ) {t:TypeId} {z:List V} (hz:zeroOf P t=some z) {fs:Array Field} (hu:P.underlying t=some (.struct fs)) (hall:fs.toList.all (fun f=>(cG P f.type).isSome)=true)
  {parts:Array (Nat×Operand)} {l:List (Nat×Nat×bJ)} (hp:kN P N M fs parts.toList=some l) {cs:List V} (hf:eA g z l=some cs):
  Plain P N L e w (Instr.build t (parts.map fun(i,x)=>(i,ρ x))) (.agg cs):=by
 obtain⟨zv,h1,h2⟩:=gK.zero (N:=N) (L:=L) (e:=e) (w:=w) hz
 obtain⟨k1,k2⟩:=qd hp
 obtain⟨arr',r1,r2⟩:=nD hO (place:=fun i=>(fs.map fun f=>(f.offset,(cG P f.type).getD 0))[i]?) parts.toList l z cs zv.cells k1 (fun j q hj=>by
  obtain⟨i,x,f,q1,q2,q3,q4,q5⟩:=k2 j q hj
  exact⟨i,x,q1,by simp[q2,q3,q4],q5⟩) h2 hf
 refine⟨.agg arr',?_,.agg cs arr' r2.1 r2.2⟩
 have hpl:=zA (P:=P) (w:=w) fs hall
 simp only[Instr.build,Sem.run_bind,h1,Result.andThen_ok,underlying,run_program,hu,Sem.run_pure]
 rw[hpl]
 simp only[Result.andThen_ok,Array.toList_map]
 rw[r1]
 rfl
theorem DU (hO:OR N M L e w g ρ) {t el:TypeId} {len k:Nat} {z:List V} (hz:zeroOf P t=some z) (hu:P.underlying t=some (.array len el)) (hk:cG P el=some k)
  {parts:Array (Nat×Operand)} {l:List (Nat×Nat×bJ)} (hp:iz N M k parts.toList=some l) {cs:List V} (hf:eA g z l=some cs):
  Plain P N L e w (Instr.build t (parts.map fun(i,x)=>(i,ρ x))) (.agg cs):=by
 obtain⟨zv,h1,h2⟩:=gK.zero (N:=N) (L:=L) (e:=e) (w:=w) hz
 obtain⟨k1,k2⟩:=kT hp
 obtain⟨arr',r1,r2⟩:=nD hO (place:=fun i=>some (i*k,k)) parts.toList l z cs zv.cells k1 k2 h2 hf
 refine⟨.agg arr',?_,.agg cs arr' r2.1 r2.2⟩
 have hsz:=eR (w:=w) hk
 simp only[Instr.build,Sem.run_bind,h1,Result.andThen_ok,underlying,run_program,hu,Sem.run_pure,hsz,Array.toList_map]
 rw[r1]
 rfl
end Go.Pv
namespace Go.Pv
variable {P:Program} {N M:Nat→Nat} {W:Nat→Prop} {L L':Lx} {e e':bh} {h:aa} {w w':World} {g:bJ→V} {ρ:Operand→Value}
def rowsOf:Sum (List (List PV)) (List (List V))→List (List V)
 |.inl l=>l.map (·.map .pv)
 |.inr l=>l
theorem aL.bR (a:aL):a.rows=rowsOf a.body:=by
 obtain⟨v,k,b⟩:=a
 cases b<;>rfl
theorem cz (s:Sum (List (List PV)) (List (List V))):(rowsOf s).length=aD s:=by
 cases s<;>simp[rowsOf,aD]
theorem mH (a b:Sum (List (List PV)) (List (List V))):rowsOf (aU a b)=rowsOf a++rowsOf b:=by
 cases a<;>cases b<;>simp[rowsOf,aU]
theorem gb (off len:Nat) (s:Sum (List (List PV)) (List (List V))):rowsOf (az off len s)=((rowsOf s).drop off).take len:=by
 cases s<;>simp[rowsOf,az,List.map_take,List.map_drop]
theorem nF {k:Nat} {s:Sum (List (List PV)) (List (List V))} (hf:aO k s=true):∀r∈rowsOf s,r.length=k:=by
 cases s with
 |inl x=>
  intro r hr
  simp only[rowsOf,List.mem_map]at hr
  obtain⟨q,hq,rfl⟩:=hr
  simp only[aO,List.all_eq_true,beq_iff_eq]at hf
  simpa using hf q hq
 |inr x=>
  intro r hr
  simp only[aO,List.all_eq_true,beq_iff_eq]at hf
  exact hf r hr
theorem gY {a b:Sum (List (List PV)) (List (List V))} (ha:bK a) (hb:bK b):bK (aU a b):=by
 cases a<;>cases b<;>simp only[aU,bK]at *
 intro r hr
 rcases WT.1 hr with hr|hr
 .exact ha r hr
 .exact hb r hr
theorem jU {off len:Nat} {a:Sum (List (List PV)) (List (List V))} (ha:bK a):bK (az off len a):=by
 cases a<;>simp only[az,bK]at *
 intro r hr
 exact ha r (W5 (W2 hr))
def fU (N:Nat→Nat) (L:Lx) (e:bh) (w:World) (k:Nat) (rows:List (List V)) (vals:List Value):Prop:=
 vals.length=rows.length*k∧(∀r∈rows,r.length=k)∧∀(i:Nat) (r:List V),rows[i]?=some r→∀(j:Nat) (c:V),r[j]?=some c→c.calm=true∧∃u,vals[i*k+j]?=some u∧VR N L e w c u
theorem fU.one {k:Nat} {rows:List (List V)} {vals:List Value} (hr:fU N L e w k rows vals):∀u∈vals,u.oneCell'=true:=by
 intro u hu
 obtain⟨q,hq⟩:=Wd.1 hu
 have hql:q<vals.length:=(V9.1 hq).1
 rw[hr.1]at hql
 have hk:0<k:=by
  rcases Xi k with h0|h0
  .rw[h0]at hql; simp at hql
  .exact h0
 have hi:q/k<rows.length:=(XU hk).2 hql
 have hri:rows[q/k]?=some (rows[q/k]'hi):=Wb hi
 have hrl:=hr.2.1 _ (Wa hri)
 have hj:q%k<(rows[q/k]'hi).length:=by rw[hrl]; exact Wt _ hk
 obtain⟨h1,u',h2,h3⟩:=hr.2.2 _ _ hri (q%k) _ (Wb hj)
 rw[Nat.div_add_mod' q k,hq]at h2
 injection h2 with h2
 subst h2
 exact h3.kO h1
theorem Bm {k n:Nat} {b off:Nat} (f:∀q,q<n*k→∃v,w.cell? ⟨b,off+q,none⟩=some v):∃vals:List Value,vals.length=n*k∧∀q v,vals[q]?=some v→w.cell? ⟨b,off+q,none⟩=some v:=by
 refine⟨(List.range (n*k)).map fun q=>(w.cell? ⟨b,off+q,none⟩).getD undef,by simp,fun q v hq=>?_⟩
 have hlt:q<n*k:=by have:=(List.getElem?_eq_some_iff.1 hq).1; simpa using this
 obtain⟨u,hu⟩:=f q hlt
 simp[hlt,hu]at hq
 rw[hu,hq]
theorem kU {tg k cap:Nat} {rows:List (List PV)} {A:Option Addr} (hp:dw N L w (.aq tg rows) (.slice A rows.length cap)) (hf:aO k (.inl rows)=true):
  ∃(ad:Addr) (vals:List Value),(0<rows.length→A=some ad)∧fU N L e w k (rows.map (·.map .pv)) vals∧∀q v,vals[q]?=some v→w.cell? (ad.add q)=some v:=by
 have hfit:=nF hf
 cases hp with
 |aq _ _ _ ad _ k' vs hk hc ha hcell hv hpm h1=>
  by_cases hn:0<rows.length
  .obtain⟨rfl,hsp,hl⟩:=ha hn
   obtain⟨b,o,sp⟩:=ad
   simp only at hsp
   subst hsp
   have hkk:k'=k:=by
    have:rows[0]?=some (rows[0]'hn):=Wb _
    rw[← hk _ (Wa this)]
    have:=hfit ((rows[0]'hn).map .pv) (Wk.2 ⟨_,Xc _,rfl⟩)
    simpa using this
   subst hkk
   have hat:∀q,q<rows.length*k'→∃c,ff rows (q/k') (q%k')=some c:=by
    intro q hq
    have hk0:0<k':=by
     rcases Xi k' with h0|h0
     .rw[h0]at hq; simp at hq
     .exact h0
    have hi:q/k'<rows.length:=(XU hk0).2 hq
    have hrl:=hk (rows[q/k']'hi) (Xc _)
    refine⟨(rows[q/k']'hi)[q%k']'(by rw[hrl]; exact Wt _ hk0),?_⟩
    simp[ff,List.getElem?_eq_getElem hi]
   obtain⟨vals,v1,v2⟩:=Bm (w:=w) (k:=k') (n:=rows.length) (b:=b) (off:=o) (fun q hq=>by
    obtain⟨c,hc⟩:=hat q hq
    have:=hcell _ _ c hc
    rw[Nat.div_add_mod' q k']at this
    exact⟨_,this⟩)
   refine⟨⟨b,o,none⟩,vals,fun _=>rfl,⟨by simpa using v1,fun r hr=>?_,fun i r hi j c hj=>?_⟩,fun q v hq=>by rw[dm]; exact v2 q v hq⟩
   .obtain⟨q,hq,rfl⟩:=Wk.1 hr
    simpa using hk q hq
   .rw[Wf]at hi
    cases hri:rows[i]? with
    |none=>simp[hri]at hi
    |some q=>
     simp[hri]at hi
     subst hi
     obtain⟨p,hp,rfl⟩:=cZ hj
     have hat':ff rows i j=some p:=by simp[ff,hri,hp]
     have hjk:j<k':=by rw[← hk q (Wa hri)]; exact(V9.1 hp).1
     have hil:i<rows.length:=(V9.1 hri).1
     have hql:i*k'+j<vals.length:=by
      rw[v1]
      have:(i+1)*k'≤rows.length*k':=Wi _ (by omega)
      rw[Wm,W7]at this
      omega
     refine⟨by rw[PV.zt]; exact h1 i j p hat',vs i j,?_,.pv _ _ (hv i j p hat')⟩
     have h3:=v2 _ _ (Wb hql)
     have h4:=hcell i j p hat'
     simp only at h4
     rw[h4]at h3
     injection h3 with h3
     rw[Wb hql,← h3]
  .have h0:rows=[]:=Wp (by omega)
   subst h0
   exact⟨default,[],fun hh=>absurd hh (by simp),⟨by simp,by simp,by simp⟩,by simp⟩
theorem xi {α:Type} {l:List α} {off len:Nat} (hfit:off+len≤l.length):((l.drop off).take len).length=len:=by simp; omega
theorem nG {α:Type} {l:List α} {off len i:Nat} {x:α} (hi:((l.drop off).take len)[i]?=some x):i<len∧l[off+i]?=some x:=by
 rw[Wy]at hi
 split at hi
 .rw[WQ]at hi
  exact⟨by assumption,hi⟩
 .cases hi
theorem rK (hr:HR N L e W h w) {id ax off len cap:Nat} {A:Option Addr} (hx:VR N L e w (.own id ax off len) (.slice A len cap)) {a:aL} (ho:aB h id ax=some a) (hk:a.k≠0):
  ∃(ad:Addr) (vals:List Value),(0<len→A=some ad)∧fU N L e w a.k (rowsOf (az off len a.body)) vals∧(∀q v,vals[q]?=some v→w.cell? (ad.add q)=some v)∧(rowsOf (az off len a.body)).length=len:=by
 obtain⟨ho1,ho2⟩:=bn ho
 obtain⟨v1,v2,v3,v4⟩:=hr.ax id a ho1
 obtain⟨g1,g2,g3,g4,g5⟩:=hr.ar id a ho1 hk
 cases hx with
 |own _ _ _ _ _ _ h0 h1 h2 h3=>
  obtain⟨q1,q2,q3,q4⟩:=h3 (by omega)
  rw[gb,← aL.bR]
  have hlen:((a.rows.drop off).take len).length=len:=xi (by rw[aL.br]; omega)
  have hrow:∀i,i<len→∃r,a.rows[off+i]?=some r∧r.length=a.k:=by
   intro i hi
   have hlt:off+i<a.rows.length:=by rw[aL.br]; omega
   exact⟨_,Wb hlt,g3 _ (Xc _)⟩
  obtain⟨vals,u1,u2⟩:=Bm (w:=w) (k:=a.k) (n:=len) (b:=e.ar id) (off:=e.ad id+off*a.k) (fun q hq=>by
   have hk0:0<a.k:=by omega
   obtain⟨r,hr1,hr2⟩:=hrow (q/a.k) ((XU hk0).2 hq)
   have hj:q%a.k<r.length:=by rw[hr2]; exact Wt _ hk0
   obtain⟨_,v,k1,_⟩:=g4 _ _ hr1 (q%a.k) _ (Wb hj)
   refine⟨v,?_⟩
   rw[← k1]
   congr 2
   have:=Nat.div_add_mod' q a.k
   rw[Wm]
   omega)
  refine⟨⟨e.ar id,e.ad id+off*a.k,none⟩,vals,fun hl=>by rw[q4 (by omega),v2],⟨by rw[hlen]; exact u1,fun r hr'=>g3 r (W5 (W2 hr')),fun i r hi j c hj=>?_⟩,fun q v hq=>by rw[dm]; exact u2 q v hq,hlen⟩
  obtain⟨hil,hi'⟩:=nG hi
  obtain⟨k0,v,k1,k2⟩:=g4 _ _ hi' j c hj
  have hjk:j<a.k:=by rw[← g3 r (Wa hi')]; exact(V9.1 hj).1
  have hql:i*a.k+j<vals.length:=by
   rw[u1]
   have:(i+1)*a.k≤len*a.k:=Wi _ (by omega)
   rw[Wm,W7]at this
   omega
  refine⟨k0,v,?_,k2⟩
  have h5:=u2 _ _ (Wb hql)
  rw[show e.ad id+off*a.k+(i*a.k+j)=e.ad id+(off+i)*a.k+j by rw[Wm]; omega,k1]at h5
  injection h5 with h5
  rw[Wb hql,← h5]
theorem nH (hr:HR N L e W h w) {y:V} {yv:Value} (hy:VR N L e w y yv) {new:Sum (List (List PV)) (List (List V))} {rd:Option Nat} (hs:aW h y=some (new,rd)) {k:Nat} (hf:aO k new=true) (_hk:k≠0):
  ∃(B:Option Addr) (c:Nat) (ad:Addr) (vals:List Value),yv=.slice B (aD new) c∧(0<aD new→B=some ad)∧fU N L e w k (rowsOf new) vals∧(∀q v,vals[q]?=some v→w.cell? (ad.add q)=some v)∧bK new∧
   (∀id,rd=some id→∃ax off len,y=.own id ax off len):=by
 unfold aW at hs
 split at hs
 .rename_i tg rows
  cases hy with
  |pv _ _ hp=>
   have hp':=hp
   cases hp with
   |aq _ _ A ad cap k' vs hk' hc ha hcell hv hpm h1=>
    split at hs
    .rename_i ht
     injection hs with hs
     simp only[Prod.mk.injEq]at hs
     obtain⟨rfl,rfl⟩:=hs
     obtain⟨ad,vals,k1,k2,k3⟩:=kU (e:=e) hp' hf
     refine⟨A,cap,ad,vals,rfl,k1,k2,k3,fun r hr' c hc'=>?_,by simp⟩
     obtain⟨i,hi⟩:=Wd.1 hr'
     obtain⟨j,hj⟩:=Wd.1 hc'
     exact hpm ht i j c (by simp[ff,hi,hj])
    .injection hs with hs
     simp only[Prod.mk.injEq]at hs
     obtain⟨rfl,rfl⟩:=hs
     have hf':aO k (.inl rows)=true:=by
      simp only[aO,List.all_map]at hf ⊢
      simpa using hf
     obtain⟨ad,vals,k1,k2,k3⟩:=kU (e:=e) hp' hf'
     refine⟨A,cap,ad,vals,by simp[aD],by simpa [aD]using k1,k2,k3,trivial,by simp⟩
 .rename_i rows
  injection hs with hs
  simp only[Prod.mk.injEq]at hs
  obtain⟨rfl,rfl⟩:=hs
  cases hy with
  |tl _ A hp=>
   obtain⟨ad,vals,k1,k2,k3⟩:=kU (e:=e) hp hf
   refine⟨A,_,ad,vals,rfl,k1,k2,k3,fun r hr' c hc'=>?_,by simp⟩
   cases hp with
   |aq _ _ _ ad _ k' vs hk' hc ha hcell hv hpm h1=>
    obtain⟨i,hi⟩:=Wd.1 hr'
    obtain⟨j,hj⟩:=Wd.1 hc'
    exact hpm (by omega) i j c (by simp[ff,hi,hj])
 .rename_i id ax off len
  cases ho:aB h id ax with
  |none=>simp[ho]at hs
  |some a=>
   simp[ho]at hs
   obtain⟨rfl,rfl⟩:=hs
   obtain⟨ho1,ho2⟩:=bn ho
   obtain⟨v1,v2,v3,v4⟩:=hr.ax id a ho1
   cases hy with
   |own _ _ _ _ A cap h0 h1 h2 h3=>
    by_cases hk0:a.k=0
    .obtain⟨q1,q2,q3,q4⟩:=h3 (by omega)
     have hre:=v4 hk0
     have hl0:len=0:=by
      rw[v3,← aL.br,hre]at q1
      simp at q1
      omega
     subst hl0
     have hcut:rowsOf (az off 0 a.body)=[]:=by rw[gb]; simp
     have hcl:aD (az off 0 a.body)=0:=by rw[← cz,hcut]; rfl
     refine⟨A,cap,default,[],by rw[hcl],by rw[hcl]; intro hh; omega,⟨by rw[hcut]; simp,by rw[hcut]; simp,by rw[hcut]; simp⟩,by simp,?_,fun i hi=>⟨ax,off,0,by injection hi with hi; rw[hi]⟩⟩
     cases hb:a.body with
     |inl x=>simp[az,bK]
     |inr x=>simp[az,bK]
    .have hov:=VR.own (N:=N) (L:=L) (e:=e) (w:=w) id ax off len A cap h0 h1 h2 h3
     obtain⟨ad,vals,k1,k2,k3,k4⟩:=rK hr hov ho hk0
     have hkk:fU N L e w k (rowsOf (az off len a.body)) vals:=by
      by_cases hl:len=0
      .have hn:rowsOf (az off len a.body)=[]:=Wp (by omega)
       rw[hn]at k2 ⊢
       have:vals=[]:=List.eq_nil_of_length_eq_zero (by have:=k2.1; simpa using this)
       subst this
       exact⟨by simp,by simp,by simp⟩
      .have h5:=nF hf
       have h6:=k2.2.1
       have hlt:0<(rowsOf (az off len a.body)).length:=by omega
       have:a.k=k:=by rw[← h5 _ (Xc hlt),← h6 _ (Xc hlt)]
       rw[← this]; exact k2
     have hcl:aD (az off len a.body)=len:=by rw[← cz]; exact k4
     obtain⟨_,_,_,_,g5⟩:=hr.ar id a ho1 hk0
     refine⟨A,cap,ad,vals,by rw[hcl],by rw[hcl]; exact k1,hkk,k3,jU g5,fun i hi=>⟨ax,off,len,by injection hi with hi; rw[hi]⟩⟩
 .cases hs
theorem eV {t el:TypeId} {k:Nat} (he:iy P t=some (el,k)):∃i z,P.underlying t=some (.slice el)∧P.info? el=some i∧i.size=k∧i.bytes≤32768∧0<k∧i.zero=some z∧z.cells.size=k:=by
 unfold iy at he
 cases hu:P.underlying t with
 |none=>simp[hu]at he
 |some d=>
  cases d<;>simp[hu]at he
  rename_i el'
  cases hi:P.info? el' with
  |none=>simp[hi]at he
  |some i=>
   simp only[hi]at he
   split at he
   .rename_i hc
    injection he with he
    simp only[Prod.mk.injEq]at he
    obtain⟨rfl,rfl⟩:=he
    cases hz:i.zero with
    |none=>simp[hz]at hc
    |some z=>
     simp[hz]at hc
     exact⟨i,z,rfl,hi,rfl,hc.1,hc.2.1,hz,hc.2.2⟩
   .cases he
theorem rL {t ty el:TypeId} {i:TypeInfo} (hu:P.underlying t=some (.slice el)) (hi:P.info? el=some i) {A B:Option Addr} {n c c':Nat} (hc:n≤c):
  (Builtin.append_ #[t,t] ty #[.slice A n c,.slice B 0 c']).run P w=.ok (.slice A n c) w:=by
 cases A<;>cases B<;>simp[Builtin.append_,run_underlying hu,sizeOf,typeInfo,hi,Builtin.lenOf,Builtin.firstCells,loadCells,loadCellsFrom,hc,storeCells]
theorem mI {k n:Nat} {rows1 rows2:List (List V)} {olds news:List Value} {rest:Array Value} {w1:World} {el:TypeId} (h1:fU N L e w k rows1 olds) (h2:fU N L e w k rows2 news) (hn:rows1.length=n)
  {b:Nat} (hb:w1.heap[b]?=some (.cells (olds.toArray++news.toArray++rest) el (0,0))):
  ∀(i:Nat) (r:List V),(rows1++rows2)[i]?=some r→∀(j:Nat) (c:V),r[j]?=some c→c.calm=true∧∃v,w1.cell? ⟨b,0+i*k+j,none⟩=some v∧VR N L e w c v:=by
 intro i r hi j c hj
 have key:∀(q:Nat) (v:Value),(olds++news)[q]?=some v→w1.cell? ⟨b,0+q,none⟩=some v:=by
  intro q v hq
  rw[XN,cell_of_row _ _ _ _ _ _ hb]
  have hlt:=(V9.1 hq).1
  rw[← Wo]
  simp only[Array.toList_append]
  rw[List.getElem?_append_left (by simpa using hlt)]
  exact hq
 rcases Wh i rows1.length with hl|hl
 .rw[We hl]at hi
  obtain⟨k1,v,k2,k3⟩:=h1.2.2 i r hi j c hj
  refine⟨k1,v,?_,k3⟩
  rw[W0]
  refine key _ _ ?_
  rw[We (V9.1 k2).1]
  exact k2
 .rw[Wn hl]at hi
  obtain⟨k1,v,k2,k3⟩:=h2.2.2 _ r hi j c hj
  refine⟨k1,v,?_,k3⟩
  rw[W0]
  refine key _ _ ?_
  have hle:olds.length≤i*k+j:=by
   rw[h1.1]
   have:rows1.length*k≤i*k:=Wi _ hl
   omega
  rw[Wn hle,h1.1]
  rw[show i*k+j - rows1.length*k=(i - rows1.length)*k+j by
   have e1:(i - rows1.length)*k+rows1.length*k=i*k:=by rw[← Wm]; congr 1; omega
   omega]
  exact k2
theorem rM {t ty el : TypeId} {i : TypeInfo} {z : Value} (hu : P.underlying t = some (.slice el)) (hi : P.info? el = some i) (hz : i.zero = some z) {A B : Option Addr} {n c m c' : Nat} {ad ad' : Addr} {olds news : List Value}
    (hA : 0 < n → A = some ad) (hlo : olds.length = n * i.size) (holds : ∀ j v,olds[j]? = some v → w.cell? (ad.add j) = some v) (hB : B = some ad') (hl : news.length = m * i.size) (hnews : ∀ j v,news[j]? = some v → w.cell? (ad'.add j) = some v)
    (hg : c < n + m) (hm : 0 < m) (hmost : n + m ≤ aN) (hby : i.bytes ≤ 32768) (hnil : A = none → c = 0) :
    (Builtin.append_ #[t,t] ty #[.slice A n c,.slice B m c']).run P w = .ok (.slice (some ⟨w.heap.size,0,none⟩) (n + m) (grownCap w (n + m) c el))
      (w.drew.alloc (.cells (olds.toArray ++ news.toArray ++ Builtin.zeroCells z.cells (grownCap w (n + m) c el - (n + m))) el)) := by
  subst hB
  have hbytes : (n + m) * i.bytes ≤ 140737488355328 := by
    unfold aN at hmost
    calc (n + m) * i.bytes ≤ 2147483648 * 32768 := Nat.mul_le_mul hmost hby
      _ ≤ 140737488355328 := by decide
  unfold aN at hmost
  cases hAA : A with
  | none =>
    have hn0 : n = 0 := by
      rcases Xi n with h0 | h0
      . exact h0
      . have := hA h0; rw [hAA] at this; cases this
    subst hn0
    have hc0 := hnil hAA
    subst hc0
    have ho : olds = [] := List.eq_nil_of_length_eq_zero (by simpa using hlo)
    subst ho
    have hr := run_append_nil (P := P) w t ty el i z hu hi hz ad' m c' news hl hnews hm (by omega) (by simp at hbytes; omega)
    simpa using hr
  | some a0 =>
    by_cases hn0 : n = 0
    . subst hn0
      have ho : olds = [] := List.eq_nil_of_length_eq_zero (by simpa using hlo)
      subst ho
      have hr := run_append_grow (P := P) w t ty el i z hu hi hz a0 0 c [] (by simp) (by simp) ad' m c' news hl hnews hg (by omega) (growslice_fits hg hbytes)
      simpa using hr
    . have hA' := hA (by omega)
      rw [hAA] at hA'
      injection hA' with hA'
      subst hA'
      exact run_append_grow (P := P) w t ty el i z hu hi hz a0 n c olds hlo holds ad' m c' news hl hnews hg (by omega) (growslice_fits hg hbytes)
theorem mJ {k n m G:Nat} {olds news:List Value} {z:Value} (h1:olds.length=n*k) (h2:news.length=m*k) (hz:z.cells.size=k) (hG:n+m≤G):
  (olds.toArray++news.toArray++Builtin.zeroCells z.cells (G - (n+m))).size=G*k:=by
 simp only[Array.size_append,List.size_toArray,size_zeroCells,hz,h1,h2,← Nat.add_mul]
 congr 1
 omega
theorem Tn.iI (h:aa) (as:List aL) (ra:Option Nat) {base:Nat}:({ push:=as,ra:=ra,base:=base }:Tn).apply h={ h with ar:=h.ar++as }:=by
 cases h; simp[Tn.apply]
theorem It (hr:HR N L e W h w) {t ty el:TypeId} {k:Nat} (he:iy P t=some (el,k)) {x y v:V} {xv yv:Value} (hx:VR N L e w x xv) (hy:VR N L e w y yv) {tn:Tn} (hh:aK h k x y=some (v,tn)):
  Good P N W L e h w (Builtin.append_ #[t,t] ty #[xv,yv]) v tn:=by
 obtain⟨i,z,hu,hi,hsz,hby,hk0,hz,hzs⟩:=eV he
 unfold aK at hh
 cases hs:aW h y with
 |none=>simp[hs]at hh
 |some nr=>
  obtain⟨new,rd⟩:=nr
  simp only[hs]at hh
  split at hh
  .rename_i hfit
   obtain⟨B,c',ad',news,rfl,s1,s2,s3,s4,s5⟩:=nH hr hy hs hfit (by omega)
   split at hh
   .rename_i rows
    cases hx with
    |tl _ A hp hsoft=>
     split at hh
     .rename_i h0
      injection hh with hh
      simp only[Prod.mk.injEq]at hh
      obtain⟨rfl,rfl⟩:=hh
      refine .pure hr ?_ (.tl rows A hp hsoft) (Tn.aM h _ _ _ _ _)
      rw[h0]
      exact rL hu hi (Wj _)
     .rename_i h0
      split at hh
      .rename_i hcond
       obtain⟨hmost,hfit0⟩:=hcond
       injection hh with hh
       simp only[Prod.mk.injEq]at hh
       obtain⟨rfl,rfl⟩:=hh
       obtain⟨ad,olds,o1,o2,o3⟩:=kU (e:=e) hp hfit0
       have hpb:bK (.inl rows):=by
        intro r hr' c hc'
        cases hp with
        |aq _ _ _ _ _ k' vs hk' hc ha hcell hv hpm h1=>
         obtain⟨i',hi'⟩:=Wd.1 hr'
         obtain⟨j',hj'⟩:=Wd.1 hc'
         exact hpm (by omega) i' j' c (by simp[ff,hi',hj'])
       have hnl:rows.length=0→A=none∨True:=fun _=>.inr trivial
       have hrl:(rows.map (·.map V.pv)).length=rows.length:=by simp
       have hlo:olds.length=rows.length*i.size:=by rw[o2.1,hrl,hsz]
       have hln:news.length=aD new*i.size:=by rw[s2.1,cz,hsz]
       have hrun:(Builtin.append_ #[t,t] ty #[.slice A rows.length rows.length,.slice B (aD new) c']).run P w=_:=
        rM (z:=z) hu hi hz o1 hlo o3 (s1 (by omega)) hln s3 (by omega) (by omega) hmost hby (fun hA=>by
         rcases Xi rows.length with h1|h1
         .exact h1
         .have:=o1 h1; rw[hA]at this; cases this)
       have hG:=grownCap_ge w (rows.length+aD new) rows.length el
       generalize hGG:grownCap w (rows.length+aD new) rows.length el=G at hrun hG
       have hsize:=mJ (z:=z) (k:=k) (n:=rows.length) (m:=aD new) (G:=G) (by rw[hlo,hsz]) (by rw[hln,hsz]) hzs hG
       have n1:=Nx.drew hr
       have n2:=Nx.idle n1.hr (.cells (olds.toArray++news.toArray++Builtin.zeroCells z.cells (G - (rows.length+aD new))) el)
       have hnew:(w.drew.alloc (.cells (olds.toArray++news.toArray++Builtin.zeroCells z.cells (G - (rows.length+aD new))) el)).heap[w.heap.size]?=some (.cells (olds.toArray++news.toArray++Builtin.zeroCells z.cells (G - (rows.length+aD new))) el (0,0)):=heap_alloc_new w.drew _
       have hbody:rowsOf (aU (.inl rows) new)=rows.map (·.map V.pv)++rowsOf new:=by rw[mH]; rfl
       have n12:=n1.trans n2
       have n3:=Nx.vU n2.hr (b:=w.heap.size) (d:=0) (c:=G) ⟨0,k,aU (.inl rows) new⟩ (hr.wide _ (Wj _)) (fun t ht=>by have:=hr.mE _ _ ht; omega)
        (fun s hs'=>by have:=hr.ky hs'; omega) (fun id hid hk'=>by have:=hr.gP hid hk'; omega) (by show k≠0; omega)
        (by rw[← aL.br,aL.bR,hbody]; simp[cz]; omega) ⟨_,el,hnew,by rw[hsize]; simp⟩
        (fun r hr'=>by
         rw[aL.bR,hbody]at hr'
         rcases WT.1 hr' with hr'|hr'
         .exact o2.2.1 r hr'
         .exact s2.2.1 r hr')
        (fun i' r hi' j c hj=>by
         rw[aL.bR,hbody]at hi'
         obtain⟨q1,v',q2,q3⟩:=mI o2 s2 hrl hnew i' r hi' j c hj
         exact⟨q1,v',q2,q3.mono n12.ext⟩)
        (gY hpb s4)
       refine⟨_,_,L,_,hrun,by rw[Tn.iI]; exact n12.trans n3,?_⟩
       have:=VR.own (N:=N) (L:=L) (e:=e.cU w.heap.size 0 G ⟨0,k,aU (.inl rows) new⟩) (w:=w.drew.alloc (.cells (olds.toArray++news.toArray++Builtin.zeroCells z.cells (G - (rows.length+aD new))) el))
        e.na 0 0 (rows.length+aD new) (some ⟨w.heap.size,0,none⟩) G (fun _=>rfl) (by simp[bh.cU]) (by simp) (fun _=>by
         simp only[bh.cU,aF]
         refine⟨?_,hG,by omega,fun _=>by simp⟩
         rw[← aL.br,aL.bR,hbody]; simp[cz])
       rw[hr.na]at this
       exact this
      .cases hh
   .rename_i id ax off len
    cases ho:aB h id ax with
    |none=>simp[ho]at hh
    |some a=>
     simp only[ho]at hh
     obtain⟨ho1,ho2⟩:=bn ho
     obtain⟨v1,v2,v3,v4⟩:=hr.ax id a ho1
     cases hx with
     |own _ _ _ _ A cap h0 h1 h2 h3=>
      obtain⟨q1,q2,q3,q4⟩:=h3 (by omega)
      split at hh
      .rename_i hz0
       injection hh with hh
       simp only[Prod.mk.injEq]at hh
       obtain⟨rfl,rfl⟩:=hh
       refine .pure hr ?_ (.own id ax off len A cap h0 h1 h2 h3) (Tn.aM h _ _ _ _ _)
       rw[hz0]
       exact rL hu hi q2
      .rename_i hz0
       split at hh
       .rename_i hcond
        obtain⟨hfull,hak,hmost⟩:=hcond
        injection hh with hh
        simp only[Prod.mk.injEq]at hh
        obtain⟨rfl,rfl⟩:=hh
        have hak0:a.k≠0:=by omega
        have hov:=VR.own (N:=N) (L:=L) (e:=e) (w:=w) id ax off len A cap h0 h1 h2 h3
        obtain⟨ad,olds,o1,o2,o3,o4⟩:=rK hr hov ho hak0
        rw[hak]at o2
        obtain⟨g1,⟨arr,ty',hb,hbz⟩,g3,g4,g5⟩:=hr.ar id a ho1 hak0
        have hlo:olds.length=len*i.size:=by rw[o2.1,o4,hsz]
        have hln:news.length=aD new*i.size:=by rw[s2.1,cz,hsz]
        have hbody:rowsOf (aU (az off len a.body) new)=rowsOf (az off len a.body)++rowsOf new:=mH _ _
        have hsizeA:(⟨ax+1,k,aU (az off len a.body) new⟩:aL).size=len+aD new:=by
         rw[← aL.br,aL.bR,hbody]; simp[o4,cz]
        have hrowk:∀r∈(⟨ax+1,k,aU (az off len a.body) new⟩:aL).rows,r.length=k:=by
         intro r hr'
         rw[aL.bR,hbody]at hr'
         rcases WT.1 hr' with hr'|hr'
         .exact o2.2.1 r hr'
         .exact s2.2.1 r hr'
        by_cases hroom:len+aD new≤cap
        . -- there is room
         have hA:=q4 (by omega)
         have hcapk:e.ad id+off*k+cap*k≤e.ad id+e.cap id*k:=by
          have:(off+cap)*k≤e.cap id*k:=Wi _ q3
          rw[Wm]at this
          omega
         have hfitk:e.ad id+off*k+len*k+news.length≤arr.size:=by
          rw[hln,hsz]
          have:(len+aD new)*k≤cap*k:=Wi _ hroom
          rw[Wm]at this
          rw[hak]at hbz
          omega
         have hB:=s1 (by omega)
         have hf:=run_firstCells_some (P:=P) w i.size (aD new) ad' (aD new) c' news hln s3
         rw[hsz]at hf
         have hst:=run_storeCells_at P (e.ar id) (e.ad id+off*k+len*k) ty' news 0 arr w hb (by simpa using hfitk) s2.one
         simp only[Nat.add_zero]at hst
         have hrun:(Builtin.append_ #[t,t] ty #[.slice A len cap,.slice B (aD new) c']).run P w=
           .ok (.slice A (len+aD new) cap) (w.setRow (e.ar id) (arr.toList.take (e.ad id+off*k+len*k)++news++arr.toList.drop (e.ad id+off*k+len*k+news.length)).toArray):=by
          subst hB
          rw[hA,v2,hak]
          simp only[Builtin.append_,List.getElem?_toArray,List.getElem?_cons_zero,List.getElem?_cons_succ,run_underlying hu,Sem.run_bind,Result.andThen_ok,sizeOf,typeInfo,run_program,hi,Sem.run_pure,Builtin.lenOf,hroom,if_true,Bool.false_eq_true,if_false,Bool.not_false,hf,dm,hsz,hst]
         have hcell:∀o,(w.setRow (e.ar id) (arr.toList.take (e.ad id+off*k+len*k)++news++arr.toList.drop (e.ad id+off*k+len*k+news.length)).toArray).cell? ⟨e.ar id,o,none⟩=
           (arr.toList.take (e.ad id+off*k+len*k)++news++arr.toList.drop (e.ad id+off*k+len*k+news.length))[o]?:=fun o=>by
          rw[cell_of_row _ _ _ _ _ _ (setRow_heap w _ arr _ ty' (0,0) hb)]
          simp
         have hold:∀o v',w.cell? ⟨e.ar id,o,none⟩=some v'→arr.toList[o]?=some v':=fun o v' ho'=>by
          rw[cell_of_row _ _ _ _ _ _ hb]at ho'
          simpa using ho'
         have hfit':e.ad id+off*k+len*k+news.length≤arr.toList.length:=by simpa using hfitk
         have hnx:=Nx.mG hr (b:=e.ar id) (d:=e.ad id+off*k) (c:=cap) ⟨ax+1,k,aU (az off len a.body) new⟩ ho1 hak0
          (fun q _ hq=>setRow_other w _ hq) (by simp) (Fr.setRow (hr.mm id h1 (by rw[v2]; exact hak0)).1 _) (.inl (by show a.ax<ax+1; omega)) (.inl rfl) (by show k≠0; omega)
          (by rw[hsizeA]; exact hroom) ⟨_,ty',setRow_heap w _ arr _ ty' (0,0) hb,by
           show e.ad id+off*k+cap*k≤_
           rw[hak]at hbz
           have hz':((arr.toList.take (e.ad id+off*k+len*k)++news++arr.toList.drop (e.ad id+off*k+len*k+news.length)).toArray).size=arr.size:=by simp; omega
           rw[hz']
           omega⟩ hrowk
          (fun i' r hi' j c hj=>by
           rw[aL.bR,hbody]at hi'
           show _∧∃v,_=some v∧_
           have hrk:=hrowk r (by rw[aL.bR,hbody]; exact Wa hi')
           have hjk:j<k:=by rw[← hrk]; exact(V9.1 hj).1
           rcases Wh i' len with hl|hl
           .rw[We (by rw[o4]; exact hl),gb,← aL.bR]at hi'
            obtain⟨_,hi''⟩:=nG hi'
            obtain⟨k1,v',k2,k3⟩:=g4 _ _ hi'' j c hj
            refine⟨k1,v',?_,k3⟩
            have hlt:(i'+1)*k≤len*k:=Wi _ (by omega)
            rw[Wm,W7]at hlt
            rw[hcell,dn (j:=e.ad id+off*k+i'*k+j) hfit' (.inl (by omega))]
            refine hold _ _ ?_
            rw[← k2,hak,Wm]
            congr 2
            omega
           .rw[Wn (by rw[o4]; exact hl),o4]at hi'
            obtain⟨k1,u,k2,k3⟩:=s2.2.2 _ r hi' j c hj
            refine⟨k1,u,?_,k3⟩
            have e1:(i' - len)*k+len*k=i'*k:=by rw[← Wm]; congr 1; omega
            have hlt2:=(V9.1 k2).1
            rw[hcell,gr (j:=e.ad id+off*k+i'*k+j) hfit' (by omega) (by omega)]
            rw[← k2]
            congr 1
            omega)
          (gY (jU g5) s4)
         refine⟨_,_,L,_,hrun,by rw[Tn.cy]; exact hnx,?_⟩
         refine .own id (ax+1) 0 (len+aD new) A cap (fun _=>by rw[hA]; rfl) h1 (by simp[bh.bo,aF]) (fun _=>?_)
         simp only[bh.bo,aF]
         refine⟨by rw[hsizeA]; omega,hroom,by omega,fun _=>?_⟩
         rw[hA,v2,hak]
         simp
        . -- a new array
         have hrun:(Builtin.append_ #[t,t] ty #[.slice A len cap,.slice B (aD new) c']).run P w=_:=
          rM (z:=z) hu hi hz o1 hlo o3 (s1 (by omega)) hln s3 (by omega) (by omega) hmost hby (fun hA=>by
           rcases Xi cap with h1'|h1'
           .exact h1'
           .have:=q4 h1'; rw[hA]at this; cases this)
         have hG:=grownCap_ge w (len+aD new) cap el
         generalize hGG:grownCap w (len+aD new) cap el=G at hrun hG
         have hsize:=mJ (z:=z) (k:=k) (n:=len) (m:=aD new) (G:=G) (by rw[hlo,hsz]) (by rw[hln,hsz]) hzs hG
         have hnew:(w.drew.alloc (.cells (olds.toArray++news.toArray++Builtin.zeroCells z.cells (G - (len+aD new))) el)).heap[w.heap.size]?=some (.cells (olds.toArray++news.toArray++Builtin.zeroCells z.cells (G - (len+aD new))) el (0,0)):=heap_alloc_new w.drew _
         have hnx:=Nx.mG hr (w':=w.drew.alloc (.cells (olds.toArray++news.toArray++Builtin.zeroCells z.cells (G - (len+aD new))) el)) (b:=w.heap.size) (d:=0) (c:=G) ⟨ax+1,k,aU (az off len a.body) new⟩ ho1 hak0
          (fun q hq _=>heap_alloc_old w.drew _ q hq) (by simp) (Fr.drew.trans (Fr.alloc _)) (.inl (by show a.ax<ax+1; omega)) (.inr (Nat.le_refl _)) (by show k≠0; omega)
          (by rw[hsizeA]; exact hG) ⟨_,el,hnew,by rw[hsize]; simp⟩ hrowk
          (fun i' r hi' j c hj=>by
           rw[aL.bR,hbody]at hi'
           exact mI o2 s2 o4 hnew i' r hi' j c hj)
          (gY (jU g5) s4)
         refine⟨_,_,L,_,hrun,by rw[Tn.cy]; exact hnx,?_⟩
         refine .own id (ax+1) 0 (len+aD new) _ G (fun _=>rfl) h1 (by simp[bh.bo,aF]) (fun _=>?_)
         simp only[bh.bo,aF]
         exact⟨by rw[hsizeA]; omega,hG,by omega,fun _=>by simp⟩
       .cases hh
   .cases hh
  .cases hh
end Go.Pv
namespace Go.Pv
variable {P:Program} {N M:Nat→Nat} {W:Nat→Prop} {L L':Lx} {e e':bh} {h:aa} {w w':World} {g:bJ→V} {ρ:Operand→Value}
theorem iJ {α:Type} (k:Nat):∀(n:Nat) (l:List α),(fN k n l).length=n
 |0,_=>rfl
 |n+1,l=>by simp[fN,iJ k n]
theorem rN {α:Type} (k:Nat):∀(n:Nat) (l:List α) (i:Nat),i<n→(fN k n l)[i]?=some ((l.drop (i*k)).take k)
 |0,_,_,hi=>by omega
 |n+1,l,0,_=>by simp[fN]
 |n+1,l,i+1,hi=>by
  simp only[fN,List.getElem?_cons_succ]
  rw[rN k n (l.drop k) i (by omega),List.drop_drop,Wm,W7,Nat.add_comm]
theorem mK {k n:Nat} {cs:List V} {arr:Array Value} (hc:gK N L e w cs arr) (hl:cs.length=n*k) (hcalm:∀c∈cs,c.calm=true):fU N L e w k (fN k n cs) arr.toList:=by
 have hrow:∀i r,(fN k n cs)[i]?=some r→i<n∧r=(cs.drop (i*k)).take k:=by
  intro i r hi
  have hlt:i<n:=by have:=(V9.1 hi).1; rwa [iJ]at this
  rw[rN k n cs i hlt]at hi
  injection hi with hi
  exact⟨hlt,hi.symm⟩
 refine⟨by rw[iJ,Xf,hc.1,hl],fun r hr=>?_,fun i r hi j c hj=>?_⟩
 .obtain⟨i,hi⟩:=Wd.1 hr
  obtain⟨h1,rfl⟩:=hrow i r hi
  have:(i+1)*k≤n*k:=Wi _ (by omega)
  rw[Wm,W7]at this
  simp; omega
 .obtain⟨h1,rfl⟩:=hrow i r hi
  rw[Wy]at hj
  split at hj
  .rw[WQ]at hj
   have hv:=hc.2 _ c hj
   have hlt:i*k+j<arr.size:=by rw[hc.1]; exact(V9.1 hj).1
   refine⟨hcalm c (Wa hj),arr.getD (i*k+j) undef,?_,hv⟩
   rw[Wo]
   exact bf hlt
  .cases hj
theorem rO {k:Nat} {rows:List (List V)} {vals:List Value} (hr:fU N L e w k rows vals) {l:List (List PV)} (hm:ay (ay V.bS) rows=some l):
  fU N L e w k (l.map (·.map .pv)) vals∧∀r∈l,∀c∈r,c.perm=true:=by
 have hrow:∀i q,l[i]?=some q→∃r,rows[i]?=some r∧ay V.bS r=some q:=fun i q hi=>bq hm i q hi
 refine⟨⟨by rw[hr.1,Wg,bH hm],fun r hr'=>?_,fun i r hi j c hj=>?_⟩,fun r hr' c hc=>?_⟩
 .obtain⟨q,hq,rfl⟩:=Wk.1 hr'
  obtain⟨i,hi⟩:=Wd.1 hq
  obtain⟨r,h1,h2⟩:=hrow i q hi
  rw[Wg,bH h2]
  exact hr.2.1 r (Wa h1)
 .rw[Wf]at hi
  cases hq:l[i]? with
  |none=>simp[hq]at hi
  |some q=>
   simp[hq]at hi
   subst hi
   obtain⟨r',h1,h2⟩:=hrow i q hq
   obtain⟨p,hp,rfl⟩:=cZ hj
   obtain⟨d,h3,h4⟩:=bq h2 j p hp
   obtain⟨k1,u,k2,k3⟩:=hr.2.2 i r' h1 j d h3
   exact⟨PV.er (V.eT h4),u,k2,k3.bS h4⟩
 .obtain⟨i,hi⟩:=Wd.1 hr'
  obtain⟨r',h1,h2⟩:=hrow i r hi
  obtain⟨j,hj⟩:=Wd.1 hc
  obtain⟨d,h3,h4⟩:=bq h2 j c hj
  exact V.eT h4
theorem fU.mono {k:Nat} {rows:List (List V)} {vals:List Value} (hr:fU N L e w k rows vals) (hx:Ext L e w L' e' w'):fU N L' e' w' k rows vals:=
 ⟨hr.1,hr.2.1,fun i r hi j c hj=>by
  obtain⟨k1,u,k2,k3⟩:=hr.2.2 i r hi j c hj
  exact⟨k1,u,k2,k3.mono hx⟩⟩
theorem vX (hr:HR N L e W h w) {k n c:Nat} (hk:k≠0) {body:Sum (List (List PV)) (List (List V))} {arr:Array Value} {el:TypeId} (hrow:fU N L e w k (rowsOf body) (arr.toList.take (n*k))) (hn:aD body=n)
  (hc:n≤c) (hsz:c*k≤arr.size) (hp:bK body):
  Nx N W L e w L (e.cU w.heap.size 0 c ⟨0,k,body⟩) { h with ar:=h.ar++[⟨0,k,body⟩] } (w.alloc (.cells arr el))∧
  VR N L (e.cU w.heap.size 0 c ⟨0,k,body⟩) (w.alloc (.cells arr el)) (.own h.ar.length 0 0 n) (.slice (some ⟨w.heap.size,0,none⟩) n c):=by
 have n1:=Nx.idle hr (.cells arr el)
 have hnew:(w.alloc (.cells arr el)).heap[w.heap.size]?=some (.cells arr el (0,0)):=heap_alloc_new w _
 have hsize:(⟨0,k,body⟩:aL).size=n:=by rw[← aL.br,aL.bR,cz,hn]
 have n2:=Nx.vU n1.hr (b:=w.heap.size) (d:=0) (c:=c) ⟨0,k,body⟩ (hr.wide _ (Wj _)) (fun t ht=>by have:=hr.mE _ _ ht; omega)
  (fun s hs=>by have:=hr.ky hs; omega) (fun id hid hk'=>by have:=hr.gP hid hk'; omega) hk (by rw[hsize]; exact hc) ⟨_,el,hnew,by simpa using hsz⟩
  (fun r hr'=>hrow.2.1 r (by rw[← aL.bR ⟨0,k,body⟩]; exact hr'))
  (fun i r hi j x hj=>by
   rw[aL.bR]at hi
   obtain⟨k1,u,k2,k3⟩:=hrow.2.2 i r hi j x hj
   refine⟨k1,u,?_,k3.mono n1.ext⟩
   rw[cell_of_row _ _ _ _ _ _ hnew]
   rw[Wy]at k2
   split at k2
   .rw[Wo]at k2
    simpa [Nat.add_assoc]using k2
   .cases k2)
  hp
 refine⟨n1.trans n2,?_⟩
 rw[← hr.na]
 refine .own e.na 0 0 n _ c (fun _=>rfl) (by simp[bh.cU]) (by simp) (fun _=>?_)
 simp only[bh.cU,aF]
 exact⟨by rw[hsize]; omega,hc,by omega,fun _=>by simp⟩
theorem gm {z:Array Value} {k n q:Nat} (hz:z.size=k) (hk:0<k) (hq:q<n):(madeCells z n)[q]?=some (z.getD (q%k) undef):=by
 have hlt:q%k<z.size:=by rw[hz]; exact Wt _ hk
 simp only[madeCells,Array.getElem?_map]
 rw[Array.getElem?_range,if_pos hq]
 simp only[Option.map_some,hz]
 congr 1
 simp[Array.getD,hlt]
theorem qe (n:Nat) (zero:List V):(aD (cu n zero)=n)∧bK (cu n zero)∧
  ∀(i:Nat) (r:List V),(rowsOf (cu n zero))[i]?=some r→i<n∧r=norm zero:=by
 unfold cu norm
 cases hm:ay V.bS zero with
 |none=>
  refine⟨by simp[aD],trivial,fun i r hi=>?_⟩
  simp only[rowsOf,List.getElem?_replicate]at hi
  split at hi
  .injection hi with hi; exact⟨by assumption,hi.symm⟩
  .cases hi
 |some z=>
  refine⟨by simp[aD],fun r hr c hc=>?_,fun i r hi=>?_⟩
  .have:=List.eq_of_mem_replicate hr
   subst this
   obtain⟨j,hj⟩:=Wd.1 hc
   obtain⟨_,_,h2⟩:=bq hm j c hj
   exact V.eT h2
  .simp only[rowsOf,List.map_replicate,List.getElem?_replicate]at hi
   split at hi
   .injection hi with hi; exact⟨by assumption,hi.symm⟩
   .cases hi
theorem Jr (hr:HR N L e W h w) {t el:TypeId} {k:Nat} (he:iy P t=some (el,k)) {zero:List V} (hz:zeroOf P el=some zero) (hcalm:zero.all V.calm=true) {n c:V} {nv cv:Value} (hn:VR N L e w n nv) (hc:VR N L e w c cv)
  {a b:Int} (ha:intOf n=some a) (hb:intOf c=some b) (h0:0≤a) (hab:a≤b) (hbm:b≤aN):
  Good P N W L e h w (Instr.makeSlice t nv cv) (.own h.ar.length 0 0 a.toNat) { push:=[⟨0,k,cu a.toNat zero⟩],base:=h.ar.length }:=by
 obtain⟨i,z,hu,hi,hsz,hby,hk0,hzz,hzs⟩:=eV he
 have hn':∃kd,nv=.int kd a:=by
  cases hn with
  |pv p v hp=>
   cases hp with
   |int kd x=>simp[intOf]at ha; subst ha; exact⟨kd,rfl⟩
   |_=>simp[intOf]at ha
  |_=>simp[intOf]at ha
 have hc':∃kd,cv=.int kd b:=by
  cases hc with
  |pv p v hp=>
   cases hp with
   |int kd x=>simp[intOf]at hb; subst hb; exact⟨kd,rfl⟩
   |_=>simp[intOf]at hb
  |_=>simp[intOf]at hb
 obtain⟨kn,rfl⟩:=hn'
 obtain⟨kc,rfl⟩:=hc'
 unfold aN at hbm
 have hbytes:(i.bytes:Int)*b≤281474976710656:=by
  have h1:(i.bytes:Int)≤32768:=by omega
  have h2:(i.bytes:Int)*b≤32768*2147483648:=Int.mul_le_mul h1 (by omega) (by omega) (by omega)
  omega
 have hrun:=run_make (P:=P) w t el i z hu hi hzz kn kc a b h0 hab hbytes (by omega)
 obtain⟨i',zv,hi',hz',hl1,hl2,hl3,_⟩:=fh hz
 rw[hi]at hi'
 injection hi' with hi'
 subst hi'
 rw[hzz]at hz'
 injection hz' with hz'
 subst hz'
 obtain⟨s1,s2,s3⟩:=qe a.toNat zero
 have hzk:zero.length=k:=by rw[hl1,hsz]
 have hrow:fU N L e w k (rowsOf (cu a.toNat zero)) ((madeCells z.cells (b.toNat*i.size)).toList.take (a.toNat*k)):=by
  have hle:a.toNat*k≤b.toNat*k:=Wi _ (by omega)
  refine⟨?_,fun r hr'=>?_,fun q r hq j x hj=>?_⟩
  .rw[cz,s1,W8,Xf,size_madeCells,hsz]; omega
  .obtain⟨q,hq⟩:=Wd.1 hr'
   obtain⟨_,rfl⟩:=s3 q r hq
   rw[kR,hzk]
  .obtain⟨hqa,rfl⟩:=s3 q r hq
   obtain⟨g1,d,g2,g3⟩:=rI (N:=N) (L:=L) (e:=e) (w:=w) hcalm hj
   have hjk:j<k:=by rw[← hzk,← kR]; exact(V9.1 hj).1
   have hqk:(q+1)*k≤a.toNat*k:=Wi _ (by omega)
   rw[Wm,W7]at hqk
   refine⟨g1,z.cells.getD j undef,?_,g3 _ (VR.ue (hl3 j d g2))⟩
   rw[Wy,if_pos (by omega),Wo,hsz,gm hzs hk0 (by omega)]
   rw[Nat.mul_add_mod_self_right,XO hjk]
 obtain⟨n1,n2⟩:=vX hr (c:=b.toNat) (el:=el) (by omega) hrow s1 (by omega) (by rw[size_madeCells,hsz]; omega) s2
 exact⟨_,_,L,_,hrun,by rw[Tn.iI]; exact n1,n2⟩
theorem V.zB {c:V} {p:PV} (hp:c.bS=some p):c.calm=true:=by
 cases c<;>simp[V.bS]at hp
 .obtain⟨h1,rfl⟩:=hp; exact PV.er h1
 .obtain⟨h1,rfl⟩:=hp; simp[V.calm,h1]
theorem xj {α:Type} {k n:Nat} {l:List α} (hk:0<k) (hl:l.length=n*k) {x:α} (hx:x∈l):∃r∈fN k n l,x∈r:=by
 obtain⟨q,hq⟩:=Wd.1 hx
 have hlt:q<n*k:=by rw[← hl]; exact(V9.1 hq).1
 have hi:q/k<n:=(XU hk).2 hlt
 refine⟨_,Wa (rN k n l (q/k) hi),?_⟩
 refine Wa (i:=q%k) ?_
 rw[Wy,if_pos (Wt _ hk),WQ,Nat.div_add_mod' q k]
 exact hq
theorem ui {g:bJ→V}:∀{parts:List (Nat×Nat×bJ)} {cs cs':List V},eA g cs parts=some cs'→cs'.length=cs.length
 |[],cs,cs',hf=>by simp[eA]at hf; subst hf; rfl
 |(off,n,x)::r,cs,cs',hf=>by
  simp only[eA]at hf
  split at hf
  .rename_i hc
   have:=ui hf
   rw[this]
   simp[setAt]; omega
  .cases hf
theorem Iu (hr:HR N L e W h w) (hO:OR N M L e w g ρ) {t el:TypeId} {k len:Nat} (he:iy P t=some (el,k)) {zero:List V} (hz:zeroOf P el=some zero) (hmost:len*k≤16777216)
  {parts:Array (Nat×Operand)} {l:List (Nat×Nat×bJ)} (hp:iz N M k parts.toList=some l) {cs:List V} (hf:eA g ((List.range (len*k)).map fun i=>zero.getD (i%k) .any) l=some cs):
  (∀rows,iu (fN k len cs)=.inl rows→Good P N W L e h w (Instr.buildSlice t len (parts.map fun(i,x)=>(i,ρ x))) (.tl rows) {})∧
  (∀rows,iu (fN k len cs)=.inr rows→cs.all V.calm=true→Good P N W L e h w (Instr.buildSlice t len (parts.map fun(i,x)=>(i,ρ x))) (.own h.ar.length 0 0 len) { push:=[⟨0,k,.inr rows⟩],base:=h.ar.length })∧
  (0<k∧cs.length=len*k∧∃arr',gK N L e w cs arr'∧(Instr.buildSlice t len (parts.map fun(i,x)=>(i,ρ x))).run P w=.ok (.slice (some ⟨w.heap.size,0,none⟩) len len) (w.alloc (.cells arr' el))):=by
 obtain⟨i,z,hu,hi,hsz,hby,hk0,hzz,hzs⟩:=eV he
 obtain⟨i',zv,hi',hz',hl1,hl2,hl3,hl4⟩:=fh hz
 rw[hi]at hi'
 injection hi' with hi'
 subst hi'
 rw[hzz]at hz'
 injection hz' with hz'
 subst hz'
 have hzk:zero.length=k:=by rw[hl1,hsz]
 obtain⟨k1,k2⟩:=kT hp
 have hcells:gK N L e w ((List.range (len*k)).map fun i=>zero.getD (i%k) .any) (madeCells z.cells (len*k)):=by
  refine⟨by simp[size_madeCells],fun j c hj=>?_⟩
  rw[Wf]at hj
  have hjl:j<len*k:=by
   rcases Wh j (len*k)with h1|h1
   .exact h1
   .simp[h1]at hj
  rw[Xr hjl]at hj
  simp only[Option.map_some,Option.some.injEq]at hj
  have hm:=gm hzs hk0 hjl
  have hzg:zero[j%k]?=some c:=by
   have hlt:j%k<zero.length:=by rw[hzk]; exact Wt _ hk0
   rw[← hj]
   simp[List.getD,List.getElem?_eq_getElem hlt]
  have hval:(madeCells z.cells (len*k)).getD j undef=z.cells.getD (j%k) undef:=by
   have:(madeCells z.cells (len*k)).getD j undef=((madeCells z.cells (len*k))[j]?).getD undef:=by simp
   rw[this,hm]; rfl
  rw[hval]
  exact VR.ue (hl3 _ _ hzg)
 obtain⟨arr',r1,r2⟩:=nD hO (place:=fun i=>some (i*k,k)) parts.toList l _ cs _ k1 k2 hcells hf
 have hlen:cs.length=len*k:=by rw[ui hf]; simp
 have hrun:(Instr.buildSlice t len (parts.map fun(i,x)=>(i,ρ x))).run P w=.ok (.slice (some ⟨w.heap.size,0,none⟩) len len) (w.alloc (.cells arr' el)):=by
  have hsizeOf:∀w:World,(sizeOf el).run P w=.ok k w:=fun w=>by simp[sizeOf,typeInfo,hi,hsz]
  have hle:¬(16777216<len*k):=by omega
  by_cases h0:len*k=0
  .have r1':Instr.fill (fun i=>some (i*k,k)) #[] (parts.toList.map fun x=>(x.1,ρ x.2))=some arr':=by
    have hm:madeCells z.cells (len*k)=#[]:=by rw[h0]; simp[madeCells,Array.range_zero']
    rw[hm]at r1
    exact r1
   have hl0:len=0:=by
    rcases Nat.mul_eq_zero.1 h0 with h1|h1
    .exact h1
    .omega
   subst hl0
   simp[Instr.buildSlice,run_underlying hu,hsizeOf,r1',newRow,Array.range_zero']
  .have r1':Instr.fill (fun i=>some (i*k,k)) ((Array.range (len*k)).map fun x=>z.cells[x%z.cells.size]!) (parts.toList.map fun x=>(x.1,ρ x.2))=some arr':=r1
   have h0':¬(len=0∨k=0):=fun hh=>h0 (by rcases hh with hh|hh<;>simp[hh])
   simp[Instr.buildSlice,run_underlying hu,hsizeOf,hle,hl4,r1',newRow]
   exact fun hh=>absurd hh h0
 refine⟨?_,?_,hk0,hlen,arr',r2,hrun⟩
 .intro rows hm
  unfold iu at hm
  cases hmm:ay (ay V.bS) (fN k len cs)with
  |none=>simp[hmm]at hm
  |some rl=>
   simp[hmm]at hm
   subst hm
   have hcalm:∀c∈cs,c.calm=true:=by
    intro c hc
    obtain⟨r,hr',hcr⟩:=xj hk0 hlen hc
    obtain⟨q,hq⟩:=Wd.1 hr'
    obtain⟨r2',_,h3⟩:=ny hmm q r hq
    obtain⟨j,hj⟩:=Wd.1 hcr
    obtain⟨p,_,h5⟩:=ny h3 j c hj
    exact V.zB h5
   have hR:=mK (k:=k) (n:=len) r2 hlen hcalm
   obtain⟨n1,n2⟩:=rO hR hmm
   have hst:=Nx.still hr (.cells arr' el)
   have hnew:(w.alloc (.cells arr' el)).heap[w.heap.size]?=some (.cells arr' el (0,0)):=heap_alloc_new w _
   have hrl:rl.length=len:=by rw[bH hmm,iJ]
   have hat:∀i j c,ff rl i j=some c→∃u,arr'.toList[i*k+j]?=some u∧VR N L e w (.pv c) u∧c.perm=true:=by
    intro i j c hc
    unfold ff at hc
    cases hq:rl[i]? with
    |none=>simp[hq]at hc
    |some q=>
     simp[hq]at hc
     obtain⟨_,u,h2,h3⟩:=n1.2.2 i (q.map .pv) (by simp[hq]) j (.pv c) (by simp[hc])
     exact⟨u,h2,h3,n2 q (Wa hq) c (Wa hc)⟩
   refine⟨_,_,_,e,hrun,by rw[show ({}:Tn).apply h=h from Tn.aM h _ _ _ _ _]; exact hst,?_⟩
   have hp0:dw N (L.add w.heap.size) (w.alloc (.cells arr' el)) (.aq 0 rl) (.slice (some ⟨w.heap.size,0,none⟩) rl.length len):=by
    refine .aq 0 rl _ ⟨w.heap.size,0,none⟩ len k (fun i j=>(arr'.toList[i*k+j]?).getD undef) (fun r hr'=>?_) (by omega) (fun _=>⟨rfl,rfl,.inl (.inr ⟨rfl,rfl⟩)⟩) (fun i j c hc=>?_) (fun i j c hc=>?_) (fun _ i j c hc=>?_) (fun i j c hc=>?_)
    .obtain⟨q,hq⟩:=Wd.1 hr'
     have:=n1.2.1 (r.map .pv) (Wk.2 ⟨r,hr',rfl⟩)
     simpa using this
    .obtain⟨u,h1,_,_⟩:=hat i j c hc
     rw[cell_of_row _ _ _ _ _ _ hnew,h1]
     simp only[Nat.zero_add,Option.getD_some]
     rw[← Wo]
     exact h1
    .obtain⟨u,h1,h2,_⟩:=hat i j c hc
     rw[h1]
     have:=h2.mono hst.ext
     cases this with
     |pv _ _ hp=>exact hp
    .exact(hat i j c hc).choose_spec.2.2
    .have:=(hat i j c hc).choose_spec.2.2
     rw[← PV.zt]; exact PV.er this
   have:=VR.tl (e:=e) rl (some ⟨w.heap.size,0,none⟩) (by rw[hrl]at hp0 ⊢; exact hp0) (fun _ ad had=>by injection had with had; subst had; exact⟨arr',el,hnew⟩)
   rw[hrl]at this
   exact this
 .intro rows hm hcalm
  have hrows:rows=fN k len cs:=by
   unfold iu at hm
   cases hmm:ay (ay V.bS) (fN k len cs)with
   |none=>simp[hmm]at hm; exact hm.symm
   |some rl=>simp[hmm]at hm
  subst hrows
  have hR:=mK (k:=k) (n:=len) r2 hlen (fun c hc=>Wu.1 hcalm c hc)
  have hsz':arr'.size=len*k:=by rw[r2.1,hlen]
  have htake:arr'.toList.take (len*k)=arr'.toList:=List.take_of_length_le (by simp[hsz'])
  obtain⟨n1,n2⟩:=vX hr (k:=k) (n:=len) (c:=len) (body:=.inr (fN k len cs)) (arr:=arr') (el:=el) (by omega) (by rw[htake]; exact hR) (by simp[aD,iJ]) (Nat.le_refl _) (by omega) trivial
  exact⟨_,_,L,_,hrun,by rw[Tn.iI]; exact n1,n2⟩
theorem iM {_k _n off len:Nat} {z:List PV} {rows:List (List PV)} (hfit:off+len≤rows.length) (i:Nat) (r:List PV)
  (hi:(rows.take off++List.replicate len z++rows.drop (off+len))[i]?=some r):(off≤i∧i<off+len∧r=z)∨((i<off∨off+len≤i)∧rows[i]?=some r):=by
 have h1:off+(List.replicate len z).length≤rows.length:=by simpa using hfit
 have h2:(rows.take off++List.replicate len z++rows.drop (off+(List.replicate len z).length))[i]?=some r:=by simpa using hi
 rcases nB h1 h2 with⟨p1,p2,p3⟩|⟨p1,p2⟩
 .left
  rw[XA]at p3
  split at p3
  .injection p3 with p3
   exact⟨p1,by simpa using p2,p3.symm⟩
  .cases p3
 .right
  exact⟨by simpa using p1,p2⟩
theorem tO {z:Array Value} {k n q:Nat} (hz:z.size=k) (hk:0<k) (hq:q<n*k):(Builtin.zeroCells z n).toList[q]?=some (z.getD (q%k) undef):=by
 have:=gm (n:=n*k) hz hk hq
 rw[← Wo]at this
 rw[← this]
 simp[Builtin.zeroCells,madeCells,hz]
theorem PB (hr:HR N L e W h w) {t el:TypeId} {k:Nat} (he:iy P t=some (el,k)) {zero:List V} (hz:zeroOf P el=some zero) {x:V} {xv:Value} (hx:VR N L e w x xv):
  (∀tg,x=.pv (.aq tg [])→Good P N W L e h w (Builtin.clear_ #[t] 0 #[xv]) (.dy []) {})∧(x=.tl []→Good P N W L e h w (Builtin.clear_ #[t] 0 #[xv]) (.dy []) {})∧
  (∀id ax off len a z rows,x=.own id ax off len→aB h id ax=some a→ay V.bS zero=some z→a.body=.inl rows→a.k=k→off+len≤rows.length→
   Good P N W L e h w (Builtin.clear_ #[t] 0 #[xv]) (.dy []) { ar:=some (id,⟨ax,k,.inl (rows.take off++List.replicate len z++rows.drop (off+len))⟩) }):=by
 obtain⟨i,zv,hu,hi,hsz,hby,hk0,hzz,hzs⟩:=eV he
 have hempty:∀(A:Option Addr) (c:Nat),(Builtin.clear_ #[t] 0 #[.slice A 0 c]).run P w=.ok (.tuple #[]) w:=by
  intro A c
  cases A<;>simp[Builtin.clear_,run_underlying hu]
 have htup:VR N L e w (.dy []) (.tuple #[]):=.dy [] #[] rfl (by simp)
 refine⟨fun tg hh=>?_,fun hh=>?_,fun id ax off len a z rows hh ho hm hb hak hfit=>?_⟩
 .subst hh
  cases hx with
  |pv _ _ hp=>cases hp with|aq=>exact .pure hr (hempty _ _) htup (Tn.aM h _ _ _ _ _)
 .subst hh
  cases hx with
  |tl=>exact .pure hr (hempty _ _) htup (Tn.aM h _ _ _ _ _)
 .subst hh
  obtain⟨ho1,ho2⟩:=bn ho
  obtain⟨v1,v2,v3,v4⟩:=hr.ax id a ho1
  have hak0:a.k≠0:=by omega
  obtain⟨g1,⟨arr,ty,hbk,hbz⟩,g3,g4,g5⟩:=hr.ar id a ho1 hak0
  have hrows:a.rows=rows.map (·.map .pv):=by rw[aL.bR,hb]; rfl
  have hasz:a.size=rows.length:=by rw[← aL.br,hrows]; simp
  obtain⟨i',zv',hi',hz',hl1,hl2,hl3,hl4⟩:=fh hz
  rw[hi]at hi'
  injection hi' with hi'
  subst hi'
  rw[hzz]at hz'
  injection hz' with hz'
  subst hz'
  have hzk:z.length=k:=by rw[bH hm,hl1,hsz]
  cases hx with
  |own _ _ _ _ A cap h0 h1 h2 h3=>
   obtain⟨q1,q2,q3,q4⟩:=h3 (by omega)
   by_cases hl0:len=0
   .subst hl0
    have hsame:(⟨ax,k,.inl (rows.take off++List.replicate 0 z++rows.drop (off+0))⟩:aL)=a:=by
     obtain⟨av,ak,ab⟩:=a
     simp only at ho2 hak hb
     subst ho2; subst hak; subst hb
     simp
    refine .pure hr (hempty _ _) htup ?_
    rw[hsame,Tn.cy]
    have:h.ar.set id a=h.ar:=by
     apply WW
     intro j
     by_cases hj:j=id
     .subst hj
      rw[WU (V9.1 ho1).1,ho1]
     .rw[Xk (Ne.symm hj)]
    rw[this]
   .have hA:=q4 (by omega)
    rw[v2,hak]at hA
    have hcapk:(off+len)*k≤e.cap id*k:=Wi _ (by omega)
    rw[Wm]at hcapk
    rw[hak]at hbz
    have hnl:(Builtin.zeroCells zv.cells len).toList.length=len*k:=by simp[size_zeroCells,hzs]
    have hget:∀q,q<len*k→(Builtin.zeroCells zv.cells len).toList[q]?=some (zv.cells.getD (q%k) undef):=fun q hq=>tO hzs hk0 hq
    have hval:∀(j:Nat) (p:PV),z[j]?=some p→VR N L e w (.pv p) (zv.cells.getD j undef)∧p.perm=true:=by
     intro j p hp
     obtain⟨d,h5,h6⟩:=bq hm j p hp
     exact⟨(VR.ue (hl3 j d h5)).bS h6,V.eT h6⟩
    have hone:∀v∈(Builtin.zeroCells zv.cells len).toList,v.oneCell'=true:=by
     intro v hv
     obtain⟨q,hq⟩:=Wd.1 hv
     have hql:q<len*k:=by rw[← hnl]; exact(V9.1 hq).1
     rw[hget q hql]at hq
     injection hq with hq
     have hjl:q%k<z.length:=by rw[hzk]; exact Wt _ hk0
     obtain⟨h5,h6⟩:=hval (q%k) _ (Wb hjl)
     rw[hq]at h5
     exact h5.kO (PV.er h6)
    have hst:=run_storeCells_at P (e.ar id) (e.ad id+off*k) ty (Builtin.zeroCells zv.cells len).toList 0 arr w hbk (by rw[hnl]; omega) hone
    simp only[Nat.add_zero]at hst
    have hrun:(Builtin.clear_ #[t] 0 #[.slice A len cap]).run P w=.ok (.tuple #[]) (w.setRow (e.ar id) (arr.toList.take (e.ad id+off*k)++(Builtin.zeroCells zv.cells len).toList++arr.toList.drop (e.ad id+off*k+(Builtin.zeroCells zv.cells len).toList.length)).toArray):=by
     rw[hA]
     have hc:∀c,(Builtin.clear_ #[t] 0 #[.slice (some ⟨e.ar id,e.ad id+off*k,none⟩) len c]).run P w=((storeCells ⟨e.ar id,e.ad id+off*k,none⟩ (Builtin.zeroCells zv.cells len).toList).run P w).andThen fun _ w'=>.ok (.tuple #[]) w':=by
      intro c
      match len,hl0 with
      |n+1,_=>simp[Builtin.clear_,run_underlying hu,hl4]
     rw[hc,hst]
     rfl
    have hcell:∀o,(w.setRow (e.ar id) (arr.toList.take (e.ad id+off*k)++(Builtin.zeroCells zv.cells len).toList++arr.toList.drop (e.ad id+off*k+(Builtin.zeroCells zv.cells len).toList.length)).toArray).cell? ⟨e.ar id,o,none⟩=
      (arr.toList.take (e.ad id+off*k)++(Builtin.zeroCells zv.cells len).toList++arr.toList.drop (e.ad id+off*k+(Builtin.zeroCells zv.cells len).toList.length))[o]?:=fun o=>by
     rw[cell_of_row _ _ _ _ _ _ (setRow_heap w _ arr _ ty (0,0) hbk)]
     simp
    have hold:∀o v',w.cell? ⟨e.ar id,o,none⟩=some v'→arr.toList[o]?=some v':=fun o v' ho'=>by
     rw[cell_of_row _ _ _ _ _ _ hbk]at ho'
     simpa using ho'
    have hfit':e.ad id+off*k+(Builtin.zeroCells zv.cells len).toList.length≤arr.toList.length:=by rw[hnl]; simp; omega
    have hlen':(rows.take off++List.replicate len z++rows.drop (off+len)).length=rows.length:=by simp; omega
    have hnx:=Nx.mG hr (b:=e.ar id) (d:=e.ad id) (c:=e.cap id) ⟨ax,k,.inl (rows.take off++List.replicate len z++rows.drop (off+len))⟩ ho1 hak0
     (fun q _ hq=>setRow_other w _ hq) (by simp) (Fr.setRow (hr.mm id h1 (by rw[v2]; exact hak0)).1 _) (.inr ⟨ho2.symm,rfl,rfl,rfl,hak.symm,by show (rows.take off++List.replicate len z++rows.drop (off+len)).length=_; rw[hlen',hasz]⟩) (.inl rfl) (by show k≠0; omega)
     (by show (rows.take off++List.replicate len z++rows.drop (off+len)).length≤_; rw[hlen',← hasz]; exact g1)
     ⟨_,ty,setRow_heap w _ arr _ ty (0,0) hbk,by
      show e.ad id+e.cap id*k≤_
      have hz':((arr.toList.take (e.ad id+off*k)++(Builtin.zeroCells zv.cells len).toList++arr.toList.drop (e.ad id+off*k+(Builtin.zeroCells zv.cells len).toList.length)).toArray).size=arr.size:=by
       simp only[List.size_toArray,List.length_append,List.length_take,List.length_drop,hnl,Array.length_toList]; omega
      rw[hz']; omega⟩
     (fun r hr'=>by
      simp only[aL.rows,List.mem_map]at hr'
      obtain⟨q,hq,rfl⟩:=hr'
      obtain⟨i',hi'⟩:=Wd.1 hq
      rcases iM (_k:=k) (_n:=0) hfit i' q hi' with⟨_,_,rfl⟩|⟨_,hi''⟩
      .simpa using hzk
      .have:=g3 (q.map .pv) (by rw[hrows]; exact Wk.2 ⟨q,Wa hi'',rfl⟩)
       rw[hak]at this; exact this)
     (fun i' r hi' j x hj=>by
      simp only[aL.rows,List.getElem?_map]at hi'
      show _∧∃v,_=some v∧_
      cases hq:(rows.take off++List.replicate len z++rows.drop (off+len))[i']? with
      |none=>rw[hq,Option.map_none]at hi'; cases hi'
      |some q=>
       rw[hq,Option.map_some]at hi'
       injection hi' with hi'
       subst hi'
       obtain⟨p,hp,rfl⟩:=cZ hj
       rcases iM (_k:=k) (_n:=0) hfit i' q hq with⟨p1,p2,rfl⟩|⟨p1,p2⟩
       .obtain⟨h5,h6⟩:=hval j p hp
        have hjk:j<k:=by rw[← hzk]; exact(V9.1 hp).1
        refine⟨PV.er h6,_,?_,h5⟩
        have e1:(i' - off)*k+off*k=i'*k:=by rw[← Wm]; congr 1; omega
        have e2:(i' - off+1)*k≤len*k:=Wi _ (by omega)
        rw[Wm,W7]at e2
        rw[hcell,gr (j:=e.ad id+i'*k+j) hfit' (by omega) (by rw[hnl]; omega)]
        rw[show e.ad id+i'*k+j - (e.ad id+off*k)=(i' - off)*k+j by omega,hget _ (by omega)]
        rw[Nat.mul_add_mod_self_right,XO hjk]
       .have hrow:a.rows[i']?=some (q.map .pv):=by rw[hrows]; simp[p2]
        obtain⟨h5,v',h6,h7⟩:=g4 i' _ hrow j (.pv p) (by simp[hp])
        have hjk:j<k:=by
         have:=g3 _ (Wa hrow)
         rw[hak]at this
         have h8:=(V9.1 hp).1
         simpa using (by simpa using this:q.length=k) ▸ h8
        refine⟨h5,v',?_,h7⟩
        rw[hak]at h6
        have hout:e.ad id+i'*k+j<e.ad id+off*k∨e.ad id+off*k+(Builtin.zeroCells zv.cells len).toList.length≤e.ad id+i'*k+j:=by
         rw[hnl]
         rcases p1 with p1|p1
         .left
          have:(i'+1)*k≤off*k:=Wi _ (by omega)
          rw[Wm,W7]at this
          omega
         .right
          have:(off+len)*k≤i'*k:=Wi _ p1
          rw[Wm]at this
          omega
        rw[hcell,dn (j:=e.ad id+i'*k+j) hfit' hout]
        exact hold _ _ h6)
     (fun r hr' c hc=>by
      obtain⟨i',hi'⟩:=Wd.1 hr'
      rcases iM (_k:=k) (_n:=0) hfit i' r hi' with⟨_,_,rfl⟩|⟨_,hi''⟩
      .obtain⟨j,hj⟩:=Wd.1 hc
       exact(hval j c hj).2
      .rw[hb]at g5
       exact g5 r (Wa hi'') c hc)
    refine⟨_,_,L,_,hrun,by rw[Tn.cy]; exact hnx,.dy [] #[] rfl (by simp)⟩
theorem tP {off:Nat} {new rows:List (List PV)} (hfit:off+new.length≤rows.length) (i:Nat) (r:List PV)
  (hi:(rows.take off++new++rows.drop (off+new.length))[i]?=some r):(off≤i∧i<off+new.length∧new[i - off]?=some r)∨((i<off∨off+new.length≤i)∧rows[i]?=some r):=
 nB hfit hi
theorem Js (hr:HR N L e W h w) {t el ty:TypeId} {k:Nat} (he:iy P t=some (el,k)) {x y v:V} {xv yv:Value} (hx:VR N L e w x xv) (hy:VR N L e w y yv) {tn:Tn} (hh:copyV h k x y=some (v,tn)):
  Good P N W L e h w (Builtin.copy_ #[t,t] ty #[xv,yv]) v tn:=by
 obtain⟨i,zv,hu,hi,hsz,hby,hk0,hzz,hzs⟩:=eV he
 have hsize:sizeOf el=(pure k:Sem Nat)∨True:=.inr trivial
 unfold copyV at hh
 split at hh<;>first|(cases hh; done)|skip
 rename_i new rd hs
 split at hh<;>first|(cases hh; done)|skip
 rename_i hfitk
 obtain⟨B,c',ad',news,rfl,s1,s2,s3,s4,s5⟩:=nH hr hy hs hfitk (by omega)
 simp only[aD]at s1 s2 s3 s4 hy ⊢
 split at hh<;>first|(cases hh; done)|skip
 rename_i id ax off len
 have hn:Nat.min new.length len=min new.length len:=rfl
 cases hx with
 |own _ _ _ _ A cap h0 h1 h2 h3=>
 split at hh
 .rename_i hm0
  injection hh with hh; injection hh with e1 e2; subst e1; subst e2
  refine .pure hr ?_ (.pv _ _ (.int .i64 0)) (Tn.aM h _ _ _ _ _)
  cases B<;>cases A<;>simp[Builtin.copy_,run_underlying hu,Builtin.lenOf,Builtin.firstCells,sizeOf,typeInfo,hi,hn,hm0,storeCells,loadCells,loadCellsFrom,goInt]
 .rename_i hm0
  split at hh<;>first|(cases hh; done)|skip
  rename_i a ho
  split at hh<;>first|(cases hh; done)|skip
  rename_i rows hb
  split at hh<;>first|(cases hh; done)|skip
  rename_i hc
  obtain⟨hak,hfit0⟩:=hc
  injection hh with hh; injection hh with e1 e2; subst e1; subst e2
  generalize hm:min new.length len=m at hm0 ⊢
  have hml:m≤len:=by omega
  have hmn:m≤new.length:=by omega
  have hfit:off+m≤rows.length:=by omega
  obtain⟨ho1,ho2⟩:=bn ho
  obtain⟨v1,v2,v3,v4⟩:=hr.ax id a ho1
  have hak0:a.k≠0:=by omega
  obtain⟨g1,⟨arr,ty',hbk,hbz⟩,g3,g4,g5⟩:=hr.ar id a ho1 hak0
  have hrows:a.rows=rows.map (·.map .pv):=by rw[aL.bR,hb]; rfl
  have hasz:a.size=rows.length:=by rw[← aL.br,hrows]; simp
  obtain⟨q1,q2,q3,q4⟩:=h3 (by omega)
  have hA:=q4 (by omega)
  rw[v2,hak]at hA
  have hcapk:(off+len)*k≤e.cap id*k:=Wi _ (by omega)
  rw[Wm]at hcapk
  rw[hak]at hbz
  have hmk:m*k≤len*k:=Wi _ hml
  have hmk':m*k≤new.length*k:=Wi _ hmn
  have hrl:(rowsOf (.inl new)).length=new.length:=by simp[rowsOf]
  have hnews:news.length=new.length*k:=by rw[s2.1,hrl]
  generalize hcs:news.take (m*k)=cs at *
  have hnl:cs.length=m*k:=by rw[← hcs,W8,hnews]; omega
  have hget:∀q,q<m*k→cs[q]?=news[q]?:=fun q hq=>by rw[← hcs,Wy,if_pos hq]
  have hone:∀v∈cs,v.oneCell'=true:=fun v hv=>s2.one v (by rw[← hcs]at hv; exact W2 hv)
  have htl:(new.take m).length=m:=by simp; omega
  have hval:∀(i:Nat) (r:List PV),(new.take m)[i]?=some r→r.length=k∧∀(j:Nat) (p:PV),r[j]?=some p→p.perm=true∧∃u,cs[i*k+j]?=some u∧VR N L e w (.pv p) u:=by
   intro i r hir
   have him:i<m:=by rw[← htl]; exact(V9.1 hir).1
   rw[Wy,if_pos him]at hir
   have hrl':r.length=k:=by
    have:=s2.2.1 (r.map .pv) (by simp only[rowsOf]; exact List.mem_map.2 ⟨r,List.mem_of_getElem? hir,rfl⟩)
    simpa using this
   refine⟨hrl',fun j p hp=>?_⟩
   have hjk:j<k:=by rw[← hrl']; exact(V9.1 hp).1
   obtain⟨_,u,h5,h6⟩:=s2.2.2 i (r.map .pv) (by simp[rowsOf,hir]) j (.pv p) (by simp[hp])
   refine⟨s4 r (Wa hir) p (Wa hp),u,?_,h6⟩
   have:(i+1)*k≤m*k:=Wi _ him
   rw[Wm,W7]at this
   rw[hget _ (by omega)]
   exact h5
  have hst:=run_storeCells_at P (e.ar id) (e.ad id+off*k) ty' cs 0 arr w hbk (by rw[hnl]; omega) hone
  simp only[Nat.add_zero]at hst
  have hB:B=some ad':=s1 (by omega)
  have hld:=run_loadCells_list (P:=P) w ad' cs (fun j u hj=>s3 j u (by
   have hjl:j<m*k:=by rw[← hnl]; exact(V9.1 hj).1
   rw[← hget j hjl]; exact hj))
  rw[hnl]at hld
  have hrun:(Builtin.copy_ #[t,t] ty #[.slice A len cap,.slice B new.length c']).run P w=.ok (goInt m) (w.setRow (e.ar id) (arr.toList.take (e.ad id+off*k)++cs++arr.toList.drop (e.ad id+off*k+cs.length)).toArray):=by
   rw[hA,hB]
   have hmin:Nat.min new.length len=m:=hm
   simp[Builtin.copy_,run_underlying hu,Builtin.lenOf,Builtin.firstCells,sizeOf,typeInfo,hi,hsz,hmin,hld,hst]
  have hcell:∀o,(w.setRow (e.ar id) (arr.toList.take (e.ad id+off*k)++cs++arr.toList.drop (e.ad id+off*k+cs.length)).toArray).cell? ⟨e.ar id,o,none⟩=
    (arr.toList.take (e.ad id+off*k)++cs++arr.toList.drop (e.ad id+off*k+cs.length))[o]?:=fun o=>by
   rw[cell_of_row _ _ _ _ _ _ (setRow_heap w _ arr _ ty' (0,0) hbk)]
   simp
  have hold:∀o v',w.cell? ⟨e.ar id,o,none⟩=some v'→arr.toList[o]?=some v':=fun o v' ho'=>by
   rw[cell_of_row _ _ _ _ _ _ hbk]at ho'
   simpa using ho'
  have hfit':e.ad id+off*k+cs.length≤arr.toList.length:=by rw[hnl]; simp; omega
  have hlen':(rows.take off++new.take m++rows.drop (off+m)).length=rows.length:=by simp; omega
  have hover:∀(i:Nat) (r:List PV),(rows.take off++new.take m++rows.drop (off+m))[i]?=some r→(off≤i∧i<off+m∧(new.take m)[i - off]?=some r)∨((i<off∨off+m≤i)∧rows[i]?=some r):=by
   intro i r hir
   have:=tP (off:=off) (new:=new.take m) (rows:=rows) (by rw[htl]; exact hfit) i r (by rw[htl]; exact hir)
   rw[htl]at this
   exact this
  have hnx:=Nx.mG hr (b:=e.ar id) (d:=e.ad id) (c:=e.cap id) ⟨ax,k,.inl (rows.take off++new.take m++rows.drop (off+m))⟩ ho1 hak0
   (fun q _ hq=>setRow_other w _ hq) (by simp) (Fr.setRow (hr.mm id h1 (by rw[v2]; exact hak0)).1 _) (.inr ⟨ho2.symm,rfl,rfl,rfl,hak.symm,by show (rows.take off++new.take m++rows.drop (off+m)).length=_; rw[hlen',hasz]⟩) (.inl rfl) (by show k≠0; omega)
   (by show (rows.take off++new.take m++rows.drop (off+m)).length≤_; rw[hlen',← hasz]; exact g1)
   ⟨_,ty',setRow_heap w _ arr _ ty' (0,0) hbk,by
    show e.ad id+e.cap id*k≤_
    have hz':((arr.toList.take (e.ad id+off*k)++cs++arr.toList.drop (e.ad id+off*k+cs.length)).toArray).size=arr.size:=by
     simp only[List.size_toArray,List.length_append,List.length_take,List.length_drop,hnl,Array.length_toList]; omega
    rw[hz']; omega⟩
   (fun r hr'=>by
    simp only[aL.rows,List.mem_map]at hr'
    obtain⟨q,hq,rfl⟩:=hr'
    obtain⟨i',hi'⟩:=Wd.1 hq
    rcases hover i' q hi' with⟨_,_,h5⟩|⟨_,hi''⟩
    .simpa using (hval _ _ h5).1
    .have:=g3 (q.map .pv) (by rw[hrows]; exact Wk.2 ⟨q,Wa hi'',rfl⟩)
     rw[hak]at this; exact this)
   (fun i' r hi' j x hj=>by
    simp only[aL.rows,List.getElem?_map]at hi'
    show _∧∃v,_=some v∧_
    cases hq:(rows.take off++new.take m++rows.drop (off+m))[i']? with
    |none=>rw[hq,Option.map_none]at hi'; cases hi'
    |some q=>
     rw[hq,Option.map_some]at hi'
     injection hi' with hi'
     subst hi'
     obtain⟨p,hp,rfl⟩:=cZ hj
     rcases hover i' q hq with⟨p1,p2,p3⟩|⟨p1,p2⟩
     .obtain⟨h4,h5⟩:=hval _ _ p3
      obtain⟨h6,u,h7,h8⟩:=h5 j p hp
      have hjk:j<k:=by rw[← h4]; exact(V9.1 hp).1
      refine⟨PV.er h6,u,?_,h8⟩
      have e1:(i' - off)*k+off*k=i'*k:=by rw[← Wm]; congr 1; omega
      have e2:(i' - off+1)*k≤m*k:=Wi _ (by omega)
      rw[Wm,W7]at e2
      rw[hcell,gr (j:=e.ad id+i'*k+j) hfit' (by omega) (by rw[hnl]; omega)]
      rw[show e.ad id+i'*k+j - (e.ad id+off*k)=(i' - off)*k+j by omega]
      exact h7
     .have hrow:a.rows[i']?=some (q.map .pv):=by rw[hrows]; simp[p2]
      obtain⟨h5,v',h6,h7⟩:=g4 i' _ hrow j (.pv p) (by simp[hp])
      have hjk:j<k:=by
       have:=g3 _ (Wa hrow)
       rw[hak]at this
       have h8:=(V9.1 hp).1
       simpa using (by simpa using this:q.length=k) ▸ h8
      refine⟨h5,v',?_,h7⟩
      rw[hak]at h6
      have hout:e.ad id+i'*k+j<e.ad id+off*k∨e.ad id+off*k+cs.length≤e.ad id+i'*k+j:=by
       rw[hnl]
       rcases p1 with p1|p1
       .left
        have:(i'+1)*k≤off*k:=Wi _ (by omega)
        rw[Wm,W7]at this
        omega
       .right
        have:(off+m)*k≤i'*k:=Wi _ p1
        rw[Wm]at this
        omega
      rw[hcell,dn (j:=e.ad id+i'*k+j) hfit' hout]
      exact hold _ _ h6)
   (fun r hr' c hc=>by
    obtain⟨i',hi'⟩:=Wd.1 hr'
    rcases hover i' r hi' with⟨_,_,h5⟩|⟨_,hi''⟩
    .obtain⟨j,hj⟩:=Wd.1 hc
     exact((hval _ _ h5).2 j c hj).1
    .rw[hb]at g5
     exact g5 r (Wa hi'') c hc)
  refine⟨_,_,L,_,hrun,by rw[Tn.cy]; exact hnx,.pv _ _ (by simpa [goInt]using dw.int IntKind.i64 m)⟩
end Go.Pv
