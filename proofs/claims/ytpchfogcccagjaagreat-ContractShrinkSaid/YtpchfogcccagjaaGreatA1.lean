/-
 The interpreter over plain values,and that it is sound.
-/
import GoSem.Core.Code
import GoSem.Core.Lib
import GoSem.Core.Utf8
import GoSem.Op.String
import Derived.Orders
import GoSem.Dispatch
import Derived.Below
import Derived.LoopN
import Derived.Laws.Rows
import Derived.Laws.Cells
import Derived.Laws.CopyRow
import Derived.Laws.StructEq
import Derived.Laws.Slices
import Derived.Laws.Strings
import Derived.Laws.AppendOwn
import Derived.Laws.MakeOwn
open List renaming getElem?_eq_some_iff → Vy, mem_of_getElem? → Vz, getElem?_eq_getElem → VA, length_map → VB, getElem?_append_left → VC, mem_iff_getElem? → VD, getElem?_map → VF, length_take → VH, eq_nil_of_length_eq_zero → VJ, getElem?_append_right → VM, getElem?_take → VN, append_assoc → VO, mem_map → VP, getElem?_set_ne → VX, getElem?_set_self → VY, all_eq_true → V9, getElem?_drop → Wg, ext_getElem? → Wi, mem_append → Wm, getElem_mem → Ww, mem_of_mem_take → WL, getElem?_replicate → WM, mem_of_mem_drop → W8
open Nat renaming lt_or_ge → VG, le_refl → VI, mul_le_mul_right → VL, add_mul → VZ, zero_le → V4, mod_lt → Wa, lt_of_lt_of_le → Wq, le_trans → Wr, eq_zero_or_pos → Wu, one_mul → Wv, add_assoc → Wx, zero_add → WY, div_lt_iff_lt_mul → Xh, mod_eq_of_lt → Xm
open Array renaming getElem?_toList → VU, getElem?_eq_some_iff → VV, length_toList → Xp
open Option renaming map_some → Xb
namespace Go.Pv
inductive PV where
 |bool (b:Bool)
 |int (k:IntKind) (n:Int)
 |str (s:ByteArray)
 |oj
 |rF
 |aa (tag:Nat) (rows:List (List PV))
 |ro (tag:Nat) (cs:List PV)
 |func (f:Nat) (cap:List PV)
 |agg (cs:List PV)
 |fr (k:Nat) (rows:List (List PV))
 deriving Inhabited
inductive V where
 |pv (p:PV)
 |tl (rows:List (List PV))
 |own (id aq off len:Nat)
 |ptr (slot off:Nat)
 |df (id aq row col:Nat)
 |func (f:Nat) (cap:List V)
 |map (id:Nat)
 |ej
 |agg (cs:List V)
 |dH (vs:List V)
 |any
 deriving Inhabited
inductive bM where
 |tmp (t:Nat)
 |val (v:V)
 deriving Inhabited
inductive eb where
 |Ol (x:bM)
 |pick (c a b:bM)
 |alloc (slot:Nat) (zero:List V)
 |box (slot n:Nat) (x:bM)
 |build (zero:List V) (parts:List (Nat×Nat×bM))
 |lit (k:Nat) (zero:List V) (len:Nat) (parts:List (Nat×Nat×bM))
 |load (n:Nat) (isAgg:Bool) (x:bM)
 |store (n:Nat) (x v:bM)
 |wh (x:bM)
 |bin (op:BinOp) (x y:bM)
 |Om (ag:Bool) (ks:List Nat) (neg:Bool) (x y:bM)
 |un (op:UnOp) (x:bM)
 |conv (k:IntKind) (x:bM)
 |wi (x:bM)
 |RD (off:Nat) (x:bM)
 |part (off n:Nat) (isAgg:Bool) (x:bM)
 |idx (k:Nat) (x i:bM)
 |FI (len k:Nat) (x i:bM)
 |SE (len k:Nat) (isAgg:Bool) (x i:bM)
 |RE (x i:bM)
 |sl (k:Nat) (x:bM) (lo hi mx:Option bM)
 |SF (x:bM) (lo hi:Option bM)
 |len (kd:Nat) (x:bM)
 |app (k:Nat) (x y:bM)
 |make (k:Nat) (zero:List V) (n c:bM)
 |gC (id k:Nat) (zero:List V) (n c:bM)
 |lx (id k:Nat) (zero:List V) (len:Nat) (parts:List (Nat×Nat×bM))
 |lz (id k:Nat) (x y:bM)
 |rq
 |look (ag:Bool) (ks:List Nat) (zero:V) (x i:bM) (ok:Bool)
 |FJ (ag:Bool) (ks:List Nat) (m k v:bM)
 |FK (f:Nat) (cap:List bM)
 |ext (x:bM) (i:Nat)
 |call (f:bM) (args:List bM)
 |lh (isMax:Bool) (args:List bM)
 |H4 (k:Nat) (zero:List V) (x:bM)
 |copy (k:Nat) (x y:bM)
 deriving Inhabited
structure aE where
 dst:Option Nat
 op:eb
 guard:Option (Nat×Bool)
 deriving Inhabited
inductive AC where
 |skip
 |region (ops:List aE) (kt kb:List Nat)
 |draw (ops:List (aE×List Nat)) (kt kb:List Nat)
 |rr (n:Nat) (ops:List (aE×List Nat)) (kt kb:List Nat)
 |seq (a b:AC)
 |cond (c:bM) (thn els:AC)
 |block (id:Nat) (body:AC)
 |loop (body:AC)
 |exit (id:Nat)
 |ret
 |mask (kt kb:List Nat) (a:AC)
 deriving Inhabited
inductive oo where
 |tmp (t:Nat)
 |cell (t n:Nat) (isAgg:Bool)
 deriving Inhabited
structure ae where
 pQ:Nat
 body:AC
 results:List oo
 fresh:Bool
 take:Bool
 inl:Bool:=false
 deriving Inhabited
structure aL where
 aq:Nat
 k:Nat
 body:Sum (List (List PV)) (List (List V))
instance:Inhabited aL:=⟨⟨0,0,.inl []⟩⟩
structure af where
 bx:List (Nat×List V)
 ar:List aL
 mp:List (List (PV×PV))
 deriving Inhabited
structure St where
 env:List (Nat×V)
 h:af
 deriving Inhabited
inductive Ex where
 |normal
 |exit (id:Nat)
 |ret
 deriving Inhabited
def af.empty:af:=⟨[],[],[]⟩
def aG {α:Type} (t:Nat):List (Nat×α)→Option α
 |[]=>none
 |(s,x)::r=>if s=t then some x else aG t r
def get (env:List (Nat×V)) (t:Nat):V:=(aG t env).getD .any
def bq (env:List (Nat×V)):bM→V
 |.tmp t=>get env t
 |.val v=>v
def ec (slot:Nat) (cells:List V):List (Nat×List V)→List (Nat×List V)
 |[]=>[(slot,cells)]
 |(s,c)::r=>if s=slot then (slot,cells)::r else (s,c)::ec slot cells r
def aL.rows (a:aL):List (List V):=
 match a.body with
 |.inl l=>l.map (·.map .pv)
 |.inr l=>l
def aL.size (a:aL):Nat:=
 match a.body with
 |.inl l=>l.length
 |.inr l=>l.length
def V.cells:V→List V
 |.agg cs=>cs
 |v=>[v]
def PV.perm:PV→Bool
 |.bool _|.int _ _|.str _|.oj|.rF=>true
 |.aa t _=>t==0
 |.func _ cap=>cap.isEmpty
 |_=>false
def V.bN:V→Option PV
 |.pv p=>if p.perm then some p else none
 |.func f cap=>if cap.isEmpty then some (.func f []) else none
 |_=>none
def dS (s:Nat):Bool:=Nat.ble 100000 s
def outer:Nat:=200000
def V.calm:V→Bool
 |.pv (.ro _ _)|.pv (.agg _)|.pv (.fr _ _)=>false
 |.pv (.func _ cap)=>cap.isEmpty
 |.pv _|.tl _|.own _ _ _ _=>true
 |.func _ cap=>cap.isEmpty
 |_=>false
def V.dT:V→Bool
 |.ptr s _=>dS s
 |.map _|.ej=>true
 |v=>v.calm
def V.sized:V→Bool
 |.any|.dH _|.pv (.agg _)|.pv (.fr _ _)=>false
 |_=>true
def aA {α β:Type} (f:α→Option β):List α→Option (List β)
 |[]=>some []
 |x::r=>match f x,aA f r with
  |some y,some l=>some (y::l)
  |_,_=>none
def iU (rows:List (List V)):Sum (List (List PV)) (List (List V)):=
 match aA (aA V.bN) rows with
 |some l=>.inl l
 |none=>.inr rows
def cn (n:Nat) (zero:List V):Sum (List (List PV)) (List (List V)):=
 match aA V.bN zero with
 |some z=>.inl (List.replicate n z)
 |none=>.inr (List.replicate n zero)
def aR (a b:Sum (List (List PV)) (List (List V))):Sum (List (List PV)) (List (List V)):=
 match a,b with
 |.inl x,.inl y=>.inl (x++y)
 |.inl x,.inr y=>.inr (x.map (·.map .pv)++y)
 |.inr x,.inl y=>.inr (x++y.map (·.map .pv))
 |.inr x,.inr y=>.inr (x++y)
def aI (off len:Nat):Sum (List (List PV)) (List (List V))→Sum (List (List PV)) (List (List V))
 |.inl x=>.inl ((x.drop off).take len)
 |.inr x=>.inr ((x.drop off).take len)
def setBody (r c:Nat) (news:List V):Sum (List (List PV)) (List (List V))→Sum (List (List PV)) (List (List V))
 |.inl x=>match aA V.bN news with
  |some l=>.inl (x.set r ((x.getD r []).take c++l++(x.getD r []).drop (c+news.length)))
  |none=>.inr ((x.map (·.map .pv)).set r (((x.getD r []).map .pv).take c++news++((x.getD r []).map .pv).drop (c+news.length)))
 |.inr x=>.inr (x.set r ((x.getD r []).take c++news++(x.getD r []).drop (c+news.length)))
def aF (h:af) (id aq:Nat):Option aL:=
 match h.ar[id]? with
 |some a=>if a.aq=aq then some a else none
 |none=>none
def bf (h:af):Nat→V→Option PV
 |_,.pv p=>match p with
  |.agg _=>none
  |.fr _ _=>none
  |p=>some p
 |_,.tl rows=>some (.aa 0 rows)
 |0,_=>none
 |d+1,.own id aq off len=>
  match aF h id aq with
  |some a=>match aI off len a.body with
   |.inl rows=>some (.aa 1 rows)
   |.inr rows=>match aA (aA (bf h d)) rows with
    |some l=>some (.aa 2 l)
    |none=>none
  |none=>none
 |d+1,.ptr slot off=>
  match aG slot h.bx with
  |some cs=>match aA (bf h d) (cs.drop off)with
   |some l=>some (.ro 2 l)
   |none=>none
  |none=>none
 |d+1,.func f cap=>match aA (bf h d) cap with
  |some l=>some (.func f l)
  |none=>none
 |_,_=>none
def cM (h:af):V→Option PV
 |.agg cs=>match aA (bf h 4) cs with
  |some l=>some (.agg l)
  |none=>none
 |.pv (.agg cs)=>some (.agg cs)
 |v=>bf h 4 v
def aV (h:af):Nat→V→Option PV
 |_,.pv p=>if p.perm then some p else none
 |_,.tl rows=>some (.aa 0 rows)
 |0,_=>none
 |d+1,.own id aq off len=>
  match aF h id aq with
  |some a=>match aI off len a.body with
   |.inl rows=>some (.aa 0 rows)
   |.inr rows=>match aA (aA (aV h d)) rows with
    |some l=>some (.aa 0 l)
    |none=>none
  |none=>none
 |_,.func f cap=>if cap.isEmpty then some (.func f []) else none
 |_,_=>none
def fb (h:af):V→Option PV
 |.own id aq 0 len=>
  match aF h id aq with
  |some a=>(match a.body with
   |.inl rows=>if a.k=0 then none else some (.fr a.k (rows.take len))
   |.inr _=>none)
  |none=>none
 |.own _ _ _ _=>none
 |v=>aV h 4 v
def bO (h:af) (fresh:Bool):V→Option PV
 |.pv (.ro t cs)=>if fresh=false∧t=0∧cs.all PV.perm=true then some (.ro t cs) else none
 |.ptr slot off=>if fresh then none else match aG slot h.bx with
  |some cs=>(match aA (aV h 4) (cs.drop off)with
   |some l=>some (.ro 0 l)
   |none=>none)
  |none=>none
 |.agg cs=>match aA (if fresh then fb h else aV h 4) cs with
  |some l=>some (.agg l)
  |none=>none
 |v=>if fresh then fb h v else aV h 4 v
def ga:V→Option Nat
 |.own id _ _ _=>some id
 |_=>none
def eo:List V→List Nat
 |[]=>[]
 |v::r=>(v.cells.filterMap ga)++eo r
def distinct:List Nat→Bool
 |[]=>true
 |x::r=>!r.contains x&&distinct r
def cw (h:af):V→Option (PV×Option (Nat×aL))
 |.own id aq 0 len=>
  match aF h id aq with
  |some a=>if a.size=len∧a.k≠0 then (match a.body with
   |.inl rows=>some (.fr a.k rows,some (id,⟨aq+1,0,.inl []⟩))
   |.inr _=>none) else none
  |none=>none
 |.tl []=>some (.aa 0 [],none)
 |_=>none
def V.jB:PV→V
 |.agg cs=>.agg (cs.map .pv)
 |.fr _ rows=>.own 0 0 0 rows.length
 |p=>.pv p
def dw (n:Nat):List PV→List V×List aL
 |[]=>([],[])
 |.fr k rows::r=>let (vs,as):=dw (n+1) r; (.own n 0 0 rows.length::vs,⟨0,k,.inl rows⟩::as)
 |p::r=>let (vs,as):=dw n r; (.pv p::vs,as)
def eU (n:Nat):PV→V×List aL
 |.agg cs=>let (vs,as):=dw n cs; (.agg vs,as)
 |.fr k rows=>(.own n 0 0 rows.length,[⟨0,k,.inl rows⟩])
 |p=>(.pv p,[])
def bF (n:Nat):List PV→List V×List aL
 |[]=>([],[])
 |p::r=>let (v,as):=eU n p; let (vs,bs):=bF (n+as.length) r; (v::vs,as++bs)
def eP:List V→V
 |[v]=>v
 |vs=>.dH vs
structure Tn where
 bx:Option (Nat×List V):=none
 new:Bool:=false
 ar:Option (Nat×aL):=none
 push:List aL:=[]
 mp:Option (Nat×List (PV×PV)):=none
 pR:Bool:=false
 rb:Option Nat:=none
 ra:Option Nat:=none
 rm:Option Nat:=none
 eX:Bool:=false
 nD:Option Nat:=none
 base:Nat:=0
 all:Option (List (Nat×List V)×List aL×List (List (PV×PV))):=none
 deriving Inhabited
def fe:List (Nat×List V)→List (Nat×List V)→List (Nat×List V)
 |[],bx=>bx
 |(s,cs)::r,bx=>fe r (ec s cs bx)
def Tn.apply (t:Tn) (h:af):af:=
  match t.all with
  |some (bs,ar,mp)=>⟨fe bs h.bx,ar,mp⟩
  |none=>
  { bx:=match t.bx with|some (s,cs)=>ec s cs h.bx|none=>h.bx
    ar:=(match t.ar with|some (i,a)=>h.ar.set i a|none=>h.ar)++t.push
    mp:=(match t.mp with|some (i,m)=>h.mp.set i m|none=>h.mp)++(if t.pR then [[]] else []) }
def jZ {α:Type} (o:Option α) (p:Option α) (eq:α→α→Bool):Bool:=
 match o,p with
 |some a,some b=>!eq a b
 |_,_=>true
def Tn.gG (a:Tn) (n:Nat):Bool:=a.ar.all (·.1<n)&&a.ra.all (·<n)&&a.nD.all (·<n)
def Tn.oq (a b:Tn):Bool:=
 jZ (a.bx.map (·.1)) (b.bx.map (·.1)) (·==·)&&jZ (a.bx.map (·.1)) b.rb (·==·)&&
 jZ (a.ar.map (·.1)) (b.ar.map (·.1)) (·==·)&&jZ (a.ar.map (·.1)) b.ra (·==·)&&jZ (a.ar.map (·.1)) b.nD (·==·)&&
 (a.push.isEmpty||(b.push.isEmpty&&b.gG a.base))&&a.mp.isNone&&!a.pR&&(a.all.isNone&&b.all.isNone)
def Tn.off (a b:Tn):Bool:=a.oq b&&(!b.eX||(a.bx.isNone&&a.ar.isNone&&a.push.isEmpty))
def Tn.zQ (a b:Tn):Bool:=a.oq b&&(!b.eX||((a.bx.isNone||a.new)&&a.ar.isNone))
def Tn.apart (a b:Tn):Bool:=a.off b&&b.zQ a
def setAt {α:Type} (l:List α) (off:Nat) (news:List α):List α:=l.take off++news++l.drop (off+news.length)
def eM (g:bM→V):List V→List (Nat×Nat×bM)→Option (List V)
 |cells,[]=>some cells
 |cells,(off,n,x)::r=>
  if (g x).sized=true∧(g x).cells.length=n∧off+n≤cells.length then eM g (setAt cells off (g x).cells) r else none
def ey (isAgg:Bool):List V→Option V
 |cs=>if isAgg then some (.agg cs) else match cs with
  |[v]=>some v
  |_=>none
def takeN {α:Type} (off n:Nat) (l:List α):Option (List α):=if off+n≤l.length then some ((l.drop off).take n) else none
def fX {α:Type} (k:Nat):Nat→List α→List (List α)
 |0,_=>[]
 |n+1,l=>l.take k::fX k n (l.drop k)
def PV.eqs:Nat→PV→PV→Option Bool
 |0,.bool a,.bool b=>some (a==b)
 |1,.int j a,.int k b=>if j=k then some (a==b) else none
 |2,.str a,.str b=>some (a.toList==b.toList)
 |_,_,_=>none
def bk:List Nat→List PV→List PV→Option Bool
 |[],[],[]=>some true
 |k::ks,a::x,b::y=>match PV.eqs k a b,bk ks x y with
  |some p,some q=>some (p&&q)
  |_,_=>none
 |_,_,_=>none
def wo:V→Option PV
 |.pv p=>some p
 |_=>none
def intOf:V→Option Int
 |.pv (.int _ n)=>some n
 |_=>none
def ff (op:BinOp) (k:IntKind) (x y:Int):Option PV:=
 match op with
 |.add=>some (.int k (k.wrap (x+y)))
 |.sub=>some (.int k (k.wrap (x - y)))
 |.mul=>some (.int k (k.wrap (x*y)))
 |.quo=>if y=0 then none else some (.int k (k.wrap (x.tdiv y)))
 |.rem=>if y=0 then none else some (.int k (x.tmod y))
 |.and=>some (.int k (k.wrap (BitVec.ofInt k.bits x&&& BitVec.ofInt k.bits y).toNat))
 |.or=>some (.int k (k.wrap (BitVec.ofInt k.bits x|||BitVec.ofInt k.bits y).toNat))
 |.xor=>some (.int k (k.wrap (BitVec.ofInt k.bits x^^^BitVec.ofInt k.bits y).toNat))
 |.andNot=>some (.int k (k.wrap (BitVec.ofInt k.bits x&&& ~~~(BitVec.ofInt k.bits y)).toNat))
 |.eql=>some (.bool (x==y))
 |.neq=>some (.bool (x != y))
 |.lss=>some (.bool (decide (x<y)))
 |.leq=>some (.bool (decide (x≤y)))
 |.gtr=>some (.bool (decide (x>y)))
 |.geq=>some (.bool (decide (x≥y)))
 |_=>none
def rZ (op:BinOp) (k:IntKind) (x y:Int):Option PV:=
 if y<0 then none else
 match op with
 |.shl=>some (.int k (k.wrap (x*2^(min y.toNat k.bits))))
 |.shr=>some (.int k (x.fdiv (2^(min y.toNat k.bits))))
 |_=>none
def lE (op:BinOp) (a b:ByteArray):Option PV:=
 match op with
 |.eql=>some (.bool (a.toList==b.toList))
 |.neq=>some (.bool !(a.toList==b.toList))
 |.add=>if a.size+b.size≤1099511627776 then some (.str (a++b)) else none
 |.lss=>some (.bool (Go.Op.bytesLess a.toList b.toList))
 |.gtr=>some (.bool !(Go.Op.bytesLess a.toList b.toList||a.toList==b.toList))
 |_=>none
def cN (op:BinOp):V→V→Option V
 |.pv (.int j a),.pv (.int k b)=>
  if op=.shl∨op=.shr then (rZ op j a b).map .pv
  else if j=k then (ff op j a b).map .pv else none
 |.pv (.str a),.pv (.str b)=>(lE op a b).map .pv
 |_,_=>none
def Mn:UnOp→V→Option V
 |.neg,.pv (.int k n)=>some (.pv (.int k (k.wrap (0 - n))))
 |.not,.pv (.bool b)=>some (.pv (.bool !b))
 |_,_=>none
def cF (i:Option Int) (n:Nat):Option Nat:=
 match i with
 |some x=>if 0≤x∧x<n then some x.toNat else none
 |none=>none
def bound (g:bM→V) (o:Option bM) (il top:Nat):Option Nat:=
 match o with
 |none=>some il
 |some x=>match intOf (g x)with
  |some i=>if 0≤i∧i≤top then some i.toNat else none
  |none=>none
def aT:Nat:=2147483648
def bD (ag:Bool):V→Option (List PV)
 |.agg cs=>if ag then aA wo cs else none
 |.pv p=>if ag then none else some [p]
 |_=>none
def keyOf (ag:Bool) (x:V):Option PV:=
 match bD ag x with
 |some l=>if ag then some (.agg l) else l.head?
 |none=>none
def j0 (ag:Bool) (ks:List Nat):PV→PV→Option Bool
 |.agg a,.agg b=>if ag then bk ks a b else none
 |a,b=>if ag then none else bk ks [a] [b]
def findKey (ag:Bool) (ks:List Nat) (k:PV):List (PV×PV)→Nat→Option (Option (Nat×PV))
 |[],_=>if (j0 ag ks k k).isSome then some none else none
 |(q,v)::r,i=>match j0 ag ks k q with
  |some true=>some (some (i,v))
  |some false=>findKey ag ks k r (i+1)
  |none=>none
def loadAt (h:af) (n:Nat):V→Option (List V×Tn)
 |.pv (.ro _ cs)=>match takeN 0 n cs with
  |some l=>some (l.map .pv,{})
  |none=>none
 |.ptr slot off=>match aG slot h.bx with
  |some cs=>match takeN off n cs with
   |some l=>some (l,{ rb:=some slot })
   |none=>none
  |none=>none
 |.df id aq row col=>match aF h id aq with
  |some a=>match a.body with
   |.inl x=>match x[row]? with
    |some r=>match takeN col n r with
     |some l=>some (l.map .pv,{ ra:=some id })
     |none=>none
    |none=>none
   |.inr x=>match x[row]? with
    |some r=>match takeN col n r with
     |some l=>some (l,{ ra:=some id })
     |none=>none
    |none=>none
  |none=>none
 |_=>none
def storeAt (h:af) (x:V) (news:List V):Option Tn:=
 match x with
 |.ptr slot off=>match aG slot h.bx with
  |some cs=>if off+news.length≤cs.length∧news.all V.dT then some { bx:=some (slot,setAt cs off news) } else none
  |none=>none
 |.df id aq row col=>match aF h id aq with
  |some a=>if row<a.size∧col+news.length≤a.k∧news.all V.calm then some { ar:=some (id,{ a with body:=setBody row col news a.body }) } else none
  |none=>none
 |_=>none
def bg (h:af):V→Option (Sum (List (List PV)) (List (List V))×Option Nat)
 |.pv (.aa t rows)=>if t≤1 then some (.inl rows,none) else some (.inr (rows.map (·.map .pv)),none)
 |.tl rows=>some (.inl rows,none)
 |.own id aq off len=>match aF h id aq with
  |some a=>some (aI off len a.body,some id)
  |none=>none
 |_=>none
def aB:Sum (List (List PV)) (List (List V))→Nat
 |.inl x=>x.length
 |.inr x=>x.length
def aP (k:Nat):Sum (List (List PV)) (List (List V))→Bool
 |.inl x=>x.all (·.length==k)
 |.inr x=>x.all (·.length==k)
def aJ (h:af) (k:Nat) (x y:V):Option (V×Tn):=
 match bg h y with
 |none=>none
 |some (new,rd)=>
  if aP k new then
   match x with
   |.tl rows=>
    if aB new=0 then some (.tl rows,{ ra:=rd })
    else if rows.length+aB new≤aT∧aP k (.inl rows) then
     some (.own h.ar.length 0 0 (rows.length+aB new),{ push:=[⟨0,k,aR (.inl rows) new⟩],ra:=rd,base:=h.ar.length })
    else none
   |.own id aq off len=>
    match aF h id aq with
    |some a=>
     if aB new=0 then some (.own id aq off len,{ ra:=rd,nD:=some id })
     else if off+len≤a.size∧a.k=k∧len+aB new≤aT∧rd≠some id then
      some (.own id (aq+1) 0 (len+aB new),{ ar:=some (id,⟨aq+1,k,aR (aI off len a.body) new⟩),ra:=rd })
     else none
    |none=>none
   |_=>none
  else none
def fI (h:af) (id k:Nat) (x y:V):Option (V×Tn):=
 match x with
 |.tl rows=>match bg h y with
  |none=>none
  |some (new,rd)=>
   if aP k new then
    if aB new=0 then some (.tl rows,{ ra:=rd })
    else match h.ar[id]? with
     |some gG=>if rows.length+aB new≤aT∧aP k (.inl rows)∧gG.k=0 then
       some (.own id (gG.aq+1) 0 (rows.length+aB new),{ ar:=some (id,⟨gG.aq+1,k,aR (.inl rows) new⟩),ra:=rd })
      else none
     |none=>none
   else none
 |x=>aJ h k x y
def copyV (h:af) (k:Nat) (x y:V):Option (V×Tn):=
 match bg h y with
 |some (.inl new,rd)=>
  if aP k (.inl new) then
   match x with
   |.own id aq off len=>
    if min new.length len=0 then some (.pv (.int .i64 0),{ ra:=rd })
    else match aF h id aq with
     |some a=>match a.body with
      |.inl rows=>if a.k=k∧off+len≤rows.length then
        some (.pv (.int .i64 (min new.length len:Nat)),{ ar:=some (id,⟨aq,k,.inl (rows.take off++new.take (min new.length len)++rows.drop (off+min new.length len))⟩),ra:=rd }) else none
      |.inr _=>none
     |none=>none
   |_=>none
  else none
 |_=>none
def bounds (g:bM→V) (lo hi mx:Option bM) (len:Nat):Option (Nat×Nat×Option Nat):=
 match bound g hi len len with
 |some b=>match bound g lo 0 b with
  |some a=>match mx with
   |none=>some (a,b,none)
   |some _=>match bound g mx 0 len with
    |some c=>if b≤c then some (a,b,some c) else none
    |none=>none
  |none=>none
 |none=>none
def cZ (g:bM→V) (h:af) (k:Nat) (x:V) (lo hi mx:Option bM):Option (V×Tn):=
 match x with
 |.pv (.aa t rows)=>
  if aP k (.inl rows) then
   match bounds g lo hi mx rows.length with
   |some (a,b,none)=>some (.pv (.aa t ((rows.take b).drop a)),{})
   |some (a,b,some c)=>if c=b∧a=b then some (.tl [],{}) else none
   |none=>none
  else none
 |.tl rows=>
  if aP k (.inl rows) then
   match bounds g lo hi mx rows.length with
   |some (a,b,none)=>if b=rows.length then some (.tl ((rows.take b).drop a),{}) else some (.pv (.aa 0 ((rows.take b).drop a)),{})
   |some (a,b,some c)=>if c=b then some (.tl ((rows.take b).drop a),{}) else none
   |none=>none
  else none
 |.own id aq off len=>
  match aF h id aq with
  |some ar=>if ar.k=k then
    (match bounds g lo hi mx len with
    |some (a,b,none)=>some (.own id aq (off+a) (b - a),{ ra:=some id })
    |some (a,b,some c)=>if c=b∧a=b then some (.tl [],{ ra:=some id }) else none
    |none=>none) else none
  |none=>none
 |_=>none
def wq (g:bM→V) (x:V) (lo hi:Option bM):Option V:=
 match x with
 |.pv (.str s)=>
  match bound g hi s.size s.size with
  |some b=>match bound g lo 0 b with
   |some a=>some (.pv (.str (s.extract a b)))
   |none=>none
  |none=>none
 |_=>none
def jz (k t:Nat) (rows:List (List PV)) (i:Option Int):Option V:=
 match cF i rows.length with
 |some j=>match rows[j]? with
  |some r=>if r.length=k then some (.pv (.ro t r)) else none
  |none=>none
 |none=>none
def pS (h:af) (k:Nat) (x:V) (i:Option Int):Option (V×Tn):=
 match x with
 |.pv (.aa t rows)=>(jz k t rows i).map fun v=>(v,{})
 |.tl rows=>(jz k 0 rows i).map fun v=>(v,{})
 |.own id aq off len=>match cF i len,aF h id aq with
  |some j,some a=>if a.k=k then some (.df id aq (off+j) 0,{ ra:=some id }) else none
  |_,_=>none
 |_=>none
def r6 (off:Nat):V→Option V
 |.pv (.ro t cs)=>some (.pv (.ro t (cs.drop off)))
 |.ptr slot o=>some (.ptr slot (o+off))
 |.df id aq row col=>some (.df id aq row (col+off))
 |_=>none
def fY (h:af):Nat→V→Option (Nat×Tn)
 |0,.pv (.aa _ rows)=>some (rows.length,{})
 |0,.tl rows=>some (rows.length,{})
 |0,.own _ _ _ len=>some (len,{})
 |1,.pv (.str s)=>some (s.size,{})
 |2,.map id=>match h.mp[id]? with
  |some m=>some (m.length,{ rm:=some id })
  |none=>none
 |2,.ej=>some (0,{})
 |_,_=>none
def funcOf:V→Option (Nat×List V)
 |.func f cap=>some (f,cap)
 |.pv (.func f cap)=>some (f,cap.map .pv)
 |_=>none
def V.jO:V→Bool
 |.pv _=>true
 |.tl _=>true
 |.func _ cap=>cap.isEmpty
 |.agg cs=>cs.all fun|.pv _=>true|.tl _=>true|_=>false
 |_=>false
def iw (isMax:Bool):Int→List V→Option Int
 |a,[]=>some a
 |a,.pv (.int _ b)::r=>iw isMax (if isMax then (if b>a then b else a) else (if b<a then b else a)) r
 |_,_::_=>none
abbrev br:=Nat→Option (List V→af→Option (V×Tn))
def cA (h:af) (tk:Bool) (vs:List V):Option (List PV×Option (Nat×aL)):=
 if tk then match vs with
  |v::r=>match cw h v with
   |some (p,none)=>match aA (cM h) r with
    |some l=>some (p::l,none)
    |none=>none
   |some (p,some (i,a))=>match aA (cM { h with ar:=h.ar.set i a }) r with
    |some l=>some (p::l,some (i,a))
    |none=>none
   |none=>none
  |[]=>none
 else match aA (cM h) vs with
  |some l=>some (l,none)
  |none=>none
def evalOp (Φ:Nat→List PV→Option (List PV)) (Pr:br) (Tk:Nat→Bool) (g:bM→V) (h:af):eb→Option (V×Tn)
 |.Ol x=>some (g x,{})
 |.pick c a b=>match g c with
  |.pv (.bool true)=>some (g a,{})
  |.pv (.bool false)=>some (g b,{})
  |_=>none
 |.alloc slot zero=>match aG slot h.bx with
  |none=>some (.ptr slot 0,{ bx:=some (slot,zero),new:=true })
  |some _=>none
 |.box slot n x=>match aG slot h.bx with
  |none=>if (g x).cells.length=n∧(g x).cells.all V.dT then some (.ptr slot 0,{ bx:=some (slot,(g x).cells),new:=true }) else none
  |some _=>none
 |.build zero parts=>match eM g zero parts with
  |some cs=>some (.agg cs,{})
  |none=>none
 |.lit k zero len parts=>match eM g ((List.range (len*k)).map fun i=>zero.getD (i%k) .any) parts with
  |some cs=>match iU (fX k len cs)with
   |.inl rows=>some (.tl rows,{})
   |.inr rows=>if cs.all V.calm then some (.own h.ar.length 0 0 len,{ push:=[⟨0,k,.inr rows⟩],base:=h.ar.length }) else none
  |none=>none
 |.load n isAgg x=>match loadAt h n (g x)with
  |some (cs,t)=>match ey isAgg cs with
   |some v=>some (v,t)
   |none=>none
  |none=>none
 |.store n x v=>if (g v).cells.length=n then (match storeAt h (g x) (g v).cells with
   |some t=>some (.any,t)
   |none=>none) else none
 |.wh x=>match g x with
  |.func f cap=>some (.func f cap,{})
  |.pv (.func f cap)=>some (.pv (.func f cap),{})
  |.ptr s o=>some (.ptr s o,{})
  |.pv (.ro t cs)=>some (.pv (.ro t cs),{})
  |.df i v r c=>some (.df i v r c,{})
  |_=>none
 |.bin op x y=>(cN op (g x) (g y)).map fun v=>(v,{})
 |.Om ag ks neg x y=>match bD ag (g x),bD ag (g y)with
  |some a,some b=>match bk ks a b with
   |some r=>some (.pv (.bool (if neg then !r else r)),{})
   |none=>none
  |_,_=>none
 |.un op x=>(Mn op (g x)).map fun v=>(v,{})
 |.conv k x=>match g x with
  |.pv (.int _ n)=>some (.pv (.int k (k.wrap n)),{})
  |_=>none
 |.wi x=>match g x with
  |.pv (.str s)=>some (.pv (.str s),{})
  |.pv (.int _ n)=>some (.pv (.str (Utf8.encode n)),{})
  |_=>none
 |.RD off x=>(r6 off (g x)).map fun v=>(v,{})
 |.part off n isAgg x=>match g x with
  |.agg cs=>match takeN off n cs with
   |some l=>(ey isAgg l).map fun v=>(v,{})
   |none=>none
  |_=>none
 |.idx k x i=>pS h k (g x) (intOf (g i))
 |.FI len k x i=>match cF (intOf (g i)) len with
  |some j=>(r6 (j*k) (g x)).map fun v=>(v,{})
  |none=>none
 |.SE len k isAgg x i=>match cF (intOf (g i)) len with
  |some j=>match g x with
   |.agg cs=>match takeN (j*k) k cs with
    |some l=>(ey isAgg l).map fun v=>(v,{})
    |none=>none
   |_=>none
  |none=>none
 |.RE x i=>match g x with
  |.pv (.str s)=>match cF (intOf (g i)) s.size with
   |some j=>match s[j]? with
    |some b=>some (.pv (.int .u8 b.toNat),{})
    |none=>none
   |none=>none
  |_=>none
 |.sl k x lo hi mx=>cZ g h k (g x) lo hi mx
 |.SF x lo hi=>(wq g (g x) lo hi).map fun v=>(v,{})
 |.len kd x=>match fY h kd (g x)with
  |some (n,t)=>some (.pv (.int .i64 n),t)
  |none=>none
 |.app k x y=>aJ h k (g x) (g y)
 |.make k zero n c=>match intOf (g n),intOf (g c)with
  |some a,some b=>
   if 0≤a∧a≤b∧b≤aT then some (.own h.ar.length 0 0 a.toNat,{ push:=[⟨0,k,cn a.toNat zero⟩],base:=h.ar.length }) else none
  |_,_=>none
 |.gC id k zero n c=>match intOf (g n),intOf (g c),h.ar[id]? with
  |some a,some b,some gG=>
   if 0≤a∧a≤b∧b≤aT∧gG.k=0 then some (.own id (gG.aq+1) 0 a.toNat,{ ar:=some (id,⟨gG.aq+1,k,cn a.toNat zero⟩) }) else none
  |_,_,_=>none
 |.lx id k zero len parts=>match eM g ((List.range (len*k)).map fun i=>zero.getD (i%k) .any) parts with
  |some cs=>match h.ar[id]? with
   |some gG=>if cs.all V.calm∧gG.k=0 then some (.own id (gG.aq+1) 0 len,{ ar:=some (id,⟨gG.aq+1,k,iU (fX k len cs)⟩) }) else none
   |none=>none
  |none=>none
 |.lz id k x y=>fI h id k (g x) (g y)
 |.rq=>some (.map h.mp.length,{ pR:=true })
 |.look ag ks zero x i ok=>match keyOf ag (g i)with
  |none=>none
  |some k=>
   match (match g x with
    |.ej=>some []
    |.map id=>h.mp[id]?
    |_=>none)with
   |none=>none
   |some m=>match findKey ag ks k m 0 with
    |none=>none
    |some r=>
     let v:V:=match r with
      |some (_,p)=>.pv p
      |none=>zero
     some (if ok then .dH [v,.pv (.bool r.isSome)] else v,match g x with|.map id=>{ rm:=some id }|_=>{})
 |.FJ ag ks m k v=>match g m,keyOf ag (g k),(g v).bN with
  |.map id,some q,some p=>match h.mp[id]? with
   |some l=>match findKey ag ks q l 0 with
    |some (some (i,_))=>some (.any,{ mp:=some (id,l.set i (q,p)) })
    |some none=>some (.any,{ mp:=some (id,l++[(q,p)]) })
    |none=>none
   |none=>none
  |_,_,_=>none
 |.FK f cap=>some (.func f (cap.map g),{})
 |.ext x i=>match g x with
  |.dH vs=>match vs[i]? with
   |some v=>some (v,{})
   |none=>none
  |_=>none
 |.call f args=>match funcOf (g f)with
  |none=>none
  |some (fn,cap)=>
   let vs:=args.map g++cap
   match Pr fn with
   |some pr=>pr vs h
   |none=>match cA h (Tk fn) vs with
    |none=>none
    |some (ps,a)=>match Φ fn ps with
     |none=>none
     |some rs=>
      let (ws,as):=bF h.ar.length rs
      some (eP ws,{ ar:=a,push:=as,eX:=!(vs.all V.jO),base:=if as.isEmpty then 0 else h.ar.length })
 |.lh isMax args=>match args.map g with
  |.pv (.int k a)::r=>match iw isMax a r with
   |some n=>some (.pv (.int k n),{})
   |none=>none
  |_=>none
 |.H4 k zero x=>match g x with
  |.pv (.aa _ [])=>some (.dH [],{})
  |.tl []=>some (.dH [],{})
  |.own id aq off len=>match aF h id aq,aA V.bN zero with
   |some a,some z=>match a.body with
    |.inl rows=>if a.k=k∧off+len≤rows.length then
      some (.dH [],{ ar:=some (id,⟨aq,k,.inl (rows.take off++List.replicate len z++rows.drop (off+len))⟩) }) else none
    |.inr _=>none
   |_,_=>none
  |_=>none
 |.copy k x y=>copyV h k (g x) (g y)
def bM.reads:bM→List Nat
 |.tmp t=>[t]
 |.val _=>[]
def kx:Option bM→List Nat
 |some x=>x.reads
 |none=>[]
def eb.reads:eb→List Nat
 |.Ol x|.box _ _ x|.load _ _ x|.wh x|.un _ x|.conv _ x|.wi x|.RD _ x|.part _ _ _ x|.len _ x|.ext x _|.H4 _ _ x=>x.reads
 |.pick c a b=>c.reads++a.reads++b.reads
 |.alloc _ _|.rq=>[]
 |.build _ parts=>parts.flatMap fun p=>p.2.2.reads
 |.lit _ _ _ parts|.lx _ _ _ _ parts=>parts.flatMap fun p=>p.2.2.reads
 |.store _ x y|.bin _ x y|.Om _ _ _ x y|.idx _ x y|.FI _ _ x y|.SE _ _ _ x y|.RE x y|.app _ x y|.copy _ x y|.make _ _ x y|.gC _ _ _ x y|.lz _ _ x y|.look _ _ _ x y _=>x.reads++y.reads
 |.sl _ x lo hi mx=>x.reads++kx lo++kx hi++kx mx
 |.SF x lo hi=>x.reads++kx lo++kx hi
 |.FJ _ _ m k v=>m.reads++k.reads++v.reads
 |.FK _ cap=>cap.flatMap bM.reads
 |.call f args=>f.reads++args.flatMap bM.reads
 |.lh _ args=>args.flatMap bM.reads
def aE.reads (o:aE):List Nat:=(match o.guard with|some (t,_)=>[t]|none=>[])++o.op.reads
def aE.apart (x y:aE):Bool:=
  (match x.dst with
   |some d=>!y.reads.contains d&&y.dst != some d
   |none=>true)&&
  (match y.dst with
   |some d=>!x.reads.contains d
   |none=>true)
def wanted (env:List (Nat×V)):Option (Nat×Bool)→Option Bool
 |none=>some true
 |some (t,b)=>match get env t with
  |.pv (.bool c)=>some (c==b)
  |.dH _=>some false
  |_=>none
def put (env:List (Nat×V)) (d:Option Nat) (v:V):List (Nat×V):=
 match d with
 |some t=>(t,v)::env
 |none=>env
def bz (Φ:Nat→List PV→Option (List PV)) (Pr:br) (Tk:Nat→Bool) (o:aE) (s:St):Option (St×Tn):=
 match wanted s.env o.guard with
 |none=>none
 |some false=>some (⟨put s.env o.dst (.dH []),s.h⟩,{})
 |some true=>match evalOp Φ Pr Tk (bq s.env) s.h o.op with
  |some (v,t)=>some (⟨put s.env o.dst v,t.apply s.h⟩,t)
  |none=>none
def dV (Φ:Nat→List PV→Option (List PV)) (Pr:br) (Tk:Nat→Bool):List aE→St→Option St
 |[],s=>some s
 |o::r,s=>match bz Φ Pr Tk o s with
  |some (s',_)=>dV Φ Pr Tk r s'
  |none=>none
def ez (un:List Nat) (t:Tn) (done:List Tn):Bool:=
 un.all fun j=>match done[j]? with
  |some u=>u.apart t
  |none=>false
def cG (Φ:Nat→List PV→Option (List PV)) (Pr:br) (Tk:Nat→Bool):List (aE×List Nat)→List Tn→St→Option St
 |[],_,s=>some s
 |(o,un)::r,done,s=>match bz Φ Pr Tk o s with
  |some (s',t)=>if ez un t done then cG Φ Pr Tk r (done++[t]) s' else none
  |none=>none
def r7 (kb:List Nat):V→Bool
 |.ptr s _=>kb.contains s||dS s
 |.func _ cap=>cap.isEmpty
 |.agg _|.dH _=>false
 |_=>true
def dO (kb:List Nat):V→V
 |.ptr s o=>if kb.contains s||dS s then .ptr s o else .any
 |.func f cap=>if cap.all (r7 kb) then .func f cap else .any
 |.agg cs=>if cs.all (r7 kb) then .agg cs else .any
 |.dH _=>.any
 |v=>v
def ix (kt kb:List Nat) (env:List (Nat×V)):List (Nat×V):=kt.map fun t=>(t,dO kb (get env t))
def pins:List (Nat×List V)→List (Nat×List V)
 |[]=>[]
 |(s,cs)::r=>if dS s=true then (s,cs)::pins r else pins r
def hM (kb:List Nat) (bx:List (Nat×List V)):List (Nat×List V):=
 match kb with
 |[]=>pins bx
 |s::r=>match aG s bx with
  |some cs=>(s,cs)::hM r bx
  |none=>hM r bx
def St.mask (kt kb:List Nat) (s:St):St:=⟨ix kt kb s.env,{ s.h with bx:=hM kb s.h.bx }⟩
def entry:Nat→List PV→List (Nat×V)
 |_,[]=>[]
 |n,p::r=>(n,V.jB p)::entry (n+1) r
def cK:List PV→af
 |.fr k rows::_=>⟨[],[⟨0,k,.inl rows⟩],[]⟩
 |_=>af.empty
def pT:Bool→List PV→Bool
 |_,[]=>true
 |tk,.fr _ _::r=>tk&&pT false r
 |_,_::r=>pT false r
def c9 (s:St):oo→Option V
 |.tmp t=>some (get s.env t)
 |.cell t n isAgg=>match loadAt s.h n (get s.env t)with
  |some (cs,_)=>ey isAgg cs
  |none=>none
def leave (fn:ae) (s:St):Option (List PV):=
 match aA (c9 s) fn.results with
 |some vs=>if !fn.fresh||distinct (eo vs) then aA (bO s.h fn.fresh) vs else none
 |none=>none
def Bq (E:AC→St→Option (Ex×St)) (fn:ae) (args:List PV):Option (List PV):=
 if args.length=fn.pQ∧pT fn.take args=true then
  match E fn.body ⟨entry 0 args,cK args⟩ with
  |some (.normal,s)=>leave fn s
  |some (.ret,s)=>leave fn s
  |_=>none
 else none
def da (A:Nat→Option ae) (E:AC→St→Option (Ex×St)) (f:Nat) (args:List PV):Option (List PV):=
 match A f with
 |some fn=>Bq E fn args
 |none=>none
def dP (A:Nat→Option ae) (f:Nat):Bool:=
 match A f with
 |some fn=>fn.take
 |none=>false
def wt:V→Option Nat
 |.ptr s _=>some s
 |_=>none
def slotsOf:V→List Nat
 |.ptr s _=>[s]
 |.func _ cap=>cap.filterMap wt
 |.agg cs=>cs.filterMap wt
 |_=>[]
def ch (l:List Nat):List Nat→List Nat
 |[]=>l
 |s::r=>if l.contains s then ch l r else ch (l++[s]) r
def rG (bx:List (Nat×List V)) (s:Nat):List Nat:=
 match aG s bx with
 |some cs=>cs.filterMap wt
 |none=>[]
def dK (bx:List (Nat×List V)):Nat→List Nat→List Nat
 |0,l=>l
 |n+1,l=>dK bx n (ch l (l.flatMap (rG bx)))
def fG (f:Nat→Option Nat):V→Option V
 |.ptr s o=>match f s with
  |some t=>some (.ptr t o)
  |none=>none
 |.func k cap=>if cap.isEmpty then some (.func k cap) else none
 |.agg _|.dH _=>none
 |v=>some v
def lF (f:Nat→Option Nat):V→Option V
 |.func k cap=>match aA (fG f) cap with
  |some l=>some (.func k l)
  |none=>none
 |.agg cs=>match aA (fG f) cs with
  |some l=>some (.agg l)
  |none=>none
 |v=>fG f v
def pU (ss:List Nat) (s:Nat):Option Nat:=(ss.findIdx? (·==s)).map (outer+·)
def gb (ss:List Nat) (s:Nat):Option Nat:=if outer≤s then ss[s - outer]? else none
def r8 (f:Nat→Option Nat) (bx:List (Nat×List V)):Nat→List Nat→Option (List (Nat×List V))
 |_,[]=>some []
 |n,s::r=>match aG s bx with
  |some cs=>match aA (fG f) cs,r8 f bx (n+1) r with
   |some l,some b=>some ((n,l)::b)
   |_,_=>none
  |none=>none
def lG (f:Nat→Option Nat) (bx:List (Nat×List V)):Nat→List Nat→Option (List (Nat×List V))
 |_,[]=>some []
 |n,s::r=>match aG n bx with
  |some cs=>match aA (fG f) cs,lG f bx (n+1) r with
   |some l,some b=>if l.all V.dT then some ((s,l)::b) else none
   |_,_=>none
  |none=>none
def lH:Nat→List V→List (Nat×V)
 |_,[]=>[]
 |n,v::r=>(n,v)::lH (n+1) r
def nI (fn:ae) (ss:List Nat) (s:St):Option (V×Tn):=
 match aA (c9 s) fn.results with
 |some rs=>match aA (lF (gb ss)) rs,lG (gb ss) s.h.bx outer ss with
  |some ws,some bs=>some (eP ws,{ all:=some (bs,s.h.ar,s.h.mp) })
  |_,_=>none
 |none=>none
def fJ (E:AC→St→Option (Ex×St)) (fn:ae) (vs:List V) (h:af):Option (V×Tn):=
 if vs.length=fn.pQ then
  match aA (lF (pU (dK h.bx 2 (ch [] (vs.flatMap slotsOf))))) vs,r8 (pU (dK h.bx 2 (ch [] (vs.flatMap slotsOf)))) h.bx outer (dK h.bx 2 (ch [] (vs.flatMap slotsOf)))with
  |some us,some bx=>match E fn.body ⟨lH 0 us,⟨bx,h.ar,h.mp⟩⟩ with
   |some (.normal,s)=>nI fn (dK h.bx 2 (ch [] (vs.flatMap slotsOf))) s
   |some (.ret,s)=>nI fn (dK h.bx 2 (ch [] (vs.flatMap slotsOf))) s
   |_=>none
  |_,_=>none
 else none
def bI (A:Nat→Option ae) (E:AC→St→Option (Ex×St)) (Pr:br):br:=fun f=>
 match A f with
 |some fn=>if fn.inl=true then some (fJ E fn) else Pr f
 |none=>Pr f
def uy (b:Nat):eb→eb
 |.gC i k z n c=>.gC (b+i) k z n c
 |.lx i k z n ps=>.lx (b+i) k z n ps
 |.lz i k x y=>.lz (b+i) k x y
 |q=>q
def lI (b:Nat) (l:List (aE×List Nat)):List (aE×List Nat):=l.map fun x=>(⟨x.1.dst,uy b x.1.op,x.1.guard⟩,x.2)
def af.room (h:af) (n:Nat):af:={ h with ar:=h.ar++List.replicate n ⟨0,0,.inl []⟩ }
def bZ (A:Nat→Option ae) (Pr:br) (E:AC→St→Option (Ex×St)):AC→St→Option (Ex×St)
 |.skip,s=>some (.normal,s)
 |.region ops kt kb,s=>match dV (da A E) (bI A E Pr) (dP A) ops s with
  |some s'=>some (.normal,s'.mask kt kb)
  |none=>none
 |.draw ops kt kb,s=>match cG (da A E) (bI A E Pr) (dP A) ops [] s with
  |some s'=>some (.normal,s'.mask kt kb)
  |none=>none
 |.rr n ops kt kb,s=>match cG (da A E) (bI A E Pr) (dP A) (lI s.h.ar.length ops) [] ⟨s.env,s.h.room n⟩ with
  |some s'=>some (.normal,s'.mask kt kb)
  |none=>none
 |.seq a b,s=>match E a s with
  |some (.normal,s')=>E b s'
  |r=>r
 |.cond c a b,s=>match bq s.env c with
  |.pv (.bool true)=>E a s
  |.pv (.bool false)=>E b s
  |_=>none
 |.block id a,s=>match E a s with
  |some (.exit j,s')=>if j=id then some (.normal,s') else some (.exit j,s')
  |r=>r
 |.loop a,s=>match E a s with
  |some (.normal,s')=>E (.loop a) s'
  |r=>r
 |.exit id,s=>some (.exit id,s)
 |.ret,s=>some (.ret,s)
 |.mask kt kb a,s=>E a (s.mask kt kb)
def exec (A:Nat→Option ae) (Pr:br):Nat→AC→St→Option (Ex×St)
 |0,_,_=>none
 |n+1,c,s=>bZ A Pr (exec A Pr n) c s
def uN:Value→Option V
 |.bool b=>some (.pv (.bool b))
 |.int k n=>some (.pv (.int k n))
 |.string s=>some (.pv (.str s))
 |.pointer none=>some (.pv .oj)
 |.nilFunc=>some (.pv .rF)
 |.slice none 0 0=>some (.tl [])
 |.map none=>some .ej
 |_=>none
def cv:Value→Option V
 |.agg cs=>match aA uN cs.toList with
  |some l=>some (.agg l)
  |none=>none
 |v=>uN v
def bm (N M:Nat→Nat):Operand→Option bM
 |.tmp t=>some (.tmp t)
 |.const v=>match cv v with
  |some x=>some (.val x)
  |none=>none
 |.func f=>if N (M f)=f then some (.val (.func (M f) [])) else none
 |.global _=>none
def zeroOf (P:Program) (t:TypeId):Option (List V):=
 match P.info? t with
 |some i=>match i.zero with
  |some z=>match aA uN z.cells.toList with
   |some l=>if l.length=i.size then some l else none
   |none=>none
  |none=>none
 |none=>none
def zeroV (P:Program) (t:TypeId):Option V:=((P.info? t).bind (·.zero)).bind uN
def dz (P:Program) (t:TypeId):Option Bool:=
 match P.underlying t with
 |some (.struct _)=>some true
 |some (.array _ _)=>some true
 |some _=>some false
 |none=>none
def cU (P:Program) (t:TypeId):Option Nat:=(P.info? t).map (·.size)
def iV (P:Program) (t:TypeId):Option (TypeId×Nat):=
 match P.underlying t with
 |some (.slice e)=>match P.info? e with
  |some i=>if i.bytes≤32768∧0<i.size∧i.zero.map (·.cells.size)=some i.size then some (e,i.size) else none
  |none=>none
 |_=>none
def loadT (P:Program) (t:TypeId):Option (Nat×Bool):=
 match dz P t,cU P t with
 |some true,some n=>some (n,true)
 |some false,some n=>if n=1 then some (1,false) else none
 |_,_=>none
def cu (P:Program):Nat→TypeId→Option (List Nat)
 |0,_=>none
 |d+1,t=>match P.underlying t with
  |some .bool=>some [0]
  |some (.int _)=>some [1]
  |some .string=>some [2]
  |some (.array n e)=>match cu P d e,loadT P e with
   |some ks,some (k,_)=>if k=ks.length then some ((List.replicate n ks).flatten) else none
   |_,_=>none
  |some (.struct fs)=>if P.stoodInHeld t then none else
    fs.toList.foldr (fun f (acc:Option (List Nat))=>match acc,cu P d f.type,loadT P f.type with
     |some l, some ks, some (k, _)=>if f.name≠ "_"∧k=ks.length then some (ks++l) else none
     |_,_,_=>none) (some [])
  |_=>none
def jP (P:Program):Nat→List Field→Bool
 |_,[]=>true
 |a,f::r=>f.offset==a&&jP P (a+(cU P f.type).getD 0) r
def et (P:Program):Nat→TypeId→Bool
 |0,_=>false
 |d+1,t=>match P.underlying t with
  |some (.array _ e)=>et P d e
  |some (.struct fs)=>jP P 0 fs.toList&&fs.toList.all fun f=>et P d f.type
  |_=>true
def ru (P:Program) (t:TypeId):Option (Bool×List Nat):=
 match cu P 40 t,dz P t with
 |some ks,some ag=>if et P 40 t&&P.eqGuardType P.depth t==false then some (ag,ks) else none
 |_,_=>none
def lJ (P:Program) (N M:Nat→Nat) (fs:Array Field):List (Nat×Operand)→Option (List (Nat×Nat×bM))
 |[]=>some []
 |(i,x)::r=>match fs[i]?,bm N M x,lJ P N M fs r with
  |some f,some y,some l=>match cU P f.type with
   |some n=>some ((f.offset,n,y)::l)
   |none=>none
  |_,_,_=>none
def iW (N M:Nat→Nat) (k:Nat):List (Nat×Operand)→Option (List (Nat×Nat×bM))
 |[]=>some []
 |(i,x)::r=>match bm N M x,iW N M k r with
  |some y,some l=>some ((i*k,k,y)::l)
  |_,_=>none
def iX (N M:Nat→Nat):Option Operand→Option (Option bM)
 |none=>some none
 |some x=>match bm N M x with
  |some y=>some (some y)
  |none=>none
def DI (kb:List Nat) (d:Nat):Nat:=if kb.contains (100000+d) then 100000+d else d
def dG (P:Program) (N M:Nat→Nat) (pb:List Nat) (dst:Option Nat):Op→Option eb
 |.move x=>(bm N M x).map .Ol
 |.assign x=>(bm N M x).map .Ol
 |.pick c a b=>match bm N M c,bm N M a,bm N M b with
  |some c,some a,some b=>some (.pick c a b)
  |_,_,_=>none
 |.alloc t=>match zeroOf P t,dst with
  |some z,some d=>if z.all V.dT then some (.alloc (DI pb d) z) else none
  |_,_=>none
 |.box t x=>match loadT P t,bm N M x,dst with
  |some (n,_),some x,some d=>some (.box (DI pb d) n x)
  |_,_,_=>none
 |.build t parts=>match zeroOf P t,P.underlying t with
  |some z,some (.struct fs)=>match lJ P N M fs parts.toList with
   |some l=>if fs.toList.all fun f=>(cU P f.type).isSome then some (.build z l) else none
   |none=>none
  |some z,some (.array _ e)=>match cU P e with
   |some k=>match iW N M k parts.toList with
    |some l=>some (.build z l)
    |none=>none
   |none=>none
  |_,_=>none
 |.buildSlice t len parts=>match iV P t with
  |some (e,k)=>match zeroOf P e,iW N M k parts.toList with
   |some z,some l=>if len*k≤16777216 then some (.lit k z len l) else none
   |_,_=>none
  |none=>none
 |.load t x=>match loadT P t,bm N M x with
  |some (n,a),some x=>some (.load n a x)
  |_,_=>none
 |.store t x v=>match loadT P t,bm N M x,bm N M v with
  |some (n,_),some x,some v=>some (.store n x v)
  |_,_,_=>none
 |.nilCheck x=>(bm N M x).map .wh
 |.binOp op t x y _=>match bm N M x,bm N M y with
  |some x,some y=>match P.underlying t with
   |some (.int _)=>some (.bin op x y)
   |some .string=>some (.bin op x y)
   |_=>match ru P t with
    |some (ag,ks)=>if op=.eql∨op=.neq then some (.Om ag ks (op==.neq) x y) else none
    |none=>none
  |_,_=>none
 |.unOp op _ x=>(bm N M x).map (.un op)
 |.convert s d x=>match bm N M x,P.underlying s,P.underlying d with
  |some x,some (.int _),some (.int k)=>some (.conv k x)
  |some x,some (.int _),some .string=>some (.wi x)
  |some x,some .string,some .string=>some (.wi x)
  |_,_,_=>none
 |.makeFunc (.func f) first cap=>match aA (bm N M) cap.toList with
  |some l=>if N (M f)=f∧first.size=0 then some (.FK (M f) l) else none
  |none=>none
 |.makeMap _ none=>some .rq
 |.makeSlice t n c=>match iV P t with
  |some (e,k)=>match zeroOf P e,bm N M n,bm N M c with
   |some z,some n,some c=>if z.all V.calm then some (.make k z n c) else none
   |_,_,_=>none
  |none=>none
 |.slice t x lo hi mx=>match bm N M x,iX N M lo,iX N M hi,iX N M mx with
  |some x,some lo,some hi,some mx=>match P.underlying t with
   |some .string=>match mx with
    |none=>some (.SF x lo hi)
    |some _=>none
   |some (.slice e)=>match cU P e with
    |some k=>match mx,hi with
     |some _,none=>none
     |_,_=>some (.sl k x lo hi mx)
    |none=>none
   |_=>none
  |_,_,_,_=>none
 |.fieldAddr t x i=>match P.underlying t,bm N M x with
  |some (.struct fs),some x=>match fs[i]? with
   |some f=>match cU P f.type with
    |some n=>if n=0 then none else some (.RD f.offset x)
    |none=>none
   |none=>none
  |_,_=>none
 |.field t x i=>match P.underlying t,bm N M x with
  |some (.struct fs),some x=>match fs[i]? with
   |some f=>match loadT P f.type with
    |some (n,a)=>some (.part f.offset n a x)
    |none=>none
   |none=>none
  |_,_=>none
 |.indexAddr t x i=>match bm N M x,bm N M i,P.underlying t with
  |some x,some i,some (.slice e)=>match cU P e with
   |some k=>some (.idx k x i)
   |none=>none
  |some x,some i,some (.array n e)=>match cU P e with
   |some k=>some (.FI n k x i)
   |none=>none
  |_,_,_=>none
 |.index t x i=>match bm N M x,bm N M i,P.underlying t with
  |some x,some i,some (.array n e)=>match loadT P e,cU P e with
   |some (k,a),some _=>some (.SE n k a x i)
   |_,_=>none
  |some x,some i,some .string=>some (.RE x i)
  |_,_,_=>none
 |.lookup t x i ok=>match bm N M x,bm N M i,P.underlying t with
  |some x,some i,some (.map k e)=>match zeroV P e,ru P k with
   |some z,some (ag,ks)=>some (.look ag ks z x i ok)
   |_,_=>none
  |_,_,_=>none
 |.mapUpdate t m k v=>match bm N M m,bm N M k,bm N M v,P.underlying t with
  |some m,some k,some v,some (.map kt _)=>match ru P kt with
   |some (ag,ks)=>some (.FJ ag ks m k v)
   |none=>none
  |_,_,_,_=>none
 |.insert t m k v=>match bm N M m,bm N M k,bm N M v,P.underlying t with
  |some m,some k,some v,some (.map kt _)=>match ru P kt with
   |some (ag,ks)=>some (.FJ ag ks m k v)
   |none=>none
  |_,_,_,_=>none
 |.extract x i=>(bm N M x).map (.ext · i)
 |.call c=>match c.callee,aA (bm N M) c.args.toList with
  |.value f,some args=>match bm N M f with
   |some f=>some (.call f args)
   |none=>none
  |.builtin .len,some [x]=>match (c.argTypes[0]?).bind P.underlying with
   |some .string=>some (.len 1 x)
   |some (.slice _)=>some (.len 0 x)
   |some (.map _ _)=>some (.len 2 x)
   |_=>none
  |.builtin .append,some [x,y]=>match c.argTypes[0]? with
   |some t=>match iV P t with
    |some (_,k)=>if c.argTypes=#[t,t] then some (.app k x y) else none
    |none=>none
   |none=>none
  |.builtin .clear,some [x]=>match (c.argTypes[0]?).bind (iV P)with
   |some (e,k)=>match zeroOf P e with
    |some z=>some (.H4 k z x)
    |none=>none
   |none=>none
  |.builtin .copy,some [x,y]=>match c.argTypes[0]? with
   |some t=>match iV P t with
    |some (_,k)=>if c.argTypes=#[t,t] then some (.copy k x y) else none
    |none=>none
   |none=>none
  |.builtin .min,some args=>some (.lh false args)
  |.builtin .max,some args=>some (.lh true args)
  |_,_=>none
 |.panic _=>some (.lh true [])
 |.makeInterface _ _=>some (.lh true [])
 |_=>none
def ot (ops:Array Oper) (o:Oper):Option (Option (Nat×Bool)):=
 match o.guard with
 |none=>some none
 |some (j,b)=>match (ops[j]?).bind (·.dst)with
  |some t=>some (some (t,b))
  |none=>none
def iY (P:Program) (N M:Nat→Nat) (nt:Nat) (pb:List Nat) (ops:Array Oper) (o:Oper):Option aE:=
 match dG P N M pb o.dst o.op,ot ops o with
 |some q,some g=>if o.dst.all (·<nt) then some ⟨o.dst,q,g⟩ else none
 |_,_=>none
def once:List Nat→List Nat→List Nat
 |acc,[]=>acc
 |acc,a::r=>if acc.contains a then once acc r else once (a::acc) r
def cP:List (List Nat)→List Oper→List (List Nat)
 |acc,[]=>acc
 |acc,o::r=>
  let ds:=(o.after.toList.filter (Region.binds .any ·)).map (·.on)
  cP (acc++[once [] (ds++ds.flatMap fun d=>acc.getD d [])]) r
def eb.looks:eb→Bool
 |.load ..|.len ..|.look ..|.idx ..|.sl ..=>true
 |_=>false
def eb.turns:eb→Bool
 |.alloc ..|.box ..|.lit ..|.store ..|.app ..|.make ..|.gC ..|.lx ..|.lz ..|.rq|.FJ ..|.call ..|.H4 ..|.copy ..=>true
 |_=>false
def np (a b:eb):Bool:=(a.turns&&(b.looks||b.turns))||(b.turns&&a.looks)
def jC (as:List aE) (ah:List Nat) (q:aE) (n:Nat):List Nat:=
 (List.range n).filter fun j=>!ah.contains j&&(match as[j]? with
  |some p=>np p.op q.op
  |none=>false)
def r9 (ops:List Oper) (as:List aE) (ahs:List (List Nat)):Bool:=
 (List.range ops.length).all fun i=>
  match ops[i]?,as[i]?,ahs[i]? with
  |some o,some q,some ah=>
   (o.after.toList.all fun e=>!Region.binds .any e||e.on<i)&&
   ((List.range i).all fun j=>ah.contains j||(match as[j]? with
    |some p=>p.apart q
    |none=>false))
  |_,_,_=>false
def cQ (as:List aE) (ahs:List (List Nat)):List (aE×List Nat):=
 as.zipIdx.map fun(q,i)=>(q,jC as (ahs.getD i []) q i)
def gH (kb:List Nat):List Nat:=kb.filter fun s=>!dS s
def SH:eb→Bool
 |.make ..=>true
 |_=>false
def rH (l:List aE):Nat:=(l.filter fun o=>SH o.op).length
def mkNum (n:Nat):List aE→List aE
 |[]=>[]
 |o::r=>match o.op with
  |.make k z a b=>⟨o.dst,.gC n k z a b,o.guard⟩::mkNum (n+1) r
  |q=>⟨o.dst,q,o.guard⟩::mkNum n r
def SI:eb→Bool
 |.make ..|.lit ..|.app ..=>true
 |_=>false
def rI (l:List aE):Nat:=(l.filter fun o=>SI o.op).length
def eN (n:Nat):List aE→List aE
 |[]=>[]
 |o::r=>match o.op with
  |.make k z a b=>⟨o.dst,.gC n k z a b,o.guard⟩::eN (n+1) r
  |.lit k z a ps=>⟨o.dst,.lx n k z a ps,o.guard⟩::eN (n+1) r
  |.app k x y=>⟨o.dst,.lz n k x y,o.guard⟩::eN (n+1) r
  |q=>⟨o.dst,q,o.guard⟩::eN n r
def sf:Nat:=999998
abbrev DJ:=List (List Nat×List Nat)
def wu:AC:=.region [⟨none,.un .not (.val (.pv (.int .i64 0))),none⟩] [] []
def uO:List Nat:=[999999]
def dW (P:Program) (N M:Nat→Nat) (nt:Nat):Code→DJ→Option (AC×DJ)
 |.skip,an=>some (.skip,an)
 |.region _ ops draw,an=>match an with
  |(kt,kb)::r=>if kb=uO then some (wu,r) else match aA (iY P N M nt kb ops) ops.toList with
   |some l=>
    if draw then
     if r9 ops.toList l (cP [] ops.toList) then
      if kb.contains sf then some (.rr (rI l) (cQ (eN 0 l) (cP [] ops.toList)) kt (gH kb),r)
      else if 2≤rH l then some (.rr (rH l) (cQ (mkNum 0 l) (cP [] ops.toList)) kt (gH kb),r)
      else some (.draw (cQ l (cP [] ops.toList)) kt (gH kb),r)
     else none
    else if kb.contains sf then some (.rr (rI l) ((eN 0 l).map fun q=>(q,[])) kt (gH kb),r)
    else some (.region l kt (gH kb),r)
   |none=>none
  |[]=>none
 |.seq a b,an=>match dW P N M nt a an with
  |some (x,an')=>match dW P N M nt b an' with
   |some (y,an'')=>some (.seq x y,an'')
   |none=>none
  |none=>none
 |.cond c a b,an=>match bm N M c,dW P N M nt a an with
  |some c,some (x,an')=>match dW P N M nt b an' with
   |some (y,an'')=>some (.cond c x y,an'')
   |none=>none
  |_,_=>none
 |.block id a,an=>match dW P N M nt a an with
  |some (x,an')=>some (.block id x,an')
  |none=>none
 |.loop a,an=>match an with
  |(kt,kb)::r=>match dW P N M nt a r with
   |some (x,an')=>some (.loop (.mask kt (gH kb) x),an')
   |none=>none
  |[]=>none
 |.exit id,an=>some (.exit id,an)
 |.ret,an=>some (.ret,an)
 |_,_=>none
def sg (P:Program):ResultVar→Option oo
 |.tmp t=>some (.tmp t)
 |.cell a t=>match loadT P t with
  |some (n,b)=>some (.cell a n b)
  |none=>none
def xC (P:Program) (N M:Nat→Nat) (F:Nat) (an:DJ) (fn:ae):Prop:=
 ∃go code, P.funcs[F]?=some go∧go.body=some code∧(go.name== "runtime.NumGoroutine")=false∧
  fn.pQ≤go.ntmps∧dW P N M go.ntmps code an=some (fn.body,[])∧aA (sg P) go.results.toList=some fn.results
abbrev Lx:=Nat→Nat→Prop
def jQ (L:Lx) (t b:Nat):Prop:=L 0 b∨(t≠0∧L 1 b)
def PV.one:PV→Bool
 |.agg _|.fr _ _=>false
 |_=>true
def PV.calm:PV→Bool
 |.ro _ _|.agg _|.fr _ _=>false
 |.func _ cap=>cap.isEmpty
 |_=>true
theorem PV.zR (p:PV):(V.pv p).calm=p.calm:=by cases p<;>rfl
theorem PV.lK {p:PV} (h:p.calm=true):p.one=true:=by cases p<;>simp[PV.calm,PV.one]at *
def fx {α:Type} (rows:List (List α)) (i j:Nat):Option α:=(rows[i]?).bind (·[j]?)
inductive dL (N:Nat→Nat) (L:Lx) (w:World):PV→Value→Prop
 |bool (b:Bool):dL N L w (.bool b) (.bool b)
 |int (k:IntKind) (n:Int):dL N L w (.int k n) (.int k n)
 |str (s:ByteArray):dL N L w (.str s) (.string s)
 |oj:dL N L w .oj (.pointer none)
 |rF:dL N L w .rF .nilFunc
 |aa (t:Nat) (rows:List (List PV)) (a:Option Addr) (ad:Addr) (cap k:Nat) (vs:Nat→Nat→Value)
   (hk:∀r∈rows,r.length=k) (hc:rows.length≤cap) (ha:0<rows.length→a=some ad∧ad.spot=none∧jQ L t ad.block)
   (hcell:∀i j c,fx rows i j=some c→w.cell? ⟨ad.block,ad.off+(i*k+j),none⟩=some (vs i j))
   (hv:∀i j c,fx rows i j=some c→dL N L w c (vs i j)) (hp:t≤1→∀i j c,fx rows i j=some c→c.perm=true)
   (h1:∀i j c,fx rows i j=some c→c.calm=true):dL N L w (.aa t rows) (.slice a rows.length cap)
 |ro (t:Nat) (cs:List PV) (b off:Nat) (vs:Nat→Value) (ha:0<cs.length→jQ L t b)
   (hcell:∀(j:Nat) (c:PV),cs[j]?=some c→w.cell? ⟨b,off+j,none⟩=some (vs j)) (hv:∀(j:Nat) (c:PV),cs[j]?=some c→dL N L w c (vs j))
   (h1:∀c∈cs,c.one=true):dL N L w (.ro t cs) (.pointer (some ⟨b,off,none⟩))
 |func (f:Nat) (cap:List PV) (arr:Array Value) (hs:arr.size=cap.length) (hv:∀(j:Nat) (c:PV),cap[j]?=some c→dL N L w c (arr.getD j undef)):
   dL N L w (.func f cap) (.func (.func (N f)) #[] arr)
 |agg (cs:List PV) (arr:Array Value) (hs:arr.size=cs.length) (hv:∀(j:Nat) (c:PV),cs[j]?=some c→dL N L w c (arr.getD j undef))
   (h1:∀c∈cs,c.one=true):dL N L w (.agg cs) (.agg arr)
theorem iO {w w':World} {b o:Nat} (h:w'.heap[b]?=w.heap[b]?):w'.cell? ⟨b,o,none⟩=w.cell? ⟨b,o,none⟩:=by simp[World.cell?,h]
theorem Bs {α:Type} {rows:List (List α)} {i j:Nat} {c:α} (h:fx rows i j=some c):i<rows.length:=by
 unfold fx at h
 rcases VG i rows.length with h1|h1
 .exact h1
 .simp[List.getElem?_eq_none h1]at h
theorem jQ.mono {L L':Lx} {t b:Nat} (hL:∀t b,L t b→L' t b) (h:jQ L t b):jQ L' t b:=by
 rcases h with h|⟨h,h'⟩
 .exact .inl (hL _ _ h)
 .exact .inr ⟨h,hL _ _ h'⟩
theorem dL.mono {N:Nat→Nat} {L L':Lx} {w w':World} {p:PV} {v:Value} (h:dL N L w p v) (hL:∀t b,L t b→L' t b)
  (hw:∀t b,L t b→w'.heap[b]?=w.heap[b]?):dL N L' w' p v:=by
 induction h with
 |bool b=>exact .bool b
 |int k n=>exact .int k n
 |str s=>exact .str s
 |oj=>exact .oj
 |rF=>exact .rF
 |aa t rows a ad cap k vs hk hc ha hcell hv hp h1 ih=>
  refine .aa t rows a ad cap k vs hk hc (fun h=>⟨(ha h).1,(ha h).2.1,(ha h).2.2.mono hL⟩) (fun i j c hc'=>?_) ih hp h1
  have hl:jQ L t ad.block:=(ha (Nat.lt_of_le_of_lt (V4 _) (Bs hc'))).2.2
  have hs:w'.heap[ad.block]?=w.heap[ad.block]?:=by
   rcases hl with hl|⟨_,hl⟩<;>exact hw _ _ hl
  rw[iO hs]; exact hcell i j c hc'
 |ro t cs b off vs ha hcell hv h1 ih=>
  refine .ro t cs b off vs (fun h=>(ha h).mono hL) (fun j c hc'=>?_) ih h1
  have hl:jQ L t b:=ha (by
   rcases VG j cs.length with h2|h2
   .omega
   .simp[List.getElem?_eq_none h2]at hc')
  have hs:w'.heap[b]?=w.heap[b]?:=by
   rcases hl with hl|⟨_,hl⟩<;>exact hw _ _ hl
  rw[iO hs]; exact hcell j c hc'
 |func f cap arr hs hv ih=>exact .func f cap arr hs ih
 |agg cs arr hs hv h1 ih=>exact .agg cs arr hs ih h1
theorem PV.xD {p:PV} (h:p.perm=true):p.one=true:=by
 cases p<;>simp[PV.perm,PV.one]at *
theorem dL.gf {N:Nat→Nat} {L L':Lx} {w w':World} {p:PV} {v:Value} (h:dL N L w p v) (hp:p.perm=true)
  (hL:∀b,L 0 b→L' 0 b∧w'.heap[b]?=w.heap[b]?):dL N L' w' p v:=by
 induction h with
 |bool b=>exact .bool b
 |int k n=>exact .int k n
 |str s=>exact .str s
 |oj=>exact .oj
 |rF=>exact .rF
 |aa t rows a ad cap k vs hk hc ha hcell hv hp' h1 ih=>
  have ht:t=0:=by simpa [PV.perm]using hp
  subst ht
  have hpp:=hp' (by omega)
  refine .aa 0 rows a ad cap k vs hk hc (fun h=>⟨(ha h).1,(ha h).2.1,?_⟩) (fun i j c hc'=>?_) (fun i j c hc'=>ih i j c hc' (hpp i j c hc')) (fun _=>hpp) h1
  .rcases(ha h).2.2 with hl|⟨hl,_⟩
   .exact .inl (hL _ hl).1
   .exact absurd rfl hl
  .have hl:=(ha (Nat.lt_of_le_of_lt (V4 _) (Bs hc'))).2.2
   have hs:w'.heap[ad.block]?=w.heap[ad.block]?:=by
    rcases hl with hl|⟨hl,_⟩
    .exact(hL _ hl).2
    .exact absurd rfl hl
   rw[iO hs]; exact hcell i j c hc'
 |ro t cs b off vs ha hcell hv h1 ih=>simp[PV.perm]at hp
 |func f cap arr hs hv ih=>
  have hc:cap=[]:=by simpa [PV.perm]using hp
  subst hc
  exact .func f [] arr hs (fun j c hc=>by simp at hc)
 |agg cs arr hs hv h1 ih=>simp[PV.perm]at hp
structure bn where
 sl:Nat→Prop
 bx:Nat→Nat
 na:Nat
 ar:Nat→Nat
 ad:Nat→Nat
 cap:Nat→Nat
 av:Nat→Nat
 ak:Nat→Nat
 an:Nat→Nat
 nm:Nat
 mp:Nat→Nat
def wv (w:World) (a:Option Addr) (n:Nat):Prop:=0<n→∀ad,a=some ad→∃arr ty,w.heap[ad.block]?=some (.cells arr ty (0,0))
theorem wv.nil {w:World} {a:Option Addr}:wv w a 0:=fun h=>absurd h (Nat.lt_irrefl 0)
inductive VR (N:Nat→Nat) (L:Lx) (e:bn) (w:World):V→Value→Prop
 |pv (p:PV) (v:Value) (h:dL N L w p v):VR N L e w (.pv p) v
 |tl (rows:List (List PV)) (a:Option Addr) (h:dL N L w (.aa 0 rows) (.slice a rows.length rows.length)) (hs:wv w a rows.length):VR N L e w (.tl rows) (.slice a rows.length rows.length)
 |own (id aq off len:Nat) (a:Option Addr) (cap:Nat) (h0:0<len→a.isSome=true) (h1:id<e.na) (h2:aq≤e.av id)
   (h3:aq=e.av id→off+len≤e.an id∧len≤cap∧off+cap≤e.cap id∧(0<cap→a=some ⟨e.ar id,e.ad id+off*e.ak id,none⟩)):VR N L e w (.own id aq off len) (.slice a len cap)
 |ptr (s off:Nat) (h:e.sl s):VR N L e w (.ptr s off) (.pointer (some ⟨e.bx s,off,none⟩))
 |df (id aq row col:Nat) (a:Addr) (h1:id<e.na) (h2:aq≤e.av id) (h3:aq=e.av id→a=⟨e.ar id,e.ad id+(row*e.ak id+col),none⟩):
   VR N L e w (.df id aq row col) (.pointer (some a))
 |func (f:Nat) (cap:List V) (arr:Array Value) (hs:arr.size=cap.length) (hv:∀(j:Nat) (c:V),cap[j]?=some c→VR N L e w c (arr.getD j undef)):
   VR N L e w (.func f cap) (.func (.func (N f)) #[] arr)
 |map (id:Nat) (h:id<e.nm):VR N L e w (.map id) (.map (some (e.mp id)))
 |ej:VR N L e w .ej (.map none)
 |agg (cs:List V) (arr:Array Value) (hs:arr.size=cs.length) (hv:∀(j:Nat) (c:V),cs[j]?=some c→VR N L e w c (arr.getD j undef)):VR N L e w (.agg cs) (.agg arr)
 |dH (cs:List V) (arr:Array Value) (hs:arr.size=cs.length) (hv:∀(j:Nat) (c:V),cs[j]?=some c→VR N L e w c (arr.getD j undef)):VR N L e w (.dH cs) (.tuple arr)
 |any (v:Value):VR N L e w .any v
structure Ext (L:Lx) (e:bn) (w:World) (L':Lx) (e':bn) (w':World):Prop where
 sub:∀t b,L t b→L' t b
 kept:∀t b,L t b→w'.heap[b]?=w.heap[b]?
 sl:∀s,e.sl s→e'.sl s∧e'.bx s=e.bx s
 na:e.na≤e'.na
 av:∀id,id<e.na→e.av id≤e'.av id∧(e'.av id=e.av id→e'.ar id=e.ar id∧e'.ad id=e.ad id∧e'.cap id=e.cap id∧e'.ak id=e.ak id∧e'.an id=e.an id)
 nm:e.nm≤e'.nm
 mp:∀id,id<e.nm→e'.mp id=e.mp id
theorem Ext.refl (L:Lx) (e:bn) (w:World):Ext L e w L e w:=
 ⟨fun _ _ h=>h,fun _ _ _=>rfl,fun _ h=>⟨h,rfl⟩,VI _,fun _ _=>⟨VI _,fun _=>⟨rfl,rfl,rfl,rfl,rfl⟩⟩,VI _,fun _ _=>rfl⟩
theorem Ext.trans {L L' L'':Lx} {e e' e'':bn} {w w' w'':World} (h:Ext L e w L' e' w') (k:Ext L' e' w' L'' e'' w''):Ext L e w L'' e'' w'':=by
 refine⟨fun t b hb=>k.sub _ _ (h.sub _ _ hb),fun t b hb=>(k.kept _ _ (h.sub _ _ hb)).trans (h.kept _ _ hb),fun s hs=>?_,Wr h.na k.na,fun id hid=>?_,Wr h.nm k.nm,fun id hid=>?_⟩
 .obtain⟨h1,h2⟩:=h.sl s hs
  obtain⟨h3,h4⟩:=k.sl s h1
  exact⟨h3,h4.trans h2⟩
 .obtain⟨h1,h2⟩:=h.av id hid
  obtain⟨h3,h4⟩:=k.av id (Wq hid h.na)
  refine⟨Wr h1 h3,fun he=>?_⟩
  have e1:e'.av id=e.av id:=by omega
  have e2:e''.av id=e'.av id:=by omega
  obtain⟨a1,a2,a3,a4,a5⟩:=h2 e1
  obtain⟨b1,b2,b3,b4,b5⟩:=h4 e2
  exact⟨b1.trans a1,b2.trans a2,b3.trans a3,b4.trans a4,b5.trans a5⟩
 .exact(k.mp id (Wq hid h.nm)).trans (h.mp id hid)
theorem VR.mono {N:Nat→Nat} {L L':Lx} {e e':bn} {w w':World} {x:V} {v:Value} (h:VR N L e w x v) (hx:Ext L e w L' e' w'):VR N L' e' w' x v:=by
 induction h with
 |pv p v h=>exact .pv p v (h.mono hx.sub hx.kept)
 |tl rows a h hs=>
  refine .tl rows a (h.mono hx.sub hx.kept) (fun hn ad' had=>?_)
  cases h with
  |aa _ _ _ ad _ _ _ _ _ ha _ _ _ _=>
   obtain⟨h1,_,h3⟩:=ha hn
   rw[h1]at had
   injection had with had
   subst had
   obtain⟨arr,ty,g⟩:=hs hn ad h1
   refine⟨arr,ty,?_⟩
   rcases h3 with h3|⟨h3,_⟩
   .rw[hx.kept _ _ h3]; exact g
   .exact absurd rfl h3
 |own id aq off len a cap h0 h1 h2 h3=>
  obtain⟨g1,g2⟩:=hx.av id h1
  refine .own id aq off len a cap h0 (Wq h1 hx.na) (Wr h2 g1) (fun he=>?_)
  obtain⟨a1,a2,a3,a4,a5⟩:=g2 (by omega)
  rw[a1,a2,a3,a4,a5]
  exact h3 (by omega)
 |ptr s off h=>
  obtain⟨g1,g2⟩:=hx.sl s h
  rw[← g2]; exact .ptr s off g1
 |df id aq row col a h1 h2 h3=>
  obtain⟨g1,g2⟩:=hx.av id h1
  refine .df id aq row col a (Wq h1 hx.na) (Wr h2 g1) (fun he=>?_)
  obtain⟨a1,a2,a3,a4,a5⟩:=g2 (by omega)
  rw[a1,a2,a4]
  exact h3 (by omega)
 |func f cap arr hs hv ih=>exact .func f cap arr hs ih
 |map id h=>rw[← hx.mp id h]; exact .map id (Wq h hx.nm)
 |ej=>exact .ej
 |agg cs arr hs hv ih=>exact .agg cs arr hs ih
 |dH cs arr hs hv ih=>exact .dH cs arr hs ih
 |any v=>exact .any v
def Block (w:World) (b n:Nat):Prop:=∃arr ty,w.heap[b]?=some (.cells arr ty (0,0))∧n≤arr.size
def fK (N:Nat→Nat) (L:Lx) (e:bn) (w:World) (b off:Nat) (cs:List V):Prop:=
 ∀(j:Nat) (c:V),cs[j]?=some c→c.calm=true∧∃v,w.cell? ⟨b,off+j,none⟩=some v∧VR N L e w c v
def lL (N:Nat→Nat) (L:Lx) (e:bn) (w:World) (b:Nat) (cs:List V):Prop:=
 ∀(j:Nat) (c:V),cs[j]?=some c→c.dT=true∧∃v,w.cell? ⟨b,j,none⟩=some v∧VR N L e w c v
def bU:Sum (List (List PV)) (List (List V))→Prop
 |.inl rows=>∀r∈rows,∀c∈r,c.perm=true
 |.inr _=>True
def pV (N:Nat→Nat) (L:Lx) (w:World) (p:PV×PV) (m:MapEntry):Prop:=dL N L w p.1 m.key∧dL N L w p.2 m.val∧p.2.perm=true
def ou:PV→Bool
 |.bool _|.int _ _|.str _=>true
 |.agg cs=>cs.all fun|.bool _|.int _ _|.str _=>true|_=>false
 |_=>false
def xE:Array Value:=((List.range 20).map fun i:Nat=>Value.int .u64 ((10:Int)^i)).toArray
def sh (N:Nat→Nat) (L:Lx) (w:World):Prop:=∀g,N 1000000=100000+g→L 7777 g∧∃ty z,w.heap[g]?=some (.cells xE ty z)
theorem sh.mono {N:Nat→Nat} {L L':Lx} {w w':World} (h:sh N L w) (hs:∀t b,L t b→L' t b) (hk:∀t b,L t b→w'.heap[b]?=w.heap[b]?):sh N L' w':=fun g hg=>by
 obtain⟨h1,h2⟩:=h g hg
 refine⟨hs _ _ h1,?_⟩
 rw[hk _ _ h1]
 exact h2
structure HR (N:Nat→Nat) (L:Lx) (e:bn) (W:Nat→Prop) (h:af) (w:World):Prop where
 sl:∀s,e.sl s↔(aG s h.bx).isSome=true
 bx:∀s cs,aG s h.bx=some cs→Block w (e.bx s) cs.length∧lL N L e w (e.bx s) cs
 na:e.na=h.ar.length
 aq:∀(id:Nat) (a:aL),h.ar[id]?=some a→e.av id=a.aq∧e.ak id=a.k∧e.an id=a.size∧(a.k=0→a.rows=[])
 ar:∀(id:Nat) (a:aL),h.ar[id]?=some a→a.k≠0→a.size≤e.cap id∧Block w (e.ar id) (e.ad id+e.cap id*a.k)∧(∀r∈a.rows,r.length=a.k)∧
  (∀i r,a.rows[i]?=some r→fK N L e w (e.ar id) (e.ad id+i*a.k) r)∧bU a.body
 nm:e.nm=h.mp.length
 mp:∀(id:Nat) (m:List (PV×PV)),h.mp[id]?=some m→∃es clock,w.heap[e.mp id]?=some (.map es clock)∧es.size=m.length∧
  ∀(i:Nat) (p:PV×PV),m[i]?=some p→ou p.1=true∧∃x,es[i]?=some x∧pV N L w p x
 uv:∀s,e.sl s→W (e.bx s)∧∀t,¬L t (e.bx s)
 nF:∀id,id<e.na→e.ak id≠0→W (e.ar id)∧∀t,¬L t (e.ar id)
 wj:∀id,id<e.nm→W (e.mp id)∧∀t,¬L t (e.mp id)
 zM:∀s s',e.sl s→e.sl s'→e.bx s=e.bx s'→s=s'
 wk:∀s id,e.sl s→id<e.na→e.ak id≠0→e.bx s≠e.ar id
 wm:∀i j,i<e.na→j<e.na→e.ak i≠0→e.ak j≠0→e.ar i=e.ar j→i=j
 zP:∀i j,i<e.nm→j<e.nm→e.mp i=e.mp j→i=j
 nG:∀t b,L t b→b<w.heap.size
 wide:∀b,w.heap.size≤b→W b
 zN:sh N L w
structure Fr (W:Nat→Prop) (w w':World):Prop where
 os:w'.os=w.os
 tape:w'.tape=w.tape
 output:w'.output=w.output
 size:w.heap.size≤w'.heap.size
 kept:∀b,b<w.heap.size→¬W b→w'.heap[b]?=w.heap[b]?
 drawn:w.drawn≤w'.drawn
theorem Fr.refl (W:Nat→Prop) (w:World):Fr W w w:=⟨rfl,rfl,rfl,VI _,fun _ _ _=>rfl,VI _⟩
theorem Fr.trans {W:Nat→Prop} {a b c:World} (h:Fr W a b) (k:Fr W b c):Fr W a c:=
 ⟨k.os.trans h.os,k.tape.trans h.tape,k.output.trans h.output,Wr h.size k.size,fun i hi hw=>(k.kept i (Wq hi h.size) hw).trans (h.kept i hi hw),Wr h.drawn k.drawn⟩
structure Nx (N:Nat→Nat) (W:Nat→Prop) (L:Lx) (e:bn) (w:World) (L':Lx) (e':bn) (h':af) (w':World):Prop where
 hr:HR N L' e' W h' w'
 ext:Ext L e w L' e' w'
 fr:Fr W w w'
 new:∀t b,L' t b→L t b∨(t=0∧W b)
theorem Nx.refl {N:Nat→Nat} {W:Nat→Prop} {L:Lx} {e:bn} {w:World} {h:af} (hr:HR N L e W h w):Nx N W L e w L e h w:=
 ⟨hr,Ext.refl _ _ _,Fr.refl _ _,fun _ _ h=>.inl h⟩
theorem Nx.trans {N:Nat→Nat} {W:Nat→Prop} {L L' L'':Lx} {e e' e'':bn} {w w' w'':World} {h' h'':af} (h:Nx N W L e w L' e' h' w') (k:Nx N W L' e' w' L'' e'' h'' w''):Nx N W L e w L'' e'' h'' w'':=
 ⟨k.hr,h.ext.trans k.ext,h.fr.trans k.fr,fun t b hb=>by
  rcases k.new t b hb with hb|hb
  .exact h.new t b hb
  .exact .inr hb⟩
variable {N:Nat→Nat} {W:Nat→Prop} {L L':Lx} {e e':bn} {h:af} {w w':World}
theorem Block.out {b n:Nat} (k:Block w b n):∃arr ty,w.heap[b]?=some (.cells arr ty (0,0))∧n≤arr.size:=k
theorem Block.same {b n:Nat} (k:Block w b n) (hs:w'.heap[b]?=w.heap[b]?):Block w' b n:=by
 obtain⟨arr,ty,h1,h2⟩:=k
 exact⟨arr,ty,hs.trans h1,h2⟩
theorem Block.lt {b n:Nat} (k:Block w b n):b<w.heap.size:=by
 obtain⟨arr,ty,h1,_⟩:=k
 exact(VV.1 h1).1
theorem fK.mono {b off:Nat} {cs:List V} (k:fK N L e w b off cs) (hx:Ext L e w L' e' w') (hs:w'.heap[b]?=w.heap[b]?):fK N L' e' w' b off cs:=by
 intro j c hc
 obtain⟨h1,v,h2,h3⟩:=k j c hc
 exact⟨h1,v,(iO hs).trans h2,h3.mono hx⟩
theorem lL.mono {b:Nat} {cs:List V} (k:lL N L e w b cs) (hx:Ext L e w L' e' w') (hs:w'.heap[b]?=w.heap[b]?):lL N L' e' w' b cs:=by
 intro j c hc
 obtain⟨h1,v,h2,h3⟩:=k j c hc
 exact⟨h1,v,(iO hs).trans h2,h3.mono hx⟩
theorem pV.mono {p:PV×PV} {m:MapEntry} (k:pV N L w p m) (hx:Ext L e w L' e' w'):pV N L' w' p m:=
 ⟨k.1.mono hx.sub hx.kept,k.2.1.mono hx.sub hx.kept,k.2.2⟩
theorem cE (o:Obj) {b:Nat} (hb:b<w.heap.size):(w.alloc o).heap[b]?=w.heap[b]?:=by
 show (w.heap.push o)[b]?=_
 rw[Array.getElem?_push,if_neg (by omega)]
theorem Fr.alloc (o:Obj):Fr W w (w.alloc o):=⟨rfl,rfl,rfl,by simp,fun _ hb _=>cE o hb,Nat.le_refl _⟩
theorem HR.lj (hr:HR N L e W h w) {s:Nat} (hs:e.sl s):e.bx s<w.heap.size:=by
 obtain⟨cs,hcs⟩:=Option.isSome_iff_exists.1 ((hr.sl s).1 hs)
 exact(hr.bx s cs hcs).1.lt
theorem HR.H5 (hr:HR N L e W h w) {id:Nat} (hi:id<e.na):∃a,h.ar[id]?=some a∧e.av id=a.aq∧e.ak id=a.k∧e.an id=a.size∧(a.k=0→a.rows=[]):=by
 have hi':id<h.ar.length:=by rw[← hr.na]; exact hi
 exact⟨h.ar[id],VA hi',hr.aq id _ (VA hi')⟩
theorem HR.ir (hr:HR N L e W h w) {id:Nat} (hi:id<e.na) (hk:e.ak id≠0):e.ar id<w.heap.size:=by
 obtain⟨a,ha,_,h2,_,_⟩:=hr.H5 hi
 exact(hr.ar id a ha (by rw[← h2]; exact hk)).2.1.lt
theorem HR.zS (hr:HR N L e W h w) {id:Nat} (hi:id<e.nm):∃m,h.mp[id]?=some m:=by
 have hi':id<h.mp.length:=by rw[← hr.nm]; exact hi
 exact⟨h.mp[id],VA hi'⟩
theorem HR.xF (hr:HR N L e W h w) {id:Nat} (hi:id<e.nm):e.mp id<w.heap.size:=by
 obtain⟨m,hm⟩:=hr.zS hi
 obtain⟨es,cl,h1,_⟩:=hr.mp id m hm
 exact(VV.1 h1).1
theorem HR.quiet (hr:HR N L e W h w) (hs:∀b,b<w.heap.size→w'.heap[b]?=w.heap[b]?) (hz:w.heap.size≤w'.heap.size)
  (hsub:∀t b,L t b→L' t b) (hnew:∀t b,L' t b→L t b∨(w.heap.size≤b∧b<w'.heap.size)):HR N L' e W h w'∧Ext L e w L' e w':=by
 have hx:Ext L e w L' e w':={ Ext.refl L e w with sub:=hsub,kept:=fun _ _ hb=>hs _ (hr.nG _ _ hb) }
 refine⟨⟨hr.sl,fun s cs hc=>?_,hr.na,hr.aq,fun id a ha hk=>?_,hr.nm,fun id m hm=>?_,fun s hs'=>?_,fun id hi hk=>?_,fun id hi=>?_,hr.zM,hr.wk,hr.wm,hr.zP,fun t b hb=>?_,fun b hb=>hr.wide b (by omega),hr.zN.mono hx.sub hx.kept⟩,hx⟩
 .obtain⟨h1,h2⟩:=hr.bx s cs hc
  have:=hs _ h1.lt
  exact⟨h1.same this,h2.mono hx this⟩
 .obtain⟨h1,h2,h3,h4,h5⟩:=hr.ar id a ha hk
  have:=hs _ h2.lt
  exact⟨h1,h2.same this,h3,fun i r hi=>(h4 i r hi).mono hx this,h5⟩
 .obtain⟨es,cl,h1,h2,h3⟩:=hr.mp id m hm
  have hlt:=(VV.1 h1).1
  refine⟨es,cl,(hs _ hlt).trans h1,h2,fun i p hp=>?_⟩
  obtain⟨g1,x,g2,g3⟩:=h3 i p hp
  exact⟨g1,x,g2,g3.mono hx⟩
 .refine⟨(hr.uv s hs').1,fun t hl=>?_⟩
  rcases hnew _ _ hl with hl|hl
  .exact(hr.uv s hs').2 t hl
  .have:=hr.lj hs'; omega
 .refine⟨(hr.nF id hi hk).1,fun t hl=>?_⟩
  rcases hnew _ _ hl with hl|hl
  .exact(hr.nF id hi hk).2 t hl
  .have:=hr.ir hi hk; omega
 .refine⟨(hr.wj id hi).1,fun t hl=>?_⟩
  rcases hnew _ _ hl with hl|hl
  .exact(hr.wj id hi).2 t hl
  .have:=hr.xF hi; omega
 .rcases hnew _ _ hb with hb|hb
  .exact Wq (hr.nG _ _ hb) hz
  .omega
theorem Fr.drew:Fr W w w.drew:=⟨rfl,rfl,rfl,VI _,fun _ _ _=>rfl,Nat.le_succ _⟩
theorem Nx.drew (hr:HR N L e W h w):Nx N W L e w L e h w.drew:=by
 obtain⟨h1,h2⟩:=hr.quiet (w':=w.drew) (L':=L) (fun _ _=>rfl) (VI _) (fun _ _ hb=>hb) (fun _ _ hb=>.inl hb)
 exact⟨h1,h2,Fr.drew,fun _ _ hb=>.inl hb⟩
def Lx.add (L:Lx) (c:Nat):Lx:=fun t b=>L t b∨(t=0∧b=c)
theorem Nx.still (hr:HR N L e W h w) (o:Obj):Nx N W L e w (L.add w.heap.size) e h (w.alloc o):=by
 obtain⟨h1,h2⟩:=hr.quiet (w':=w.alloc o) (L':=L.add w.heap.size) (fun _ hb=>cE o hb) (by simp) (fun _ _ hb=>.inl hb)
  (fun t b hb=>by
   rcases hb with hb|⟨_,rfl⟩
   .exact .inl hb
   .exact .inr ⟨Nat.le_refl _,by simp⟩)
 refine⟨h1,h2,Fr.alloc o,fun t b hb=>?_⟩
 rcases hb with hb|⟨h0,rfl⟩
 .exact .inl hb
 .exact .inr ⟨h0,hr.wide _ (VI _)⟩
theorem Nx.idle (hr:HR N L e W h w) (o:Obj):Nx N W L e w L e h (w.alloc o):=by
 obtain⟨h1,h2⟩:=hr.quiet (w':=w.alloc o) (L':=L) (fun _ hb=>cE o hb) (by simp) (fun _ _ hb=>hb) (fun _ _ hb=>.inl hb)
 exact⟨h1,h2,Fr.alloc o,fun _ _ hb=>.inl hb⟩
theorem dQ {α:Type} (s t:Nat) (c:List V):∀bx:List (Nat×List V),aG t (ec s c bx)=if s=t then some c else aG t bx
 |[]=>by simp[ec,aG]
 |(u,d)::r=>by
  unfold ec
  by_cases hu:u=s
  .subst hu
   rw[if_pos rfl]
   unfold aG
   split<;>rfl
  .rw[if_neg hu]
   unfold aG
   rw[dQ (α:=α) s t c r]
   by_cases ht:u=t
   .rw[if_pos ht,if_pos ht,if_neg (by omega)]
   .rw[if_neg ht,if_neg ht]
def fZ {α:Type} (f:Nat→α) (i:Nat) (x:α):Nat→α:=fun j=>if j=i then x else f j
theorem aM {α:Type} (f:Nat→α) (i:Nat) (x:α):fZ f i x i=x:=by simp[fZ]
theorem aj {α:Type} (f:Nat→α) {i j:Nat} (x:α) (hne:j≠i):fZ f i x j=f j:=by simp[fZ,hne]
def bn.qC (e:bn) (s b:Nat):bn:={ e with sl:=fun t=>e.sl t∨t=s,bx:=fZ e.bx s b }
theorem Nx.DK (hr : HR N L e W h w) {s : Nat} (hs : aG s h.bx = none) {cs : List V} {arr : Array Value} (ty : TypeId) (hz : arr.size = cs.length)
    (hc : ∀ (j : Nat) (c : V),cs[j]? = some c → c.dT = true ∧ VR N L e w c (arr.getD j undef)) :
    Nx N W L e w L (e.qC s w.heap.size) { h with bx := ec s cs h.bx } (w.alloc (.cells arr ty)) := by
  have hns : ¬ e.sl s := fun hh => by have := (hr.sl s).1 hh; simp [hs] at this
  have hne : ∀ t,e.sl t → t ≠ s := fun t ht he => hns (he ▸ ht)
  have hx : Ext L e w L (e.qC s w.heap.size) (w.alloc (.cells arr ty)) :=
    { sub := fun _ _ hb => hb,kept := fun _ _ hb => cE _ (hr.nG _ _ hb),sl := fun t ht => ⟨.inl ht,aj _ _ (hne _ ht)⟩,na := VI _,
      av := fun _ _ => ⟨VI _,fun _ => ⟨rfl,rfl,rfl,rfl,rfl⟩⟩,nm := VI _,mp := fun _ _ => rfl }
  have hnew : (w.alloc (.cells arr ty)).heap[w.heap.size]? = some (.cells arr ty (0,0)) := heap_alloc_new w _
  refine ⟨⟨fun t => ?_,fun t ds hd => ?_,hr.na,hr.aq,fun id a ha hk => ?_,hr.nm,fun id m hm => ?_,fun t ht => ?_,hr.nF,hr.wj,fun t u ht hu heq => ?_,fun t id ht hi hk => ?_,hr.wm,hr.zP,
    fun t b hb => by have := hr.nG t b hb; simp; omega,fun b hb => hr.wide b (by simp at hb; omega),hr.zN.mono hx.sub hx.kept⟩,hx,Fr.alloc _,fun _ _ hb => .inl hb⟩
  . show e.sl t ∨ t = s ↔ _
    rw [dQ (α := Unit)]
    by_cases ht : s = t
    . subst ht; simp
    . rw [if_neg ht,hr.sl t]
      simp [Ne.symm ht]
  . rw [dQ (α := Unit)] at hd
    by_cases ht : s = t
    . subst ht
      rw [if_pos rfl] at hd
      injection hd with hd
      subst hd
      show Block _ (fZ e.bx s w.heap.size s) _ ∧ lL _ _ _ _ (fZ e.bx s w.heap.size s) _
      rw [aM]
      refine ⟨⟨arr,ty,hnew,by omega⟩,fun j c hj => ?_⟩
      obtain ⟨g1,g2⟩ := hc j c hj
      have hjl : j < arr.size := by rw [hz]; exact (Vy.1 hj).1
      refine ⟨g1,arr.getD j undef,?_,g2.mono hx⟩
      rw [cell_of_row _ _ _ _ _ _ hnew]
      simp [Array.getD,hjl]
    . rw [if_neg ht] at hd
      obtain ⟨h1,h2⟩ := hr.bx t ds hd
      show Block _ (fZ e.bx s w.heap.size t) _ ∧ lL _ _ _ _ (fZ e.bx s w.heap.size t) _
      rw [aj _ _ (Ne.symm ht)]
      have := cE (.cells arr ty) h1.lt
      exact ⟨h1.same this,h2.mono hx this⟩
  . obtain ⟨h1,h2,h3,h4,h5⟩ := hr.ar id a ha hk
    have := cE (.cells arr ty) h2.lt
    exact ⟨h1,h2.same this,h3,fun i r hi => (h4 i r hi).mono hx this,h5⟩
  . obtain ⟨es,cl,h1,h2,h3⟩ := hr.mp id m hm
    have hlt := (VV.1 h1).1
    refine ⟨es,cl,(cE _ hlt).trans h1,h2,fun i p hp => ?_⟩
    obtain ⟨g1,x,g2,g3⟩ := h3 i p hp
    exact ⟨g1,x,g2,g3.mono hx⟩
  . show W (fZ e.bx s w.heap.size t) ∧ ∀ u,¬ L u (fZ e.bx s w.heap.size t)
    rcases ht with ht | rfl
    . rw [aj _ _ (hne _ ht)]
      exact hr.uv t ht
    . rw [aM]
      exact ⟨hr.wide _ (VI _),fun u hu => by have := hr.nG _ _ hu; omega⟩
  . change fZ e.bx s w.heap.size t = fZ e.bx s w.heap.size u at heq
    rcases ht with ht | rfl <;> rcases hu with hu | rfl
    . rw [aj _ _ (hne _ ht),aj _ _ (hne _ hu)] at heq
      exact hr.zM t u ht hu heq
    . rw [aj _ _ (hne _ ht),aM] at heq
      have := hr.lj ht; omega
    . rw [aj _ _ (hne _ hu),aM] at heq
      have := hr.lj hu; omega
    . rfl
  . show fZ e.bx s w.heap.size t ≠ e.ar id
    rcases ht with ht | rfl
    . rw [aj _ _ (hne _ ht)]
      exact hr.wk t id ht hi hk
    . rw [aM]
      have := hr.ir hi hk
      omega
theorem setRow_other {g b:Nat} (w:World) (arr:Array Value) (hne:b≠g):(w.setRow g arr).heap[b]?=w.heap[b]?:=by
 simp only[World.setRow,Array.getElem?_modify]
 rw[if_neg (Ne.symm hne)]
theorem Fr.setRow {g:Nat} (hg:W g) (arr:Array Value):Fr W w (w.setRow g arr):=
 ⟨rfl,rfl,rfl,by simp,fun b _ hb=>setRow_other w arr (fun he=>hb (he ▸ hg)),Nat.le_refl _⟩
theorem HR.other (_hr:HR N L e W h w) {g:Nat} (arr:Array Value) (hl:∀t,¬L t g):Ext L e w L e (w.setRow g arr):=
  { Ext.refl L e w with kept:=fun _ _ hb=>setRow_other w arr (fun he=>hl _ (he ▸ hb)) }
theorem fy {b g:Nat} {es:Array MapEntry} {cl:Nat} {arr:Array Value} {ty:TypeId} (h1:w.heap[b]?=some (.map es cl)) (h2:w.heap[g]?=some (.cells arr ty (0,0))):b≠g:=by
 rintro rfl
 rw[h1]at h2
 cases h2
theorem Nx.DL (hr:HR N L e W h w) {s off:Nat} {cs news:List V} {arr:Array Value} {ty:TypeId} {vs:List Value} (hs:aG s h.bx=some cs)
  (hg:w.heap[e.bx s]?=some (.cells arr ty (0,0))) (hfit:off+news.length≤cs.length) (hz:vs.length=news.length)
  (hc:∀(j:Nat) (c:V),news[j]?=some c→c.dT=true∧∃v,vs[j]?=some v∧VR N L e w c v):
  Nx N W L e w L e { h with bx:=ec s (setAt cs off news) h.bx } (w.setRow (e.bx s) (arr.toList.take off++vs++arr.toList.drop (off+vs.length)).toArray):=by
 have hsl:e.sl s:=(hr.sl s).2 (by rw[hs]; rfl)
 have hx:=hr.other (g:=e.bx s) (arr.toList.take off++vs++arr.toList.drop (off+vs.length)).toArray (hr.uv s hsl).2
 obtain⟨⟨arr',ty',hb1,hb2⟩,hcells⟩:=hr.bx s cs hs
 rw[hg]at hb1
 injection hb1 with hb1
 injection hb1 with hb1 hb3
 subst hb1; subst hb3
 have hsame:=setRow_heap w (e.bx s) arr (arr.toList.take off++vs++arr.toList.drop (off+vs.length)).toArray ty (0,0) hg
 refine⟨⟨fun t=>?_,fun t ds hd=>?_,hr.na,hr.aq,fun id a ha hk=>?_,hr.nm,fun id m hm=>?_,hr.uv,hr.nF,hr.wj,hr.zM,hr.wk,hr.wm,hr.zP,
  fun t b hb=>by have:=hr.nG t b hb; simpa using this,fun b hb=>hr.wide b (by simpa using hb),hr.zN.mono hx.sub hx.kept⟩,hx,Fr.setRow (hr.uv s hsl).1 _,fun _ _ hb=>.inl hb⟩
 .rw[dQ (α:=Unit)]
  by_cases ht:s=t
  .subst ht; simp[hsl]
  .rw[if_neg ht]; exact hr.sl t
 .rw[dQ (α:=Unit)]at hd
  by_cases ht:s=t
  .subst ht
   rw[if_pos rfl]at hd
   injection hd with hd
   subst hd
   refine⟨⟨_,ty,hsame,?_⟩,fun j c hj=>?_⟩
   .simp[setAt]; omega
   .rw[cell_of_row _ _ _ _ _ _ hsame]
    unfold setAt at hj
    simp only[List.getElem?_toArray]
    have hoff:off≤arr.toList.length:=by simp; omega
    rcases VG j off with h1|h1
    .rw[List.append_assoc,List.getElem?_append_left (by simp; omega),List.getElem?_take,if_pos h1]at hj
     obtain⟨g1,v,g2,g3⟩:=hcells j c hj
     rw[cell_of_row _ _ _ _ _ _ hg]at g2
     refine⟨g1,v,?_,g3.mono hx⟩
     rw[List.append_assoc,List.getElem?_append_left (by simp; omega),List.getElem?_take,if_pos h1,Array.getElem?_toList]
     exact g2
    .rcases VG j (off+news.length)with h2|h2
     .rw[List.append_assoc,List.getElem?_append_right (by simp; omega),List.getElem?_append_left (by simp; omega)]at hj
      have hl1:(cs.take off).length=off:=by simp; omega
      rw[hl1]at hj
      obtain⟨g1,v,g2,g3⟩:=hc _ c hj
      refine⟨g1,v,?_,g3.mono hx⟩
      rw[List.append_assoc,List.getElem?_append_right (by simp; omega),List.getElem?_append_left (by simp; omega)]
      have hl2:(arr.toList.take off).length=off:=by simp; omega
      rw[hl2]
      exact g2
     .rw[List.getElem?_append_right (by simp; omega),List.getElem?_drop]at hj
      have hl1:off+news.length+(j - (cs.take off++news).length)=j:=by simp; omega
      rw[hl1]at hj
      obtain⟨g1,v,g2,g3⟩:=hcells j c hj
      rw[cell_of_row _ _ _ _ _ _ hg]at g2
      refine⟨g1,v,?_,g3.mono hx⟩
      rw[List.getElem?_append_right (by simp; omega),List.getElem?_drop]
      have hl2:off+vs.length+(j - (arr.toList.take off++vs).length)=j:=by simp; omega
      rw[hl2,VU]
      exact g2
  .rw[if_neg ht]at hd
   obtain⟨h1,h2⟩:=hr.bx t ds hd
   have hne:e.bx t≠e.bx s:=fun he=>ht (hr.zM s t hsl ((hr.sl t).2 (by rw[hd]; rfl)) he.symm)
   have:=setRow_other w (arr.toList.take off++vs++arr.toList.drop (off+vs.length)).toArray hne
   exact⟨h1.same this,h2.mono hx this⟩
 .obtain⟨h1,h2,h3,h4,h5⟩:=hr.ar id a ha hk
  have hid:id<e.na:=by rw[hr.na]; exact(Vy.1 ha).1
  have hk':e.ak id≠0:=by rw[(hr.aq id a ha).2.1]; exact hk
  have:=setRow_other w (arr.toList.take off++vs++arr.toList.drop (off+vs.length)).toArray (hr.wk s id hsl hid hk').symm
  exact⟨h1,h2.same this,h3,fun i r hi=>(h4 i r hi).mono hx this,h5⟩
 .obtain⟨es,cl,h1,h2,h3⟩:=hr.mp id m hm
  refine⟨es,cl,(setRow_other w _ (fy h1 hg)).trans h1,h2,fun i p hp=>?_⟩
  obtain⟨g1,x,g2,g3⟩:=h3 i p hp
  exact⟨g1,x,g2,g3.mono hx⟩
end Go.Pv
namespace Go.Pv
variable {N:Nat→Nat} {W:Nat→Prop} {L L':Lx} {e e':bn} {h:af} {w w':World}
def bn.dv (e:bn) (b d c:Nat) (a:aL):bn:=
  { e with na:=e.na+1,ar:=fZ e.ar e.na b,ad:=fZ e.ad e.na d,cap:=fZ e.cap e.na c,av:=fZ e.av e.na a.aq,ak:=fZ e.ak e.na a.k,an:=fZ e.an e.na a.size }
def bn.bA (e:bn) (id b d c:Nat) (a:aL):bn:=
  { e with ar:=fZ e.ar id b,ad:=fZ e.ad id d,cap:=fZ e.cap id c,av:=fZ e.av id a.aq,ak:=fZ e.ak id a.k,an:=fZ e.an id a.size }
def H6 (N:Nat→Nat) (L:Lx) (e:bn) (w:World) (b d:Nat) (a:aL):Prop:=
 ∀(i:Nat) (r:List V),a.rows[i]?=some r→fK N L e w b (d+i*a.k) r
theorem bP {i n:Nat} (h:i<n):i≠n:=by omega
theorem Nx.wx (hr : HR N L e W h w) {b d c : Nat} (a : aL) (hW : W b) (hL : ∀ t,¬ L t b) (hbx : ∀ s,e.sl s → e.bx s ≠ b) (hbar : ∀ id,id < e.na → e.ak id ≠ 0 → e.ar id ≠ b)
    (hk0 : a.k ≠ 0) (hc : a.size ≤ c) (hb : Block w b (d + c * a.k)) (hk : ∀ r ∈ a.rows,r.length = a.k) (hrows : H6 N L e w b d a) (hp : bU a.body) :
    Nx N W L e w L (e.dv b d c a) { h with ar := h.ar ++ [a] } w := by
  have hx : Ext L e w L (e.dv b d c a) w :=
    { Ext.refl L e w with
      sl := fun s hs => ⟨hs,rfl⟩,na := Nat.le_succ _
      av := fun id hi => by
        have hn := bP hi
        exact ⟨Nat.le_of_eq (aj _ _ hn).symm,fun _ => ⟨aj _ _ hn,aj _ _ hn,aj _ _ hn,aj _ _ hn,aj _ _ hn⟩⟩ }
  have hcase : ∀ (id : Nat) (a' : aL),(h.ar ++ [a])[id]? = some a' → (id < e.na ∧ h.ar[id]? = some a') ∨ (id = e.na ∧ a' = a) := by
    intro id a' ha
    rw [hr.na]
    rcases VG id h.ar.length with h1 | h1
    . rw [VC h1] at ha
      exact .inl ⟨h1,ha⟩
    . rw [VM h1] at ha
      have : id - h.ar.length = 0 := by
        rcases VG 0 (id - h.ar.length) with h2 | h2
        . rw [List.getElem?_eq_none (by simp; omega)] at ha; cases ha
        . omega
      rw [this] at ha
      simp at ha
      exact .inr ⟨by omega,ha.symm⟩
  refine ⟨⟨hr.sl,fun s cs hs => ?_,by simp [bn.dv,hr.na],fun id a' ha => ?_,fun id a' ha hk' => ?_,hr.nm,fun id m hm => ?_,hr.uv,fun id hi hk' => ?_,hr.wj,hr.zM,fun s id hs hi hk' => ?_,fun i j hi hj hki hkj heq => ?_,hr.zP,hr.nG,hr.wide,hr.zN⟩,
    hx,Fr.refl _ _,fun _ _ hb => .inl hb⟩
  . obtain ⟨h1,h2⟩ := hr.bx s cs hs
    exact ⟨h1,h2.mono hx rfl⟩
  . rcases hcase id a' ha with ⟨hi,ha⟩ | ⟨rfl,rfl⟩
    . simp only [bn.dv,aj _ _ (bP hi)]
      exact hr.aq id a' ha
    . simp [bn.dv,aM,hk0]
  . rcases hcase id a' ha with ⟨hi,ha⟩ | ⟨rfl,rfl⟩
    . simp only [bn.dv,aj _ _ (bP hi)]
      obtain ⟨h1,h2,h3,h4,h5⟩ := hr.ar id a' ha hk'
      exact ⟨h1,h2,h3,fun i r hi' => (h4 i r hi').mono hx rfl,h5⟩
    . simp only [bn.dv,aM]
      exact ⟨hc,hb,hk,fun i r hi' => (hrows i r hi').mono hx rfl,hp⟩
  . obtain ⟨es,cl,h1,h2,h3⟩ := hr.mp id m hm
    refine ⟨es,cl,h1,h2,fun i p hp' => ?_⟩
    obtain ⟨g1,x,g2,g3⟩ := h3 i p hp'
    exact ⟨g1,x,g2,g3⟩
  . change id < e.na + 1 at hi
    rcases VG id e.na with h1 | h1
    . simp only [bn.dv,aj _ _ (bP h1)] at hk' ⊢
      exact hr.nF id h1 hk'
    . obtain rfl : id = e.na := by omega
      simp only [bn.dv,aM]
      exact ⟨hW,hL⟩
  . change id < e.na + 1 at hi
    rcases VG id e.na with h1 | h1
    . simp only [bn.dv,aj _ _ (bP h1)] at hk' ⊢
      exact hr.wk s id hs h1 hk'
    . obtain rfl : id = e.na := by omega
      simp only [bn.dv,aM]
      exact hbx s hs
  . change i < e.na + 1 at hi
    change j < e.na + 1 at hj
    rcases VG i e.na with h1 | h1 <;> rcases VG j e.na with h2 | h2
    . simp only [bn.dv,aj _ _ (bP h1),aj _ _ (bP h2)] at hki hkj heq
      exact hr.wm i j h1 h2 hki hkj heq
    . obtain rfl : j = e.na := by omega
      simp only [bn.dv,aj _ _ (bP h1),aM] at hki heq
      exact absurd heq (hbar i h1 hki)
    . obtain rfl : i = e.na := by omega
      simp only [bn.dv,aj _ _ (bP h2),aM] at hkj heq
      exact absurd heq.symm (hbar j h2 hkj)
    . omega
theorem iy {α:Type} {l:List α} {i j:Nat} {x y:α} (hh:(l.set i x)[j]?=some y):(j=i∧y=x)∨(j≠i∧l[j]?=some y):=by
 by_cases hji:j=i
 .subst hji
  have hl:j<l.length:=by
   have:=(Vy.1 hh).1
   simpa using this
  rw[VY hl]at hh
  injection hh with hh
  exact .inl ⟨rfl,hh.symm⟩
 .rw[VX (Ne.symm hji)]at hh
  exact .inr ⟨hji,hh⟩
theorem Nx.pW (hr : HR N L e W h w) {id b d c : Nat} {a0 : aL} (a : aL) (h0 : h.ar[id]? = some a0) (hk0 : a0.k ≠ 0)
    (hother : ∀ g,g < w.heap.size → g ≠ e.ar id → w'.heap[g]? = w.heap[g]?) (hsz : w.heap.size ≤ w'.heap.size) (hfr : Fr W w w')
    (hv : a0.aq < a.aq ∨ (a.aq = a0.aq ∧ b = e.ar id ∧ d = e.ad id ∧ c = e.cap id ∧ a.k = a0.k ∧ a.size = a0.size)) (hloc : b = e.ar id ∨ w.heap.size ≤ b)
    (hk1 : a.k ≠ 0) (hc : a.size ≤ c) (hb : Block w' b (d + c * a.k)) (hk : ∀ r ∈ a.rows,r.length = a.k)
    (hrows : ∀ (i : Nat) (r : List V),a.rows[i]? = some r → ∀ (j : Nat) (x : V),r[j]? = some x → x.calm = true ∧ ∃ v,w'.cell? ⟨b,d + i * a.k + j,none⟩ = some v ∧ VR N L e w x v) (hp : bU a.body) :
    Nx N W L e w L (e.bA id b d c a) { h with ar := h.ar.set id a } w' := by
  have hid : id < e.na := by rw [hr.na]; exact (Vy.1 h0).1
  obtain ⟨v1,v2,v3,_⟩ := hr.aq id a0 h0
  have hak : e.ak id ≠ 0 := by rw [v2]; exact hk0
  have hown := hr.nF id hid hak
  have hx : Ext L e w L (e.bA id b d c a) w' :=
    { Ext.refl L e w with
      kept := fun t g hg => hother g (hr.nG _ _ hg) (fun he => hown.2 t (he ▸ hg))
      sl := fun s hs => ⟨hs,rfl⟩,na := VI _
      av := fun j hj => by
        by_cases hji : j = id
        . subst hji
          simp only [bn.bA,aM]
          rcases hv with hv | ⟨g1,g2,g3,g4,g5,g6⟩
          . exact ⟨by omega,fun he => by omega⟩
          . exact ⟨by omega,fun _ => ⟨g2,g3,g4,by omega,by omega⟩⟩
        . exact ⟨Nat.le_of_eq (aj _ _ hji).symm,fun _ => ⟨aj _ _ hji,aj _ _ hji,aj _ _ hji,aj _ _ hji,aj _ _ hji⟩⟩ }
  have hWb : W b ∧ ∀ t,¬ L t b := by
    rcases hloc with rfl | hl
    . exact hown
    . exact ⟨hr.wide _ hl,fun t ht => by have := hr.nG _ _ ht; omega⟩
  refine ⟨⟨hr.sl,fun s cs hs => ?_,by simp [bn.bA,hr.na],fun j a' ha => ?_,fun j a' ha hk' => ?_,hr.nm,fun j m hm => ?_,hr.uv,fun j hj hk' => ?_,hr.wj,hr.zM,fun s j hs hj hk' => ?_,fun i j hi hj hki hkj heq => ?_,hr.zP,
    fun t g hg => by have := hr.nG t g hg; omega,fun g hg => hr.wide g (by omega),hr.zN.mono hx.sub hx.kept⟩,hx,hfr,fun _ _ hb => .inl hb⟩
  . obtain ⟨h1,h2⟩ := hr.bx s cs hs
    have hsl := (hr.sl s).2 (by rw [hs]; rfl)
    have := hother _ h1.lt (hr.wk s id hsl hid hak)
    exact ⟨h1.same this,h2.mono hx this⟩
  . rcases iy ha with ⟨rfl,rfl⟩ | ⟨hne,ha⟩
    . simp [bn.bA,aM,hk1]
    . simp only [bn.bA,aj _ _ hne]
      exact hr.aq j a' ha
  . rcases iy ha with ⟨rfl,rfl⟩ | ⟨hne,ha⟩
    . simp only [bn.bA,aM]
      refine ⟨hc,hb,hk,fun i r hi j' x hj' => ?_,hp⟩
      obtain ⟨g1,v,g2,g3⟩ := hrows i r hi j' x hj'
      exact ⟨g1,v,g2,g3.mono hx⟩
    . simp only [bn.bA,aj _ _ hne]
      obtain ⟨h1,h2,h3,h4,h5⟩ := hr.ar j a' ha hk'
      have hj : j < e.na := by rw [hr.na]; exact (Vy.1 ha).1
      have hkj : e.ak j ≠ 0 := by rw [(hr.aq j a' ha).2.1]; exact hk'
      have := hother _ h2.lt (fun he => hne (hr.wm j id hj hid hkj hak he))
      exact ⟨h1,h2.same this,h3,fun i r hi' => (h4 i r hi').mono hx this,h5⟩
  . obtain ⟨es,cl,h1,h2,h3⟩ := hr.mp j m hm
    obtain ⟨_,⟨arr,ty,h4,_⟩,_⟩ := hr.ar id a0 h0 hk0
    refine ⟨es,cl,(hother _ (VV.1 h1).1 (fy h1 h4)).trans h1,h2,fun i p hp' => ?_⟩
    obtain ⟨g1,x,g2,g3⟩ := h3 i p hp'
    exact ⟨g1,x,g2,g3.mono hx⟩
  . by_cases hji : j = id
    . subst hji
      simp only [bn.bA,aM]
      exact hWb
    . simp only [bn.bA,aj _ _ hji] at hk' ⊢
      exact hr.nF j hj hk'
  . by_cases hji : j = id
    . subst hji
      simp only [bn.bA,aM]
      rcases hloc with rfl | hl
      . exact hr.wk s j hs hid hak
      . have := hr.lj hs; omega
    . simp only [bn.bA,aj _ _ hji] at hk' ⊢
      exact hr.wk s j hs hj hk'
  . by_cases hii : i = id <;> by_cases hjj : j = id
    . omega
    . subst hii
      simp only [bn.bA,aM,aj _ _ hjj] at hkj heq
      rcases hloc with rfl | hl
      . exact hr.wm i j hid hj hak hkj heq
      . have := hr.ir hj hkj; omega
    . subst hjj
      simp only [bn.bA,aM,aj _ _ hii] at hki heq
      rcases hloc with rfl | hl
      . exact hr.wm i j hi hid hki hak heq
      . have := hr.ir hi hki; omega
    . simp only [bn.bA,aj _ _ hii,aj _ _ hjj] at hki hkj heq
      exact hr.wm i j hi hj hki hkj heq
theorem Nx.F1 (hr : HR N L e W h w) {id : Nat} {a0 : aL} (a : aL) (h0 : h.ar[id]? = some a0) (hv : a0.aq < a.aq) (hk : a.k = 0) (hre : a.rows = []) :
    Nx N W L e w L (e.bA id (e.ar id) (e.ad id) (e.cap id) a) { h with ar := h.ar.set id a } w := by
  have hid : id < e.na := by rw [hr.na]; exact (Vy.1 h0).1
  obtain ⟨v1,v2,v3,_⟩ := hr.aq id a0 h0
  have hx : Ext L e w L (e.bA id (e.ar id) (e.ad id) (e.cap id) a) w :=
    { Ext.refl L e w with
      sl := fun s hs => ⟨hs,rfl⟩,na := VI _
      av := fun j hj => by
        by_cases hji : j = id
        . subst hji
          simp only [bn.bA,aM]
          exact ⟨by omega,fun he => by omega⟩
        . exact ⟨Nat.le_of_eq (aj _ _ hji).symm,fun _ => ⟨aj _ _ hji,aj _ _ hji,aj _ _ hji,aj _ _ hji,aj _ _ hji⟩⟩ }
  have hak : ∀ j,(e.bA id (e.ar id) (e.ad id) (e.cap id) a).ak j ≠ 0 → j ≠ id ∧ e.ak j ≠ 0 := by
    intro j hj
    by_cases hji : j = id
    . subst hji; simp [bn.bA,aM,hk] at hj
    . simp only [bn.bA,aj _ _ hji] at hj
      exact ⟨hji,hj⟩
  refine ⟨⟨hr.sl,fun s cs hs => ?_,by simp [bn.bA,hr.na],fun j a' ha => ?_,fun j a' ha hk' => ?_,hr.nm,fun j m hm => ?_,hr.uv,fun j hj hk' => ?_,hr.wj,hr.zM,fun s j hs hj hk' => ?_,fun i j hi hj hki hkj heq => ?_,hr.zP,
    hr.nG,hr.wide,hr.zN⟩,hx,Fr.refl _ _,fun _ _ hb => .inl hb⟩
  . obtain ⟨h1,h2⟩ := hr.bx s cs hs
    exact ⟨h1,h2.mono hx rfl⟩
  . rcases iy ha with ⟨rfl,rfl⟩ | ⟨hne,ha⟩
    . simp [bn.bA,aM,hre]
    . simp only [bn.bA,aj _ _ hne]
      exact hr.aq j a' ha
  . rcases iy ha with ⟨rfl,rfl⟩ | ⟨hne,ha⟩
    . exact absurd hk hk'
    . simp only [bn.bA,aj _ _ hne]
      obtain ⟨h1,h2,h3,h4,h5⟩ := hr.ar j a' ha hk'
      exact ⟨h1,h2,h3,fun i r hi' => (h4 i r hi').mono hx rfl,h5⟩
  . obtain ⟨es,cl,h1,h2,h3⟩ := hr.mp j m hm
    exact ⟨es,cl,h1,h2,h3⟩
  . obtain ⟨hji,hkj⟩ := hak j hk'
    simp only [bn.bA,aj _ _ hji]
    exact hr.nF j hj hkj
  . obtain ⟨hji,hkj⟩ := hak j hk'
    simp only [bn.bA,aj _ _ hji]
    exact hr.wk s j hs hj hkj
  . obtain ⟨hii,hki⟩ := hak i hki
    obtain ⟨hjj,hkj⟩ := hak j hkj
    simp only [bn.bA,aj _ _ hii,aj _ _ hjj] at heq
    exact hr.wm i j hi hj hki hkj heq
def bn.fg (e:bn) (b:Nat):bn:={ e with nm:=e.nm+1,mp:=fZ e.mp e.nm b }
theorem Nx.H7 (hr:HR N L e W h w):Nx N W L e w L (e.fg w.heap.size) { h with mp:=h.mp++[[]] } (w.alloc (.map #[] 0)):=by
  have hs:∀b,b<w.heap.size→(w.alloc (.map #[] 0)).heap[b]?=w.heap[b]?:=fun b hb=>cE _ hb
  have hx:Ext L e w L (e.fg w.heap.size) (w.alloc (.map #[] 0)):=
    { sub:=fun _ _ hb=>hb,kept:=fun _ _ hb=>hs _ (hr.nG _ _ hb),sl:=fun s h=>⟨h,rfl⟩,na:=VI _,av:=fun _ _=>⟨VI _,fun _=>⟨rfl,rfl,rfl,rfl,rfl⟩⟩
      nm:=Nat.le_succ _,mp:=fun id hi=>aj _ _ (bP hi) }
  have hnew:(w.alloc (.map #[] 0)).heap[w.heap.size]?=some (.map #[] 0):=heap_alloc_new w _
  refine⟨⟨hr.sl,fun s cs hc=>?_,hr.na,hr.aq,fun id a ha hk=>?_,by simp[bn.fg,hr.nm],fun id m hm=>?_,hr.uv,hr.nF,fun id hi=>?_,hr.zM,hr.wk,hr.wm,fun i j hi hj heq=>?_,
    fun t b hb=>by have:=hr.nG t b hb; simp; omega,fun b hb=>hr.wide b (by simp at hb; omega),hr.zN.mono hx.sub hx.kept⟩,hx,Fr.alloc _,fun _ _ hb=>.inl hb⟩
  . obtain⟨h1,h2⟩:=hr.bx s cs hc
    exact⟨h1.same (hs _ h1.lt),h2.mono hx (hs _ h1.lt)⟩
  . obtain⟨h1,h2,h3,h4,h5⟩:=hr.ar id a ha hk
    exact⟨h1,h2.same (hs _ h2.lt),h3,fun i r hi=>(h4 i r hi).mono hx (hs _ h2.lt),h5⟩
  . rcases VG id h.mp.length with h1|h1
    . change (h.mp++[[]])[id]?=some m at hm
      rw[VC h1]at hm
      have hi:id<e.nm:=by rw[hr.nm]; exact h1
      obtain⟨es,cl,h1,h2,h3⟩:=hr.mp id m hm
      simp only[bn.fg,aj _ _ (bP hi)]
      refine⟨es,cl,(hs _ (VV.1 h1).1).trans h1,h2,fun i p hp=>?_⟩
      obtain⟨g1,x,g2,g3⟩:=h3 i p hp
      exact⟨g1,x,g2,g3.mono hx⟩
    . change (h.mp++[[]])[id]?=some m at hm
      rw[VM h1]at hm
      have:id - h.mp.length=0:=by
        rcases VG 0 (id - h.mp.length)with h2|h2
        . rw[List.getElem?_eq_none (by simp; omega)]at hm; cases hm
        . omega
      rw[this]at hm
      simp at hm
      subst hm
      obtain rfl:id=e.nm:=by rw[hr.nm]; omega
      simp only[bn.fg,aM]
      exact⟨#[],0,hnew,rfl,fun i p hp=>by simp at hp⟩
  . change id<e.nm+1 at hi
    rcases VG id e.nm with h1|h1
    . simp only[bn.fg,aj _ _ (bP h1)]
      exact hr.wj id h1
    . obtain rfl:id=e.nm:=by omega
      simp only[bn.fg,aM]
      exact⟨hr.wide _ (VI _),fun u hu=>by have:=hr.nG _ _ hu; omega⟩
  . change i<e.nm+1 at hi
    change j<e.nm+1 at hj
    rcases VG i e.nm with h1|h1<;>rcases VG j e.nm with h2|h2
    . simp only[bn.fg,aj _ _ (bP h1),aj _ _ (bP h2)]at heq
      exact hr.zP i j h1 h2 heq
    . obtain rfl:j=e.nm:=by omega
      simp only[bn.fg,aj _ _ (bP h1),aM]at heq
      have:=hr.xF h1; omega
    . obtain rfl:i=e.nm:=by omega
      simp only[bn.fg,aj _ _ (bP h2),aM]at heq
      have:=hr.xF h2; omega
    . omega
theorem Nx.DM (hr : HR N L e W h w) {id : Nat} {m0 m : List (PV × PV)} {es : Array MapEntry} {cl : Nat} (h0 : h.mp[id]? = some m0) (hz : es.size = m.length)
    (hent : ∀ (i : Nat) (p : PV × PV),m[i]? = some p → ou p.1 = true ∧ ∃ x,es[i]? = some x ∧ pV N L w p x) :
    Nx N W L e w L e { h with mp := h.mp.set id m } { w with heap := w.heap.setIfInBounds (e.mp id) (.map es cl) } := by
  have hid : id < e.nm := by rw [hr.nm]; exact (Vy.1 h0).1
  have hown := hr.wj id hid
  obtain ⟨es0,cl0,h1,_⟩ := hr.mp id m0 h0
  have hlt := (VV.1 h1).1
  have hs : ∀ b,b ≠ e.mp id → ({ w with heap := w.heap.setIfInBounds (e.mp id) (.map es cl) } : World).heap[b]? = w.heap[b]? := fun b hb => by
    show (w.heap.setIfInBounds (e.mp id) (.map es cl))[b]? = _
    rw [Array.getElem?_setIfInBounds_ne (Ne.symm hb)]
  have hself : ({ w with heap := w.heap.setIfInBounds (e.mp id) (.map es cl) } : World).heap[e.mp id]? = some (.map es cl) := by
    show (w.heap.setIfInBounds (e.mp id) (.map es cl))[e.mp id]? = _
    rw [Array.getElem?_setIfInBounds_self_of_lt hlt]
  have hx : Ext L e w L e { w with heap := w.heap.setIfInBounds (e.mp id) (.map es cl) } :=
    { Ext.refl L e w with kept := fun t b hb => hs b (fun he => hown.2 t (he ▸ hb)) }
  refine ⟨⟨hr.sl,fun s cs hc => ?_,hr.na,hr.aq,fun j a ha hk => ?_,by simp [hr.nm],fun j m' hm => ?_,hr.uv,hr.nF,hr.wj,hr.zM,hr.wk,hr.wm,hr.zP,
    fun t b hb => by have := hr.nG t b hb; simpa using this,fun b hb => hr.wide b (by simpa using hb),hr.zN.mono hx.sub hx.kept⟩,hx,⟨rfl,rfl,rfl,by simp,fun b _ hb => hs b (fun he => hb (he ▸ hown.1)),Nat.le_refl _⟩,fun _ _ hb => .inl hb⟩
  . obtain ⟨h2,h3⟩ := hr.bx s cs hc
    obtain ⟨arr,ty,h4,_⟩ := h2.out
    have := hs (e.bx s) (fun he => fy h1 h4 he.symm)
    exact ⟨h2.same this,h3.mono hx this⟩
  . obtain ⟨g1,g2,g3,g4,g5⟩ := hr.ar j a ha hk
    obtain ⟨arr,ty,h4,_⟩ := g2.out
    have := hs (e.ar j) (fun he => fy h1 h4 he.symm)
    exact ⟨g1,g2.same this,g3,fun i r hi => (g4 i r hi).mono hx this,g5⟩
  . rcases iy hm with ⟨rfl,rfl⟩ | ⟨hne,hm⟩
    . refine ⟨es,cl,hself,hz,fun i p hp => ?_⟩
      obtain ⟨g1,x,g2,g3⟩ := hent i p hp
      exact ⟨g1,x,g2,g3.mono hx⟩
    . obtain ⟨es',cl',g1,g2,g3⟩ := hr.mp j m' hm
      have hj : j < e.nm := by rw [hr.nm]; exact (Vy.1 hm).1
      refine ⟨es',cl',(hs _ (fun he => hne (hr.zP j id hj hid he))).trans g1,g2,fun i p hp => ?_⟩
      obtain ⟨k1,x,k2,k3⟩ := g3 i p hp
      exact ⟨k1,x,k2,k3.mono hx⟩
end Go.Pv
namespace Go.Pv
variable {P:Program} {N M:Nat→Nat} {W:Nat→Prop} {L L':Lx} {e e':bn} {h:af} {w w':World} {g:bM→V} {ρ:Operand→Value}
def OR (N M:Nat→Nat) (L:Lx) (e:bn) (w:World) (g:bM→V) (ρ:Operand→Value):Prop:=
 ∀x y,bm N M x=some y→VR N L e w (g y) (ρ x)
def Good (P:Program) (N:Nat→Nat) (W:Nat→Prop) (L:Lx) (e:bn) (h:af) (w:World) (s:Sem Value) (v:V) (t:Tn):Prop:=
 ∃v' w' L' e',s.run P w=.ok v' w'∧Nx N W L e w L' e' (t.apply h) w'∧VR N L' e' w' v v'
theorem Tn.aO (h:af) (rb ra rm:Option Nat) (eX new:Bool) {nD:Option Nat} {base:Nat}:({ rb:=rb,ra:=ra,rm:=rm,eX:=eX,new:=new,nD:=nD,base:=base }:Tn).apply h=h:=by
 cases h; simp[Tn.apply]
theorem Good.pure {s:Sem Value} {v:V} {v':Value} {t:Tn} (hr:HR N L e W h w) (hs:s.run P w=.ok v' w) (hv:VR N L e w v v') (ht:t.apply h=h):Good P N W L e h w s v t:=by
 refine⟨v',w,L,e,hs,?_,hv⟩
 rw[ht]
 exact Nx.refl hr
theorem VR.lK {x:V} {v:Value} (hv:VR N L e w x v) (hc:x.calm=true):v.oneCell'=true:=by
 cases hv with
 |pv p v hp=>cases hp<;>first|rfl|(simp[V.calm]at hc)
 |tl=>rfl
 |own=>rfl
 |ptr=>rfl
 |df=>rfl
 |func=>rfl
 |map=>rfl
 |ej=>rfl
 |agg=>simp[V.calm]at hc
 |dH=>simp[V.calm]at hc
 |any=>simp[V.calm]at hc
theorem VR.Cg {x:V} {v:Value} (hv:VR N L e w x v) (hc:x.dT=true):v.oneCell'=true:=by
 cases x with
 |ptr s o=>cases hv; rfl
 |map i=>cases hv; rfl
 |ej=>cases hv; rfl
 |_=>exact hv.lK hc
theorem V.H8 {x:V} (hc:x.calm=true):x.dT=true:=by
 cases x<;>first|exact hc|(simp[V.calm]at hc; done)
theorem VR.cells {x:V} {v:Value} (hv:VR N L e w x v) (hs:x.sized=true):
  v.cells.size=x.cells.length∧∀(j:Nat) (c:V),x.cells[j]?=some c→VR N L e w c (v.cells.getD j undef):=by
 have key:∀{x:V} {v:Value},VR N L e w x v→x.cells=[x]→v.cells=#[v]→v.cells.size=x.cells.length∧∀(j:Nat) (c:V),x.cells[j]?=some c→VR N L e w c (v.cells.getD j undef):=by
  intro x v hv h1 h2
  rw[h1,h2]
  refine⟨rfl,fun j c hj=>?_⟩
  match j,hj with
  |0,hj=>simp at hj; subst hj; exact hv
  |j+1,hj=>simp at hj
 cases hv with
 |pv p v hp=>
  cases hp with
  |agg=>simp[V.sized]at hs
  |_=>exact key (.pv _ _ (by constructor<;>assumption)) rfl rfl
 |tl rows a hh hsoft=>exact key (.tl rows a hh hsoft) rfl rfl
 |own id aq off len a cap h0 h1 h2 h3=>exact key (.own id aq off len a cap h0 h1 h2 h3) rfl rfl
 |ptr s off hh=>exact key (.ptr s off hh) rfl rfl
 |df id aq row col a h1 h2 h3=>exact key (.df id aq row col a h1 h2 h3) rfl rfl
 |func f cap arr h1 h2=>exact key (.func f cap arr h1 h2) rfl rfl
 |map id hh=>exact key (.map id hh) rfl rfl
 |ej=>exact key .ej rfl rfl
 |agg cs arr h1 h2=>exact⟨h1,h2⟩
 |dH=>simp[V.sized]at hs
 |any=>simp[V.sized]at hs
theorem zT {x:V} (hc:x.cells.all V.calm=true):x.sized=true:=by
 cases x with
 |pv p=>cases p<;>first|rfl|(simp[V.cells,V.calm]at hc)
 |any=>simp[V.cells,V.calm]at hc
 |dH=>simp[V.cells,V.calm]at hc
 |_=>rfl
theorem lM {x:V} (hc:x.cells.all V.dT=true):x.sized=true:=by
 cases x with
 |pv p=>cases p<;>first|rfl|(simp[V.cells,V.dT,V.calm]at hc)
 |any=>simp[V.cells,V.dT,V.calm]at hc
 |dH=>simp[V.cells,V.dT,V.calm]at hc
 |_=>rfl
theorem bl {arr:Array Value} {j:Nat} (hj:j<arr.size):arr[j]?=some (arr.getD j undef):=by
 simp[Array.getD,hj]
theorem iZ {t:TypeId} {n:Nat} {ag:Bool} (hl:loadT P t=some (n,ag)):
  (isAgg t).run P w=.ok ag w∧(sizeOf t).run P w=.ok n w∧(ag=false→n=1):=by
 unfold loadT dz cU at hl
 cases hi:P.info? t with
 |none=>simp[hi]at hl
 |some i=>
  simp only[hi,Option.map_some]at hl
  cases hu:P.underlying t with
  |none=>simp[hu]at hl
  |some d=>
   simp only[hu]at hl
   have hsz:(sizeOf t).run P w=.ok i.size w:=by simp[sizeOf,typeInfo,hi]
   rw[hsz]
   cases d<;>simp at hl<;>(first
    |(obtain⟨h1,h2,h3⟩:=hl; subst h2; subst h3; simp[isAgg,underlying,hu,h1])
    |(obtain⟨h2,h3⟩:=hl; subst h2; subst h3; simp[isAgg,underlying,hu]))
theorem fh {t:TypeId} {n:Nat} (hl:cU P t=some n):(sizeOf t).run P w=.ok n w:=by
 unfold cU at hl
 cases hi:P.info? t with
 |none=>simp[hi]at hl
 |some i=>simp[hi]at hl; simp[sizeOf,typeInfo,hi,hl]
theorem dR (b off j:Nat):(⟨b,off,none⟩:Addr).add j=⟨b,off+j,none⟩:=by
 unfold Addr.add; split<;>simp_all
theorem xG {t:TypeId} {n:Nat} {ag:Bool} (hl:loadT P t=some (n,ag)) {b off:Nat} {cs:List V} (hn:cs.length=n)
  (hc:∀(j:Nat) (c:V),cs[j]?=some c→∃v,w.cell? ⟨b,off+j,none⟩=some v∧VR N L e w c v) {v:V} (hv:ey ag cs=some v):
  ∃v',(loadVar t ⟨b,off,none⟩).run P w=.ok v' w∧VR N L e w v v':=by
 obtain⟨h1,h2,h3⟩:=iZ (w:=w) hl
 let f:Nat→Value:=fun j=>(w.cell? ⟨b,off+j,none⟩).getD undef
 have hf:∀(j:Nat) (c:V),cs[j]?=some c→w.cell? ⟨b,off+j,none⟩=some (f j)∧VR N L e w c (f j):=by
  intro j c hj
  obtain⟨v,g1,g2⟩:=hc j c hj
  simp only[f,g1,Option.getD_some]
  exact⟨trivial,g2⟩
 cases ag with
 |true=>
  have hv':V.agg cs=v:=by simpa [ey]using hv
  subst hv'
  have hload:=run_loadCells (P:=P) w ⟨b,off,none⟩ n f (fun j hj=>by
   rw[dR]
   exact(hf j cs[j] (VA (by omega))).1)
  refine⟨.agg ((List.range n).map f).toArray,by simp[loadVar,h1,h2,hload],.agg cs _ (by simp[hn]) (fun j c hj=>?_)⟩
  have hjl:j<n:=by rw[← hn]; exact(Vy.1 hj).1
  have:=(hf j c hj).2
  simpa [Array.getD,hjl]using this
 |false=>
  have h1':=h3 rfl
  subst h1'
  match cs,hn with
  |[c],_=>
   have hv':c=v:=by simpa [ey]using hv
   subst hv'
   obtain⟨g1,g2⟩:=hf 0 c rfl
   simp only[Nat.add_zero]at g1
   refine⟨f 0,?_,g2⟩
   simp[loadVar,h1,g1]
theorem ky {α:Type} {off n:Nat} {l r:List α} (hh:takeN off n l=some r):r.length=n∧off+n≤l.length∧∀(j:Nat) (x:α),r[j]?=some x→l[off+j]?=some x:=by
 unfold takeN at hh
 split at hh
 .rename_i hle
  injection hh with hh
  subst hh
  refine⟨by simp; omega,hle,fun j x hj=>?_⟩
  rw[VN]at hj
  split at hj
  .rwa [Wg]at hj
  .cases hj
 .cases hh
theorem dA {l:List PV} {j:Nat} {c:V} (hj:(l.map V.pv)[j]?=some c):∃p,l[j]?=some p∧c=.pv p:=by
 rw[VF]at hj
 cases hl:l[j]? with
 |none=>simp[hl]at hj
 |some p=>simp[hl]at hj; exact⟨p,rfl,hj.symm⟩
theorem bB {id aq:Nat} {a:aL} (hh:aF h id aq=some a):h.ar[id]?=some a∧a.aq=aq:=by
 unfold aF at hh
 cases hg:h.ar[id]? with
 |none=>simp[hg]at hh
 |some x=>
  simp only[hg]at hh
  split at hh
  .injection hh with hh; subst hh; exact⟨rfl,by assumption⟩
  .cases hh
theorem qD (hr:HR N L e W h w) {n:Nat} {x:V} {v:Value} (hx:VR N L e w x v) {cs:List V} {t:Tn} (hh:loadAt h n x=some (cs,t)):
  t.apply h=h∧cs.length=n∧∃b off,v=.pointer (some ⟨b,off,none⟩)∧∀(j:Nat) (c:V),cs[j]?=some c→∃v',w.cell? ⟨b,off+j,none⟩=some v'∧VR N L e w c v':=by
 unfold loadAt at hh
 split at hh
 .rename_i tg ds
  cases hl:takeN 0 n ds with
  |none=>simp[hl]at hh
  |some l=>
   simp[hl]at hh
   obtain⟨rfl,rfl⟩:=hh
   obtain⟨k1,k2,k3⟩:=ky hl
   cases hx with
   |pv _ _ hp=>
    cases hp with
    |ro _ _ b off vs ha hcell hv h1=>
     refine⟨Tn.aO h _ _ _ _ _,by simp[k1],b,off,rfl,fun j c hj=>?_⟩
     obtain⟨p,hp,rfl⟩:=dA hj
     have:=k3 j p hp
     rw[WY]at this
     exact⟨vs j,hcell j p this,.pv _ _ (hv j p this)⟩
 .rename_i slot off
  cases hs:aG slot h.bx with
  |none=>simp[hs]at hh
  |some ds=>
   simp only[hs]at hh
   cases hl:takeN off n ds with
   |none=>simp[hl]at hh
   |some l=>
    simp[hl]at hh
    obtain⟨rfl,rfl⟩:=hh
    obtain⟨k1,k2,k3⟩:=ky hl
    cases hx with
    |ptr _ _ hsl=>
     refine⟨Tn.aO h _ _ _ _ _,k1,e.bx slot,off,rfl,fun j c hj=>?_⟩
     obtain⟨_,v',g1,g2⟩:=(hr.bx slot ds hs).2 (off+j) c (k3 j c hj)
     exact⟨v',g1,g2⟩
 .rename_i id aq row col
  cases ho:aF h id aq with
  |none=>simp[ho]at hh
  |some a=>
   simp only[ho]at hh
   obtain⟨ha,hver⟩:=bB ho
   obtain⟨e1,e2,e3,e4⟩:=hr.aq id a ha
   cases hx with
   |df _ _ _ _ ad q1 q2 q3=>
    have had:=q3 (by omega)
    subst had
    have key:∀r:List V,a.rows[row]?=some r→takeN col n r=some cs→a.k≠0∧cs.length=n∧∀(j:Nat) (c:V),cs[j]?=some c→∃v',w.cell? ⟨e.ar id,e.ad id+(row*e.ak id+col)+j,none⟩=some v'∧VR N L e w c v':=by
     intro r hrow hl
     obtain⟨k1,k2,k3⟩:=ky hl
     by_cases hk:a.k=0
     .rw[e4 hk]at hrow; simp at hrow
     .obtain⟨g1,g2,g3,g4,g5⟩:=hr.ar id a ha hk
      refine⟨hk,k1,fun j c hj=>?_⟩
      obtain⟨_,v',p1,p2⟩:=g4 row r hrow (col+j) c (k3 j c hj)
      rw[e2,show e.ad id+(row*a.k+col)+j=e.ad id+row*a.k+(col+j) by omega]
      exact⟨v',p1,p2⟩
    split at hh
    .rename_i rows hbody
     cases hrw:rows[row]? with
     |none=>simp[hrw]at hh
     |some r=>
      simp only[hrw]at hh
      cases hl:takeN col n r with
      |none=>simp[hl]at hh
      |some l=>
       simp[hl]at hh
       obtain⟨rfl,rfl⟩:=hh
       have hrow:a.rows[row]?=some (r.map V.pv):=by simp[aL.rows,hbody,hrw]
       have hl':takeN col n (r.map V.pv)=some (l.map V.pv):=by
        unfold takeN at hl ⊢
        simp only[List.length_map]
        split at hl
        .rename_i hle; rw[if_pos hle]; injection hl with hl; subst hl; simp[List.map_take,List.map_drop]
        .cases hl
       obtain⟨_,k2,k3⟩:=key _ hrow hl'
       exact⟨Tn.aO h _ _ _ _ _,k2,_,_,rfl,k3⟩
    .rename_i rows hbody
     cases hrw:rows[row]? with
     |none=>simp[hrw]at hh
     |some r=>
      simp only[hrw]at hh
      cases hl:takeN col n r with
      |none=>simp[hl]at hh
      |some l=>
       simp[hl]at hh
       obtain⟨rfl,rfl⟩:=hh
       have hrow:a.rows[row]?=some r:=by simp[aL.rows,hbody,hrw]
       obtain⟨_,k2,k3⟩:=key _ hrow hl
       exact⟨Tn.aO h _ _ _ _ _,k2,_,_,rfl,k3⟩
 .cases hh
end Go.Pv
namespace Go.Pv
variable {P:Program} {N M:Nat→Nat} {W:Nat→Prop} {L L':Lx} {e e':bn} {h:af} {w w':World} {g:bM→V} {ρ:Operand→Value}
theorem bQ {α β:Type} {f:α→Option β}:∀{l:List α} {r:List β},aA f l=some r→r.length=l.length
 |[],r,hh=>by simp[aA]at hh; subst hh; rfl
 |x::l,r,hh=>by
  unfold aA at hh
  cases hx:f x with
  |none=>simp[hx]at hh
  |some y=>
   cases hl:aA f l with
   |none=>simp[hx,hl]at hh
   |some s=>simp[hx,hl]at hh; subst hh; simp[bQ hl]
theorem bC {α β:Type} {f:α→Option β}:∀{l:List α} {r:List β},aA f l=some r→∀(j:Nat) (y:β),r[j]?=some y→∃x,l[j]?=some x∧f x=some y
 |[],r,hh,j,y,hj=>by simp[aA]at hh; subst hh; simp at hj
 |x::l,r,hh,j,y,hj=>by
  unfold aA at hh
  cases hx:f x with
  |none=>simp[hx]at hh
  |some z=>
   cases hl:aA f l with
   |none=>simp[hx,hl]at hh
   |some s=>
    simp[hx,hl]at hh
    subst hh
    match j with
    |0=>simp at hj; subst hj; exact⟨x,rfl,hx⟩
    |j+1=>simp at hj; simpa using bC hl j y hj
theorem ov {α β:Type} {f:α→Option β} {l:List α} {r:List β} (hh:aA f l=some r) (j:Nat) (x:α) (hj:l[j]?=some x):∃y,r[j]?=some y∧f x=some y:=by
 have hlt:j<r.length:=by rw[bQ hh]; exact(Vy.1 hj).1
 obtain⟨x',h1,h2⟩:=bC hh j r[j] (VA hlt)
 rw[hj]at h1
 injection h1 with h1
 subst h1
 exact⟨_,VA hlt,h2⟩
theorem VR.uN {v:Value} {c:V} (hc:uN v=some c):VR N L e w c v:=by
 unfold Pv.uN at hc
 split at hc<;>(try (cases hc; done))<;>(injection hc with hc; subst hc)
 .exact .pv _ _ (.bool _)
 .exact .pv _ _ (.int _ _)
 .exact .pv _ _ (.str _)
 .exact .pv _ _ .oj
 .exact .pv _ _ .rF
 .exact .tl [] none (.aa 0 [] none default 0 0 (fun _ _=>undef) (by simp) (by simp) (by simp) (by simp[fx]) (by simp[fx]) (by simp[fx]) (by simp[fx])) wv.nil
 .exact .ej
theorem cc {arr:Array Value} {j:Nat} {x:Value} (hj:arr.toList[j]?=some x):arr.getD j undef=x:=by
 rw[VU]at hj
 have hlt:=(VV.1 hj).1
 simp only[Array.getD,hlt,dif_pos]
 exact(VV.1 hj).2
theorem VR.cv {v:Value} {x:V} (hc:Pv.cv v=some x):VR N L e w x v:=by
 unfold Pv.cv at hc
 split at hc
 .rename_i cs
  cases hm:aA Pv.uN cs.toList with
  |none=>simp[hm]at hc
  |some l=>
   simp[hm]at hc
   subst hc
   refine .agg l cs (by simpa using (bQ hm).symm) (fun j c hj=>?_)
   obtain⟨y,h1,h2⟩:=bC hm j c hj
   rw[cc h1]
   exact VR.uN h2
 .exact VR.uN hc
theorem OR.H9 {env:List (Nat×V)} {a:Act} (hE:∀t,VR N L e w (get env t) (a.tmps.getD t undef)):OR N M L e w (bq env) a.eval:=by
 intro x y hxy
 unfold bm at hxy
 split at hxy
 .injection hxy with hxy; subst hxy; exact hE _
 .rename_i v
  cases hc:Pv.cv v with
  |none=>simp[hc]at hxy
  |some z=>simp[hc]at hxy; subst hxy; exact VR.cv hc
 .rename_i f
  split at hxy
  .rename_i hN
   injection hxy with hxy; subst hxy
   show VR N L e w (.func (M f) []) (.func (.func f) #[] #[])
   have:=VR.func (N:=N) (L:=L) (e:=e) (w:=w) (M f) [] #[] rfl (by simp)
   rwa [hN]at this
  .cases hxy
 .cases hxy
theorem fz {t:TypeId} {z:List V} (hz:zeroOf P t=some z):∃i zv,P.info? t=some i∧i.zero=some zv∧z.length=i.size∧zv.cells.size=z.length∧
  (∀(j:Nat) (c:V),z[j]?=some c→uN (zv.cells.getD j undef)=some c)∧(∀w,(zeroValue t).run P w=.ok zv w):=by
 unfold zeroOf at hz
 cases hi:P.info? t with
 |none=>simp[hi]at hz
 |some i=>
  simp only[hi]at hz
  cases hzv:i.zero with
  |none=>simp[hzv]at hz
  |some zv=>
   simp only[hzv]at hz
   cases hm:aA Pv.uN zv.cells.toList with
   |none=>simp[hm]at hz
   |some l=>
    simp only[hm]at hz
    split at hz
    .rename_i hl
     injection hz with hz
     subst hz
     refine⟨i,zv,rfl,hzv,hl,by simpa using (bQ hm).symm,fun j c hj=>?_,fun w=>by simp[zeroValue,typeInfo,hi,hzv]⟩
     obtain⟨y,h1,h2⟩:=bC hm j c hj
     rw[cc h1]
     exact h2
    .cases hz
theorem si (t:TypeId) (v:Value):(newVar t v).run P w=.ok ⟨w.heap.size,0,none⟩ (w.alloc (.cells v.cells t)):=by
 simp[newVar,newRow]
theorem Tn.sj (h:af) (s:Nat) (cs:List V) (new:Bool):({ bx:=some (s,cs),new:=new }:Tn).apply h={ h with bx:=ec s cs h.bx }:=by
 cases h; simp[Tn.apply]
theorem F2 (hr:HR N L e W h w) {t:TypeId} {z:List V} (hz:zeroOf P t=some z) {slot:Nat} (hs:aG slot h.bx=none) (hcalm:z.all V.dT=true):
  Good P N W L e h w (Instr.alloc t true (.tuple #[])) (.ptr slot 0) { bx:=some (slot,z),new:=true }:=by
 obtain⟨i,zv,h1,h2,h3,h4,h5,h6⟩:=fz hz
 have hn:=Nx.DK hr hs (cs:=z) (arr:=zv.cells) t h4 (fun j c hj=>⟨V9.1 hcalm c (Vz hj),VR.uN (h5 j c hj)⟩)
 refine⟨.pointer (some ⟨w.heap.size,0,none⟩),w.alloc (.cells zv.cells t),L,e.qC slot w.heap.size,?_,?_,?_⟩
 .simp[Instr.alloc,h6,si]
 .rw[Tn.sj]; exact hn
 .have:=VR.ptr (N:=N) (L:=L) (e:=e.qC slot w.heap.size) (w:=w.alloc (.cells zv.cells t)) slot 0 (.inr rfl)
  simpa [bn.qC,aM]using this
theorem On (hr:HR N L e W h w) {t:TypeId} {n:Nat} {slot:Nat} (hs:aG slot h.bx=none) {x:V} {xv:Value} (hx:VR N L e w x xv)
  (_hn:x.cells.length=n) (hcalm:x.cells.all V.dT=true):Good P N W L e h w (Instr.box t xv) (.ptr slot 0) { bx:=some (slot,x.cells),new:=true }:=by
 obtain⟨h1,h2⟩:=hx.cells (lM hcalm)
 have hnx:=Nx.DK hr hs (cs:=x.cells) (arr:=xv.cells) t h1 (fun j c hj=>⟨V9.1 hcalm c (Vz hj),h2 j c hj⟩)
 refine⟨.pointer (some ⟨w.heap.size,0,none⟩),w.alloc (.cells xv.cells t),L,e.qC slot w.heap.size,?_,?_,?_⟩
 .simp[Instr.box,si]
 .rw[Tn.sj]; exact hnx
 .have:=VR.ptr (N:=N) (L:=L) (e:=e.qC slot w.heap.size) (w:=w.alloc (.cells xv.cells t)) slot 0 (.inr rfl)
  simpa [bn.qC,aM]using this
theorem Tn.cO (h:af) (id:Nat) (a:aL) (ra:Option Nat):({ ar:=some (id,a),ra:=ra }:Tn).apply h={ h with ar:=h.ar.set id a }:=by
 cases h; simp[Tn.apply]
def norm (news:List V):List V:=
 match aA V.bN news with
 |some l=>l.map .pv
 |none=>news
theorem V.fi {c:V} {p:PV} (hp:c.bN=some p):p.perm=true:=by
 cases c<;>simp[V.bN]at hp
 .obtain⟨h1,rfl⟩:=hp; exact h1
 .obtain⟨h1,rfl⟩:=hp; rfl
theorem VR.bN {c:V} {p:PV} {v:Value} (hv:VR N L e w c v) (hp:c.bN=some p):VR N L e w (.pv p) v:=by
 cases hv with
 |pv q v hq=>simp[V.bN]at hp; obtain⟨_,rfl⟩:=hp; exact .pv _ _ hq
 |func f cap arr h1 h2=>
  simp[V.bN]at hp
  obtain⟨hc,rfl⟩:=hp
  subst hc
  exact .pv _ _ (.func f [] arr h1 (by simp))
 |_=>simp[V.bN]at hp
theorem PV.eH {p:PV} (hp:p.perm=true):(V.pv p).calm=true:=by
 cases p<;>simp[PV.perm,V.calm]at *<;>exact hp
theorem lN (news:List V):(norm news).length=news.length:=by
 unfold norm
 cases hm:aA V.bN news with
 |none=>rfl
 |some l=>simp[bQ hm]
theorem sk {news:List V} (hc:news.all V.calm=true) {j:Nat} {c:V} (hj:(norm news)[j]?=some c):
  c.calm=true∧∃d,news[j]?=some d∧∀v,VR N L e w d v→VR N L e w c v:=by
 unfold norm at hj
 cases hm:aA V.bN news with
 |none=>rw[hm]at hj; exact⟨V9.1 hc c (Vz hj),c,hj,fun _ hv=>hv⟩
 |some l=>
  rw[hm]at hj
  obtain⟨p,hp,rfl⟩:=dA hj
  obtain⟨d,h1,h2⟩:=bC hm j p hp
  exact⟨PV.eH (V.fi h2),d,h1,fun v hv=>hv.bN h2⟩
def lO (a:aL) (news:List V):List V:=
 match a.body with
 |.inl _=>norm news
 |.inr _=>news
theorem i6 (a:aL) (news:List V):(lO a news).length=news.length:=by
 unfold lO
 split
 .exact lN news
 .rfl
theorem zU {a:aL} {news:List V} (hc:news.all V.calm=true) {j:Nat} {c:V} (hj:(lO a news)[j]?=some c):
  c.calm=true∧∃d,news[j]?=some d∧∀v,VR N L e w d v→VR N L e w c v:=by
 unfold lO at hj
 split at hj
 .exact sk hc hj
 .exact⟨V9.1 hc c (Vz hj),c,hj,fun _ hv=>hv⟩
theorem ox (a:aL) (r c:Nat) (news:List V) (hr:r<a.size):
  (({ a with body:=setBody r c news a.body }:aL)).rows=a.rows.set r ((a.rows.getD r []).take c++lO a news++(a.rows.getD r []).drop (c+news.length)):=by
 obtain⟨aq,k,body⟩:=a
 cases body with
 |inl x=>
  have hr':r<x.length:=hr
  have hg:(x.map (·.map V.pv)).getD r []=(x.getD r []).map V.pv:=by
   simp[List.getD,List.getElem?_map,List.getElem?_eq_getElem hr']
  simp only[setBody,aL.rows,lO,norm]
  cases hm:aA V.bN news with
  |none=>simp only[]; rw[hg]
  |some l=>
   simp only[]
   rw[hg,List.map_set]
   simp[List.map_take,List.map_drop]
 |inr x=>simp[setBody,aL.rows,lO]
theorem oy (a:aL) (r c:Nat) (news:List V):(({ a with body:=setBody r c news a.body }:aL)).size=a.size:=by
 obtain⟨aq,k,body⟩:=a
 cases body with
 |inl x=>
  simp only[setBody,aL.size]
  cases hm:aA V.bN news<;>simp
 |inr x=>simp[setBody,aL.size]
theorem aL.bH (a:aL):a.rows.length=a.size:=by
 obtain⟨aq,k,body⟩:=a
 cases body<;>simp[aL.rows,aL.size]
theorem wy (a:aL) (r c:Nat) (news:List V) (hp:bU a.body):bU (setBody r c news a.body):=by
 obtain⟨aq,k,body⟩:=a
 cases body with
 |inr x=>simp[setBody,bU]
 |inl x=>
  simp only[setBody]
  cases hm:aA V.bN news with
  |none=>simp[bU]
  |some l=>
   simp only[bU]at hp ⊢
   intro q hq d hd
   rcases List.mem_or_eq_of_mem_set hq with hq|rfl
   .exact hp q hq d hd
   .have hrow:∀d∈x.getD r [],d.perm=true:=by
     intro d hd
     cases hx:x[r]? with
     |none=>simp[List.getD,hx]at hd
     |some q=>simp[List.getD,hx]at hd; exact hp q (List.mem_of_getElem? hx) d hd
    simp only[List.mem_append]at hd
    rcases hd with(hd|hd)|hd
    .exact hrow d (WL hd)
    .obtain⟨j,hj⟩:=VD.1 hd
     obtain⟨_,_,h2⟩:=bC hm j d hj
     exact V.fi h2
    .exact hrow d (W8 hd)
theorem oz {α:Type} {l news:List α} {c:Nat} (hfit:c+news.length≤l.length) {j:Nat} {x:α} (hj:(l.take c++news++l.drop (c+news.length))[j]?=some x):
  (c≤j∧j<c+news.length∧news[j - c]?=some x)∨((j<c∨c+news.length≤j)∧l[j]?=some x):=by
 have hl:(l.take c).length=c:=by simp; omega
 rcases VG j c with h1|h1
 .rw[VO,VC (by omega),VN,if_pos h1]at hj
  exact .inr ⟨.inl h1,hj⟩
 .rcases VG j (c+news.length)with h2|h2
  .rw[VO,VM (by omega),VC (by omega),hl]at hj
   exact .inl ⟨h1,h2,hj⟩
  .rw[List.getElem?_append_right (by simp; omega),List.getElem?_drop]at hj
   have:c+news.length+(j - (l.take c++news).length)=j:=by simp; omega
   rw[this]at hj
   exact .inr ⟨.inr h2,hj⟩
theorem jD {α:Type} {l news:List α} {c:Nat} (hfit:c+news.length≤l.length) {j:Nat} (h1:c≤j) (h2:j<c+news.length):
  (l.take c++news++l.drop (c+news.length))[j]?=news[j - c]?:=by
 have hl:(l.take c).length=c:=by simp; omega
 rw[VO,VM (by omega),VC (by omega),hl]
theorem fL {α:Type} {l news:List α} {c:Nat} (hfit:c+news.length≤l.length) {j:Nat} (h1:j<c∨c+news.length≤j):
  (l.take c++news++l.drop (c+news.length))[j]?=l[j]?:=by
 have hl:(l.take c).length=c:=by simp; omega
 rcases h1 with h1|h1
 .rw[VO,VC (by omega),VN,if_pos h1]
 .rw[List.getElem?_append_right (by simp; omega),List.getElem?_drop]
  have:c+news.length+(j - (l.take c++news).length)=j:=by simp; omega
  rw[this]
theorem uP {t:TypeId} {n:Nat} (hsz:(sizeOf t).run P w=.ok n w) {b off:Nat} {xv:Value} (hn:xv.cells.size=n) {arr:Array Value} {ty:TypeId}
  (hb:w.heap[b]?=some (.cells arr ty (0,0))) (hfit:off+n≤arr.size) (h1:∀v∈xv.cells.toList,v.oneCell'=true):
  (storeVar t ⟨b,off,none⟩ xv).run P w=.ok () (w.setRow b (arr.toList.take off++xv.cells.toList++arr.toList.drop (off+xv.cells.toList.length)).toArray):=by
 have hst:=run_storeCells_at P b off ty xv.cells.toList 0 arr w hb (by simp; omega) h1
 simp only[Nat.add_zero]at hst
 simp[storeVar,hsz,hn,hst]
theorem VR.Bt {x:V} {xv:Value} (hx:VR N L e w x xv) (hc:x.cells.all V.dT=true):∀v∈xv.cells.toList,v.oneCell'=true:=by
 intro v hv
 obtain⟨h1,h2⟩:=hx.cells (lM hc)
 obtain⟨j,hj⟩:=VD.1 hv
 rw[VU]at hj
 have hjl:=(VV.1 hj).1
 have hc':x.cells[j]?=some (x.cells[j]'(by omega)):=VA (by omega)
 have hvr:=h2 j _ hc'
 have:xv.cells.getD j undef=v:=cc (by rw[VU]; exact hj)
 rw[this]at hvr
 exact hvr.Cg (V9.1 hc _ (Vz hc'))
theorem qE {t:TypeId} {a:Addr} {v:Value}:(Instr.storeAt t (.pointer (some a)) v).run P w=(storeVar t a v).run P w:=by
 simp[Instr.storeAt,Instr.sureAddr]
theorem F3 (hr:HR N L e W h w) {t:TypeId} {n:Nat} (hsz:(sizeOf t).run P w=.ok n w) {x v:V} {xv vv:Value} (hx:VR N L e w x xv) (hv:VR N L e w v vv)
  (hn:v.cells.length=n) {tn:Tn} (hh:storeAt h x v.cells=some tn):
  ∃w' L' e',(Instr.storeAt t xv vv).run P w=.ok () w'∧Nx N W L e w L' e' (tn.apply h) w':=by
 unfold storeAt at hh
 split at hh
 .rename_i slot off
  cases hs:aG slot h.bx with
  |none=>simp[hs]at hh
  |some cs=>
   simp only[hs]at hh
   split at hh
   .rename_i hcond
    obtain⟨hfit,hcalm⟩:=hcond
    injection hh with hh
    subst hh
    cases hx with
    |ptr _ _ hsl=>
     obtain⟨⟨arr,ty,hb,hbz⟩,_⟩:=hr.bx slot cs hs
     obtain⟨k1,k2⟩:=hv.cells (lM hcalm)
     have hst:=uP (P:=P) hsz (off:=off) (xv:=vv) (by omega) hb (by omega) (hv.Bt hcalm)
     refine⟨_,L,e,qE.trans hst,?_⟩
     have:=Nx.DL hr (off:=off) (news:=v.cells) (vs:=vv.cells.toList) hs hb hfit (by simpa using k1) (fun j c hj=>by
      have hjl:=(Vy.1 hj).1
      refine⟨V9.1 hcalm c (Vz hj),vv.cells.getD j undef,?_,k2 j c hj⟩
      rw[VU]
      exact bl (by omega))
     simpa [Tn.apply]using this
   .cases hh
 .rename_i id aq row col
  cases ho:aF h id aq with
  |none=>simp[ho]at hh
  |some a=>
   simp only[ho]at hh
   obtain⟨ha,hver⟩:=bB ho
   obtain⟨e1,e2,e3,e4⟩:=hr.aq id a ha
   split at hh
   .rename_i hcond
    obtain⟨hrow,hcol,hcalm⟩:=hcond
    injection hh with hh
    subst hh
    have hk:a.k≠0:=by
     intro hk
     have:=e4 hk
     rw[← aL.bH,this]at hrow
     simp at hrow
    obtain⟨g1,⟨arr,ty,hb,hbz⟩,g3,g4,g5⟩:=hr.ar id a ha hk
    cases hx with
    |df _ _ _ _ ad q1 q2 q3=>
     have had:=q3 (by omega)
     subst had
     obtain⟨k1,k2⟩:=hv.cells (zT hcalm)
     have hle:row*a.k+a.k≤e.cap id*a.k:=by
      have:(row+1)*a.k≤e.cap id*a.k:=VL _ (by omega)
      rw[VZ,Wv]at this
      exact this
     have hst:=uP (P:=P) hsz (off:=e.ad id+(row*e.ak id+col)) (xv:=vv) (by omega) hb (by rw[e2]; omega) (hv.Bt (V9.2 fun c hc=>V.H8 (V9.1 hcalm c hc)))
     have hid:id<e.na:=q1
     have hlen:vv.cells.toList.length=v.cells.length:=by simpa using k1
     have hfit:e.ad id+(row*e.ak id+col)+vv.cells.toList.length≤arr.toList.length:=by simp; rw[e2]; omega
     refine⟨_,L,e.bA id (e.ar id) (e.ad id) (e.cap id) { a with body:=setBody row col v.cells a.body },qE.trans hst,?_⟩
     rw[Tn.cO]
     refine Nx.pW hr (b:=e.ar id) (d:=e.ad id) (c:=e.cap id) { a with body:=setBody row col v.cells a.body } ha hk
      (fun q _ hq=>setRow_other w _ hq) (by simp) (Fr.setRow (hr.nF id hid (by rw[e2]; exact hk)).1 _) (.inr ⟨rfl,rfl,rfl,rfl,rfl,oy a row col v.cells⟩) (.inl rfl) hk
      (by rw[oy]; exact g1) ⟨_,ty,setRow_heap w _ arr _ ty (0,0) hb,by simp; omega⟩ ?_ ?_ (wy a row col v.cells g5)
     .intro r hr'
      rw[ox a row col v.cells hrow]at hr'
      rcases List.mem_or_eq_of_mem_set hr' with hr'|rfl
      .exact g3 r hr'
      .have hrl:(a.rows.getD row []).length=a.k:=by
        have:a.rows[row]?=some (a.rows[row]'(by rw[aL.bH]; exact hrow)):=VA _
        simp only[List.getD,this,Option.getD_some]
        exact g3 _ (Ww _)
       simp only[List.length_append,List.length_take,List.length_drop,i6,hrl]; omega
     .intro i r hi j c hj
      have hcell:∀o,(w.setRow (e.ar id) (arr.toList.take (e.ad id+(row*e.ak id+col))++vv.cells.toList++arr.toList.drop (e.ad id+(row*e.ak id+col)+vv.cells.toList.length)).toArray).cell? ⟨e.ar id,o,none⟩=
        (arr.toList.take (e.ad id+(row*e.ak id+col))++vv.cells.toList++arr.toList.drop (e.ad id+(row*e.ak id+col)+vv.cells.toList.length))[o]?:=fun o=>by
       rw[cell_of_row _ _ _ _ _ _ (setRow_heap w _ arr _ ty (0,0) hb)]
       simp
      have hold:∀o v',w.cell? ⟨e.ar id,o,none⟩=some v'→arr.toList[o]?=some v':=fun o v' ho'=>by
       rw[cell_of_row _ _ _ _ _ _ hb]at ho'
       simpa using ho'
      rw[ox a row col v.cells hrow]at hi
      have hrowlen:∀(i:Nat) (r:List V),a.rows[i]?=some r→r.length=a.k:=fun i r hi=>g3 r (Vz hi)
      have hrg:a.rows[row]?=some (a.rows.getD row []):=by
       have:a.rows[row]?=some (a.rows[row]'(by rw[aL.bH]; exact hrow)):=VA _
       simp only[List.getD,this,Option.getD_some]
      have apart:∀i' j',i'≠row→j'<a.k→e.ad id+i'*a.k+j'<e.ad id+(row*a.k+col)∨e.ad id+(row*a.k+col)+v.cells.length≤e.ad id+i'*a.k+j':=by
       intro i' j' hne hj'
       rcases VG i' row with hlt|hge
       .left
        have:(i'+1)*a.k≤row*a.k:=VL _ (by omega)
        rw[VZ,Wv]at this
        omega
       .right
        have:(row+1)*a.k≤i'*a.k:=VL _ (by omega)
        rw[VZ,Wv]at this
        omega
      rcases iy hi with⟨rfl,rfl⟩|⟨hne,hi⟩
      .have hfit':col+(lO a v.cells).length≤(a.rows.getD i []).length:=by rw[i6,hrowlen _ _ hrg]; exact hcol
       rw[← i6 a v.cells]at hj
       rcases oz hfit' hj with⟨p1,p2,p3⟩|⟨p1,p2⟩
       .obtain⟨q1',d,q2',q3'⟩:=zU (N:=N) (L:=L) (e:=e) (w:=w) hcalm p3
        refine⟨q1',vv.cells.getD (j - col) undef,?_,q3' _ (k2 _ _ q2')⟩
        rw[i6]at p2
        rw[hcell,jD (j:=e.ad id+i*a.k+j) hfit (by rw[e2]; omega) (by rw[e2,hlen]; omega),VU]
        rw[show e.ad id+i*a.k+j - (e.ad id+(i*e.ak id+col))=j - col by rw[e2]; omega]
        exact bl (by omega)
       .obtain⟨q1',v',q2',q3'⟩:=g4 i _ hrg j c p2
        rw[i6]at p1
        refine⟨q1',v',?_,q3'⟩
        rw[hcell,fL (j:=e.ad id+i*a.k+j) hfit (by rw[e2,hlen]; omega)]
        exact hold _ _ q2'
      .obtain⟨q1',v',q2',q3'⟩:=g4 i r hi j c hj
       have hjk:j<a.k:=by rw[← hrowlen i r hi]; exact(Vy.1 hj).1
       refine⟨q1',v',?_,q3'⟩
       rw[hcell,fL (j:=e.ad id+i*a.k+j) hfit (by rw[e2,hlen]; exact apart i j hne hjk)]
       exact hold _ _ q2'
   .cases hh
 .cases hh
end Go.Pv
namespace Go.Pv
variable {P:Program} {N M:Nat→Nat} {W:Nat→Prop} {L L':Lx} {e e':bn} {h:af} {w w':World} {g:bM→V} {ρ:Operand→Value}
def Plain (P:Program) (N:Nat→Nat) (L:Lx) (e:bn) (w:World) (s:Sem Value) (v:V):Prop:=∃v',s.run P w=.ok v' w∧VR N L e w v v'
theorem Plain.F4 (hr:HR N L e W h w) {s:Sem Value} {v:V} {t:Tn} (hp:Plain P N L e w s v) (ht:t.apply h=h):Good P N W L e h w s v t:=by
 obtain⟨v',h1,h2⟩:=hp
 exact .pure hr h1 h2 ht
theorem xH {t:TypeId} {n:Nat} {ag:Bool} (hl:loadT P t=some (n,ag)) {off:Nat} {cs:List V} {arr:Array Value} (hs:arr.size=cs.length)
  (hv:∀(j:Nat) (c:V),cs[j]?=some c→VR N L e w c (arr.getD j undef)) {l:List V} (ht:takeN off n cs=some l) {v:V} (hc:ey ag l=some v):
  Plain P N L e w (part t arr off) v:=by
 obtain⟨h1,h2,h3⟩:=iZ (w:=w) hl
 obtain⟨k1,k2,k3⟩:=ky ht
 cases ag with
 |true=>
  have hv':V.agg l=v:=by simpa [ey]using hc
  subst hv'
  refine⟨.agg (arr.extract off (off+n)),by simp[part,h1,h2],.agg l _ (by simp; omega) (fun j c hj=>?_)⟩
  have hjl:j<n:=by rw[← k1]; exact(Vy.1 hj).1
  have:=hv (off+j) c (k3 j c hj)
  have e1:(arr.extract off (off+n)).getD j undef=arr.getD (off+j) undef:=by
   have hlt:off+j<arr.size:=by omega
   simp only[Array.getD,hlt,dif_pos,Array.size_extract]
   rw[dif_pos (by omega)]
   simp
  rw[e1]; exact this
 |false=>
  have h1':=h3 rfl
  subst h1'
  match l,k1 with
  |[c],_=>
   have hv':c=v:=by simpa [ey]using hc
   subst hv'
   have hcs:=k3 0 c rfl
   have hlt:off+0<arr.size:=by rw[hs]; exact(Vy.1 hcs).1
   simp only[Nat.add_zero]at hcs hlt
   refine⟨arr.getD off undef,?_,hv off c hcs⟩
   have hge:arr[off]?=some (arr.getD off undef):=bl hlt
   generalize arr.getD off undef=u at hge
   simp[part,h1,hge]
theorem Ia {t:TypeId} {fs:Array Field} {i n:Nat} {f:Field} {ag:Bool} (hu:P.underlying t=some (.struct fs)) (hf:fs[i]?=some f) (hl:loadT P f.type=some (n,ag)) {cs:List V} {xv:Value}
  (hx:VR N L e w (.agg cs) xv) {l:List V} (ht:takeN f.offset n cs=some l) {v:V} (hc:ey ag l=some v):Plain P N L e w (Instr.field t xv i) v:=by
 cases hx with
 |agg _ arr h1 h2=>
  obtain⟨v',k1,k2⟩:=xH hl h1 h2 ht hc
  exact⟨v',by simp[Instr.field,underlying,hu,hf,asAgg,k1],k2⟩
theorem Hl {x v:V} {xv:Value} (hx:VR N L e w x xv) {off:Nat} (hh:r6 off x=some v):
  ∃a,xv=.pointer (some a)∧VR N L e w v (.pointer (some (a.add off))):=by
 unfold r6 at hh
 split at hh
 .rename_i t cs
  injection hh with hh
  subst hh
  cases hx with
  |pv _ _ hp=>
   cases hp with
   |ro _ _ b o vs ha hcell hv h1=>
    refine⟨⟨b,o,none⟩,rfl,?_⟩
    rw[dR]
    refine .pv _ _ (.ro t (cs.drop off) b (o+off) (fun j=>vs (off+j)) (fun hl=>ha (by simp at hl; omega)) (fun j c hj=>?_) (fun j c hj=>?_) (fun c hc=>h1 c (List.mem_of_mem_drop hc)))
    .rw[Wg]at hj
     rw[Wx]; exact hcell _ c hj
    .rw[Wg]at hj
     exact hv _ c hj
 .rename_i s o
  injection hh with hh
  subst hh
  cases hx with
  |ptr _ _ hs=>exact⟨_,rfl,by rw[dR]; exact .ptr s _ hs⟩
 .injection hh with hh
  subst hh
  cases hx with
  |df id aq row col a h1 h2 h3=>
   refine⟨a,rfl,.df _ _ _ _ _ h1 h2 (fun hv=>?_)⟩
   rw[h3 hv,dR,Wx,Wx]
 .cases hh
theorem xI {t:TypeId} {fs:Array Field} {i n:Nat} {f:Field} (hu:P.underlying t=some (.struct fs)) (hf:fs[i]?=some f) (hn:cU P f.type=some n) (hn0:n≠0) {x v:V} {xv:Value}
  (hx:VR N L e w x xv) (hh:r6 f.offset x=some v):Plain P N L e w (Instr.fieldAt t xv i) v:=by
 obtain⟨a,rfl,h2⟩:=Hl hx hh
 have hsz:=fh (w:=w) hn
 exact⟨_,by simp[Instr.fieldAt,underlying,hu,hf,Instr.sureAddr,fieldPlace,hsz,hn0],h2⟩
theorem fM {i:V} {iv:Value} (hi:VR N L e w i iv) {n j:Nat} (hh:cF (intOf i) n=some j):∃k x,iv=.int k x∧0≤x∧x<n∧x.toNat=j∧j<n:=by
 cases hi with
 |pv p v hp=>
  cases hp with
  |int k x=>
   simp only[intOf,cF]at hh
   split at hh
   .rename_i hc
    injection hh with hh
    exact⟨k,x,rfl,hc.1,hc.2,hh,by omega⟩
   .cases hh
  |_=>simp[intOf,cF]at hh
 |_=>simp[intOf,cF]at hh
theorem Oo (hr:HR N L e W h w) {t el:TypeId} {k:Nat} (hu:P.underlying t=some (.slice el)) (hk:cU P el=some k) {x i v:V} {xv iv:Value} (hx:VR N L e w x xv) (hi:VR N L e w i iv)
  {tn:Tn} (hh:pS h k x (intOf i)=some (v,tn)):Plain P N L e w (Instr.indexAt t xv iv) v∧tn.apply h=h:=by
 have hsz:=fh (w:=w) hk
 have run:∀(a:Addr) (len cap:Nat) (kd:IntKind) (y:Int),0≤y→y<len→(Instr.indexAt t (.slice (some a) len cap) (.int kd y)).run P w=.ok (.pointer (some (a.add (y.toNat*k)))) w:=by
  intro a len cap kd y h0 h1
  simp[Instr.indexAt,asIntOf,underlying,hu,hsz,h0,h1]
 have rows:∀(tg:Nat) (rows:List (List PV)) (r:List PV) (j:Nat) (v':Value),dL N L w (.aa tg rows) v'→rows[j]?=some r→r.length=k→cF (intOf i) rows.length=some j→
   Plain P N L e w (Instr.indexAt t v' iv) (.pv (.ro tg r)):=by
  intro tg rows r j v' hp hr hrk hj
  obtain⟨kd,y,rfl,y0,y1,yj,jl⟩:=fM hi hj
  cases hp with
  |aa _ _ a ad cap k' vs hk' hc ha hcell hv hpm h1=>
   obtain⟨rfl,hsp,hl⟩:=ha (by omega)
   have hkk:k'=k:=by rw[← hk' r (Vz hr)]; exact hrk
   subst hkk
   refine⟨_,run ad _ cap kd y y0 y1,?_⟩
   obtain⟨b,o,sp⟩:=ad
   simp only at hsp
   subst hsp
   rw[dR,yj]
   have hat:∀(j':Nat) (c:PV),r[j']?=some c→fx rows j j'=some c:=fun j' c hc=>by simp[fx,hr,hc]
   refine .pv _ _ (.ro tg r b (o+j*k') (fun j'=>vs j j') (fun _=>hl) (fun j' c hc=>?_) (fun j' c hc=>hv j j' c (hat j' c hc)) (fun c hc=>?_))
   .rw[Wx]; exact hcell j j' c (hat j' c hc)
   .obtain⟨j',hj'⟩:=VD.1 hc
    exact PV.lK (h1 j j' c (hat j' c hj'))
 have zw:∀(tg:Nat) (rows':List (List PV)) (v0:V) (v':Value),dL N L w (.aa tg rows') v'→jz k tg rows' (intOf i)=some v0→Plain P N L e w (Instr.indexAt t v' iv) v0:=by
  intro tg rws v0 v' hp hh
  unfold jz at hh
  cases hj:cF (intOf i) rws.length with
  |none=>simp[hj]at hh
  |some j=>
   simp only[hj]at hh
   cases hr:rws[j]? with
   |none=>simp[hr]at hh
   |some r=>
    simp only[hr]at hh
    split at hh
    .rename_i hrk
     injection hh with hh
     subst hh
     exact rows tg rws r j _ hp hr hrk hj
    .cases hh
 unfold pS at hh
 split at hh
 .rename_i tg rws
  cases hq:jz k tg rws (intOf i)with
  |none=>simp[hq]at hh
  |some v0=>
   simp[hq]at hh
   obtain⟨rfl,rfl⟩:=hh
   cases hx with
   |pv _ _ hp=>exact⟨zw tg rws _ _ hp hq,Tn.aO h _ _ _ _ _⟩
 .rename_i rws
  cases hq:jz k 0 rws (intOf i)with
  |none=>simp[hq]at hh
  |some v0=>
   simp[hq]at hh
   obtain⟨rfl,rfl⟩:=hh
   cases hx with
   |tl _ _ hp=>exact⟨zw 0 rws _ _ hp hq,Tn.aO h _ _ _ _ _⟩
 .rename_i id aq off len
  cases hj:cF (intOf i) len with
  |none=>simp[hj]at hh
  |some j=>
   cases ho:aF h id aq with
   |none=>simp[hj,ho]at hh
   |some ar=>
    simp only[hj,ho]at hh
    split at hh
    .rename_i hk'
     injection hh with hh
     simp only[Prod.mk.injEq]at hh
     obtain⟨rfl,rfl⟩:=hh
     refine⟨?_,Tn.aO h _ _ _ _ _⟩
     obtain⟨kd,y,rfl,y0,y1,yj,jl⟩:=fM hi hj
     obtain⟨ho1,ho2⟩:=bB ho
     obtain⟨v1,v2,v3,_⟩:=hr.aq id ar ho1
     cases hx with
     |own _ _ _ _ a cap h0 h1 h2 h3=>
      obtain⟨ad,rfl⟩:=Option.isSome_iff_exists.1 (h0 (by omega))
      refine⟨_,run ad len cap kd y y0 y1,.df id aq (off+j) 0 _ h1 h2 (fun hv=>?_)⟩
      obtain⟨g1,g2,g3,g4⟩:=h3 hv
      have:=g4 (by omega)
      injection this with this
      subst this
      rw[dR,yj,v2,hk',VZ]
      simp[Nat.add_assoc]
    .cases hh
 .cases hh
theorem Ib {t el:TypeId} {n k:Nat} (hu:P.underlying t=some (.array n el)) (hk:cU P el=some k) {x i v:V} {xv iv:Value} (hx:VR N L e w x xv) (hi:VR N L e w i iv)
  {j:Nat} (hj:cF (intOf i) n=some j) (hh:r6 (j*k) x=some v):Plain P N L e w (Instr.indexAt t xv iv) v:=by
 have hsz:=fh (w:=w) hk
 obtain⟨kd,y,rfl,y0,y1,yj,jl⟩:=fM hi hj
 obtain⟨a,rfl,h2⟩:=Hl hx hh
 refine⟨_,?_,h2⟩
 subst yj
 simp[Instr.indexAt,asIntOf,underlying,hu,Instr.sureAddr,hsz,y0,y1]
theorem Oq {t el:TypeId} {n k:Nat} {ag:Bool} (hu:P.underlying t=some (.array n el)) (hl:loadT P el=some (k,ag)) {cs:List V} {i v:V} {xv iv:Value} (hx:VR N L e w (.agg cs) xv) (hi:VR N L e w i iv)
  {j:Nat} (hj:cF (intOf i) n=some j) {l:List V} (ht:takeN (j*k) k cs=some l) (hc:ey ag l=some v):Plain P N L e w (Instr.index t xv iv) v:=by
 obtain⟨kd,y,rfl,y0,y1,yj,jl⟩:=fM hi hj
 cases hx with
 |agg _ arr h1 h2=>
  obtain⟨v',k1,k2⟩:=xH hl h1 h2 ht hc
  obtain⟨_,hsz,_⟩:=iZ (w:=w) hl
  refine⟨v',?_,k2⟩
  subst yj
  simp[Instr.index,asIntOf,underlying,hu,hsz,y0,y1,k1]
theorem Ot {t:TypeId} (hu:P.underlying t=some .string) {s:ByteArray} {i:V} {xv iv:Value} (hx:VR N L e w (.pv (.str s)) xv) (hi:VR N L e w i iv)
  {j:Nat} (hj:cF (intOf i) s.size=some j) {b:UInt8} (hb:s[j]?=some b):Plain P N L e w (Instr.index t xv iv) (.pv (.int .u8 b.toNat)):=by
 obtain⟨kd,y,rfl,y0,y1,yj,jl⟩:=fM hi hj
 cases hx with
 |pv _ _ hp=>
  cases hp with
  |str _=>
   refine⟨.int .u8 b.toNat,?_,.pv _ _ (.int _ _)⟩
   subst yj
   simp[Instr.index,asIntOf,underlying,hu,y0,hb]
end Go.Pv
namespace Go.Pv
variable {P:Program} {N M:Nat→Nat} {W:Nat→Prop} {L L':Lx} {e e':bn} {h:af} {w w':World} {g:bM→V} {ρ:Operand→Value}
theorem fj (hO:OR N M L e w g ρ) {o:Option Operand} {q:Option bM} (ho:iX N M o=some q) {d top b:Nat} (hb:bound g q d top=some b):
  (o=none∧q=none∧b=d)∨∃x y k i,o=some x∧q=some y∧ρ x=.int k i∧0≤i∧i≤top∧i.toNat=b:=by
 unfold iX at ho
 split at ho
 .injection ho with ho
  subst ho
  simp[bound]at hb
  exact .inl ⟨rfl,rfl,hb.symm⟩
 .rename_i x
  cases hx:bm N M x with
  |none=>simp[hx]at ho
  |some y=>
   simp[hx]at ho
   subst ho
   refine .inr ⟨x,y,?_⟩
   have hv:=hO x y hx
   simp only[bound]at hb
   cases hi:intOf (g y)with
   |none=>simp[hi]at hb
   |some i=>
    simp only[hi]at hb
    split at hb
    .rename_i hc
     injection hb with hb
     generalize hgy:g y=v at hv hi
     generalize hrx:ρ x=u at hv
     cases hv with
     |pv p u hp=>
      cases hp with
      |int k n=>
       simp[intOf]at hi
       subst hi
       exact⟨k,n,rfl,rfl,rfl,hc.1,hc.2,hb⟩
      |_=>simp[intOf]at hi
     |_=>simp[intOf]at hi
    .cases hb
theorem kz (hO:OR N M L e w g ρ) {lo hi mx:Option Operand} {lo' hi' mx':Option bM} (hlo:iX N M lo=some lo') (hhi:iX N M hi=some hi') (hmx:iX N M mx=some mx')
  (hnn:∀y,mx'=some y→hi'≠none) {len cap:Nat} (hcap:len≤cap) {a b:Nat} {c:Option Nat} (hb:bounds g lo' hi' mx' len=some (a,b,c)) (isS:Bool):
  (Instr.sliceBounds isS len cap (lo.map ρ) (hi.map ρ) (mx.map ρ)).run P w=.ok (a,b,c.getD cap) w∧a≤b∧b≤len∧(∀m,c=some m→b≤m∧m≤len):=by
 unfold bounds at hb
 cases hb1:bound g hi' len len with
 |none=>simp[hb1]at hb
 |some b'=>
  simp only[hb1]at hb
  cases hb2:bound g lo' 0 b' with
  |none=>simp[hb2]at hb
  |some a'=>
   simp only[hb2]at hb
   have hble:b'≤len:=by
    rcases fj hO hhi hb1 with⟨_,_,h3⟩|⟨_,_,_,i,_,_,_,h4,h5,h6⟩<;>omega
   have hale:a'≤b':=by
    rcases fj hO hlo hb2 with⟨_,_,h3⟩|⟨_,_,_,i,_,_,_,h4,h5,h6⟩<;>omega
   have low:∀code:BoundsCode,((match lo.map ρ with|some v=>Instr.sliceBound v b' code|none=>pure 0):Sem Nat).run P w=.ok a' w:=by
    intro code
    rcases fj hO hlo hb2 with⟨h1,h2,h3⟩|⟨x,y,k,i,h1,h2,h3,h4,h5,h6⟩
    .subst h1; simp[h3]
    .subst h1; simp only[Option.map_some,h3]; rw[run_sliceBound w k i b' code h4 h5,h6]
   cases hm:mx' with
   |none=>
    simp only[hm]at hb
    injection hb with hb
    simp only[Prod.mk.injEq]at hb
    obtain⟨rfl,rfl,rfl⟩:=hb
    refine⟨?_,hale,hble,fun m hm'=>by cases hm'⟩
    have hmn:mx=none:=by
     subst hm
     unfold iX at hmx
     split at hmx
     .rfl
     .split at hmx<;>simp at hmx
    subst hmn
    have high:((match hi.map ρ with|some v=>Instr.sliceBound v cap (if isS then .sliceAcap else .sliceAlen)|none=>pure len):Sem Nat).run P w=.ok b' w:=by
     rcases fj hO hhi hb1 with⟨h1,h2,h3⟩|⟨x,y,k,i,h1,h2,h3,h4,h5,h6⟩
     .subst h1; simp[h3]
     .subst h1; simp only[Option.map_some,h3]; rw[run_sliceBound w k i cap _ h4 (by omega),h6]
    have lowr:=low .sliceB
    cases hi with
    |none=>
     simp only[Option.map_none]at high
     simp only[Instr.sliceBounds,Option.map_none,Sem.run_bind,Sem.run_pure,Result.andThen_ok]
     have:len=b':=by simpa using high
     subst this
     cases lo with
     |none=>simp only[Option.map_none]at lowr ⊢; simp only[Sem.run_bind,Sem.run_pure,Result.andThen_ok]at lowr ⊢; simpa using lowr
     |some l=>simp only[Option.map_some]at lowr ⊢; simp[lowr]
    |some hx=>
     simp only[Option.map_some]at high
     simp only[Instr.sliceBounds,Option.map_none,Option.map_some,Sem.run_bind,Sem.run_pure,Result.andThen_ok,high]
     cases lo with
     |none=>simp only[Option.map_none]at lowr ⊢; simp only[Sem.run_bind,Sem.run_pure,Result.andThen_ok]at lowr ⊢; simpa using lowr
     |some l=>simp only[Option.map_some]at lowr ⊢; simp[lowr]
   |some y=>
    simp only[hm]at hb
    cases hb3:bound g (some y) 0 len with
    |none=>simp[hb3]at hb
    |some c'=>
     simp only[hb3]at hb
     split at hb
     .rename_i hbc
      injection hb with hb
      simp only[Prod.mk.injEq]at hb
      obtain⟨rfl,rfl,rfl⟩:=hb
      have hcl:c'≤len:=by
       rcases fj hO (by rw[← hm]; exact hmx) hb3 with⟨_,h2,_⟩|⟨_,_,_,i,_,_,_,h4,h5,h6⟩
       .cases h2
       .omega
      refine⟨?_,hale,hble,fun m hm'=>by injection hm' with hm'; omega⟩
      rcases fj hO (by rw[← hm]; exact hmx) hb3 with⟨_,h2,_⟩|⟨x,y',k,i,h1,h2,h3,h4,h5,h6⟩
      .cases h2
      .subst h1
       rcases fj hO hhi hb1 with⟨q1,q2,q3⟩|⟨x',y'',k',i',q1,q2,q3,q4,q5,q6⟩
       .exact absurd q2 (hnn y hm)
       .subst q1
        have lowr:=low .slice3C
        simp only[Instr.sliceBounds,Option.map_some,Sem.run_bind,h3,q3]
        rw[run_sliceBound w k i cap _ h4 (by omega),Result.andThen_ok,h6,run_sliceBound w k' i' c' _ q4 (by omega),Result.andThen_ok,q6]
        cases lo with
        |none=>simp only[Option.map_none]at lowr ⊢; simp only[Sem.run_bind,Sem.run_pure,Result.andThen_ok]at lowr ⊢; simpa using lowr
        |some l=>simp only[Option.map_some]at lowr ⊢; simp[lowr]
     .cases hb
theorem pX {tg k cap a b m:Nat} {rows:List (List PV)} {A:Option Addr} (hp:dL N L w (.aa tg rows) (.slice A rows.length cap)) (hf:aP k (.inl rows)=true)
  (hab:a≤b) (hb:b≤rows.length) (_hm:m≤cap) (hbm:b≤m):
  dL N L w (.aa tg ((rows.take b).drop a)) (.slice (if m=a then A else A.map (·.add (a*k))) (b - a) (m - a)):=by
 have hlen:((rows.take b).drop a).length=b - a:=by simp; omega
 rw[← hlen]
 cases hp with
 |aa _ _ _ ad _ k' vs hk hc ha hcell hv hpm h1=>
  have hat:∀i j c,fx ((rows.take b).drop a) i j=some c→fx rows (a+i) j=some c:=by
   intro i j c hh
   unfold fx at hh ⊢
   rw[Wg,VN]at hh
   split at hh
   .exact hh
   .simp at hh
  by_cases hne:0<((rows.take b).drop a).length
  .obtain⟨rfl,hsp,hl⟩:=ha (by omega)
   have hkk:k'=k:=by
    have:rows[0]?=some (rows[0]'(by omega)):=VA _
    have h2:=hk _ (Vz this)
    simp only[aP,List.all_eq_true,beq_iff_eq]at hf
    rw[← h2]; exact hf _ (Vz this)
   subst hkk
   have hma:m≠a:=by omega
   rw[if_neg hma]
   obtain⟨bb,o,sp⟩:=ad
   simp only at hsp
   subst hsp
   refine .aa tg _ _ ⟨bb,o+a*k',none⟩ _ k' (fun i j=>vs (a+i) j) (fun r hr=>hk r (List.mem_of_mem_take (List.mem_of_mem_drop hr))) (by omega) (fun _=>⟨by simp[dR],rfl,hl⟩)
    (fun i j c hh=>?_) (fun i j c hh=>hv _ _ c (hat i j c hh)) (fun ht i j c hh=>hpm ht _ _ c (hat i j c hh)) (fun i j c hh=>h1 _ _ c (hat i j c hh))
   have:=hcell _ _ c (hat i j c hh)
   simp only at this ⊢
   rw[← this,VZ]
   congr 2
   omega
  .have hnil:(rows.take b).drop a=[]:=VJ (by omega)
   rw[hnil]
   exact .aa tg [] _ ad _ k' vs (by simp) (by simp) (by simp) (by simp[fx]) (by simp[fx]) (by simp[fx]) (by simp[fx])
theorem uQ {tg cap:Nat} {A:Option Addr}:dL N L w (.aa tg []) (.slice A 0 cap):=
 .aa tg [] A default cap 0 (fun _ _=>undef) (by simp) (by simp) (by simp) (by simp[fx]) (by simp[fx]) (by simp[fx]) (by simp[fx])
theorem F5 (hr:HR N L e W h w) (hO:OR N M L e w g ρ) {lo hi mx:Option Operand} {lo' hi' mx':Option bM} (hlo:iX N M lo=some lo') (hhi:iX N M hi=some hi') (hmx:iX N M mx=some mx')
  (hnn:∀y,mx'=some y→hi'≠none) {t el:TypeId} {k:Nat} (hu:P.underlying t=some (.slice el)) (hk:cU P el=some k) {x v:V} {xv:Value} (hx:VR N L e w x xv)
  {tn:Tn} (hh:cZ g h k x lo' hi' mx'=some (v,tn)):Plain P N L e w (Instr.sliceAt t xv (lo.map ρ) (hi.map ρ) (mx.map ρ)) v∧tn.apply h=h:=by
 have hsz:=fh (w:=w) hk
 have run:∀(A:Option Addr) (len cap a b m:Nat),(Instr.sliceBounds true len cap (lo.map ρ) (hi.map ρ) (mx.map ρ)).run P w=.ok (a,b,m) w→
   (Instr.sliceAt t (.slice A len cap) (lo.map ρ) (hi.map ρ) (mx.map ρ)).run P w=.ok (.slice (if m=a then A else A.map (·.add (a*k))) (b - a) (m - a)) w:=by
  intro A len cap a b m hb
  simp[Instr.sliceAt,Instr.slice,underlying,hu,hb,hsz]
 unfold cZ at hh
 split at hh
 .rename_i tg rows
  split at hh
  .rename_i hf
   cases hx with
   |pv _ _ hp=>
    have hp':=hp
    cases hp with
    |aa _ _ A ad cap k' vs hk' hc ha hcell hv hpm h1=>
     cases hb:bounds g lo' hi' mx' rows.length with
     |none=>simp[hb]at hh
     |some abc=>
      obtain⟨a,b,c⟩:=abc
      obtain⟨r1,r2,r3,r4⟩:=kz (P:=P) (w:=w) hO hlo hhi hmx hnn hc hb true
      simp only[hb]at hh
      cases c with
      |none=>
       simp at hh
       obtain⟨rfl,rfl⟩:=hh
       exact⟨⟨_,run A _ cap a b _ r1,.pv _ _ (pX hp' hf r2 r3 (Nat.le_refl _) (by simp; omega))⟩,Tn.aO h _ _ _ _ _⟩
      |some m=>
       simp only[]at hh
       split at hh
       .rename_i hcond
        obtain⟨rfl,rfl⟩:=hcond
        injection hh with hh
        simp only[Prod.mk.injEq]at hh
        obtain⟨rfl,rfl⟩:=hh
        refine⟨⟨_,run A _ cap _ _ _ r1,?_⟩,Tn.aO h _ _ _ _ _⟩
        simp only[Option.getD_some,Nat.sub_self]
        exact .tl [] _ uQ wv.nil
       .cases hh
  .cases hh
 .rename_i rows
  split at hh
  .rename_i hf
   cases hx with
   |tl _ A hp hsoft=>
    have hso:∀(c:Prop) [Decidable c] (j n:Nat),n≤rows.length→wv w (if c then A else A.map (·.add j)) n:=by
     intro c _ j n hn h0 ad hd
     split at hd
     .exact hsoft (by omega) ad hd
     .cases A with
      |none=>cases hd
      |some a0=>
       injection hd with hd
       subst hd
       have hb:(a0.add j).block=a0.block:=by unfold Addr.add; split<;>rfl
       show ∃arr ty,w.heap[(a0.add j).block]?=_
       rw[hb]
       exact hsoft (by omega) a0 rfl
    cases hb:bounds g lo' hi' mx' rows.length with
    |none=>simp[hb]at hh
    |some abc=>
     obtain⟨a,b,c⟩:=abc
     obtain⟨r1,r2,r3,r4⟩:=kz (P:=P) (w:=w) hO hlo hhi hmx hnn (VI rows.length) hb true
     simp only[hb]at hh
     cases c with
     |none=>
      simp only[Option.getD_none]at r1
      simp only[]at hh
      have hsl:=pX (m:=rows.length) hp hf r2 r3 (VI _) r3
      split at hh
      .rename_i hbl
       injection hh with hh
       simp only[Prod.mk.injEq]at hh
       obtain⟨rfl,rfl⟩:=hh
       refine⟨⟨_,run A _ _ a b _ r1,?_⟩,Tn.aO h _ _ _ _ _⟩
       have hlen:((rows.take b).drop a).length=b - a:=by simp; omega
       subst hbl
       have:=VR.tl (N:=N) (L:=L) (e:=e) (w:=w) ((rows.take rows.length).drop a) (if rows.length=a then A else A.map (·.add (a*k))) (by rw[hlen]; exact hsl) (hso _ _ _ (by simp only[List.length_drop,List.length_take]; omega))
       rw[hlen]at this
       exact this
      .injection hh with hh
       simp only[Prod.mk.injEq]at hh
       obtain⟨rfl,rfl⟩:=hh
       exact⟨⟨_,run A _ _ a b _ r1,.pv _ _ hsl⟩,Tn.aO h _ _ _ _ _⟩
     |some m=>
      obtain⟨m1,m2⟩:=r4 m rfl
      simp only[]at hh
      split at hh
      .rename_i hcond
       subst hcond
       injection hh with hh
       simp only[Prod.mk.injEq]at hh
       obtain⟨rfl,rfl⟩:=hh
       have hlen:((rows.take m).drop a).length=m - a:=by simp; omega
       refine⟨⟨_,run A _ _ _ _ _ r1,?_⟩,Tn.aO h _ _ _ _ _⟩
       have hsl:=pX (m:=m) hp hf r2 r3 m2 (VI _)
       have:=VR.tl (N:=N) (L:=L) (e:=e) (w:=w) ((rows.take m).drop a) (if m=a then A else A.map (·.add (a*k))) (by rw[hlen]; exact hsl) (hso _ _ _ (by simp only[List.length_drop,List.length_take]; omega))
       rw[hlen]at this
       exact this
      .cases hh
  .cases hh
 .rename_i id aq off len
  cases ho:aF h id aq with
  |none=>simp[ho]at hh
  |some ar=>
   simp only[ho]at hh
   split at hh
   .rename_i hark
    obtain⟨ho1,ho2⟩:=bB ho
    obtain⟨v1,v2,v3,_⟩:=hr.aq id ar ho1
    cases hx with
    |own _ _ _ _ A cap h0 h1 h2 h3=>
     obtain⟨g1,g2,g3,g4⟩:=h3 (by omega)
     cases hb:bounds g lo' hi' mx' len with
     |none=>simp[hb]at hh
     |some abc=>
      obtain⟨a,b,c⟩:=abc
      obtain⟨r1,r2,r3,r4⟩:=kz (P:=P) (w:=w) hO hlo hhi hmx hnn g2 hb true
      simp only[hb]at hh
      cases c with
      |none=>
       simp at hh
       obtain⟨rfl,rfl⟩:=hh
       refine⟨⟨_,run A _ cap a b _ r1,?_⟩,Tn.aO h _ _ _ _ _⟩
       simp only[Option.getD_none]
       refine .own id aq (off+a) (b - a) _ _ (fun hlt=>?_) h1 h2 (fun _=>⟨by omega,by omega,by omega,fun hlt=>?_⟩)
       .have:=h0 (by omega)
        split
        .exact this
        .simpa using this
       .rw[if_neg (by omega),g4 (by omega)]
        simp only[Option.map_some,dR]
        rw[v2,hark,VZ]
        simp[Nat.add_assoc]
      |some m=>
       simp only[]at hh
       split at hh
       .rename_i hcond
        obtain⟨rfl,rfl⟩:=hcond
        injection hh with hh
        simp only[Prod.mk.injEq]at hh
        obtain⟨rfl,rfl⟩:=hh
        refine⟨⟨_,run A _ cap _ _ _ r1,?_⟩,Tn.aO h _ _ _ _ _⟩
        simp only[Option.getD_some,Nat.sub_self]
        exact .tl [] _ uQ wv.nil
       .cases hh
   .cases hh
 .cases hh
theorem Ou (hO:OR N M L e w g ρ) {lo hi:Option Operand} {lo' hi':Option bM} (hlo:iX N M lo=some lo') (hhi:iX N M hi=some hi')
  {t:TypeId} (hu:P.underlying t=some .string) {x v:V} {xv:Value} (hx:VR N L e w x xv) (hh:wq g x lo' hi'=some v):
  Plain P N L e w (Instr.sliceAt t xv (lo.map ρ) (hi.map ρ) none) v:=by
 unfold wq at hh
 split at hh
 .rename_i s
  cases hx with
  |pv _ _ hp=>
   cases hp with
   |str _=>
    cases hb1:bound g hi' s.size s.size with
    |none=>simp[hb1]at hh
    |some b=>
     simp only[hb1]at hh
     cases hb2:bound g lo' 0 b with
     |none=>simp[hb2]at hh
     |some a=>
      simp only[hb2]at hh
      injection hh with hh
      subst hh
      have hb:bounds g lo' hi' none s.size=some (a,b,none):=by simp[bounds,hb1,hb2]
      obtain⟨r1,_⟩:=kz (P:=P) (w:=w) (mx:=none) hO hlo hhi rfl (by simp) (Nat.le_refl s.size) hb false
      simp only[Option.map_none,Option.getD_none]at r1
      exact⟨_,by simp[Instr.sliceAt,Instr.slice,underlying,hu,r1],.pv _ _ (.str _)⟩
 .cases hh
end Go.Pv
namespace Go.Pv
variable {P:Program} {N M:Nat→Nat} {W:Nat→Prop} {L L':Lx} {e e':bn} {h:af} {w w':World} {g:bM→V} {ρ:Operand→Value}
theorem VR.int {k:IntKind} {n:Int} {v:Value} (hv:VR N L e w (.pv (.int k n)) v):v=.int k n:=by
 cases hv with
 |pv _ _ hp=>cases hp; rfl
theorem VR.bool {b:Bool} {v:Value} (hv:VR N L e w (.pv (.bool b)) v):v=.bool b:=by
 cases hv with
 |pv _ _ hp=>cases hp; rfl
theorem VR.str {s:ByteArray} {v:Value} (hv:VR N L e w (.pv (.str s)) v):v=.string s:=by
 cases hv with
 |pv _ _ hp=>cases hp; rfl
theorem cR (k:IntKind) (n:Int) {s:Sem Value} (hs:s.run P w=.ok (.int k n) w):Plain P N L e w s (.pv (.int k n)):=⟨_,hs,.pv _ _ (.int k n)⟩
theorem eA (b:Bool) {s:Sem Value} (hs:s.run P w=.ok (.bool b) w):Plain P N L e w s (.pv (.bool b)):=⟨_,hs,.pv _ _ (.bool b)⟩
theorem mB (b:ByteArray) {s:Sem Value} (hs:s.run P w=.ok (.string b) w):Plain P N L e w s (.pv (.str b)):=⟨_,hs,.pv _ _ (.str b)⟩
theorem zV {op:BinOp} {t:TypeId} {k:IntKind} {a b:Int} {p:PV} (hns:¬(op=.shl∨op=.shr)) (hh:ff op k a b=some p):
  Plain P N L e w (binOp op t (.int k a) (.int k b)) (.pv p):=by
 cases op<;>simp[ff]at hh hns
 case add=>subst hh; exact cR _ _ (by simp[binOp,Op.intArith])
 case sub=>subst hh; exact cR _ _ (by simp[binOp,Op.intArith])
 case mul=>subst hh; exact cR _ _ (by simp[binOp,Op.intArith])
 case quo=>obtain⟨h1,rfl⟩:=hh; exact cR _ _ (by simp[binOp,Op.intDiv,h1])
 case rem=>obtain⟨h1,rfl⟩:=hh; exact cR _ _ (by simp[binOp,Op.intDiv,h1])
 case and=>subst hh; exact cR _ _ (by simp[binOp,Op.intBits])
 case or=>subst hh; exact cR _ _ (by simp[binOp,Op.intBits])
 case xor=>subst hh; exact cR _ _ (by simp[binOp,Op.intBits])
 case andNot=>subst hh; exact cR _ _ (by simp[binOp,Op.intBits])
 case eql=>subst hh; exact eA _ (by simp[binOp,Op.intCmp])
 case neq=>subst hh; exact eA _ (by simp[binOp,Op.intCmp])
 case lss=>subst hh; exact eA _ (by simp[binOp,Op.intCmp])
 case leq=>subst hh; exact eA _ (by simp[binOp,Op.intCmp])
 case gtr=>subst hh; exact eA _ (by simp[binOp,Op.intCmp])
 case geq=>subst hh; exact eA _ (by simp[binOp,Op.intCmp])
theorem Ov {op:BinOp} {t:TypeId} {x y v:V} {xv yv:Value} (hx:VR N L e w x xv) (hy:VR N L e w y yv) (hh:cN op x y=some v):Plain P N L e w (binOp op t xv yv) v:=by
 unfold cN at hh
 split at hh
 .rename_i j a k b
  have e1:=hx.int
  have e2:=hy.int
  subst e1; subst e2
  split at hh
  .rename_i hs
   unfold rZ at hh
   split at hh
   .simp at hh
   .rename_i hb
    rcases hs with rfl|rfl
    .simp at hh; subst hh; exact cR _ _ (by simp[binOp,Op.shift,hb])
    .simp at hh; subst hh; exact cR _ _ (by simp[binOp,Op.shift,hb])
  .rename_i hs
   split at hh
   .rename_i hjk
    subst hjk
    cases hq:ff op j a b with
    |none=>simp[hq]at hh
    |some p=>simp[hq]at hh; subst hh; exact zV hs hq
   .cases hh
 .rename_i a b
  have e1:=hx.str
  have e2:=hy.str
  subst e1; subst e2
  cases op<;>simp[lE]at hh
  .obtain⟨h1,rfl⟩:=hh
   exact mB _ (by
    have:¬(((a.size+b.size:Nat):Int)>IntKind.i64.max):=by
     have:IntKind.i64.max=9223372036854775807:=by decide
     omega
    simp only[binOp,Op.stringOp]
    rw[if_neg this]
    rfl)
  all_goals subst hh; exact eA _ (by simp[binOp,Op.stringOp])
 .cases hh
theorem xJ {op:BinOp} {t:TypeId} {x y:Operand} {x' y' v:V} {xv yv:Value} (hx:VR N L e w x' xv) (hy:VR N L e w y' yv) (hh:cN op x' y'=some v):
  (eqGuard op t x y xv yv).run P w=.ok () w:=by
 unfold cN at hh
 split at hh
 .have e1:=hx.int
  have e2:=hy.int
  subst e1; subst e2
  unfold eqGuard
  split<;>rfl
 .have e1:=hx.str
  have e2:=hy.str
  subst e1; subst e2
  unfold eqGuard
  split<;>rfl
 .cases hh
theorem SJ {op:UnOp} {x v:V} {xv:Value} (hx:VR N L e w x xv) (hh:Mn op x=some v):Plain P N L e w (Op.unary op xv) v:=by
 unfold Mn at hh
 split at hh
 .injection hh with hh
  subst hh
  have e1:=hx.int
  subst e1
  exact cR _ _ (by simp[Op.unary,Op.intArith])
 .injection hh with hh
  subst hh
  have e1:=hx.bool
  subst e1
  exact eA _ (by simp[Op.unary])
 .cases hh
theorem Ic {s d:TypeId} {k k':IntKind} (hs:P.underlying s=some (.int k')) (hd:P.underlying d=some (.int k)) {k0:IntKind} {n:Int} {xv:Value} (hx:VR N L e w (.pv (.int k0 n)) xv):
  Plain P N L e w (convert s d xv) (.pv (.int k (k.wrap n))):=by
 have e1:=hx.int
 subst e1
 exact cR _ _ (by simp[convert,underlying,hs,hd,Conv.intToInt])
theorem DN {s d:TypeId} {k':IntKind} (hs:P.underlying s=some (.int k')) (hd:P.underlying d=some .string) {k0:IntKind} {n:Int} {xv:Value} (hx:VR N L e w (.pv (.int k0 n)) xv):
  Plain P N L e w (convert s d xv) (.pv (.str (Utf8.encode n))):=by
 have e1:=hx.int
 subst e1
 exact mB _ (by simp[convert,underlying,hs,hd,Conv.intToString])
theorem xK {s d:TypeId} {de:TypeDesc} (hs:P.underlying s=some de) (hd:P.underlying d=some .string) {b:ByteArray} {xv:Value} (hx:VR N L e w (.pv (.str b)) xv):
  Plain P N L e w (convert s d xv) (.pv (.str b)):=by
 have e1:=hx.str
 subst e1
 exact mB _ (by simp[convert,underlying,hs,hd])
theorem Ow {vs:List V} {i:Nat} {v:V} {xv:Value} (hx:VR N L e w (.dH vs) xv) (hv:vs[i]?=some v):Plain P N L e w (Instr.extract xv i) v:=by
 cases hx with
 |dH _ arr h1 h2=>
  have hlt:i<arr.size:=by rw[h1]; exact(Vy.1 hv).1
  have hge:arr[i]?=some (arr.getD i undef):=bl hlt
  refine⟨arr.getD i undef,?_,h2 i v hv⟩
  generalize arr.getD i undef=u at hge
  simp[Instr.extract,hge]
theorem Ie {t el:TypeId} (hd:P.underlying t=some (.slice el)) {ty:TypeId} {x:V} {xv:Value} (hx:VR N L e w x xv) {n:Nat} {tn:Tn} (hh:fY h 0 x=some (n,tn)):
  (Builtin.len_ #[t] ty #[xv]).run P w=.ok (goInt n) w∧tn.apply h=h:=by
 unfold fY at hh
 split at hh<;>first|(cases hh; done)|skip
 .rename_i tg rows _
  simp at hh
  obtain⟨rfl,rfl⟩:=hh
  refine⟨?_,Tn.aO h _ _ _ _ _⟩
  cases hx with
  |pv _ _ hp=>cases hp with|aa=>simp[Builtin.len_,underlying,hd]
 .simp at hh
  obtain⟨rfl,rfl⟩:=hh
  refine⟨?_,Tn.aO h _ _ _ _ _⟩
  cases hx with
  |tl=>simp[Builtin.len_,underlying,hd]
 .simp at hh
  obtain⟨rfl,rfl⟩:=hh
  refine⟨?_,Tn.aO h _ _ _ _ _⟩
  cases hx with
  |own=>simp[Builtin.len_,underlying,hd]
 all_goals (rename_i hq; simp at hq)
theorem Ig {t : TypeId} (hd : P.underlying t = some .string) {ty : TypeId} {x : V} {xv : Value} (hx : VR N L e w x xv) {n : Nat} {tn : Tn} (hh : fY h 1 x = some (n,tn)) :
    (Builtin.len_ #[t] ty #[xv]).run P w = .ok (goInt n) w ∧ tn.apply h = h := by
  unfold fY at hh
  split at hh <;> first | (cases hh; done) | skip
  all_goals first
    | (rename_i hq; simp at hq; done)
    | (simp at hh
       obtain ⟨rfl,rfl⟩ := hh
       refine ⟨?_,Tn.aO h _ _ _ _ _⟩
       have e1 := hx.str
       subst e1
       simp [Builtin.len_,underlying,hd])
theorem kA {r:Nat} {es:Array MapEntry} {cl:Nat} (hm:w.heap[r]?=some (.map es cl)):(getObj r).run P w=.ok (.map es cl) w:=by
 simp[getObj,Sem.run,hm]
theorem Ih (hr:HR N L e W h w) {t k el:TypeId} (hd:P.underlying t=some (.map k el)) {ty:TypeId} {x:V} {xv:Value} (hx:VR N L e w x xv) {n:Nat} {tn:Tn} (hh:fY h 2 x=some (n,tn)):
  (Builtin.len_ #[t] ty #[xv]).run P w=.ok (goInt n) w∧tn.apply h=h:=by
 unfold fY at hh
 split at hh<;>first|(cases hh; done)|skip
 all_goals (try (rename_i hq; simp at hq; done))
 .rename_i id _
  cases hm:h.mp[id]? with
  |none=>simp[hm]at hh
  |some m=>
   simp[hm]at hh
   obtain⟨rfl,rfl⟩:=hh
   refine⟨?_,Tn.aO h _ _ _ _ _⟩
   cases hx with
   |map _ hid=>
    obtain⟨es,cl,g1,g2,_⟩:=hr.mp id m hm
    simp[Builtin.len_,underlying,hd,kA g1,g2]
 .simp at hh
  obtain⟨rfl,rfl⟩:=hh
  refine⟨?_,Tn.aO h _ _ _ _ _⟩
  cases hx with
  |ej=>simp[Builtin.len_,underlying,hd]
theorem sq (isMax:Bool) (k:IntKind):∀(r:List V) (vs:List Value) (a n:Int),(∀(j:Nat) (c:V),r[j]?=some c→∃v,vs[j]?=some v∧VR N L e w c v)→vs.length=r.length→iw isMax a r=some n→
  (vs.foldlM (if isMax then Builtin.max2 else Builtin.min2) (.int k a)).run P w=.ok (.int k n) w
 |[],vs,a,n,_,hl,hh=>by
  have:vs=[]:=List.eq_nil_of_length_eq_zero (by simpa using hl)
  subst this
  simp[iw]at hh
  subst hh
  rfl
 |c::r,vs,a,n,hv,hl,hh=>by
  match vs,hl with
  |v::vs,hl=>
   unfold iw at hh
   split at hh
   .cases ‹_::_=[]›
   .rename_i k' b r' heq
    injection heq with h1 h2
    subst h1; subst h2
    obtain⟨v',h3,h4⟩:=hv 0 _ rfl
    simp at h3
    subst h3
    have e1:=h4.int
    subst e1
    have ih:=sq isMax k r vs _ n (fun j c hj=>by simpa using hv (j+1) c (by simpa using hj)) (by simpa using hl) hh
    cases isMax<;>simp[List.foldlM_cons,Builtin.max2,Builtin.min2]at ih ⊢<;>exact ih
   .cases hh
def hY (N:Nat→Nat) (L:Lx) (e:bn) (w:World) (cs:List V) (arr:Array Value):Prop:=
 arr.size=cs.length∧∀(j:Nat) (c:V),cs[j]?=some c→VR N L e w c (arr.getD j undef)
def kB (off:Nat) (vs:Array Value) (cells:Array Value):Array Value:=vs.zipIdx.foldl (fun cs (c,j)=>cs.setIfInBounds (off+j) c) cells
theorem oA (off:Nat):∀(l:List Value) (i:Nat) (cells:Array Value),
  ((l.zipIdx i).foldl (fun(cs:Array Value) (x:Value×Nat)=>cs.setIfInBounds (off+x.2) x.1) cells).size=cells.size∧
  ∀j,((l.zipIdx i).foldl (fun(cs:Array Value) (x:Value×Nat)=>cs.setIfInBounds (off+x.2) x.1) cells)[j]?=
   if off+i≤j∧j<off+i+l.length∧j<cells.size then l[j - (off+i)]? else cells[j]?
 |[],i,cells=>by
  refine⟨rfl,fun j=>?_⟩
  rw[if_neg (by simp; omega)]
  rfl
 |v::l,i,cells=>by
  obtain⟨h1,h2⟩:=oA off l (i+1) (cells.setIfInBounds (off+i) v)
  simp only[List.zipIdx_cons,List.foldl_cons]
  refine⟨by rw[h1]; simp,fun j=>?_⟩
  rw[h2 j]
  simp only[Array.size_setIfInBounds,List.length_cons]
  by_cases hj:j=off+i
  .subst hj
   rw[if_neg (by omega)]
   by_cases hs:off+i<cells.size
   .rw[if_pos (by omega),Array.getElem?_setIfInBounds_self_of_lt hs]
    simp
   .rw[if_neg (by omega),Array.getElem?_eq_none (by simp; omega),Array.getElem?_eq_none (by omega)]
  .by_cases hc:off+(i+1)≤j∧j<off+(i+1)+l.length∧j<cells.size
   .rw[if_pos hc,if_pos (by omega)]
    rw[show j - (off+i)=(j - (off+(i+1)))+1 by omega,List.getElem?_cons_succ]
   .rw[if_neg hc,if_neg (by omega),Array.getElem?_setIfInBounds_ne (Ne.symm hj)]
theorem xL (off:Nat) (vs cells:Array Value):(kB off vs cells).size=cells.size∧
  ∀j,(kB off vs cells)[j]?=if off≤j∧j<off+vs.size∧j<cells.size then vs[j - off]? else cells[j]?:=by
 have key:kB off vs cells=(vs.toList.zipIdx 0).foldl (fun(cs:Array Value) (x:Value×Nat)=>cs.setIfInBounds (off+x.2) x.1) cells:=by
  unfold kB
  rw[← Array.foldl_toList,Array.toList_zipIdx]
 rw[key]
 obtain⟨h1,h2⟩:=oA off vs.toList 0 cells
 refine⟨h1,fun j=>?_⟩
 rw[h2 j]
 simp
theorem hY.over {cs:List V} {arr:Array Value} (hc:hY N L e w cs arr) {x:V} {v:Value} (hx:VR N L e w x v) (hs:x.sized=true) {off:Nat} (hfit:off+x.cells.length≤cs.length):
  hY N L e w (setAt cs off x.cells) (kB off v.cells arr):=by
 obtain⟨h1,h2⟩:=hx.cells hs
 obtain⟨k1,k2⟩:=xL off v.cells arr
 refine⟨by rw[k1,hc.1]; simp[setAt]; omega,fun j c hj=>?_⟩
 have hjl:j<arr.size:=by
  rw[hc.1]
  have:=(Vy.1 hj).1
  simp[setAt]at this
  omega
 have hget:(kB off v.cells arr).getD j undef=((kB off v.cells arr)[j]?).getD undef:=by simp
 rw[hget,k2 j]
 unfold setAt at hj
 rcases oz hfit hj with⟨p1,p2,p3⟩|⟨p1,p2⟩
 .rw[if_pos (by omega)]
  have:=h2 _ c p3
  simpa using this
 .rw[if_neg (by omega)]
  have:=hc.2 j c p2
  simpa using this
theorem oB (hO:OR N M L e w g ρ) {place:Nat→Option (Nat×Nat)}:∀(parts:List (Nat×Operand)) (parts':List (Nat×Nat×bM)) (cs cs':List V) (arr:Array Value),
  parts'.length=parts.length→(∀(j:Nat) (q:Nat×Nat×bM),parts'[j]?=some q→∃i x,parts[j]?=some (i,x)∧place i=some (q.1,q.2.1)∧bm N M x=some q.2.2)→
  hY N L e w cs arr→eM g cs parts'=some cs'→∃arr',Instr.fill place arr (parts.map fun(i,x)=>(i,ρ x))=some arr'∧hY N L e w cs' arr'
 |[],parts',cs,cs',arr,hl,_,hc,hf=>by
  have:parts'=[]:=List.eq_nil_of_length_eq_zero (by simpa using hl)
  subst this
  simp[eM]at hf
  subst hf
  exact⟨arr,rfl,hc⟩
 |(i,x)::parts,parts',cs,cs',arr,hl,hp,hc,hf=>by
  match parts',hl with
  |(off,n,y)::parts',hl=>
   obtain⟨i',x',q1,q2,q3⟩:=hp 0 _ rfl
   simp at q1
   obtain⟨rfl,rfl⟩:=q1
   simp only[eM]at hf
   split at hf
   .rename_i hcond
    obtain⟨c1,c2,c3⟩:=hcond
    have hx:=hO x y q3
    obtain⟨h1,h2⟩:=hx.cells c1
    have hov:=hc.over hx c1 (off:=off) (by omega)
    obtain⟨arr',r1,r2⟩:=oB hO parts parts' _ cs' _ (by simpa using hl) (fun j q hj=>by simpa using hp (j+1) q (by simpa using hj)) hov hf
    refine⟨arr',?_,r2⟩
    simp only[List.map_cons,Instr.fill,q2]
    have hn:(((ρ x).cells.size≠n||off+(ρ x).cells.size>arr.size):Bool)=false:=by
     have e1:(ρ x).cells.size=n:=by rw[h1,c2]
     simp[e1,hc.1]; omega
    rw[if_neg (by rw[hn]; simp)]
    exact r1
   .cases hf
theorem hY.zero {t:TypeId} {z:List V} (hz:zeroOf P t=some z):∃zv,(∀w,(zeroValue t).run P w=.ok zv w)∧hY N L e w z zv.cells:=by
 obtain⟨i,zv,h1,h2,h3,h4,h5,h6⟩:=fz hz
 exact⟨zv,h6,h4,fun j c hj=>VR.uN (h5 j c hj)⟩
theorem lP {k:Nat}:∀{parts:List (Nat×Operand)} {l:List (Nat×Nat×bM)},iW N M k parts=some l→l.length=parts.length∧
  ∀(j:Nat) (q:Nat×Nat×bM),l[j]?=some q→∃i x,parts[j]?=some (i,x)∧some (i*k,k)=some (q.1,q.2.1)∧bm N M x=some q.2.2
 |[],l,hh=>by simp[iW]at hh; subst hh; simp
 |(i,x)::r,l,hh=>by
  unfold iW at hh
  cases hx:bm N M x with
  |none=>simp[hx]at hh
  |some y=>
   cases hr:iW N M k r with
   |none=>simp[hx,hr]at hh
   |some s=>
    simp[hx,hr]at hh
    subst hh
    obtain⟨k1,k2⟩:=lP hr
    refine⟨by simp[k1],fun j q hj=>?_⟩
    match j with
    |0=>simp at hj; subst hj; exact⟨i,x,rfl,rfl,hx⟩
    |j+1=>simpa using k2 j q (by simpa using hj)
theorem qF {fs:Array Field}:∀{parts:List (Nat×Operand)} {l:List (Nat×Nat×bM)},lJ P N M fs parts=some l→l.length=parts.length∧
  ∀(j:Nat) (q:Nat×Nat×bM),l[j]?=some q→∃i x f,parts[j]?=some (i,x)∧fs[i]?=some f∧q.1=f.offset∧cU P f.type=some q.2.1∧bm N M x=some q.2.2
 |[],l,hh=>by simp[lJ]at hh; subst hh; simp
 |(i,x)::r,l,hh=>by
  unfold lJ at hh
  cases hf:fs[i]? with
  |none=>simp[hf]at hh
  |some f=>
   cases hx:bm N M x with
   |none=>simp[hf,hx]at hh
   |some y=>
    cases hr:lJ P N M fs r with
    |none=>simp[hf,hx,hr]at hh
    |some s=>
     cases hn:cU P f.type with
     |none=>simp[hf,hx,hr,hn]at hh
     |some n=>
      simp[hf,hx,hr,hn]at hh
      subst hh
      obtain⟨k1,k2⟩:=qF hr
      refine⟨by simp[k1],fun j q hj=>?_⟩
      match j with
      |0=>simp at hj; subst hj; exact⟨i,x,f,rfl,hf,rfl,hn,hx⟩
      |j+1=>simpa using k2 j q (by simpa using hj)
theorem zW (fs:Array Field) (hall:fs.toList.all (fun f=>(cU P f.type).isSome)=true):
  (fs.mapM fun f=>do pure (f.offset,← sizeOf f.type):Sem (Array (Nat×Nat))).run P w=.ok (fs.map fun f=>(f.offset,(cU P f.type).getD 0)) w:=by
 have hl:∀f∈fs.toList,(cU P f.type).isSome=true:=fun f hf=>V9.1 hall f hf
 have key:∀l:List Field,(∀f∈l,(cU P f.type).isSome=true)→(l.mapM fun f=>Functor.map (Prod.mk f.offset) (sizeOf f.type):Sem (List (Nat×Nat))).run P w=.ok (l.map fun f=>(f.offset,(cU P f.type).getD 0)) w:=by
  intro l
  induction l with
  |nil=>intro _; rfl
  |cons f l ih=>
   intro hl
   obtain⟨n,hn⟩:=Option.isSome_iff_exists.1 (hl f (by simp))
   have hsz:=fh (w:=w) hn
   simp[List.mapM_cons,hsz,ih (fun f hf=>hl f (by simp[hf])),hn]
 obtain⟨fl⟩:=fs
 have:=key fl hl
 simp only[Array.mapM_eq_mapM_toList]at *
 simp[this]
theorem DO (hO:OR N M L e w g ρ) {t:TypeId} {z:List V} (hz:zeroOf P t=some z) {fs:Array Field} (hu:P.underlying t=some (.struct fs)) (hall:fs.toList.all (fun f=>(cU P f.type).isSome)=true)
  {parts:Array (Nat×Operand)} {l:List (Nat×Nat×bM)} (hp:lJ P N M fs parts.toList=some l) {cs:List V} (hf:eM g z l=some cs):
  Plain P N L e w (Instr.build t (parts.map fun(i,x)=>(i,ρ x))) (.agg cs):=by
 obtain⟨zv,h1,h2⟩:=hY.zero (N:=N) (L:=L) (e:=e) (w:=w) hz
 obtain⟨k1,k2⟩:=qF hp
 obtain⟨arr',r1,r2⟩:=oB hO (place:=fun i=>(fs.map fun f=>(f.offset,(cU P f.type).getD 0))[i]?) parts.toList l z cs zv.cells k1 (fun j q hj=>by
  obtain⟨i,x,f,q1,q2,q3,q4,q5⟩:=k2 j q hj
  exact⟨i,x,q1,by simp[q2,q3,q4],q5⟩) h2 hf
 refine⟨.agg arr',?_,.agg cs arr' r2.1 r2.2⟩
 have hpl:=zW (P:=P) (w:=w) fs hall
 simp only[Instr.build,Sem.run_bind,h1,Result.andThen_ok,underlying,run_program,hu,Sem.run_pure]
 rw[hpl]
 simp only[Result.andThen_ok,Array.toList_map]
 rw[r1]
 rfl
theorem DP (hO:OR N M L e w g ρ) {t el:TypeId} {len k:Nat} {z:List V} (hz:zeroOf P t=some z) (hu:P.underlying t=some (.array len el)) (hk:cU P el=some k)
  {parts:Array (Nat×Operand)} {l:List (Nat×Nat×bM)} (hp:iW N M k parts.toList=some l) {cs:List V} (hf:eM g z l=some cs):
  Plain P N L e w (Instr.build t (parts.map fun(i,x)=>(i,ρ x))) (.agg cs):=by
 obtain⟨zv,h1,h2⟩:=hY.zero (N:=N) (L:=L) (e:=e) (w:=w) hz
 obtain⟨k1,k2⟩:=lP hp
 obtain⟨arr',r1,r2⟩:=oB hO (place:=fun i=>some (i*k,k)) parts.toList l z cs zv.cells k1 k2 h2 hf
 refine⟨.agg arr',?_,.agg cs arr' r2.1 r2.2⟩
 have hsz:=fh (w:=w) hk
 simp only[Instr.build,Sem.run_bind,h1,Result.andThen_ok,underlying,run_program,hu,Sem.run_pure,hsz,Array.toList_map]
 rw[r1]
 rfl
end Go.Pv
namespace Go.Pv
variable {P:Program} {N M:Nat→Nat} {W:Nat→Prop} {L L':Lx} {e e':bn} {h:af} {w w':World} {g:bM→V} {ρ:Operand→Value}
def rowsOf:Sum (List (List PV)) (List (List V))→List (List V)
 |.inl l=>l.map (·.map .pv)
 |.inr l=>l
theorem aL.cq (a:aL):a.rows=rowsOf a.body:=by
 obtain⟨v,k,b⟩:=a
 cases b<;>rfl
theorem cH (s:Sum (List (List PV)) (List (List V))):(rowsOf s).length=aB s:=by
 cases s<;>simp[rowsOf,aB]
theorem nJ (a b:Sum (List (List PV)) (List (List V))):rowsOf (aR a b)=rowsOf a++rowsOf b:=by
 cases a<;>cases b<;>simp[rowsOf,aR]
theorem gk (off len:Nat) (s:Sum (List (List PV)) (List (List V))):rowsOf (aI off len s)=((rowsOf s).drop off).take len:=by
 cases s<;>simp[rowsOf,aI,List.map_take,List.map_drop]
theorem oC {k:Nat} {s:Sum (List (List PV)) (List (List V))} (hf:aP k s=true):∀r∈rowsOf s,r.length=k:=by
 cases s with
 |inl x=>
  intro r hr
  simp only[rowsOf,List.mem_map]at hr
  obtain⟨q,hq,rfl⟩:=hr
  simp only[aP,List.all_eq_true,beq_iff_eq]at hf
  simpa using hf q hq
 |inr x=>
  intro r hr
  simp only[aP,List.all_eq_true,beq_iff_eq]at hf
  exact hf r hr
theorem iz {a b:Sum (List (List PV)) (List (List V))} (ha:bU a) (hb:bU b):bU (aR a b):=by
 cases a<;>cases b<;>simp only[aR,bU]at *
 intro r hr
 rcases Wm.1 hr with hr|hr
 .exact ha r hr
 .exact hb r hr
theorem kC {off len:Nat} {a:Sum (List (List PV)) (List (List V))} (ha:bU a):bU (aI off len a):=by
 cases a<;>simp only[aI,bU]at *
 intro r hr
 exact ha r (W8 (WL hr))
def gg (N:Nat→Nat) (L:Lx) (e:bn) (w:World) (k:Nat) (rows:List (List V)) (vals:List Value):Prop:=
 vals.length=rows.length*k∧(∀r∈rows,r.length=k)∧∀(i:Nat) (r:List V),rows[i]?=some r→∀(j:Nat) (c:V),r[j]?=some c→c.calm=true∧∃u,vals[i*k+j]?=some u∧VR N L e w c u
theorem gg.one {k:Nat} {rows:List (List V)} {vals:List Value} (hr:gg N L e w k rows vals):∀u∈vals,u.oneCell'=true:=by
 intro u hu
 obtain⟨q,hq⟩:=VD.1 hu
 have hql:q<vals.length:=(Vy.1 hq).1
 rw[hr.1]at hql
 have hk:0<k:=by
  rcases Wu k with h0|h0
  .rw[h0]at hql; simp at hql
  .exact h0
 have hi:q/k<rows.length:=(Xh hk).2 hql
 have hri:rows[q/k]?=some (rows[q/k]'hi):=VA hi
 have hrl:=hr.2.1 _ (Vz hri)
 have hj:q%k<(rows[q/k]'hi).length:=by rw[hrl]; exact Wa _ hk
 obtain⟨h1,u',h2,h3⟩:=hr.2.2 _ _ hri (q%k) _ (VA hj)
 rw[Nat.div_add_mod' q k,hq]at h2
 injection h2 with h2
 subst h2
 exact h3.lK h1
theorem Bu {k n:Nat} {b off:Nat} (f:∀q,q<n*k→∃v,w.cell? ⟨b,off+q,none⟩=some v):∃vals:List Value,vals.length=n*k∧∀q v,vals[q]?=some v→w.cell? ⟨b,off+q,none⟩=some v:=by
 refine⟨(List.range (n*k)).map fun q=>(w.cell? ⟨b,off+q,none⟩).getD undef,by simp,fun q v hq=>?_⟩
 have hlt:q<n*k:=by have:=(List.getElem?_eq_some_iff.1 hq).1; simpa using this
 obtain⟨u,hu⟩:=f q hlt
 simp[hlt,hu]at hq
 rw[hu,hq]
theorem lQ {tg k cap:Nat} {rows:List (List PV)} {A:Option Addr} (hp:dL N L w (.aa tg rows) (.slice A rows.length cap)) (hf:aP k (.inl rows)=true):
  ∃(ad:Addr) (vals:List Value),(0<rows.length→A=some ad)∧gg N L e w k (rows.map (·.map .pv)) vals∧∀q v,vals[q]?=some v→w.cell? (ad.add q)=some v:=by
 have hfit:=oC hf
 cases hp with
 |aa _ _ _ ad _ k' vs hk hc ha hcell hv hpm h1=>
  by_cases hn:0<rows.length
  .obtain⟨rfl,hsp,hl⟩:=ha hn
   obtain⟨b,o,sp⟩:=ad
   simp only at hsp
   subst hsp
   have hkk:k'=k:=by
    have:rows[0]?=some (rows[0]'hn):=VA _
    rw[← hk _ (Vz this)]
    have:=hfit ((rows[0]'hn).map .pv) (VP.2 ⟨_,Ww _,rfl⟩)
    simpa using this
   subst hkk
   have hat:∀q,q<rows.length*k'→∃c,fx rows (q/k') (q%k')=some c:=by
    intro q hq
    have hk0:0<k':=by
     rcases Wu k' with h0|h0
     .rw[h0]at hq; simp at hq
     .exact h0
    have hi:q/k'<rows.length:=(Xh hk0).2 hq
    have hrl:=hk (rows[q/k']'hi) (Ww _)
    refine⟨(rows[q/k']'hi)[q%k']'(by rw[hrl]; exact Wa _ hk0),?_⟩
    simp[fx,List.getElem?_eq_getElem hi]
   obtain⟨vals,v1,v2⟩:=Bu (w:=w) (k:=k') (n:=rows.length) (b:=b) (off:=o) (fun q hq=>by
    obtain⟨c,hc⟩:=hat q hq
    have:=hcell _ _ c hc
    rw[Nat.div_add_mod' q k']at this
    exact⟨_,this⟩)
   refine⟨⟨b,o,none⟩,vals,fun _=>rfl,⟨by simpa using v1,fun r hr=>?_,fun i r hi j c hj=>?_⟩,fun q v hq=>by rw[dR]; exact v2 q v hq⟩
   .obtain⟨q,hq,rfl⟩:=VP.1 hr
    simpa using hk q hq
   .rw[VF]at hi
    cases hri:rows[i]? with
    |none=>simp[hri]at hi
    |some q=>
     simp[hri]at hi
     subst hi
     obtain⟨p,hp,rfl⟩:=dA hj
     have hat':fx rows i j=some p:=by simp[fx,hri,hp]
     have hjk:j<k':=by rw[← hk q (Vz hri)]; exact(Vy.1 hp).1
     have hil:i<rows.length:=(Vy.1 hri).1
     have hql:i*k'+j<vals.length:=by
      rw[v1]
      have:(i+1)*k'≤rows.length*k':=VL _ (by omega)
      rw[VZ,Wv]at this
      omega
     refine⟨by rw[PV.zR]; exact h1 i j p hat',vs i j,?_,.pv _ _ (hv i j p hat')⟩
     have h3:=v2 _ _ (VA hql)
     have h4:=hcell i j p hat'
     simp only at h4
     rw[h4]at h3
     injection h3 with h3
     rw[VA hql,← h3]
  .have h0:rows=[]:=VJ (by omega)
   subst h0
   exact⟨default,[],fun hh=>absurd hh (by simp),⟨by simp,by simp,by simp⟩,by simp⟩
theorem xM {α:Type} {l:List α} {off len:Nat} (hfit:off+len≤l.length):((l.drop off).take len).length=len:=by simp; omega
theorem oD {α:Type} {l:List α} {off len i:Nat} {x:α} (hi:((l.drop off).take len)[i]?=some x):i<len∧l[off+i]?=some x:=by
 rw[VN]at hi
 split at hi
 .rw[Wg]at hi
  exact⟨by assumption,hi⟩
 .cases hi
theorem xN (hr:HR N L e W h w) {id aq off len cap:Nat} {A:Option Addr} (hx:VR N L e w (.own id aq off len) (.slice A len cap)) {a:aL} (ho:aF h id aq=some a) (hk:a.k≠0):
  ∃(ad:Addr) (vals:List Value),(0<len→A=some ad)∧gg N L e w a.k (rowsOf (aI off len a.body)) vals∧(∀q v,vals[q]?=some v→w.cell? (ad.add q)=some v)∧(rowsOf (aI off len a.body)).length=len:=by
 obtain⟨ho1,ho2⟩:=bB ho
 obtain⟨v1,v2,v3,v4⟩:=hr.aq id a ho1
 obtain⟨g1,g2,g3,g4,g5⟩:=hr.ar id a ho1 hk
 cases hx with
 |own _ _ _ _ _ _ h0 h1 h2 h3=>
  obtain⟨q1,q2,q3,q4⟩:=h3 (by omega)
  rw[gk,← aL.cq]
  have hlen:((a.rows.drop off).take len).length=len:=xM (by rw[aL.bH]; omega)
  have hrow:∀i,i<len→∃r,a.rows[off+i]?=some r∧r.length=a.k:=by
   intro i hi
   have hlt:off+i<a.rows.length:=by rw[aL.bH]; omega
   exact⟨_,VA hlt,g3 _ (Ww _)⟩
  obtain⟨vals,u1,u2⟩:=Bu (w:=w) (k:=a.k) (n:=len) (b:=e.ar id) (off:=e.ad id+off*a.k) (fun q hq=>by
   have hk0:0<a.k:=by omega
   obtain⟨r,hr1,hr2⟩:=hrow (q/a.k) ((Xh hk0).2 hq)
   have hj:q%a.k<r.length:=by rw[hr2]; exact Wa _ hk0
   obtain⟨_,v,k1,_⟩:=g4 _ _ hr1 (q%a.k) _ (VA hj)
   refine⟨v,?_⟩
   rw[← k1]
   congr 2
   have:=Nat.div_add_mod' q a.k
   rw[VZ]
   omega)
  refine⟨⟨e.ar id,e.ad id+off*a.k,none⟩,vals,fun hl=>by rw[q4 (by omega),v2],⟨by rw[hlen]; exact u1,fun r hr'=>g3 r (W8 (WL hr')),fun i r hi j c hj=>?_⟩,fun q v hq=>by rw[dR]; exact u2 q v hq,hlen⟩
  obtain⟨hil,hi'⟩:=oD hi
  obtain⟨k0,v,k1,k2⟩:=g4 _ _ hi' j c hj
  have hjk:j<a.k:=by rw[← g3 r (Vz hi')]; exact(Vy.1 hj).1
  have hql:i*a.k+j<vals.length:=by
   rw[u1]
   have:(i+1)*a.k≤len*a.k:=VL _ (by omega)
   rw[VZ,Wv]at this
   omega
  refine⟨k0,v,?_,k2⟩
  have h5:=u2 _ _ (VA hql)
  rw[show e.ad id+off*a.k+(i*a.k+j)=e.ad id+(off+i)*a.k+j by rw[VZ]; omega,k1]at h5
  injection h5 with h5
  rw[VA hql,← h5]
theorem oE (hr:HR N L e W h w) {y:V} {yv:Value} (hy:VR N L e w y yv) {new:Sum (List (List PV)) (List (List V))} {rd:Option Nat} (hs:bg h y=some (new,rd)) {k:Nat} (hf:aP k new=true) (_hk:k≠0):
  ∃(B:Option Addr) (c:Nat) (ad:Addr) (vals:List Value),yv=.slice B (aB new) c∧(0<aB new→B=some ad)∧gg N L e w k (rowsOf new) vals∧(∀q v,vals[q]?=some v→w.cell? (ad.add q)=some v)∧bU new∧
   (∀id,rd=some id→∃aq off len,y=.own id aq off len):=by
 unfold bg at hs
 split at hs
 .rename_i tg rows
  cases hy with
  |pv _ _ hp=>
   have hp':=hp
   cases hp with
   |aa _ _ A ad cap k' vs hk' hc ha hcell hv hpm h1=>
    split at hs
    .rename_i ht
     injection hs with hs
     simp only[Prod.mk.injEq]at hs
     obtain⟨rfl,rfl⟩:=hs
     obtain⟨ad,vals,k1,k2,k3⟩:=lQ (e:=e) hp' hf
     refine⟨A,cap,ad,vals,rfl,k1,k2,k3,fun r hr' c hc'=>?_,by simp⟩
     obtain⟨i,hi⟩:=VD.1 hr'
     obtain⟨j,hj⟩:=VD.1 hc'
     exact hpm ht i j c (by simp[fx,hi,hj])
    .injection hs with hs
     simp only[Prod.mk.injEq]at hs
     obtain⟨rfl,rfl⟩:=hs
     have hf':aP k (.inl rows)=true:=by
      simp only[aP,List.all_map]at hf ⊢
      simpa using hf
     obtain⟨ad,vals,k1,k2,k3⟩:=lQ (e:=e) hp' hf'
     refine⟨A,cap,ad,vals,by simp[aB],by simpa [aB]using k1,k2,k3,trivial,by simp⟩
 .rename_i rows
  injection hs with hs
  simp only[Prod.mk.injEq]at hs
  obtain⟨rfl,rfl⟩:=hs
  cases hy with
  |tl _ A hp=>
   obtain⟨ad,vals,k1,k2,k3⟩:=lQ (e:=e) hp hf
   refine⟨A,_,ad,vals,rfl,k1,k2,k3,fun r hr' c hc'=>?_,by simp⟩
   cases hp with
   |aa _ _ _ ad _ k' vs hk' hc ha hcell hv hpm h1=>
    obtain⟨i,hi⟩:=VD.1 hr'
    obtain⟨j,hj⟩:=VD.1 hc'
    exact hpm (by omega) i j c (by simp[fx,hi,hj])
 .rename_i id aq off len
  cases ho:aF h id aq with
  |none=>simp[ho]at hs
  |some a=>
   simp[ho]at hs
   obtain⟨rfl,rfl⟩:=hs
   obtain⟨ho1,ho2⟩:=bB ho
   obtain⟨v1,v2,v3,v4⟩:=hr.aq id a ho1
   cases hy with
   |own _ _ _ _ A cap h0 h1 h2 h3=>
    by_cases hk0:a.k=0
    .obtain⟨q1,q2,q3,q4⟩:=h3 (by omega)
     have hre:=v4 hk0
     have hl0:len=0:=by
      rw[v3,← aL.bH,hre]at q1
      simp at q1
      omega
     subst hl0
     have hcut:rowsOf (aI off 0 a.body)=[]:=by rw[gk]; simp
     have hcl:aB (aI off 0 a.body)=0:=by rw[← cH,hcut]; rfl
     refine⟨A,cap,default,[],by rw[hcl],by rw[hcl]; intro hh; omega,⟨by rw[hcut]; simp,by rw[hcut]; simp,by rw[hcut]; simp⟩,by simp,?_,fun i hi=>⟨aq,off,0,by injection hi with hi; rw[hi]⟩⟩
     cases hb:a.body with
     |inl x=>simp[aI,bU]
     |inr x=>simp[aI,bU]
    .have hov:=VR.own (N:=N) (L:=L) (e:=e) (w:=w) id aq off len A cap h0 h1 h2 h3
     obtain⟨ad,vals,k1,k2,k3,k4⟩:=xN hr hov ho hk0
     have hkk:gg N L e w k (rowsOf (aI off len a.body)) vals:=by
      by_cases hl:len=0
      .have hn:rowsOf (aI off len a.body)=[]:=VJ (by omega)
       rw[hn]at k2 ⊢
       have:vals=[]:=List.eq_nil_of_length_eq_zero (by have:=k2.1; simpa using this)
       subst this
       exact⟨by simp,by simp,by simp⟩
      .have h5:=oC hf
       have h6:=k2.2.1
       have hlt:0<(rowsOf (aI off len a.body)).length:=by omega
       have:a.k=k:=by rw[← h5 _ (Ww hlt),← h6 _ (Ww hlt)]
       rw[← this]; exact k2
     have hcl:aB (aI off len a.body)=len:=by rw[← cH]; exact k4
     obtain⟨_,_,_,_,g5⟩:=hr.ar id a ho1 hk0
     refine⟨A,cap,ad,vals,by rw[hcl],by rw[hcl]; exact k1,hkk,k3,kC g5,fun i hi=>⟨aq,off,len,by injection hi with hi; rw[hi]⟩⟩
 .cases hs
theorem fk {t el:TypeId} {k:Nat} (he:iV P t=some (el,k)):∃i z,P.underlying t=some (.slice el)∧P.info? el=some i∧i.size=k∧i.bytes≤32768∧0<k∧i.zero=some z∧z.cells.size=k:=by
 unfold iV at he
 cases hu:P.underlying t with
 |none=>simp[hu]at he
 |some d=>
  cases d<;>simp[hu]at he
  rename_i el'
  cases hi:P.info? el' with
  |none=>simp[hi]at he
  |some i=>
   simp only[hi]at he
   split at he
   .rename_i hc
    injection he with he
    simp only[Prod.mk.injEq]at he
    obtain⟨rfl,rfl⟩:=he
    cases hz:i.zero with
    |none=>simp[hz]at hc
    |some z=>
     simp[hz]at hc
     exact⟨i,z,rfl,hi,rfl,hc.1,hc.2.1,hz,hc.2.2⟩
   .cases he
theorem sr {t ty el:TypeId} {i:TypeInfo} (hu:P.underlying t=some (.slice el)) (hi:P.info? el=some i) {A B:Option Addr} {n c c':Nat} (hc:n≤c):
  (Builtin.append_ #[t,t] ty #[.slice A n c,.slice B 0 c']).run P w=.ok (.slice A n c) w:=by
 cases A<;>cases B<;>simp[Builtin.append_,run_underlying hu,sizeOf,typeInfo,hi,Builtin.lenOf,Builtin.firstCells,loadCells,loadCellsFrom,hc,storeCells]
theorem nK {k n:Nat} {rows1 rows2:List (List V)} {olds news:List Value} {rest:Array Value} {w1:World} {el:TypeId} (h1:gg N L e w k rows1 olds) (h2:gg N L e w k rows2 news) (hn:rows1.length=n)
  {b:Nat} (hb:w1.heap[b]?=some (.cells (olds.toArray++news.toArray++rest) el (0,0))):
  ∀(i:Nat) (r:List V),(rows1++rows2)[i]?=some r→∀(j:Nat) (c:V),r[j]?=some c→c.calm=true∧∃v,w1.cell? ⟨b,0+i*k+j,none⟩=some v∧VR N L e w c v:=by
 intro i r hi j c hj
 have key:∀(q:Nat) (v:Value),(olds++news)[q]?=some v→w1.cell? ⟨b,0+q,none⟩=some v:=by
  intro q v hq
  rw[WY,cell_of_row _ _ _ _ _ _ hb]
  have hlt:=(Vy.1 hq).1
  rw[← VU]
  simp only[Array.toList_append]
  rw[List.getElem?_append_left (by simpa using hlt)]
  exact hq
 rcases VG i rows1.length with hl|hl
 .rw[VC hl]at hi
  obtain⟨k1,v,k2,k3⟩:=h1.2.2 i r hi j c hj
  refine⟨k1,v,?_,k3⟩
  rw[Wx]
  refine key _ _ ?_
  rw[VC (Vy.1 k2).1]
  exact k2
 .rw[VM hl]at hi
  obtain⟨k1,v,k2,k3⟩:=h2.2.2 _ r hi j c hj
  refine⟨k1,v,?_,k3⟩
  rw[Wx]
  refine key _ _ ?_
  have hle:olds.length≤i*k+j:=by
   rw[h1.1]
   have:rows1.length*k≤i*k:=VL _ hl
   omega
  rw[VM hle,h1.1]
  rw[show i*k+j - rows1.length*k=(i - rows1.length)*k+j by
   have e1:(i - rows1.length)*k+rows1.length*k=i*k:=by rw[← VZ]; congr 1; omega
   omega]
  exact k2
theorem su {t ty el : TypeId} {i : TypeInfo} {z : Value} (hu : P.underlying t = some (.slice el)) (hi : P.info? el = some i) (hz : i.zero = some z) {A B : Option Addr} {n c m c' : Nat} {ad ad' : Addr} {olds news : List Value}
    (hA : 0 < n → A = some ad) (hlo : olds.length = n * i.size) (holds : ∀ j v,olds[j]? = some v → w.cell? (ad.add j) = some v) (hB : B = some ad') (hl : news.length = m * i.size) (hnews : ∀ j v,news[j]? = some v → w.cell? (ad'.add j) = some v)
    (hg : c < n + m) (hm : 0 < m) (hmost : n + m ≤ aT) (hby : i.bytes ≤ 32768) (hnil : A = none → c = 0) :
    (Builtin.append_ #[t,t] ty #[.slice A n c,.slice B m c']).run P w = .ok (.slice (some ⟨w.heap.size,0,none⟩) (n + m) (grownCap w (n + m) c el))
      (w.drew.alloc (.cells (olds.toArray ++ news.toArray ++ Builtin.zeroCells z.cells (grownCap w (n + m) c el - (n + m))) el)) := by
  subst hB
  have hbytes : (n + m) * i.bytes ≤ 140737488355328 := by
    unfold aT at hmost
    calc (n + m) * i.bytes ≤ 2147483648 * 32768 := Nat.mul_le_mul hmost hby
      _ ≤ 140737488355328 := by decide
  unfold aT at hmost
  cases hAA : A with
  | none =>
    have hn0 : n = 0 := by
      rcases Wu n with h0 | h0
      . exact h0
      . have := hA h0; rw [hAA] at this; cases this
    subst hn0
    have hc0 := hnil hAA
    subst hc0
    have ho : olds = [] := List.eq_nil_of_length_eq_zero (by simpa using hlo)
    subst ho
    have hr := run_append_nil (P := P) w t ty el i z hu hi hz ad' m c' news hl hnews hm (by omega) (by simp at hbytes; omega)
    simpa using hr
  | some a0 =>
    by_cases hn0 : n = 0
    . subst hn0
      have ho : olds = [] := List.eq_nil_of_length_eq_zero (by simpa using hlo)
      subst ho
      have hr := run_append_grow (P := P) w t ty el i z hu hi hz a0 0 c [] (by simp) (by simp) ad' m c' news hl hnews hg (by omega) (growslice_fits hg hbytes)
      simpa using hr
    . have hA' := hA (by omega)
      rw [hAA] at hA'
      injection hA' with hA'
      subst hA'
      exact run_append_grow (P := P) w t ty el i z hu hi hz a0 n c olds hlo holds ad' m c' news hl hnews hg (by omega) (growslice_fits hg hbytes)
theorem nL {k n m G:Nat} {olds news:List Value} {z:Value} (h1:olds.length=n*k) (h2:news.length=m*k) (hz:z.cells.size=k) (hG:n+m≤G):
  (olds.toArray++news.toArray++Builtin.zeroCells z.cells (G - (n+m))).size=G*k:=by
 simp only[Array.size_append,List.size_toArray,size_zeroCells,hz,h1,h2,← Nat.add_mul]
 congr 1
 omega
theorem Tn.i7 (h:af) (as:List aL) (ra:Option Nat) {base:Nat}:({ push:=as,ra:=ra,base:=base }:Tn).apply h={ h with ar:=h.ar++as }:=by
 cases h; simp[Tn.apply]
theorem Hm (hr:HR N L e W h w) {t ty el:TypeId} {k:Nat} (he:iV P t=some (el,k)) {x y v:V} {xv yv:Value} (hx:VR N L e w x xv) (hy:VR N L e w y yv) {tn:Tn} (hh:aJ h k x y=some (v,tn)):
  Good P N W L e h w (Builtin.append_ #[t,t] ty #[xv,yv]) v tn:=by
 obtain⟨i,z,hu,hi,hsz,hby,hk0,hz,hzs⟩:=fk he
 unfold aJ at hh
 cases hs:bg h y with
 |none=>simp[hs]at hh
 |some nr=>
  obtain⟨new,rd⟩:=nr
  simp only[hs]at hh
  split at hh
  .rename_i hfit
   obtain⟨B,c',ad',news,rfl,s1,s2,s3,s4,s5⟩:=oE hr hy hs hfit (by omega)
   split at hh
   .rename_i rows
    cases hx with
    |tl _ A hp hsoft=>
     split at hh
     .rename_i h0
      injection hh with hh
      simp only[Prod.mk.injEq]at hh
      obtain⟨rfl,rfl⟩:=hh
      refine .pure hr ?_ (.tl rows A hp hsoft) (Tn.aO h _ _ _ _ _)
      rw[h0]
      exact sr hu hi (VI _)
     .rename_i h0
      split at hh
      .rename_i hcond
       obtain⟨hmost,hfit0⟩:=hcond
       injection hh with hh
       simp only[Prod.mk.injEq]at hh
       obtain⟨rfl,rfl⟩:=hh
       obtain⟨ad,olds,o1,o2,o3⟩:=lQ (e:=e) hp hfit0
       have hpb:bU (.inl rows):=by
        intro r hr' c hc'
        cases hp with
        |aa _ _ _ _ _ k' vs hk' hc ha hcell hv hpm h1=>
         obtain⟨i',hi'⟩:=VD.1 hr'
         obtain⟨j',hj'⟩:=VD.1 hc'
         exact hpm (by omega) i' j' c (by simp[fx,hi',hj'])
       have hnl:rows.length=0→A=none∨True:=fun _=>.inr trivial
       have hrl:(rows.map (·.map V.pv)).length=rows.length:=by simp
       have hlo:olds.length=rows.length*i.size:=by rw[o2.1,hrl,hsz]
       have hln:news.length=aB new*i.size:=by rw[s2.1,cH,hsz]
       have hrun:(Builtin.append_ #[t,t] ty #[.slice A rows.length rows.length,.slice B (aB new) c']).run P w=_:=
        su (z:=z) hu hi hz o1 hlo o3 (s1 (by omega)) hln s3 (by omega) (by omega) hmost hby (fun hA=>by
         rcases Wu rows.length with h1|h1
         .exact h1
         .have:=o1 h1; rw[hA]at this; cases this)
       have hG:=grownCap_ge w (rows.length+aB new) rows.length el
       generalize hGG:grownCap w (rows.length+aB new) rows.length el=G at hrun hG
       have hsize:=nL (z:=z) (k:=k) (n:=rows.length) (m:=aB new) (G:=G) (by rw[hlo,hsz]) (by rw[hln,hsz]) hzs hG
       have n1:=Nx.drew hr
       have n2:=Nx.idle n1.hr (.cells (olds.toArray++news.toArray++Builtin.zeroCells z.cells (G - (rows.length+aB new))) el)
       have hnew:(w.drew.alloc (.cells (olds.toArray++news.toArray++Builtin.zeroCells z.cells (G - (rows.length+aB new))) el)).heap[w.heap.size]?=some (.cells (olds.toArray++news.toArray++Builtin.zeroCells z.cells (G - (rows.length+aB new))) el (0,0)):=heap_alloc_new w.drew _
       have hbody:rowsOf (aR (.inl rows) new)=rows.map (·.map V.pv)++rowsOf new:=by rw[nJ]; rfl
       have n12:=n1.trans n2
       have n3:=Nx.wx n2.hr (b:=w.heap.size) (d:=0) (c:=G) ⟨0,k,aR (.inl rows) new⟩ (hr.wide _ (VI _)) (fun t ht=>by have:=hr.nG _ _ ht; omega)
        (fun s hs'=>by have:=hr.lj hs'; omega) (fun id hid hk'=>by have:=hr.ir hid hk'; omega) (by show k≠0; omega)
        (by rw[← aL.bH,aL.cq,hbody]; simp[cH]; omega) ⟨_,el,hnew,by rw[hsize]; simp⟩
        (fun r hr'=>by
         rw[aL.cq,hbody]at hr'
         rcases Wm.1 hr' with hr'|hr'
         .exact o2.2.1 r hr'
         .exact s2.2.1 r hr')
        (fun i' r hi' j c hj=>by
         rw[aL.cq,hbody]at hi'
         obtain⟨q1,v',q2,q3⟩:=nK o2 s2 hrl hnew i' r hi' j c hj
         exact⟨q1,v',q2,q3.mono n12.ext⟩)
        (iz hpb s4)
       refine⟨_,_,L,_,hrun,by rw[Tn.i7]; exact n12.trans n3,?_⟩
       have:=VR.own (N:=N) (L:=L) (e:=e.dv w.heap.size 0 G ⟨0,k,aR (.inl rows) new⟩) (w:=w.drew.alloc (.cells (olds.toArray++news.toArray++Builtin.zeroCells z.cells (G - (rows.length+aB new))) el))
        e.na 0 0 (rows.length+aB new) (some ⟨w.heap.size,0,none⟩) G (fun _=>rfl) (by simp[bn.dv]) (by simp) (fun _=>by
         simp only[bn.dv,aM]
         refine⟨?_,hG,by omega,fun _=>by simp⟩
         rw[← aL.bH,aL.cq,hbody]; simp[cH])
       rw[hr.na]at this
       exact this
      .cases hh
   .rename_i id aq off len
    cases ho:aF h id aq with
    |none=>simp[ho]at hh
    |some a=>
     simp only[ho]at hh
     obtain⟨ho1,ho2⟩:=bB ho
     obtain⟨v1,v2,v3,v4⟩:=hr.aq id a ho1
     cases hx with
     |own _ _ _ _ A cap h0 h1 h2 h3=>
      obtain⟨q1,q2,q3,q4⟩:=h3 (by omega)
      split at hh
      .rename_i hz0
       injection hh with hh
       simp only[Prod.mk.injEq]at hh
       obtain⟨rfl,rfl⟩:=hh
       refine .pure hr ?_ (.own id aq off len A cap h0 h1 h2 h3) (Tn.aO h _ _ _ _ _)
       rw[hz0]
       exact sr hu hi q2
      .rename_i hz0
       split at hh
       .rename_i hcond
        obtain⟨hfull,hak,hmost,hrd⟩:=hcond
        injection hh with hh
        simp only[Prod.mk.injEq]at hh
        obtain⟨rfl,rfl⟩:=hh
        have hak0:a.k≠0:=by omega
        have hov:=VR.own (N:=N) (L:=L) (e:=e) (w:=w) id aq off len A cap h0 h1 h2 h3
        obtain⟨ad,olds,o1,o2,o3,o4⟩:=xN hr hov ho hak0
        rw[hak]at o2
        obtain⟨g1,⟨arr,ty',hb,hbz⟩,g3,g4,g5⟩:=hr.ar id a ho1 hak0
        have hlo:olds.length=len*i.size:=by rw[o2.1,o4,hsz]
        have hln:news.length=aB new*i.size:=by rw[s2.1,cH,hsz]
        have hbody:rowsOf (aR (aI off len a.body) new)=rowsOf (aI off len a.body)++rowsOf new:=nJ _ _
        have hsizeA:(⟨aq+1,k,aR (aI off len a.body) new⟩:aL).size=len+aB new:=by
         rw[← aL.bH,aL.cq,hbody]; simp[o4,cH]
        have hrowk:∀r∈(⟨aq+1,k,aR (aI off len a.body) new⟩:aL).rows,r.length=k:=by
         intro r hr'
         rw[aL.cq,hbody]at hr'
         rcases Wm.1 hr' with hr'|hr'
         .exact o2.2.1 r hr'
         .exact s2.2.1 r hr'
        by_cases hroom:len+aB new≤cap
        . -- there is room
         have hA:=q4 (by omega)
         have hcapk:e.ad id+off*k+cap*k≤e.ad id+e.cap id*k:=by
          have:(off+cap)*k≤e.cap id*k:=VL _ q3
          rw[VZ]at this
          omega
         have hfitk:e.ad id+off*k+len*k+news.length≤arr.size:=by
          rw[hln,hsz]
          have:(len+aB new)*k≤cap*k:=VL _ hroom
          rw[VZ]at this
          rw[hak]at hbz
          omega
         have hB:=s1 (by omega)
         have hf:=run_firstCells_some (P:=P) w i.size (aB new) ad' (aB new) c' news hln s3
         rw[hsz]at hf
         have hst:=run_storeCells_at P (e.ar id) (e.ad id+off*k+len*k) ty' news 0 arr w hb (by simpa using hfitk) s2.one
         simp only[Nat.add_zero]at hst
         have hrun:(Builtin.append_ #[t,t] ty #[.slice A len cap,.slice B (aB new) c']).run P w=
           .ok (.slice A (len+aB new) cap) (w.setRow (e.ar id) (arr.toList.take (e.ad id+off*k+len*k)++news++arr.toList.drop (e.ad id+off*k+len*k+news.length)).toArray):=by
          subst hB
          rw[hA,v2,hak]
          simp only[Builtin.append_,List.getElem?_toArray,List.getElem?_cons_zero,List.getElem?_cons_succ,run_underlying hu,Sem.run_bind,Result.andThen_ok,sizeOf,typeInfo,run_program,hi,Sem.run_pure,Builtin.lenOf,hroom,if_true,Bool.false_eq_true,if_false,Bool.not_false,hf,dR,hsz,hst]
         have hcell:∀o,(w.setRow (e.ar id) (arr.toList.take (e.ad id+off*k+len*k)++news++arr.toList.drop (e.ad id+off*k+len*k+news.length)).toArray).cell? ⟨e.ar id,o,none⟩=
           (arr.toList.take (e.ad id+off*k+len*k)++news++arr.toList.drop (e.ad id+off*k+len*k+news.length))[o]?:=fun o=>by
          rw[cell_of_row _ _ _ _ _ _ (setRow_heap w _ arr _ ty' (0,0) hb)]
          simp
         have hold:∀o v',w.cell? ⟨e.ar id,o,none⟩=some v'→arr.toList[o]?=some v':=fun o v' ho'=>by
          rw[cell_of_row _ _ _ _ _ _ hb]at ho'
          simpa using ho'
         have hfit':e.ad id+off*k+len*k+news.length≤arr.toList.length:=by simpa using hfitk
         have hnx:=Nx.pW hr (b:=e.ar id) (d:=e.ad id+off*k) (c:=cap) ⟨aq+1,k,aR (aI off len a.body) new⟩ ho1 hak0
          (fun q _ hq=>setRow_other w _ hq) (by simp) (Fr.setRow (hr.nF id h1 (by rw[v2]; exact hak0)).1 _) (.inl (by show a.aq<aq+1; omega)) (.inl rfl) (by show k≠0; omega)
          (by rw[hsizeA]; exact hroom) ⟨_,ty',setRow_heap w _ arr _ ty' (0,0) hb,by
           show e.ad id+off*k+cap*k≤_
           rw[hak]at hbz
           have hz':((arr.toList.take (e.ad id+off*k+len*k)++news++arr.toList.drop (e.ad id+off*k+len*k+news.length)).toArray).size=arr.size:=by simp; omega
           rw[hz']
           omega⟩ hrowk
          (fun i' r hi' j c hj=>by
           rw[aL.cq,hbody]at hi'
           show _∧∃v,_=some v∧_
           have hrk:=hrowk r (by rw[aL.cq,hbody]; exact Vz hi')
           have hjk:j<k:=by rw[← hrk]; exact(Vy.1 hj).1
           rcases VG i' len with hl|hl
           .rw[VC (by rw[o4]; exact hl),gk,← aL.cq]at hi'
            obtain⟨_,hi''⟩:=oD hi'
            obtain⟨k1,v',k2,k3⟩:=g4 _ _ hi'' j c hj
            refine⟨k1,v',?_,k3⟩
            have hlt:(i'+1)*k≤len*k:=VL _ (by omega)
            rw[VZ,Wv]at hlt
            rw[hcell,fL (j:=e.ad id+off*k+i'*k+j) hfit' (.inl (by omega))]
            refine hold _ _ ?_
            rw[← k2,hak,VZ]
            congr 2
            omega
           .rw[VM (by rw[o4]; exact hl),o4]at hi'
            obtain⟨k1,u,k2,k3⟩:=s2.2.2 _ r hi' j c hj
            refine⟨k1,u,?_,k3⟩
            have e1:(i' - len)*k+len*k=i'*k:=by rw[← VZ]; congr 1; omega
            have hlt2:=(Vy.1 k2).1
            rw[hcell,jD (j:=e.ad id+off*k+i'*k+j) hfit' (by omega) (by omega)]
            rw[← k2]
            congr 1
            omega)
          (iz (kC g5) s4)
         refine⟨_,_,L,_,hrun,by rw[Tn.cO]; exact hnx,?_⟩
         refine .own id (aq+1) 0 (len+aB new) A cap (fun _=>by rw[hA]; rfl) h1 (by simp[bn.bA,aM]) (fun _=>?_)
         simp only[bn.bA,aM]
         refine⟨by rw[hsizeA]; omega,hroom,by omega,fun _=>?_⟩
         rw[hA,v2,hak]
         simp
        . -- a new array
         have hrun:(Builtin.append_ #[t,t] ty #[.slice A len cap,.slice B (aB new) c']).run P w=_:=
          su (z:=z) hu hi hz o1 hlo o3 (s1 (by omega)) hln s3 (by omega) (by omega) hmost hby (fun hA=>by
           rcases Wu cap with h1'|h1'
           .exact h1'
           .have:=q4 h1'; rw[hA]at this; cases this)
         have hG:=grownCap_ge w (len+aB new) cap el
         generalize hGG:grownCap w (len+aB new) cap el=G at hrun hG
         have hsize:=nL (z:=z) (k:=k) (n:=len) (m:=aB new) (G:=G) (by rw[hlo,hsz]) (by rw[hln,hsz]) hzs hG
         have hnew:(w.drew.alloc (.cells (olds.toArray++news.toArray++Builtin.zeroCells z.cells (G - (len+aB new))) el)).heap[w.heap.size]?=some (.cells (olds.toArray++news.toArray++Builtin.zeroCells z.cells (G - (len+aB new))) el (0,0)):=heap_alloc_new w.drew _
         have hnx:=Nx.pW hr (w':=w.drew.alloc (.cells (olds.toArray++news.toArray++Builtin.zeroCells z.cells (G - (len+aB new))) el)) (b:=w.heap.size) (d:=0) (c:=G) ⟨aq+1,k,aR (aI off len a.body) new⟩ ho1 hak0
          (fun q hq _=>heap_alloc_old w.drew _ q hq) (by simp) (Fr.drew.trans (Fr.alloc _)) (.inl (by show a.aq<aq+1; omega)) (.inr (Nat.le_refl _)) (by show k≠0; omega)
          (by rw[hsizeA]; exact hG) ⟨_,el,hnew,by rw[hsize]; simp⟩ hrowk
          (fun i' r hi' j c hj=>by
           rw[aL.cq,hbody]at hi'
           exact nK o2 s2 o4 hnew i' r hi' j c hj)
          (iz (kC g5) s4)
         refine⟨_,_,L,_,hrun,by rw[Tn.cO]; exact hnx,?_⟩
         refine .own id (aq+1) 0 (len+aB new) _ G (fun _=>rfl) h1 (by simp[bn.bA,aM]) (fun _=>?_)
         simp only[bn.bA,aM]
         exact⟨by rw[hsizeA]; omega,hG,by omega,fun _=>by simp⟩
       .cases hh
   .cases hh
  .cases hh
end Go.Pv
namespace Go.Pv
variable {P:Program} {N M:Nat→Nat} {W:Nat→Prop} {L L':Lx} {e e':bn} {h:af} {w w':World} {g:bM→V} {ρ:Operand→Value}
theorem ja {α:Type} (k:Nat):∀(n:Nat) (l:List α),(fX k n l).length=n
 |0,_=>rfl
 |n+1,l=>by simp[fX,ja k n]
theorem sw {α:Type} (k:Nat):∀(n:Nat) (l:List α) (i:Nat),i<n→(fX k n l)[i]?=some ((l.drop (i*k)).take k)
 |0,_,_,hi=>by omega
 |n+1,l,0,_=>by simp[fX]
 |n+1,l,i+1,hi=>by
  simp only[fX,List.getElem?_cons_succ]
  rw[sw k n (l.drop k) i (by omega),List.drop_drop,VZ,Wv,Nat.add_comm]
theorem nM {k n:Nat} {cs:List V} {arr:Array Value} (hc:hY N L e w cs arr) (hl:cs.length=n*k) (hcalm:∀c∈cs,c.calm=true):gg N L e w k (fX k n cs) arr.toList:=by
 have hrow:∀i r,(fX k n cs)[i]?=some r→i<n∧r=(cs.drop (i*k)).take k:=by
  intro i r hi
  have hlt:i<n:=by have:=(Vy.1 hi).1; rwa [ja]at this
  rw[sw k n cs i hlt]at hi
  injection hi with hi
  exact⟨hlt,hi.symm⟩
 refine⟨by rw[ja,Xp,hc.1,hl],fun r hr=>?_,fun i r hi j c hj=>?_⟩
 .obtain⟨i,hi⟩:=VD.1 hr
  obtain⟨h1,rfl⟩:=hrow i r hi
  have:(i+1)*k≤n*k:=VL _ (by omega)
  rw[VZ,Wv]at this
  simp; omega
 .obtain⟨h1,rfl⟩:=hrow i r hi
  rw[VN]at hj
  split at hj
  .rw[Wg]at hj
   have hv:=hc.2 _ c hj
   have hlt:i*k+j<arr.size:=by rw[hc.1]; exact(Vy.1 hj).1
   refine⟨hcalm c (Vz hj),arr.getD (i*k+j) undef,?_,hv⟩
   rw[VU]
   exact bl hlt
  .cases hj
theorem sx {k:Nat} {rows:List (List V)} {vals:List Value} (hr:gg N L e w k rows vals) {l:List (List PV)} (hm:aA (aA V.bN) rows=some l):
  gg N L e w k (l.map (·.map .pv)) vals∧∀r∈l,∀c∈r,c.perm=true:=by
 have hrow:∀i q,l[i]?=some q→∃r,rows[i]?=some r∧aA V.bN r=some q:=fun i q hi=>bC hm i q hi
 refine⟨⟨by rw[hr.1,VB,bQ hm],fun r hr'=>?_,fun i r hi j c hj=>?_⟩,fun r hr' c hc=>?_⟩
 .obtain⟨q,hq,rfl⟩:=VP.1 hr'
  obtain⟨i,hi⟩:=VD.1 hq
  obtain⟨r,h1,h2⟩:=hrow i q hi
  rw[VB,bQ h2]
  exact hr.2.1 r (Vz h1)
 .rw[VF]at hi
  cases hq:l[i]? with
  |none=>simp[hq]at hi
  |some q=>
   simp[hq]at hi
   subst hi
   obtain⟨r',h1,h2⟩:=hrow i q hq
   obtain⟨p,hp,rfl⟩:=dA hj
   obtain⟨d,h3,h4⟩:=bC h2 j p hp
   obtain⟨k1,u,k2,k3⟩:=hr.2.2 i r' h1 j d h3
   exact⟨PV.eH (V.fi h4),u,k2,k3.bN h4⟩
 .obtain⟨i,hi⟩:=VD.1 hr'
  obtain⟨r',h1,h2⟩:=hrow i r hi
  obtain⟨j,hj⟩:=VD.1 hc
  obtain⟨d,h3,h4⟩:=bC h2 j c hj
  exact V.fi h4
theorem gg.mono {k:Nat} {rows:List (List V)} {vals:List Value} (hr:gg N L e w k rows vals) (hx:Ext L e w L' e' w'):gg N L' e' w' k rows vals:=
 ⟨hr.1,hr.2.1,fun i r hi j c hj=>by
  obtain⟨k1,u,k2,k3⟩:=hr.2.2 i r hi j c hj
  exact⟨k1,u,k2,k3.mono hx⟩⟩
theorem wz (hr:HR N L e W h w) {k n c:Nat} (hk:k≠0) {body:Sum (List (List PV)) (List (List V))} {arr:Array Value} {el:TypeId} (hrow:gg N L e w k (rowsOf body) (arr.toList.take (n*k))) (hn:aB body=n)
  (hc:n≤c) (hsz:c*k≤arr.size) (hp:bU body):
  Nx N W L e w L (e.dv w.heap.size 0 c ⟨0,k,body⟩) { h with ar:=h.ar++[⟨0,k,body⟩] } (w.alloc (.cells arr el))∧
  VR N L (e.dv w.heap.size 0 c ⟨0,k,body⟩) (w.alloc (.cells arr el)) (.own h.ar.length 0 0 n) (.slice (some ⟨w.heap.size,0,none⟩) n c):=by
 have n1:=Nx.idle hr (.cells arr el)
 have hnew:(w.alloc (.cells arr el)).heap[w.heap.size]?=some (.cells arr el (0,0)):=heap_alloc_new w _
 have hsize:(⟨0,k,body⟩:aL).size=n:=by rw[← aL.bH,aL.cq,cH,hn]
 have n2:=Nx.wx n1.hr (b:=w.heap.size) (d:=0) (c:=c) ⟨0,k,body⟩ (hr.wide _ (VI _)) (fun t ht=>by have:=hr.nG _ _ ht; omega)
  (fun s hs=>by have:=hr.lj hs; omega) (fun id hid hk'=>by have:=hr.ir hid hk'; omega) hk (by rw[hsize]; exact hc) ⟨_,el,hnew,by simpa using hsz⟩
  (fun r hr'=>hrow.2.1 r (by rw[← aL.cq ⟨0,k,body⟩]; exact hr'))
  (fun i r hi j x hj=>by
   rw[aL.cq]at hi
   obtain⟨k1,u,k2,k3⟩:=hrow.2.2 i r hi j x hj
   refine⟨k1,u,?_,k3.mono n1.ext⟩
   rw[cell_of_row _ _ _ _ _ _ hnew]
   rw[VN]at k2
   split at k2
   .rw[VU]at k2
    simpa [Nat.add_assoc]using k2
   .cases k2)
  hp
 refine⟨n1.trans n2,?_⟩
 rw[← hr.na]
 refine .own e.na 0 0 n _ c (fun _=>rfl) (by simp[bn.dv]) (by simp) (fun _=>?_)
 simp only[bn.dv,aM]
 exact⟨by rw[hsize]; omega,hc,by omega,fun _=>by simp⟩
theorem gD {z:Array Value} {k n q:Nat} (hz:z.size=k) (hk:0<k) (hq:q<n):(madeCells z n)[q]?=some (z.getD (q%k) undef):=by
 have hlt:q%k<z.size:=by rw[hz]; exact Wa _ hk
 simp only[madeCells,Array.getElem?_map]
 rw[Array.getElem?_range,if_pos hq]
 simp only[Option.map_some,hz]
 congr 1
 simp[Array.getD,hlt]
theorem qG (n:Nat) (zero:List V):(aB (cn n zero)=n)∧bU (cn n zero)∧
  ∀(i:Nat) (r:List V),(rowsOf (cn n zero))[i]?=some r→i<n∧r=norm zero:=by
 unfold cn norm
 cases hm:aA V.bN zero with
 |none=>
  refine⟨by simp[aB],trivial,fun i r hi=>?_⟩
  simp only[rowsOf,List.getElem?_replicate]at hi
  split at hi
  .injection hi with hi; exact⟨by assumption,hi.symm⟩
  .cases hi
 |some z=>
  refine⟨by simp[aB],fun r hr c hc=>?_,fun i r hi=>?_⟩
  .have:=List.eq_of_mem_replicate hr
   subst this
   obtain⟨j,hj⟩:=VD.1 hc
   obtain⟨_,_,h2⟩:=bC hm j c hj
   exact V.fi h2
  .simp only[rowsOf,List.map_replicate,List.getElem?_replicate]at hi
   split at hi
   .injection hi with hi; exact⟨by assumption,hi.symm⟩
   .cases hi
theorem Ii (hr:HR N L e W h w) {t el:TypeId} {k:Nat} (he:iV P t=some (el,k)) {zero:List V} (hz:zeroOf P el=some zero) (hcalm:zero.all V.calm=true) {n c:V} {nv cv:Value} (hn:VR N L e w n nv) (hc:VR N L e w c cv)
  {a b:Int} (ha:intOf n=some a) (hb:intOf c=some b) (h0:0≤a) (hab:a≤b) (hbm:b≤aT):
  Good P N W L e h w (Instr.makeSlice t nv cv) (.own h.ar.length 0 0 a.toNat) { push:=[⟨0,k,cn a.toNat zero⟩],base:=h.ar.length }:=by
 obtain⟨i,z,hu,hi,hsz,hby,hk0,hzz,hzs⟩:=fk he
 have hn':∃kd,nv=.int kd a:=by
  cases hn with
  |pv p v hp=>
   cases hp with
   |int kd x=>simp[intOf]at ha; subst ha; exact⟨kd,rfl⟩
   |_=>simp[intOf]at ha
  |_=>simp[intOf]at ha
 have hc':∃kd,cv=.int kd b:=by
  cases hc with
  |pv p v hp=>
   cases hp with
   |int kd x=>simp[intOf]at hb; subst hb; exact⟨kd,rfl⟩
   |_=>simp[intOf]at hb
  |_=>simp[intOf]at hb
 obtain⟨kn,rfl⟩:=hn'
 obtain⟨kc,rfl⟩:=hc'
 unfold aT at hbm
 have hbytes:(i.bytes:Int)*b≤281474976710656:=by
  have h1:(i.bytes:Int)≤32768:=by omega
  have h2:(i.bytes:Int)*b≤32768*2147483648:=Int.mul_le_mul h1 (by omega) (by omega) (by omega)
  omega
 have hrun:=run_make (P:=P) w t el i z hu hi hzz kn kc a b h0 hab hbytes (by omega)
 obtain⟨i',zv,hi',hz',hl1,hl2,hl3,_⟩:=fz hz
 rw[hi]at hi'
 injection hi' with hi'
 subst hi'
 rw[hzz]at hz'
 injection hz' with hz'
 subst hz'
 obtain⟨s1,s2,s3⟩:=qG a.toNat zero
 have hzk:zero.length=k:=by rw[hl1,hsz]
 have hrow:gg N L e w k (rowsOf (cn a.toNat zero)) ((madeCells z.cells (b.toNat*i.size)).toList.take (a.toNat*k)):=by
  have hle:a.toNat*k≤b.toNat*k:=VL _ (by omega)
  refine⟨?_,fun r hr'=>?_,fun q r hq j x hj=>?_⟩
  .rw[cH,s1,VH,Xp,size_madeCells,hsz]; omega
  .obtain⟨q,hq⟩:=VD.1 hr'
   obtain⟨_,rfl⟩:=s3 q r hq
   rw[lN,hzk]
  .obtain⟨hqa,rfl⟩:=s3 q r hq
   obtain⟨g1,d,g2,g3⟩:=sk (N:=N) (L:=L) (e:=e) (w:=w) hcalm hj
   have hjk:j<k:=by rw[← hzk,← lN]; exact(Vy.1 hj).1
   have hqk:(q+1)*k≤a.toNat*k:=VL _ (by omega)
   rw[VZ,Wv]at hqk
   refine⟨g1,z.cells.getD j undef,?_,g3 _ (VR.uN (hl3 j d g2))⟩
   rw[VN,if_pos (by omega),VU,hsz,gD hzs hk0 (by omega)]
   rw[Nat.mul_add_mod_self_right,Xm hjk]
 obtain⟨n1,n2⟩:=wz hr (c:=b.toNat) (el:=el) (by omega) hrow s1 (by omega) (by rw[size_madeCells,hsz]; omega) s2
 exact⟨_,_,L,_,hrun,by rw[Tn.i7]; exact n1,n2⟩
theorem V.zX {c:V} {p:PV} (hp:c.bN=some p):c.calm=true:=by
 cases c<;>simp[V.bN]at hp
 .obtain⟨h1,rfl⟩:=hp; exact PV.eH h1
 .obtain⟨h1,rfl⟩:=hp; simp[V.calm,h1]
theorem xO {α:Type} {k n:Nat} {l:List α} (hk:0<k) (hl:l.length=n*k) {x:α} (hx:x∈l):∃r∈fX k n l,x∈r:=by
 obtain⟨q,hq⟩:=VD.1 hx
 have hlt:q<n*k:=by rw[← hl]; exact(Vy.1 hq).1
 have hi:q/k<n:=(Xh hk).2 hlt
 refine⟨_,Vz (sw k n l (q/k) hi),?_⟩
 refine Vz (i:=q%k) ?_
 rw[VN,if_pos (Wa _ hk),Wg,Nat.div_add_mod' q k]
 exact hq
theorem uR {g:bM→V}:∀{parts:List (Nat×Nat×bM)} {cs cs':List V},eM g cs parts=some cs'→cs'.length=cs.length
 |[],cs,cs',hf=>by simp[eM]at hf; subst hf; rfl
 |(off,n,x)::r,cs,cs',hf=>by
  simp only[eM]at hf
  split at hf
  .rename_i hc
   have:=uR hf
   rw[this]
   simp[setAt]; omega
  .cases hf
theorem Hn (hr:HR N L e W h w) (hO:OR N M L e w g ρ) {t el:TypeId} {k len:Nat} (he:iV P t=some (el,k)) {zero:List V} (hz:zeroOf P el=some zero) (hmost:len*k≤16777216)
  {parts:Array (Nat×Operand)} {l:List (Nat×Nat×bM)} (hp:iW N M k parts.toList=some l) {cs:List V} (hf:eM g ((List.range (len*k)).map fun i=>zero.getD (i%k) .any) l=some cs):
  (∀rows,iU (fX k len cs)=.inl rows→Good P N W L e h w (Instr.buildSlice t len (parts.map fun(i,x)=>(i,ρ x))) (.tl rows) {})∧
  (∀rows,iU (fX k len cs)=.inr rows→cs.all V.calm=true→Good P N W L e h w (Instr.buildSlice t len (parts.map fun(i,x)=>(i,ρ x))) (.own h.ar.length 0 0 len) { push:=[⟨0,k,.inr rows⟩],base:=h.ar.length })∧
  (0<k∧cs.length=len*k∧∃arr',hY N L e w cs arr'∧(Instr.buildSlice t len (parts.map fun(i,x)=>(i,ρ x))).run P w=.ok (.slice (some ⟨w.heap.size,0,none⟩) len len) (w.alloc (.cells arr' el))):=by
 obtain⟨i,z,hu,hi,hsz,hby,hk0,hzz,hzs⟩:=fk he
 obtain⟨i',zv,hi',hz',hl1,hl2,hl3,hl4⟩:=fz hz
 rw[hi]at hi'
 injection hi' with hi'
 subst hi'
 rw[hzz]at hz'
 injection hz' with hz'
 subst hz'
 have hzk:zero.length=k:=by rw[hl1,hsz]
 obtain⟨k1,k2⟩:=lP hp
 have hcells:hY N L e w ((List.range (len*k)).map fun i=>zero.getD (i%k) .any) (madeCells z.cells (len*k)):=by
  refine⟨by simp[size_madeCells],fun j c hj=>?_⟩
  rw[VF]at hj
  have hjl:j<len*k:=by
   rcases VG j (len*k)with h1|h1
   .exact h1
   .simp[h1]at hj
  rw[List.getElem?_range hjl]at hj
  simp only[Option.map_some,Option.some.injEq]at hj
  have hm:=gD hzs hk0 hjl
  have hzg:zero[j%k]?=some c:=by
   have hlt:j%k<zero.length:=by rw[hzk]; exact Wa _ hk0
   rw[← hj]
   simp[List.getD,List.getElem?_eq_getElem hlt]
  have hval:(madeCells z.cells (len*k)).getD j undef=z.cells.getD (j%k) undef:=by
   have:(madeCells z.cells (len*k)).getD j undef=((madeCells z.cells (len*k))[j]?).getD undef:=by simp
   rw[this,hm]; rfl
  rw[hval]
  exact VR.uN (hl3 _ _ hzg)
 obtain⟨arr',r1,r2⟩:=oB hO (place:=fun i=>some (i*k,k)) parts.toList l _ cs _ k1 k2 hcells hf
 have hlen:cs.length=len*k:=by rw[uR hf]; simp
 have hrun:(Instr.buildSlice t len (parts.map fun(i,x)=>(i,ρ x))).run P w=.ok (.slice (some ⟨w.heap.size,0,none⟩) len len) (w.alloc (.cells arr' el)):=by
  have hsizeOf:∀w:World,(sizeOf el).run P w=.ok k w:=fun w=>by simp[sizeOf,typeInfo,hi,hsz]
  have hle:¬(16777216<len*k):=by omega
  by_cases h0:len*k=0
  .have r1':Instr.fill (fun i=>some (i*k,k)) #[] (parts.toList.map fun x=>(x.1,ρ x.2))=some arr':=by
    have hm:madeCells z.cells (len*k)=#[]:=by rw[h0]; simp[madeCells,Array.range_zero']
    rw[hm]at r1
    exact r1
   have hl0:len=0:=by
    rcases Nat.mul_eq_zero.1 h0 with h1|h1
    .exact h1
    .omega
   subst hl0
   simp[Instr.buildSlice,run_underlying hu,hsizeOf,r1',newRow,Array.range_zero']
  .have r1':Instr.fill (fun i=>some (i*k,k)) ((Array.range (len*k)).map fun x=>z.cells[x%z.cells.size]!) (parts.toList.map fun x=>(x.1,ρ x.2))=some arr':=r1
   have h0':¬(len=0∨k=0):=fun hh=>h0 (by rcases hh with hh|hh<;>simp[hh])
   simp[Instr.buildSlice,run_underlying hu,hsizeOf,hle,hl4,r1',newRow]
   exact fun hh=>absurd hh h0
 refine⟨?_,?_,hk0,hlen,arr',r2,hrun⟩
 .intro rows hm
  unfold iU at hm
  cases hmm:aA (aA V.bN) (fX k len cs)with
  |none=>simp[hmm]at hm
  |some rl=>
   simp[hmm]at hm
   subst hm
   have hcalm:∀c∈cs,c.calm=true:=by
    intro c hc
    obtain⟨r,hr',hcr⟩:=xO hk0 hlen hc
    obtain⟨q,hq⟩:=VD.1 hr'
    obtain⟨r2',_,h3⟩:=ov hmm q r hq
    obtain⟨j,hj⟩:=VD.1 hcr
    obtain⟨p,_,h5⟩:=ov h3 j c hj
    exact V.zX h5
   have hR:=nM (k:=k) (n:=len) r2 hlen hcalm
   obtain⟨n1,n2⟩:=sx hR hmm
   have hst:=Nx.still hr (.cells arr' el)
   have hnew:(w.alloc (.cells arr' el)).heap[w.heap.size]?=some (.cells arr' el (0,0)):=heap_alloc_new w _
   have hrl:rl.length=len:=by rw[bQ hmm,ja]
   have hat:∀i j c,fx rl i j=some c→∃u,arr'.toList[i*k+j]?=some u∧VR N L e w (.pv c) u∧c.perm=true:=by
    intro i j c hc
    unfold fx at hc
    cases hq:rl[i]? with
    |none=>simp[hq]at hc
    |some q=>
     simp[hq]at hc
     obtain⟨_,u,h2,h3⟩:=n1.2.2 i (q.map .pv) (by simp[hq]) j (.pv c) (by simp[hc])
     exact⟨u,h2,h3,n2 q (Vz hq) c (Vz hc)⟩
   refine⟨_,_,_,e,hrun,by rw[show ({}:Tn).apply h=h from Tn.aO h _ _ _ _ _]; exact hst,?_⟩
   have hp0:dL N (L.add w.heap.size) (w.alloc (.cells arr' el)) (.aa 0 rl) (.slice (some ⟨w.heap.size,0,none⟩) rl.length len):=by
    refine .aa 0 rl _ ⟨w.heap.size,0,none⟩ len k (fun i j=>(arr'.toList[i*k+j]?).getD undef) (fun r hr'=>?_) (by omega) (fun _=>⟨rfl,rfl,.inl (.inr ⟨rfl,rfl⟩)⟩) (fun i j c hc=>?_) (fun i j c hc=>?_) (fun _ i j c hc=>?_) (fun i j c hc=>?_)
    .obtain⟨q,hq⟩:=VD.1 hr'
     have:=n1.2.1 (r.map .pv) (VP.2 ⟨r,hr',rfl⟩)
     simpa using this
    .obtain⟨u,h1,_,_⟩:=hat i j c hc
     rw[cell_of_row _ _ _ _ _ _ hnew,h1]
     simp only[Nat.zero_add,Option.getD_some]
     rw[← VU]
     exact h1
    .obtain⟨u,h1,h2,_⟩:=hat i j c hc
     rw[h1]
     have:=h2.mono hst.ext
     cases this with
     |pv _ _ hp=>exact hp
    .exact(hat i j c hc).choose_spec.2.2
    .have:=(hat i j c hc).choose_spec.2.2
     rw[← PV.zR]; exact PV.eH this
   have:=VR.tl (e:=e) rl (some ⟨w.heap.size,0,none⟩) (by rw[hrl]at hp0 ⊢; exact hp0) (fun _ ad had=>by injection had with had; subst had; exact⟨arr',el,hnew⟩)
   rw[hrl]at this
   exact this
 .intro rows hm hcalm
  have hrows:rows=fX k len cs:=by
   unfold iU at hm
   cases hmm:aA (aA V.bN) (fX k len cs)with
   |none=>simp[hmm]at hm; exact hm.symm
   |some rl=>simp[hmm]at hm
  subst hrows
  have hR:=nM (k:=k) (n:=len) r2 hlen (fun c hc=>V9.1 hcalm c hc)
  have hsz':arr'.size=len*k:=by rw[r2.1,hlen]
  have htake:arr'.toList.take (len*k)=arr'.toList:=List.take_of_length_le (by simp[hsz'])
  obtain⟨n1,n2⟩:=wz hr (k:=k) (n:=len) (c:=len) (body:=.inr (fX k len cs)) (arr:=arr') (el:=el) (by omega) (by rw[htake]; exact hR) (by simp[aB,ja]) (Nat.le_refl _) (by omega) trivial
  exact⟨_,_,L,_,hrun,by rw[Tn.i7]; exact n1,n2⟩
theorem jc {_k _n off len:Nat} {z:List PV} {rows:List (List PV)} (hfit:off+len≤rows.length) (i:Nat) (r:List PV)
  (hi:(rows.take off++List.replicate len z++rows.drop (off+len))[i]?=some r):(off≤i∧i<off+len∧r=z)∨((i<off∨off+len≤i)∧rows[i]?=some r):=by
 have h1:off+(List.replicate len z).length≤rows.length:=by simpa using hfit
 have h2:(rows.take off++List.replicate len z++rows.drop (off+(List.replicate len z).length))[i]?=some r:=by simpa using hi
 rcases oz h1 h2 with⟨p1,p2,p3⟩|⟨p1,p2⟩
 .left
  rw[WM]at p3
  split at p3
  .injection p3 with p3
   exact⟨p1,by simpa using p2,p3.symm⟩
  .cases p3
 .right
  exact⟨by simpa using p1,p2⟩
theorem uz {z:Array Value} {k n q:Nat} (hz:z.size=k) (hk:0<k) (hq:q<n*k):(Builtin.zeroCells z n).toList[q]?=some (z.getD (q%k) undef):=by
 have:=gD (n:=n*k) hz hk hq
 rw[← VU]at this
 rw[← this]
 simp[Builtin.zeroCells,madeCells,hz]
theorem Ox (hr:HR N L e W h w) {t el:TypeId} {k:Nat} (he:iV P t=some (el,k)) {zero:List V} (hz:zeroOf P el=some zero) {x:V} {xv:Value} (hx:VR N L e w x xv):
  (∀tg,x=.pv (.aa tg [])→Good P N W L e h w (Builtin.clear_ #[t] 0 #[xv]) (.dH []) {})∧(x=.tl []→Good P N W L e h w (Builtin.clear_ #[t] 0 #[xv]) (.dH []) {})∧
  (∀id aq off len a z rows,x=.own id aq off len→aF h id aq=some a→aA V.bN zero=some z→a.body=.inl rows→a.k=k→off+len≤rows.length→
   Good P N W L e h w (Builtin.clear_ #[t] 0 #[xv]) (.dH []) { ar:=some (id,⟨aq,k,.inl (rows.take off++List.replicate len z++rows.drop (off+len))⟩) }):=by
 obtain⟨i,zv,hu,hi,hsz,hby,hk0,hzz,hzs⟩:=fk he
 have hempty:∀(A:Option Addr) (c:Nat),(Builtin.clear_ #[t] 0 #[.slice A 0 c]).run P w=.ok (.tuple #[]) w:=by
  intro A c
  cases A<;>simp[Builtin.clear_,run_underlying hu]
 have htup:VR N L e w (.dH []) (.tuple #[]):=.dH [] #[] rfl (by simp)
 refine⟨fun tg hh=>?_,fun hh=>?_,fun id aq off len a z rows hh ho hm hb hak hfit=>?_⟩
 .subst hh
  cases hx with
  |pv _ _ hp=>cases hp with|aa=>exact .pure hr (hempty _ _) htup (Tn.aO h _ _ _ _ _)
 .subst hh
  cases hx with
  |tl=>exact .pure hr (hempty _ _) htup (Tn.aO h _ _ _ _ _)
 .subst hh
  obtain⟨ho1,ho2⟩:=bB ho
  obtain⟨v1,v2,v3,v4⟩:=hr.aq id a ho1
  have hak0:a.k≠0:=by omega
  obtain⟨g1,⟨arr,ty,hbk,hbz⟩,g3,g4,g5⟩:=hr.ar id a ho1 hak0
  have hrows:a.rows=rows.map (·.map .pv):=by rw[aL.cq,hb]; rfl
  have hasz:a.size=rows.length:=by rw[← aL.bH,hrows]; simp
  obtain⟨i',zv',hi',hz',hl1,hl2,hl3,hl4⟩:=fz hz
  rw[hi]at hi'
  injection hi' with hi'
  subst hi'
  rw[hzz]at hz'
  injection hz' with hz'
  subst hz'
  have hzk:z.length=k:=by rw[bQ hm,hl1,hsz]
  cases hx with
  |own _ _ _ _ A cap h0 h1 h2 h3=>
   obtain⟨q1,q2,q3,q4⟩:=h3 (by omega)
   by_cases hl0:len=0
   .subst hl0
    have hsame:(⟨aq,k,.inl (rows.take off++List.replicate 0 z++rows.drop (off+0))⟩:aL)=a:=by
     obtain⟨av,ak,ab⟩:=a
     simp only at ho2 hak hb
     subst ho2; subst hak; subst hb
     simp
    refine .pure hr (hempty _ _) htup ?_
    rw[hsame,Tn.cO]
    have:h.ar.set id a=h.ar:=by
     apply Wi
     intro j
     by_cases hj:j=id
     .subst hj
      rw[VY (Vy.1 ho1).1,ho1]
     .rw[VX (Ne.symm hj)]
    rw[this]
   .have hA:=q4 (by omega)
    rw[v2,hak]at hA
    have hcapk:(off+len)*k≤e.cap id*k:=VL _ (by omega)
    rw[VZ]at hcapk
    rw[hak]at hbz
    have hnl:(Builtin.zeroCells zv.cells len).toList.length=len*k:=by simp[size_zeroCells,hzs]
    have hget:∀q,q<len*k→(Builtin.zeroCells zv.cells len).toList[q]?=some (zv.cells.getD (q%k) undef):=fun q hq=>uz hzs hk0 hq
    have hval:∀(j:Nat) (p:PV),z[j]?=some p→VR N L e w (.pv p) (zv.cells.getD j undef)∧p.perm=true:=by
     intro j p hp
     obtain⟨d,h5,h6⟩:=bC hm j p hp
     exact⟨(VR.uN (hl3 j d h5)).bN h6,V.fi h6⟩
    have hone:∀v∈(Builtin.zeroCells zv.cells len).toList,v.oneCell'=true:=by
     intro v hv
     obtain⟨q,hq⟩:=VD.1 hv
     have hql:q<len*k:=by rw[← hnl]; exact(Vy.1 hq).1
     rw[hget q hql]at hq
     injection hq with hq
     have hjl:q%k<z.length:=by rw[hzk]; exact Wa _ hk0
     obtain⟨h5,h6⟩:=hval (q%k) _ (VA hjl)
     rw[hq]at h5
     exact h5.lK (PV.eH h6)
    have hst:=run_storeCells_at P (e.ar id) (e.ad id+off*k) ty (Builtin.zeroCells zv.cells len).toList 0 arr w hbk (by rw[hnl]; omega) hone
    simp only[Nat.add_zero]at hst
    have hrun:(Builtin.clear_ #[t] 0 #[.slice A len cap]).run P w=.ok (.tuple #[]) (w.setRow (e.ar id) (arr.toList.take (e.ad id+off*k)++(Builtin.zeroCells zv.cells len).toList++arr.toList.drop (e.ad id+off*k+(Builtin.zeroCells zv.cells len).toList.length)).toArray):=by
     rw[hA]
     have hc:∀c,(Builtin.clear_ #[t] 0 #[.slice (some ⟨e.ar id,e.ad id+off*k,none⟩) len c]).run P w=((storeCells ⟨e.ar id,e.ad id+off*k,none⟩ (Builtin.zeroCells zv.cells len).toList).run P w).andThen fun _ w'=>.ok (.tuple #[]) w':=by
      intro c
      match len,hl0 with
      |n+1,_=>simp[Builtin.clear_,run_underlying hu,hl4]
     rw[hc,hst]
     rfl
    have hcell:∀o,(w.setRow (e.ar id) (arr.toList.take (e.ad id+off*k)++(Builtin.zeroCells zv.cells len).toList++arr.toList.drop (e.ad id+off*k+(Builtin.zeroCells zv.cells len).toList.length)).toArray).cell? ⟨e.ar id,o,none⟩=
      (arr.toList.take (e.ad id+off*k)++(Builtin.zeroCells zv.cells len).toList++arr.toList.drop (e.ad id+off*k+(Builtin.zeroCells zv.cells len).toList.length))[o]?:=fun o=>by
     rw[cell_of_row _ _ _ _ _ _ (setRow_heap w _ arr _ ty (0,0) hbk)]
     simp
    have hold:∀o v',w.cell? ⟨e.ar id,o,none⟩=some v'→arr.toList[o]?=some v':=fun o v' ho'=>by
     rw[cell_of_row _ _ _ _ _ _ hbk]at ho'
     simpa using ho'
    have hfit':e.ad id+off*k+(Builtin.zeroCells zv.cells len).toList.length≤arr.toList.length:=by rw[hnl]; simp; omega
    have hlen':(rows.take off++List.replicate len z++rows.drop (off+len)).length=rows.length:=by simp; omega
    have hnx:=Nx.pW hr (b:=e.ar id) (d:=e.ad id) (c:=e.cap id) ⟨aq,k,.inl (rows.take off++List.replicate len z++rows.drop (off+len))⟩ ho1 hak0
     (fun q _ hq=>setRow_other w _ hq) (by simp) (Fr.setRow (hr.nF id h1 (by rw[v2]; exact hak0)).1 _) (.inr ⟨ho2.symm,rfl,rfl,rfl,hak.symm,by show (rows.take off++List.replicate len z++rows.drop (off+len)).length=_; rw[hlen',hasz]⟩) (.inl rfl) (by show k≠0; omega)
     (by show (rows.take off++List.replicate len z++rows.drop (off+len)).length≤_; rw[hlen',← hasz]; exact g1)
     ⟨_,ty,setRow_heap w _ arr _ ty (0,0) hbk,by
      show e.ad id+e.cap id*k≤_
      have hz':((arr.toList.take (e.ad id+off*k)++(Builtin.zeroCells zv.cells len).toList++arr.toList.drop (e.ad id+off*k+(Builtin.zeroCells zv.cells len).toList.length)).toArray).size=arr.size:=by
       simp only[List.size_toArray,List.length_append,List.length_take,List.length_drop,hnl,Array.length_toList]; omega
      rw[hz']; omega⟩
     (fun r hr'=>by
      simp only[aL.rows,List.mem_map]at hr'
      obtain⟨q,hq,rfl⟩:=hr'
      obtain⟨i',hi'⟩:=VD.1 hq
      rcases jc (_k:=k) (_n:=0) hfit i' q hi' with⟨_,_,rfl⟩|⟨_,hi''⟩
      .simpa using hzk
      .have:=g3 (q.map .pv) (by rw[hrows]; exact VP.2 ⟨q,Vz hi'',rfl⟩)
       rw[hak]at this; exact this)
     (fun i' r hi' j x hj=>by
      simp only[aL.rows,List.getElem?_map]at hi'
      show _∧∃v,_=some v∧_
      cases hq:(rows.take off++List.replicate len z++rows.drop (off+len))[i']? with
      |none=>rw[hq,Option.map_none]at hi'; cases hi'
      |some q=>
       rw[hq,Xb]at hi'
       injection hi' with hi'
       subst hi'
       obtain⟨p,hp,rfl⟩:=dA hj
       rcases jc (_k:=k) (_n:=0) hfit i' q hq with⟨p1,p2,rfl⟩|⟨p1,p2⟩
       .obtain⟨h5,h6⟩:=hval j p hp
        have hjk:j<k:=by rw[← hzk]; exact(Vy.1 hp).1
        refine⟨PV.eH h6,_,?_,h5⟩
        have e1:(i' - off)*k+off*k=i'*k:=by rw[← VZ]; congr 1; omega
        have e2:(i' - off+1)*k≤len*k:=VL _ (by omega)
        rw[VZ,Wv]at e2
        rw[hcell,jD (j:=e.ad id+i'*k+j) hfit' (by omega) (by rw[hnl]; omega)]
        rw[show e.ad id+i'*k+j - (e.ad id+off*k)=(i' - off)*k+j by omega,hget _ (by omega)]
        rw[Nat.mul_add_mod_self_right,Xm hjk]
       .have hrow:a.rows[i']?=some (q.map .pv):=by rw[hrows]; simp[p2]
        obtain⟨h5,v',h6,h7⟩:=g4 i' _ hrow j (.pv p) (by simp[hp])
        have hjk:j<k:=by
         have:=g3 _ (Vz hrow)
         rw[hak]at this
         have h8:=(Vy.1 hp).1
         simpa using (by simpa using this:q.length=k) ▸ h8
        refine⟨h5,v',?_,h7⟩
        rw[hak]at h6
        have hout:e.ad id+i'*k+j<e.ad id+off*k∨e.ad id+off*k+(Builtin.zeroCells zv.cells len).toList.length≤e.ad id+i'*k+j:=by
         rw[hnl]
         rcases p1 with p1|p1
         .left
          have:(i'+1)*k≤off*k:=VL _ (by omega)
          rw[VZ,Wv]at this
          omega
         .right
          have:(off+len)*k≤i'*k:=VL _ p1
          rw[VZ]at this
          omega
        rw[hcell,fL (j:=e.ad id+i'*k+j) hfit' hout]
        exact hold _ _ h6)
     (fun r hr' c hc=>by
      obtain⟨i',hi'⟩:=VD.1 hr'
      rcases jc (_k:=k) (_n:=0) hfit i' r hi' with⟨_,_,rfl⟩|⟨_,hi''⟩
      .obtain⟨j,hj⟩:=VD.1 hc
       exact(hval j c hj).2
      .rw[hb]at g5
       exact g5 r (Vz hi'') c hc)
    refine⟨_,_,L,_,hrun,by rw[Tn.cO]; exact hnx,.dH [] #[] rfl (by simp)⟩
theorem uA {off:Nat} {new rows:List (List PV)} (hfit:off+new.length≤rows.length) (i:Nat) (r:List PV)
  (hi:(rows.take off++new++rows.drop (off+new.length))[i]?=some r):(off≤i∧i<off+new.length∧new[i - off]?=some r)∨((i<off∨off+new.length≤i)∧rows[i]?=some r):=
 oz hfit hi
theorem Ij (hr:HR N L e W h w) {t el ty:TypeId} {k:Nat} (he:iV P t=some (el,k)) {x y v:V} {xv yv:Value} (hx:VR N L e w x xv) (hy:VR N L e w y yv) {tn:Tn} (hh:copyV h k x y=some (v,tn)):
  Good P N W L e h w (Builtin.copy_ #[t,t] ty #[xv,yv]) v tn:=by
 obtain⟨i,zv,hu,hi,hsz,hby,hk0,hzz,hzs⟩:=fk he
 have hsize:sizeOf el=(pure k:Sem Nat)∨True:=.inr trivial
 unfold copyV at hh
 split at hh<;>first|(cases hh; done)|skip
 rename_i new rd hs
 split at hh<;>first|(cases hh; done)|skip
 rename_i hfitk
 obtain⟨B,c',ad',news,rfl,s1,s2,s3,s4,s5⟩:=oE hr hy hs hfitk (by omega)
 simp only[aB]at s1 s2 s3 s4 hy ⊢
 split at hh<;>first|(cases hh; done)|skip
 rename_i id aq off len
 have hn:Nat.min new.length len=min new.length len:=rfl
 cases hx with
 |own _ _ _ _ A cap h0 h1 h2 h3=>
 split at hh
 .rename_i hm0
  injection hh with hh; injection hh with e1 e2; subst e1; subst e2
  refine .pure hr ?_ (.pv _ _ (.int .i64 0)) (Tn.aO h _ _ _ _ _)
  cases B<;>cases A<;>simp[Builtin.copy_,run_underlying hu,Builtin.lenOf,Builtin.firstCells,sizeOf,typeInfo,hi,hn,hm0,storeCells,loadCells,loadCellsFrom,goInt]
 .rename_i hm0
  split at hh<;>first|(cases hh; done)|skip
  rename_i a ho
  split at hh<;>first|(cases hh; done)|skip
  rename_i rows hb
  split at hh<;>first|(cases hh; done)|skip
  rename_i hc
  obtain⟨hak,hfit0⟩:=hc
  injection hh with hh; injection hh with e1 e2; subst e1; subst e2
  generalize hm:min new.length len=m at hm0 ⊢
  have hml:m≤len:=by omega
  have hmn:m≤new.length:=by omega
  have hfit:off+m≤rows.length:=by omega
  obtain⟨ho1,ho2⟩:=bB ho
  obtain⟨v1,v2,v3,v4⟩:=hr.aq id a ho1
  have hak0:a.k≠0:=by omega
  obtain⟨g1,⟨arr,ty',hbk,hbz⟩,g3,g4,g5⟩:=hr.ar id a ho1 hak0
  have hrows:a.rows=rows.map (·.map .pv):=by rw[aL.cq,hb]; rfl
  have hasz:a.size=rows.length:=by rw[← aL.bH,hrows]; simp
  obtain⟨q1,q2,q3,q4⟩:=h3 (by omega)
  have hA:=q4 (by omega)
  rw[v2,hak]at hA
  have hcapk:(off+len)*k≤e.cap id*k:=VL _ (by omega)
  rw[VZ]at hcapk
  rw[hak]at hbz
  have hmk:m*k≤len*k:=VL _ hml
  have hmk':m*k≤new.length*k:=VL _ hmn
  have hrl:(rowsOf (.inl new)).length=new.length:=by simp[rowsOf]
  have hnews:news.length=new.length*k:=by rw[s2.1,hrl]
  generalize hcs:news.take (m*k)=cs at *
  have hnl:cs.length=m*k:=by rw[← hcs,VH,hnews]; omega
  have hget:∀q,q<m*k→cs[q]?=news[q]?:=fun q hq=>by rw[← hcs,VN,if_pos hq]
  have hone:∀v∈cs,v.oneCell'=true:=fun v hv=>s2.one v (by rw[← hcs]at hv; exact WL hv)
  have htl:(new.take m).length=m:=by simp; omega
  have hval:∀(i:Nat) (r:List PV),(new.take m)[i]?=some r→r.length=k∧∀(j:Nat) (p:PV),r[j]?=some p→p.perm=true∧∃u,cs[i*k+j]?=some u∧VR N L e w (.pv p) u:=by
   intro i r hir
   have him:i<m:=by rw[← htl]; exact(Vy.1 hir).1
   rw[VN,if_pos him]at hir
   have hrl':r.length=k:=by
    have:=s2.2.1 (r.map .pv) (by simp only[rowsOf]; exact List.mem_map.2 ⟨r,List.mem_of_getElem? hir,rfl⟩)
    simpa using this
   refine⟨hrl',fun j p hp=>?_⟩
   have hjk:j<k:=by rw[← hrl']; exact(Vy.1 hp).1
   obtain⟨_,u,h5,h6⟩:=s2.2.2 i (r.map .pv) (by simp[rowsOf,hir]) j (.pv p) (by simp[hp])
   refine⟨s4 r (Vz hir) p (Vz hp),u,?_,h6⟩
   have:(i+1)*k≤m*k:=VL _ him
   rw[VZ,Wv]at this
   rw[hget _ (by omega)]
   exact h5
  have hst:=run_storeCells_at P (e.ar id) (e.ad id+off*k) ty' cs 0 arr w hbk (by rw[hnl]; omega) hone
  simp only[Nat.add_zero]at hst
  have hB:B=some ad':=s1 (by omega)
  have hld:=run_loadCells_list (P:=P) w ad' cs (fun j u hj=>s3 j u (by
   have hjl:j<m*k:=by rw[← hnl]; exact(Vy.1 hj).1
   rw[← hget j hjl]; exact hj))
  rw[hnl]at hld
  have hrun:(Builtin.copy_ #[t,t] ty #[.slice A len cap,.slice B new.length c']).run P w=.ok (goInt m) (w.setRow (e.ar id) (arr.toList.take (e.ad id+off*k)++cs++arr.toList.drop (e.ad id+off*k+cs.length)).toArray):=by
   rw[hA,hB]
   have hmin:Nat.min new.length len=m:=hm
   simp[Builtin.copy_,run_underlying hu,Builtin.lenOf,Builtin.firstCells,sizeOf,typeInfo,hi,hsz,hmin,hld,hst]
  have hcell:∀o,(w.setRow (e.ar id) (arr.toList.take (e.ad id+off*k)++cs++arr.toList.drop (e.ad id+off*k+cs.length)).toArray).cell? ⟨e.ar id,o,none⟩=
    (arr.toList.take (e.ad id+off*k)++cs++arr.toList.drop (e.ad id+off*k+cs.length))[o]?:=fun o=>by
   rw[cell_of_row _ _ _ _ _ _ (setRow_heap w _ arr _ ty' (0,0) hbk)]
   simp
  have hold:∀o v',w.cell? ⟨e.ar id,o,none⟩=some v'→arr.toList[o]?=some v':=fun o v' ho'=>by
   rw[cell_of_row _ _ _ _ _ _ hbk]at ho'
   simpa using ho'
  have hfit':e.ad id+off*k+cs.length≤arr.toList.length:=by rw[hnl]; simp; omega
  have hlen':(rows.take off++new.take m++rows.drop (off+m)).length=rows.length:=by simp; omega
  have hover:∀(i:Nat) (r:List PV),(rows.take off++new.take m++rows.drop (off+m))[i]?=some r→(off≤i∧i<off+m∧(new.take m)[i - off]?=some r)∨((i<off∨off+m≤i)∧rows[i]?=some r):=by
   intro i r hir
   have:=uA (off:=off) (new:=new.take m) (rows:=rows) (by rw[htl]; exact hfit) i r (by rw[htl]; exact hir)
   rw[htl]at this
   exact this
  have hnx:=Nx.pW hr (b:=e.ar id) (d:=e.ad id) (c:=e.cap id) ⟨aq,k,.inl (rows.take off++new.take m++rows.drop (off+m))⟩ ho1 hak0
   (fun q _ hq=>setRow_other w _ hq) (by simp) (Fr.setRow (hr.nF id h1 (by rw[v2]; exact hak0)).1 _) (.inr ⟨ho2.symm,rfl,rfl,rfl,hak.symm,by show (rows.take off++new.take m++rows.drop (off+m)).length=_; rw[hlen',hasz]⟩) (.inl rfl) (by show k≠0; omega)
   (by show (rows.take off++new.take m++rows.drop (off+m)).length≤_; rw[hlen',← hasz]; exact g1)
   ⟨_,ty',setRow_heap w _ arr _ ty' (0,0) hbk,by
    show e.ad id+e.cap id*k≤_
    have hz':((arr.toList.take (e.ad id+off*k)++cs++arr.toList.drop (e.ad id+off*k+cs.length)).toArray).size=arr.size:=by
     simp only[List.size_toArray,List.length_append,List.length_take,List.length_drop,hnl,Array.length_toList]; omega
    rw[hz']; omega⟩
   (fun r hr'=>by
    simp only[aL.rows,List.mem_map]at hr'
    obtain⟨q,hq,rfl⟩:=hr'
    obtain⟨i',hi'⟩:=VD.1 hq
    rcases hover i' q hi' with⟨_,_,h5⟩|⟨_,hi''⟩
    .simpa using (hval _ _ h5).1
    .have:=g3 (q.map .pv) (by rw[hrows]; exact VP.2 ⟨q,Vz hi'',rfl⟩)
     rw[hak]at this; exact this)
   (fun i' r hi' j x hj=>by
    simp only[aL.rows,List.getElem?_map]at hi'
    show _∧∃v,_=some v∧_
    cases hq:(rows.take off++new.take m++rows.drop (off+m))[i']? with
    |none=>rw[hq,Option.map_none]at hi'; cases hi'
    |some q=>
     rw[hq,Xb]at hi'
     injection hi' with hi'
     subst hi'
     obtain⟨p,hp,rfl⟩:=dA hj
     rcases hover i' q hq with⟨p1,p2,p3⟩|⟨p1,p2⟩
     .obtain⟨h4,h5⟩:=hval _ _ p3
      obtain⟨h6,u,h7,h8⟩:=h5 j p hp
      have hjk:j<k:=by rw[← h4]; exact(Vy.1 hp).1
      refine⟨PV.eH h6,u,?_,h8⟩
      have e1:(i' - off)*k+off*k=i'*k:=by rw[← VZ]; congr 1; omega
      have e2:(i' - off+1)*k≤m*k:=VL _ (by omega)
      rw[VZ,Wv]at e2
      rw[hcell,jD (j:=e.ad id+i'*k+j) hfit' (by omega) (by rw[hnl]; omega)]
      rw[show e.ad id+i'*k+j - (e.ad id+off*k)=(i' - off)*k+j by omega]
      exact h7
     .have hrow:a.rows[i']?=some (q.map .pv):=by rw[hrows]; simp[p2]
      obtain⟨h5,v',h6,h7⟩:=g4 i' _ hrow j (.pv p) (by simp[hp])
      have hjk:j<k:=by
       have:=g3 _ (Vz hrow)
       rw[hak]at this
       have h8:=(Vy.1 hp).1
       simpa using (by simpa using this:q.length=k) ▸ h8
      refine⟨h5,v',?_,h7⟩
      rw[hak]at h6
      have hout:e.ad id+i'*k+j<e.ad id+off*k∨e.ad id+off*k+cs.length≤e.ad id+i'*k+j:=by
       rw[hnl]
       rcases p1 with p1|p1
       .left
        have:(i'+1)*k≤off*k:=VL _ (by omega)
        rw[VZ,Wv]at this
        omega
       .right
        have:(off+m)*k≤i'*k:=VL _ p1
        rw[VZ]at this
        omega
      rw[hcell,fL (j:=e.ad id+i'*k+j) hfit' hout]
      exact hold _ _ h6)
   (fun r hr' c hc=>by
    obtain⟨i',hi'⟩:=VD.1 hr'
    rcases hover i' r hi' with⟨_,_,h5⟩|⟨_,hi''⟩
    .obtain⟨j,hj⟩:=VD.1 hc
     exact((hval _ _ h5).2 j c hj).1
    .rw[hb]at g5
     exact g5 r (Vz hi'') c hc)
  refine⟨_,_,L,_,hrun,by rw[Tn.cO]; exact hnx,.pv _ _ (by simpa [goInt]using dL.int IntKind.i64 m)⟩
end Go.Pv
